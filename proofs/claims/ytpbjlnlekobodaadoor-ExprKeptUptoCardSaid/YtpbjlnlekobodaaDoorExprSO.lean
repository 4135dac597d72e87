/- The document's sums, Right, Same, append of terms, over heaps. Condition: as each statement says. -/
import Derived.Test.YtpbjlnlekobodaaDoorExprQ
import Derived.Test.YtpbjlnlekobodaaDoorExprX
import Derived.Test.YtpbjlnlekobodaaDoorSxE
set_option linter.unusedVariables false
set_option linter.unusedSimpArgs false
set_option maxRecDepth 100000
namespace Go.Sx
open Go.Proofs
theorem encT_cells {h : Hp} {b : Addr} {t : ByteArray × Nat} (hc : cellsAt h b 0 (encT t)) : cellsAt h b 0 [.string t.1] ∧ cellsAt h (b.add 1) 0 [.int .u32 (t.2 : Int)] := by
  obtain ⟨h1, h2, h3⟩ := hc
  exact ⟨⟨h1, trivial⟩, ⟨by rw [add_add]; exact h2, trivial⟩⟩
/-- The reader's cell: all tokens, how many are read, the depth, the refusal. -/
def RB (h : Hp) (A : Nat) (us : List Tok) (k : Nat) (d : Int) (e : Nat) : Prop :=
  ∃ p l c, Box h A 123 [.slice p l c, .int .i64 (k : Int), .int .i64 d, .int .i64 (e : Int)] ∧ Vw h p l c us ∧ (∀ i, i ∈ blkOf p → i < A) ∧ k ≤ us.length ∧ us.length ≤ 2 ^ 40
theorem RB.keep {ws : List Nat} {h h' : Hp} {A k : Nat} {us : List Tok} {d : Int} {e : Nat} (b : RB h A us k d e) (c : Ch ws h h') (hw : ∀ i, i ∈ ws → A < i) : RB h' A us k d e := by
  obtain ⟨p, l, cc, b, v, hp, hk⟩ := b
  exact ⟨p, l, cc, b.keep c (fun hm => by have := hw _ hm; omega), v.keep c (fun i hi hm => by have := hw _ hm; have := hp _ hi; omega), hp, hk⟩
theorem RB.lt {h : Hp} {A k : Nat} {us : List Tok} {d : Int} {e : Nat} (b : RB h A us k d e) : A < h.size := by
  obtain ⟨p, l, cc, b, v, hp, hk⟩ := b
  exact b.lt
theorem is97_hc {h : Hp} {A k : Nat} {us : List Tok} {d : Int} {e : Nat} (b : RB h A us k d e) (c : UInt8) :
    HCp Tryd.prog 97 [ptr A, .string ⟨#[c]⟩] h (.bool (signB e (us.drop k) c)) := by
  obtain ⟨p, l, cc, b, v, hp, hk, hu⟩ := b
  refine hcp_of mixed Tryd.func97 (by kernel_rfl) (t_spandrelref4_reader__is_eq (some ⟨A, 0, none⟩) ⟨#[c]⟩) ?_
  have no : signB e (us.drop k) c = false → T.ret (.bool false) [] (fun v' h' => v' = .bool (signB e (us.drop k) c) ∧ h' = h) h := fun hn => ⟨by rw [hn], rfl⟩
  unfold t_spandrelref4_reader__is
  have hlen := v.len
  refine osome_mk rfl ?_
  rw [add_box]
  refine loads_box b ((e : Int), ()) rfl ?_
  dsimp only [flat, unc, unc1, List.nil_append, List.cons_append]
  refine cond_mk (fun g1 => ?_) (fun g1 => ?_)
  · have g1 : e = 0 := by simpa using g1
    subst g1
    refine osome_mk rfl ?_
    rw [add_box]
    refine loads_box b ((k : Int), ()) rfl ?_
    dsimp only [flat, unc, unc1, List.nil_append, List.cons_append]
    refine osome_mk rfl (loads_box b ((p, l, cc), ()) rfl ?_)
    dsimp only [flat, unc, unc1, List.nil_append, List.cons_append]
    refine cond_mk (fun g2 => ?_) (fun g2 => ?_)
    · have g2 := of_decide_eq_true g2
      have hkl : k < us.length := by omega
      have hdr : us.drop k = us[k] :: us.drop (k + 1) := List.drop_eq_getElem_cons hkl
      obtain ⟨a, rfl, hc⟩ := v.cells k hkl
      rw [hdr] at no ⊢
      generalize us[k] = t at no hc ⊢
      obtain ⟨h1, h2, h3⟩ := hc
      refine osome_mk rfl (loads_box b ((some a, l, cc), ()) rfl ?_)
      dsimp only [flat, unc, unc1, List.nil_append, List.cons_append]
      refine osome_mk rfl ?_
      rw [add_box]
      refine loads_box b ((k : Int), ()) rfl ?_
      dsimp only [flat, unc, unc1, List.nil_append, List.cons_append]
      refine need_of ⟨by omega, by omega⟩ (osome_mk rfl ?_)
      rw [show Int.toNat (k : Int) = k by omega]
      refine loads_of ((t.kind : Int), ()) ⟨h1, trivial⟩ ?_
      dsimp only [flat, unc, unc1, List.nil_append, List.cons_append]
      refine cond_mk (fun g3 => ?_) (fun g3 => ?_)
      · have g3 : (t.kind : Int) = 3 := by simpa using g3
        refine osome_mk rfl (loads_box b ((some a, l, cc), ()) rfl ?_)
        dsimp only [flat, unc, unc1, List.nil_append, List.cons_append]
        refine osome_mk rfl ?_
        rw [add_box]
        refine loads_box b ((k : Int), ()) rfl ?_
        dsimp only [flat, unc, unc1, List.nil_append, List.cons_append]
        refine need_of ⟨by omega, by omega⟩ (osome_mk rfl ?_)
        rw [show Int.toNat (k : Int) = k by omega]
        refine loads_of (t.text, ()) ⟨by rw [add_add]; exact h2, trivial⟩ ?_
        dsimp only [flat, unc, unc1, List.nil_append, List.cons_append]
        refine ⟨?_, rfl⟩
        have e0 : signB 0 (t :: us.drop (k + 1)) c = (ByteArray.toList t.text == ByteArray.toList ⟨#[c]⟩) := by
          show (true && isS t c) = _
          rw [← isS_val, g3]
          rfl
        rw [e0]
      · have g3 : ¬ (t.kind : Int) = 3 := by simpa using g3
        refine no ?_
        have g4 : ¬ t.kind = 3 := by omega
        simp [signB, isS, g4]
    · have g2 := of_decide_eq_false g2
      refine no ?_
      rw [List.drop_eq_nil_of_le (by omega)]
      rfl
  · have g1 : ¬ e = 0 := by simpa using g1
    refine no ?_
    unfold signB
    rw [decide_eq_false g1]
    rfl
theorem refuse84_hc {h : Hp} {A k : Nat} {us : List Tok} {d : Int} {e : Nat} (b : RB h A us k d e) (w : Nat) :
    HC Tryd.prog 84 #[ptr A, .int .i64 (w : Int)] h fun v h' => v = .tuple #[] ∧ Ch [A] h h' ∧ h'.size = h.size ∧ RB h' A us k d (if e = 0 then w else e) := by
  obtain ⟨p, l, cc, b, v, hp, hk⟩ := b
  refine hcr_of (args := [ptr A, .int .i64 (w : Int)]) mixed Tryd.func84 (by kernel_rfl) (t_spandrelref4_reader__refuse_eq (some ⟨A, 0, none⟩) w) ?_
  unfold t_spandrelref4_reader__refuse
  refine osome_mk rfl ?_
  rw [add_box]
  refine loads_box b ((e : Int), ()) rfl ?_
  dsimp only [flat, unc, unc1, List.nil_append, List.cons_append]
  refine cond_mk (fun g1 => ?_) (fun g1 => ?_)
  · have g1 : e = 0 := by simpa using g1
    refine osome_mk rfl ?_
    rw [add_box]
    refine stores_of b rfl (by simp) ?_
    intro h1 b1 k1 z1
    refine ⟨rfl, k1, z1, p, l, cc, ?_, v.keep k1 ?_, hp, hk⟩
    · rw [if_pos g1]; exact b1
    · intro i hi hm
      rw [List.mem_singleton] at hm
      have := hp _ hi
      omega
  · have g1 : ¬ e = 0 := by simpa using g1
    exact ⟨rfl, Ch.refl _ _, rfl, p, l, cc, by rw [if_neg g1]; exact b, v, hp, hk⟩
theorem u32_mul (a n : Nat) : IntKind.wrap .u32 ((a : Int) * (n : Int)) = ((a * n % 4294967296 : Nat) : Int) := by rw [wrap_u32_mod, cast_mod, Int.natCast_mul]
theorem u32_add (a n : Nat) : IntKind.wrap .u32 ((a : Int) + (n : Int)) = (((a + n) % 4294967296 : Nat) : Int) := by rw [wrap_u32_mod, cast_mod, Int.natCast_add]
theorem times98_hc {h : Hp} {p : Option Addr} {l c : Nat} {x : Lin} (v : VwT h p l x.terms) (hl : x.terms.length ≤ 2 ^ 40) (hp : ∀ i, i ∈ blkOf p → i < h.size) (n : Nat) :
    HC Tryd.prog 98 #[linV p l c x, .int .u32 n] h fun w h' => Ext h h' ∧ ∃ p' l' c', w = linV p' l' c' (linT x n) ∧ SL h' h.size 80 2 p' l' c' ((linT x n).terms.map encT) := by
  refine hcr_of (args := [.agg #[.slice p l c, .int .u32 x.num], .int .u32 n]) mixed Tryd.func98 (by kernel_rfl) (t_spandrelref4_Times_eq p l c x.num n) ?_
  unfold t_spandrelref4_Times
  have hll := v.len
  refine newB ?_
  intro h1 b1 e1 z1
  refine newB ?_
  intro h2 b2 e2 z2
  have b1 := b1.keep e2 (by simp)
  rw [add_box]
  refine loads_box b1 ((x.num : Int), ()) rfl ?_
  dsimp only [flat, unc, unc1, List.nil_append, List.cons_append]
  refine newB ?_
  intro h3 b3 e3 z3
  refine stores_of b3 rfl (by simp) ?_
  intro h4 b4 k4 z4
  rw [u32_mul] at b4
  have b4 : Box h4 h2.size 69 [.slice none 0 0, .int .u32 ((x.num * n % 4294967296 : Nat) : Int)] := b4
  have e24 : Ext h2 h4 := Ch.trans e3 k4 (fun j hj hl => by simp at hj; omega)
  have b1 := b1.keep e24 (by simp)
  have b2 := b2.keep e24 (by simp)
  have e04 := (e1.trans e2).trans e24
  have hb4 := b4.lt
  refine loop_of (cs := [(false, [.int .i64])]) (fun y w h' => ∃ (i : Nat) (q : Option Addr) (m d : Nat), y.1 = (i : Int) ∧ i ≤ x.terms.length ∧ w = x.terms.length - i ∧ Ch [h2.size] h4 h' ∧ Box h' h2.size 69 [.slice q m d, .int .u32 ((x.num * n % 4294967296 : Nat) : Int)] ∧
    SL h' h4.size 80 2 q m d ((timesN n (x.terms.take i)).map encT) ∧ m ≤ i) ((0 : Int), ()) x.terms.length rfl ⟨0, none, 0, 0, rfl, by omega, by omega, Ch.refl _ _, b4, SL.nil _ _ _ _, by omega⟩ ?_
  rintro ⟨n8, ⟨⟩⟩ w h5 ⟨i, q, m, d, hi, hile, rfl, k5, b5, s5, hm⟩
  simp only at hi
  subst hi
  dsimp only [flat, unc, unc1, List.nil_append, List.cons_append]
  have b15 := b1.keep k5 (by simp; omega)
  have hz5 := k5.size
  have e05 : Ext h h5 := Ch.trans e04 k5 (fun j hj hl => by simp at hj; omega)
  have v5 := v.keep e05 (by simp)
  refine loads_box b15 ((p, l, c), ()) rfl ?_
  dsimp only [flat, unc, unc1, List.nil_append, List.cons_append]
  have hw : IntKind.wrap .i64 ((i : Int) + 1) = ((i + 1 : Nat) : Int) := by rw [wrap_i64 (by omega) (by omega)]; omega
  refine cond_mk (fun g1 => ?_) (fun g1 => ?_)
  · have g1 := of_decide_eq_true g1
    have hilt : i < x.terms.length := by omega
    have htk : x.terms.take (i + 1) = x.terms.take i ++ [x.terms[i]] := List.take_succ_eq_append_getElem hilt
    obtain ⟨a, rfl, hc⟩ := v5.cells i hilt
    generalize x.terms[i] = t at hc htk
    obtain ⟨c1, c2⟩ := encT_cells hc
    refine loads_box b15 ((some a, l, c), ()) rfl ?_
    dsimp only [flat, unc, unc1, List.nil_append, List.cons_append]
    refine need_of ⟨by omega, by omega⟩ (osome_mk rfl ?_)
    rw [show Int.toNat (i : Int) = i by omega]
    refine loads_of ((t.2 : Int), ()) c2 ?_
    dsimp only [flat, unc, unc1, List.nil_append, List.cons_append]
    rw [u32_mul]
    refine cond_mk (fun g2 => ?_) (fun g2 => ?_)
    · have g2 : ¬ t.2 * n % 4294967296 = 0 := by
        intro hh
        rw [hh] at g2
        cases g2
      refine loads_box b5 ((q, m, d), ()) rfl ?_
      dsimp only [flat, unc, unc1, List.nil_append, List.cons_append]
      refine loads_box b15 ((some a, l, c), ()) rfl ?_
      dsimp only [flat, unc, unc1, List.nil_append, List.cons_append]
      refine need_of ⟨by omega, by omega⟩ (osome_mk rfl ?_)
      refine loads_of (t.1, ()) c1 ?_
      dsimp only [flat, unc, unc1, List.nil_append, List.cons_append]
      have hab := hp a.block (by simp [blkOf])
      refine push_st (vs := encT (t.1, t.2 * n % 4294967296)) und67 termZ rfl (by omega) (by omega) (by kernel_rfl) rfl rfl s5 hz5 (by omega) (by omega) (fun h' e => ⟨cellsAt_keep e (by simp) _ _ c1, (b15.keep e (by simp)).cells _ rfl, (b5.keep e (by simp)).cells _ rfl, trivial⟩) ?_
      intro p' c' h7 s7 k7 hp7
      have hnot : ∀ j, j < h4.size → j ∉ blkOf q := fun j hj hm => by have := (s5.blk hm).1; omega
      refine ⟨⟨cellsAt_keep k7 (by rw [add_block]; exact hnot _ (by have := e04.size; omega)) _ _ c1, (b15.keep k7 (hnot _ (by omega))).cells _ rfl, trivial⟩, ?_⟩
      refine stores_of (b5.keep k7 (hnot _ (by omega))) rfl (by simp) ?_
      intro h8 b8 k8 z8
      refine again_mk (cs := [(false, [.int .i64])]) (((i + 1 : Nat) : Int), ()) (x.terms.length - (i + 1)) rfl (by omega) (congrArg (fun z => [Value.int .i64 z]) hw) ⟨i + 1, p', m + 1, c', rfl, by omega, rfl, ?_, b8, ?_, by omega⟩
      · exact Ch.trans (Ch.trans k5 k7 (fun j hj hl => by have := (s5.blk hj).1; omega)) k8 (fun j hj _ => hj)
      · have hf : timesN n (x.terms.take (i + 1)) = timesN n (x.terms.take i) ++ [(t.1, t.2 * n % 4294967296)] := by
          unfold timesN
          rw [htk, List.filterMap_append]
          congr 1
          simp only [List.filterMap_cons, List.filterMap_nil]
          rw [if_neg g2]
        rw [hf, List.map_append]
        exact s7.keep' k8 (fun j hj => by have := (s7.blk hj).1; simp; omega)
    · have g2 : t.2 * n % 4294967296 = 0 := by
        have : ((t.2 * n % 4294967296 : Nat) : Int) = 0 := by simpa using g2
        omega
      refine again_mk (cs := [(false, [.int .i64])]) (((i + 1 : Nat) : Int), ()) (x.terms.length - (i + 1)) rfl (by omega) (congrArg (fun z => [Value.int .i64 z]) hw) ⟨i + 1, q, m, d, rfl, by omega, rfl, k5, b5, ?_, by omega⟩
      have hf : timesN n (x.terms.take (i + 1)) = timesN n (x.terms.take i) := by
        unfold timesN
        rw [htk, List.filterMap_append]
        simp only [List.filterMap_cons, List.filterMap_nil]
        rw [if_pos g2, List.append_nil]
      rw [hf]
      exact s5
  · have g1 := of_decide_eq_false g1
    have hi : i = x.terms.length := by omega
    subst hi
    rw [List.take_length] at s5
    refine loads_box b5 ((q, m, d), ((x.num * n % 4294967296 : Nat) : Int), ()) rfl ?_
    dsimp only [flat, unc, unc1, List.nil_append, List.cons_append]
    refine stores_of (b2.keep k5 (by simp; omega)) rfl (by simp) ?_
    intro h7 b7 k7 z7
    have b7 : Box h7 h1.size 69 [.slice q m d, .int .u32 ((x.num * n % 4294967296 : Nat) : Int)] := b7
    refine loads_box b7 ((q, m, d), ((x.num * n % 4294967296 : Nat) : Int), ()) rfl ?_
    have hz4 := e04.size
    exact ⟨Ch.trans e05 k7 (fun j hj hl => by simp at hj; omega), q, m, d, rfl, (s5.keep' k7 (fun j hj => by have := (s5.blk hj).1; simp; omega)).mono (by omega)⟩
end Go.Sx

set_option linter.unusedVariables false
set_option linter.unusedSimpArgs false
set_option maxRecDepth 100000
namespace Go.Sx
open Go.Proofs
theorem leB (a b : ByteArray) : (Op.bytesLess (ByteArray.toList a) (ByteArray.toList b) || (ByteArray.toList a == ByteArray.toList b)) = !decide (ltN b a) := by
  rw [ByteArray.toList_eq, ByteArray.toList_eq, Proofs.bytesLess_eq]
  by_cases h : ltN b a
  · rw [decide_eq_true h]
    have h1 : ¬ a.data.toList < b.data.toList := ltN_asymm h
    have h2 : ¬ a.data.toList = b.data.toList := fun e => ltN_ne h (ba_ext e).symm
    have h3 : ¬ a.data = b.data := fun e => h2 (by rw [e])
    simp [h1, h3]
  · rw [decide_eq_false h]
    by_cases h1 : ltN a b
    · have h1 : a.data.toList < b.data.toList := h1
      simp [h1]
    · have := ltN_tri a b h1 h
      subst this
      simp
/-- Terms that are right. -/
def rtR : Option ByteArray → Tms → Bool
  | _, [] => true
  | o, t :: r => legalL t.1.data.toList && decide (t.2 ≠ 0) && (match o with
    | none => true
    | some s => decide (ltN s t.1)) && rtR (some t.1) r
def pvN (l : Tms) (i : Nat) : Option ByteArray := if i = 0 then none else (l[i - 1]?).map (·.1)
theorem rtR_ge {o : Option ByteArray} {l : Tms} (h : rtR o l = true) : (∀ t, t ∈ l → legalL t.1.data.toList = true ∧ t.2 ≠ 0) ∧ (l.Pairwise fun p q => ltN p.1 q.1) ∧ ∀ s, o = some s → ∀ t, t ∈ l → ltN s t.1 := by
  induction l generalizing o with
  | nil => exact ⟨by simp, List.Pairwise.nil, by simp⟩
  | cons t r ih =>
    unfold rtR at h
    simp only [Bool.and_eq_true, decide_eq_true_eq] at h
    obtain ⟨⟨⟨h1, h2⟩, h3⟩, h4⟩ := h
    obtain ⟨i1, i2, i3⟩ := ih h4
    refine ⟨?_, List.pairwise_cons.2 ⟨fun q hq => i3 _ rfl q hq, i2⟩, ?_⟩
    · intro u hu
      rcases List.mem_cons.1 hu with rfl | hu
      · exact ⟨h1, h2⟩
      · exact i1 u hu
    · rintro s rfl u hu
      have h3 : ltN s t.1 := by simpa using h3
      rcases List.mem_cons.1 hu with rfl | hu
      · exact h3
      · exact ltN_trans h3 (i3 _ rfl u hu)
theorem rtR_of {o : Option ByteArray} {l : Tms} (h1 : ∀ t, t ∈ l → legalL t.1.data.toList = true ∧ t.2 ≠ 0) (h2 : l.Pairwise fun p q => ltN p.1 q.1) (h3 : ∀ s, o = some s → ∀ t, t ∈ l → ltN s t.1) : rtR o l = true := by
  induction l generalizing o with
  | nil => rfl
  | cons t r ih =>
    obtain ⟨a, b⟩ := h1 t (List.mem_cons_self ..)
    obtain ⟨c, d⟩ := List.pairwise_cons.1 h2
    unfold rtR
    rw [a, decide_eq_true b, ih (o := some t.1) (fun u hu => h1 u (List.mem_cons_of_mem _ hu)) d (by rintro s ⟨⟩ u hu; exact c u hu)]
    cases o with
    | none => rfl
    | some s =>
      show (true && true && decide (ltN s t.1) && true) = true
      rw [decide_eq_true (h3 s rfl t (List.mem_cons_self ..))]
      rfl
theorem rt_good {x : Lin} (h : rtR none x.terms = true) (hc : ∀ t, t ∈ x.terms → t.2 < 4294967296) (hn : x.num < 4294967296) : Good x :=
  ⟨⟨(rtR_ge h).2.1, fun p hp => ⟨((rtR_ge h).1 p hp).2, hc p hp⟩⟩, fun t ht => ((rtR_ge h).1 t ht).1, hn⟩
theorem good_rt {x : Lin} (h : Good x) : rtR none x.terms = true := rtR_of (fun t ht => ⟨h.legal t ht, (h.nf.2 t ht).1⟩) h.nf.1 (by simp)
theorem right63_hc {h : Hp} {p : Option Addr} {l c : Nat} {x : Lin} (v : VwT h p l x.terms) (hl : x.terms.length ≤ 9223372036854775807) (hs : ∀ t, t ∈ x.terms → t.1.size ≤ maxLen) :
    HC Tryd.prog 63 #[linV p l c x] h fun w h' => w = .bool (rtR none x.terms) ∧ Ext h h' := by
  refine hcr_of (args := [.agg #[.slice p l c, .int .u32 x.num]]) mixed Tryd.func63 (by kernel_rfl) (t_expr_Right_eq p l c x.num) ?_
  unfold t_expr_Right
  have hll := v.len
  refine newB ?_
  intro h1 b1 e1 z1
  refine loads_box b1 ((p, l, c), ()) rfl ?_
  dsimp only [flat, unc, unc1, List.nil_append, List.cons_append]
  refine loop_of (cs := [(false, [.bool]), (false, [.int .i64])]) (fun y w h' => ∃ (i : Nat), y.2.1 = (i : Int) ∧ i ≤ x.terms.length ∧ w = x.terms.length - i ∧ Ext h1 h' ∧ rtR none x.terms = rtR (pvN x.terms i) (x.terms.drop i)) (false, (0 : Int), ()) x.terms.length rfl
    ⟨0, rfl, by omega, by omega, Ch.refl _ _, rfl⟩ ?_
  rintro ⟨b8, n8, ⟨⟩⟩ w h2 ⟨i, hi, hile, rfl, e2, hq⟩
  simp only at hi
  subst hi
  dsimp only [flat, unc, unc1, List.nil_append, List.cons_append]
  have e02 := e1.trans e2
  refine cond_mk (fun g1 => ?_) (fun g1 => ?_)
  · have g1 := of_decide_eq_true g1
    have hilt : i < x.terms.length := by omega
    have v2 := v.keep e02 (by simp)
    obtain ⟨a, rfl, hc⟩ := v2.cells i hilt
    have hdr : x.terms.drop i = x.terms[i] :: x.terms.drop (i + 1) := List.drop_eq_getElem_cons hilt
    have hpv : pvN x.terms (i + 1) = some x.terms[i].1 := by
      unfold pvN
      rw [if_neg (by omega), Nat.add_sub_cancel, List.getElem?_eq_getElem hilt]
      rfl
    have hsz := hs x.terms[i] (List.getElem_mem hilt)
    rw [hdr] at hq
    generalize x.terms[i] = t at hc hq hpv hsz
    refine need_of ⟨by omega, by omega⟩ (osome_mk rfl ?_)
    rw [show Int.toNat (i : Int) = i by omega]
    refine loads_of (t.1, (t.2 : Int), ()) hc ?_
    dsimp only [flat, unc, unc1, List.nil_append, List.cons_append]
    refine newB ?_
    intro h3 b3 e3 z3
    refine stores_of b3 rfl (by simp) ?_
    intro h4 b4 k4 z4
    have b4 : Box h4 h2.size 80 [.string t.1, .int .u32 t.2] := b4
    have e24 : Ext h2 h4 := Ch.trans e3 k4 (fun j hj hl => by simp at hj; omega)
    have e04 := e02.trans e24
    rw [add_box]
    refine loads_box b4 ((t.2 : Int), ()) rfl ?_
    dsimp only [flat, unc, unc1, List.nil_append, List.cons_append]
    refine cond_mk (fun g2 => ?_) (fun g2 => ?_)
    · have g2 : t.2 = 0 := by have : (t.2 : Int) = 0 := by simpa using g2
                              omega
      refine ⟨?_, e04⟩
      rw [hq]
      unfold rtR
      rw [decide_eq_false (by omega)]
      simp
    · have g2 : t.2 ≠ 0 := by have : ¬ (t.2 : Int) = 0 := by simpa using g2
                              omega
      refine loads_box b4 (t.1, ()) rfl ?_
      dsimp only [flat, unc, unc1, List.nil_append, List.cons_append]
      refine call_bool (legal_hc t.1 h4 (by have : maxLen = 9223372036854775807 := rfl; omega)) ?_
      refine ⟨⟨b4.cells _ rfl, trivial⟩, ?_⟩
      refine cond_mk (fun g3 => ?_) (fun g3 => ?_)
      · have g3 : legalL t.1.data.toList = false := by simpa using g3
        refine ⟨?_, e04⟩
        rw [hq]
        unfold rtR
        rw [g3]
        simp
      · have g3 : legalL t.1.data.toList = true := by simpa using g3
        have hw : IntKind.wrap .i64 ((i : Int) + 1) = ((i + 1 : Nat) : Int) := by rw [wrap_i64 (by omega) (by omega)]; omega
        have hgo : (match pvN x.terms i with
            | none => true
            | some s => decide (ltN s t.1)) = true → rtR none x.terms = rtR (pvN x.terms (i + 1)) (x.terms.drop (i + 1)) := by
          intro hm
          rw [hq, hpv]
          conv => lhs; unfold rtR
          rw [g3, decide_eq_true g2, hm]
          rfl
        refine cond_mk (fun g4 => ?_) (fun g4 => ?_)
        · have g4 := of_decide_eq_true g4
          have hw1 : IntKind.wrap .i64 ((i : Int) - 1) = ((i - 1 : Nat) : Int) := by rw [wrap_i64 (by omega) (by omega)]; omega
          have hi1 : i - 1 < x.terms.length := by omega
          obtain ⟨a', ha', hc'⟩ := (v.keep e04 (by simp)).cells (i - 1) hi1
          cases ha'
          have hpi : pvN x.terms i = some x.terms[i - 1].1 := by
            unfold pvN
            rw [if_neg (by omega), List.getElem?_eq_getElem hi1]
            rfl
          rw [hpi] at hgo hq
          generalize x.terms[i - 1] = u at hc' hpi hgo hq
          refine loads_box b4 (t.1, ()) rfl ?_
          dsimp only [flat, unc, unc1, List.nil_append, List.cons_append]
          refine loads_box ((b1.keep e2 (by simp)).keep e24 (by simp)) ((some a, l, c), ()) rfl ?_
          dsimp only [flat, unc, unc1, List.nil_append, List.cons_append]
          rw [hw1]
          refine need_of ⟨by omega, by omega⟩ (osome_mk rfl ?_)
          rw [show Int.toNat ((i - 1 : Nat) : Int) = i - 1 by omega]
          refine loads_of (u.1, ()) (encT_cells hc').1 ?_
          dsimp only [flat, unc, unc1, List.nil_append, List.cons_append]
          rw [leB]
          refine cond_mk (fun g5 => ?_) (fun g5 => ?_)
          · have g5 : ¬ ltN u.1 t.1 := by simpa using g5
            refine ⟨?_, e04⟩
            rw [hq]
            unfold rtR
            dsimp only
            rw [decide_eq_false g5]
            simp
          · have g5 : ltN u.1 t.1 := by simpa using g5
            exact again_mk (cs := [(false, [.bool]), (false, [.int .i64])]) (b8, ((i + 1 : Nat) : Int), ()) (x.terms.length - (i + 1)) rfl (by omega) (congrArg (fun z => [Value.bool b8, Value.int .i64 z]) hw) ⟨i + 1, rfl, by omega, rfl, e2.trans e24, hgo (decide_eq_true g5)⟩
        · have g4 := of_decide_eq_false g4
          have hi0 : i = 0 := by omega
          subst hi0
          exact again_mk (cs := [(false, [.bool]), (false, [.int .i64])]) (b8, ((0 + 1 : Nat) : Int), ()) (x.terms.length - (0 + 1)) rfl (by omega) (congrArg (fun z => [Value.bool b8, Value.int .i64 z]) hw) ⟨0 + 1, rfl, by omega, rfl, e2.trans e24, hgo rfl⟩
  · have g1 := of_decide_eq_false g1
    have hi : i = x.terms.length := by omega
    subst hi
    refine ⟨?_, e02⟩
    rw [hq, List.drop_length]
    rfl
theorem right50_hc {h : Hp} {p : Option Addr} {l c : Nat} {x : Lin} (v : VwT h p l x.terms) (hl : x.terms.length ≤ 9223372036854775807) (hs : ∀ t, t ∈ x.terms → t.1.size ≤ maxLen) :
    HC Tryd.prog 50 #[linV p l c x] h fun w h' => w = .bool (rtR none x.terms) ∧ Ext h h' := by
  refine hcr_of (args := [.agg #[.slice p l c, .int .u32 x.num]]) mixed Tryd.func50 (by kernel_rfl) (t_spandrelref4_Right_eq p l c x.num) ?_
  unfold t_spandrelref4_Right
  have hll := v.len
  refine newB ?_
  intro h1 b1 e1 z1
  have v := v.keep e1 (by simp)
  refine loop_of (cs := [(false, [.bool]), (false, [.int .i64])]) (fun y w h' => ∃ (i : Nat), y.2.1 = (i : Int) ∧ i ≤ x.terms.length ∧ w = x.terms.length - i ∧ h1 = h' ∧ rtR none x.terms = rtR (pvN x.terms i) (x.terms.drop i)) (false, (0 : Int), ()) x.terms.length rfl
    ⟨0, rfl, by omega, by omega, rfl, rfl⟩ ?_
  rintro ⟨b8, n8, ⟨⟩⟩ w h2 ⟨i, hi, hile, rfl, rfl, hq⟩
  simp only at hi
  subst hi
  dsimp only [flat, unc, unc1, List.nil_append, List.cons_append]
  refine loads_box b1 ((p, l, c), ()) rfl ?_
  dsimp only [flat, unc, unc1, List.nil_append, List.cons_append]
  refine cond_mk (fun g1 => ?_) (fun g1 => ?_)
  · have g1 := of_decide_eq_true g1
    have hilt : i < x.terms.length := by omega
    obtain ⟨a, rfl, hc⟩ := v.cells i hilt
    have hdr : x.terms.drop i = x.terms[i] :: x.terms.drop (i + 1) := List.drop_eq_getElem_cons hilt
    have hpv : pvN x.terms (i + 1) = some x.terms[i].1 := by
      unfold pvN
      rw [if_neg (by omega), Nat.add_sub_cancel, List.getElem?_eq_getElem hilt]
      rfl
    have hsz := hs x.terms[i] (List.getElem_mem hilt)
    rw [hdr] at hq
    generalize x.terms[i] = t at hc hq hpv hsz
    refine loads_box b1 ((some a, l, c), ()) rfl ?_
    dsimp only [flat, unc, unc1, List.nil_append, List.cons_append]
    refine need_of ⟨by omega, by omega⟩ (osome_mk rfl ?_)
    rw [show Int.toNat (i : Int) = i by omega]
    refine loads_of (t.1, ()) (encT_cells hc).1 ?_
    dsimp only [flat, unc, unc1, List.nil_append, List.cons_append]
    refine call_bool (legal2_hc t.1 h1 (by have : maxLen = 9223372036854775807 := rfl; omega)) ?_
    refine ⟨⟨b1.cells _ rfl, trivial⟩, ?_⟩
    refine cond_mk (fun g3 => ?_) (fun g3 => ?_)
    · have g3 : legalL t.1.data.toList = false := by simpa using g3
      refine ⟨?_, e1⟩
      rw [hq]
      unfold rtR
      rw [g3]
      simp
    · have g3 : legalL t.1.data.toList = true := by simpa using g3
      refine loads_box b1 ((some a, l, c), ()) rfl ?_
      dsimp only [flat, unc, unc1, List.nil_append, List.cons_append]
      refine need_of ⟨by omega, by omega⟩ (osome_mk rfl ?_)
      refine loads_of ((t.2 : Int), ()) (encT_cells hc).2 ?_
      dsimp only [flat, unc, unc1, List.nil_append, List.cons_append]
      refine cond_mk (fun g2 => ?_) (fun g2 => ?_)
      · have g2 : t.2 = 0 := by have : (t.2 : Int) = 0 := by simpa using g2
                                omega
        refine ⟨?_, e1⟩
        rw [hq]
        unfold rtR
        rw [decide_eq_false (by omega)]
        simp
      · have g2 : t.2 ≠ 0 := by have : ¬ (t.2 : Int) = 0 := by simpa using g2
                                omega
        have hw : IntKind.wrap .i64 ((i : Int) + 1) = ((i + 1 : Nat) : Int) := by rw [wrap_i64 (by omega) (by omega)]; omega
        have hgo : (match pvN x.terms i with
            | none => true
            | some s => decide (ltN s t.1)) = true → rtR none x.terms = rtR (pvN x.terms (i + 1)) (x.terms.drop (i + 1)) := by
          intro hm
          rw [hq, hpv]
          conv => lhs; unfold rtR
          rw [g3, decide_eq_true g2, hm]
          rfl
        refine cond_mk (fun g4 => ?_) (fun g4 => ?_)
        · have g4 := of_decide_eq_true g4
          have hw1 : IntKind.wrap .i64 ((i : Int) - 1) = ((i - 1 : Nat) : Int) := by rw [wrap_i64 (by omega) (by omega)]; omega
          have hi1 : i - 1 < x.terms.length := by omega
          obtain ⟨a', ha', hc'⟩ := v.cells (i - 1) hi1
          cases ha'
          have hpi : pvN x.terms i = some x.terms[i - 1].1 := by
            unfold pvN
            rw [if_neg (by omega), List.getElem?_eq_getElem hi1]
            rfl
          rw [hpi] at hgo hq
          generalize x.terms[i - 1] = u at hc' hpi hgo hq
          refine loads_box b1 ((some a, l, c), ()) rfl ?_
          dsimp only [flat, unc, unc1, List.nil_append, List.cons_append]
          refine need_of ⟨by omega, by omega⟩ (osome_mk rfl ?_)
          refine loads_of (t.1, ()) (encT_cells hc).1 ?_
          dsimp only [flat, unc, unc1, List.nil_append, List.cons_append]
          refine loads_box b1 ((some a, l, c), ()) rfl ?_
          dsimp only [flat, unc, unc1, List.nil_append, List.cons_append]
          rw [hw1]
          refine need_of ⟨by omega, by omega⟩ (osome_mk rfl ?_)
          rw [show Int.toNat ((i - 1 : Nat) : Int) = i - 1 by omega]
          refine loads_of (u.1, ()) (encT_cells hc').1 ?_
          dsimp only [flat, unc, unc1, List.nil_append, List.cons_append]
          rw [leB]
          refine cond_mk (fun g5 => ?_) (fun g5 => ?_)
          · have g5 : ¬ ltN u.1 t.1 := by simpa using g5
            refine ⟨?_, e1⟩
            rw [hq]
            unfold rtR
            dsimp only
            rw [decide_eq_false g5]
            simp
          · have g5 : ltN u.1 t.1 := by simpa using g5
            exact again_mk (cs := [(false, [.bool]), (false, [.int .i64])]) (b8, ((i + 1 : Nat) : Int), ()) (x.terms.length - (i + 1)) rfl (by omega) (congrArg (fun z => [Value.bool b8, Value.int .i64 z]) hw) ⟨i + 1, rfl, by omega, rfl, rfl, hgo (decide_eq_true g5)⟩
        · have g4 := of_decide_eq_false g4
          have hi0 : i = 0 := by omega
          subst hi0
          exact again_mk (cs := [(false, [.bool]), (false, [.int .i64])]) (b8, ((0 + 1 : Nat) : Int), ()) (x.terms.length - (0 + 1)) rfl (by omega) (congrArg (fun z => [Value.bool b8, Value.int .i64 z]) hw) ⟨0 + 1, rfl, by omega, rfl, rfl, hgo rfl⟩
  · have g1 := of_decide_eq_false g1
    have hi : i = x.terms.length := by omega
    subst hi
    refine ⟨?_, e1⟩
    rw [hq, List.drop_length]
    rfl
end Go.Sx

set_option linter.unusedVariables false
set_option linter.unusedSimpArgs false
set_option maxRecDepth 100000
namespace Go.Sx
open Go.Proofs
theorem trm80 : Tryd.prog.underlying 80 = some (.struct (flds Tryd.prog 80)) := by kernel_rfl
theorem cmpTrm (x y : Operand) (a : ByteArray) (b : Int) (a' : ByteArray) (b' : Int) (h : Hp) (K : Value → Hp → Prop) (hk : K (.bool !(a == a' && b == b')) h) :
    semW Tryd.prog (Sx.cmpS (BinOp.neq) 80 x y (.agg #[.string a, .int .u32 b]) (.agg #[.string a', .int .u32 b'])) h K := by
  refine cmpS_neq trm80 (by kernel_rfl) (by kernel_rfl) (by kernel_rfl) K ?_
  have he : (flds Tryd.prog 80).all (eqF #[.string a, .int .u32 b] #[.string a', .int .u32 b']) = (a == a' && (b == b' && true)) := by
    rw [← Array.all_toList]
    kernel_rfl
  rw [he, Bool.and_true]
  exact hk
theorem trm_ne (t u : ByteArray × Nat) : (!(t.1 == u.1 && (t.2 : Int) == (u.2 : Int))) = decide (t ≠ u) := by
  obtain ⟨a, b⟩ := t
  obtain ⟨a', b'⟩ := u
  by_cases h1 : a = a'
  · subst h1
    rw [bytes_beq]
    by_cases h2 : b = b'
    · subst h2
      simp
    · have h3 : ¬ ((b : Int) = (b' : Int)) := by omega
      have h4 : ((b : Int) == (b' : Int)) = false := by simpa using h3
      simp [h2, h4]
  · have h3 : (a == a') = false := by
      obtain ⟨d⟩ := a
      obtain ⟨d'⟩ := a'
      show (d == d') = false
      have h4 : ¬ d = d' := fun e => h1 (by rw [e])
      simpa using h4
    simp [h1, h3]
theorem ne_of_drop {α : Type} {l m : List α} {i : Nat} (hi : i < l.length) (hj : i < m.length) (h : l[i] ≠ m[i]) : l ≠ m := by
  rintro rfl
  exact h rfl
theorem drop_eq_step {α : Type} {l m : List α} {i : Nat} (hi : i < l.length) (hj : i < m.length) (h : l[i] = m[i]) : (l.drop i = m.drop i) ↔ (l.drop (i + 1) = m.drop (i + 1)) := by
  rw [List.drop_eq_getElem_cons hi, List.drop_eq_getElem_cons hj, h]
  exact ⟨fun e => (List.cons.inj e).2, fun e => by rw [e]⟩
instance : DecidableEq Tms := inferInstance
theorem equal90_hc {h : Hp} {p q : Option Addr} {l m c d : Nat} {us vs : Tms} (v : VwT h p l us) (w : VwT h q m vs) (hl : us.length ≤ 2 ^ 60) : HCp Tryd.prog 90 [.slice p l c, .slice q m d] h (.bool (decide (us = vs))) := by
  refine hcp_of mixed Tryd.func90 (by kernel_rfl) (t_slices_Equal___api_Term_api_Term__eq p l c q m d) ?_
  unfold t_slices_Equal___api_Term_api_Term_
  have h1 := v.len
  have h2 := w.len
  refine cond_mk (fun g1 => ?_) (fun g1 => ?_)
  · have g1 : ¬ (l : Int) = (m : Int) := by simpa using g1
    exact ⟨by rw [decide_eq_false (fun e => by rw [e] at h1; omega)], rfl⟩
  · have g1 : (l : Int) = (m : Int) := by simpa using g1
    refine loop_of (cs := [(false, [.bool]), (false, [.int .i64])]) (fun y n h' => ∃ (i : Nat), y.2.1 = (i : Int) ∧ i ≤ us.length ∧ n = us.length - i ∧ h = h' ∧ (us = vs ↔ us.drop i = vs.drop i)) (false, (0 : Int), ()) us.length rfl
      ⟨0, rfl, by omega, by omega, rfl, Iff.rfl⟩ ?_
    rintro ⟨b8, n8, ⟨⟩⟩ n h2 ⟨i, hi, hile, rfl, rfl, hq⟩
    simp only at hi
    subst hi
    dsimp only [flat, unc, unc1, List.nil_append, List.cons_append]
    refine cond_mk (fun g2 => ?_) (fun g2 => ?_)
    · have g2 := of_decide_eq_true g2
      have hi1 : i < us.length := by omega
      have hi2 : i < vs.length := by omega
      obtain ⟨a, rfl, hc⟩ := v.cells i hi1
      obtain ⟨a', rfl, hc'⟩ := w.cells i hi2
      have hst := drop_eq_step hi1 hi2
      have hno := ne_of_drop hi1 hi2
      generalize us[i] = t at hc hst hno
      generalize vs[i] = u at hc' hst hno
      refine need_of ⟨by omega, by omega⟩ (osome_mk rfl ?_)
      rw [show Int.toNat (i : Int) = i by omega]
      refine loads_of (t.1, (t.2 : Int), ()) hc ?_
      dsimp only [flat, unc, unc1, List.nil_append, List.cons_append]
      refine need_of ⟨by omega, by omega⟩ (osome_mk rfl ?_)
      refine loads_of (u.1, (u.2 : Int), ()) hc' ?_
      dsimp only [flat, unc, unc1, List.nil_append, List.cons_append]
      refine sem_bool (b := decide (t ≠ u)) (fun K' hk => cmpTrm _ _ _ _ _ _ _ _ (by rw [trm_ne]; exact hk)) ?_
      refine cond_mk (fun g3 => ?_) (fun g3 => ?_)
      · exact ⟨by rw [decide_eq_false (hno (of_decide_eq_true g3))], rfl⟩
      · have g3 : t = u := by simpa using g3
        have hw : IntKind.wrap .i64 ((i : Int) + 1) = ((i + 1 : Nat) : Int) := by rw [wrap_i64 (by omega) (by omega)]; omega
        exact again_mk (cs := [(false, [.bool]), (false, [.int .i64])]) (b8, ((i + 1 : Nat) : Int), ()) (us.length - (i + 1)) rfl (by omega) (congrArg (fun z => [Value.bool b8, Value.int .i64 z]) hw) ⟨i + 1, rfl, by omega, rfl, rfl, hq.trans (hst g3)⟩
    · have g2 := of_decide_eq_false g2
      refine ⟨?_, rfl⟩
      rw [decide_eq_true (hq.2 (by rw [List.drop_eq_nil_of_le (by omega), List.drop_eq_nil_of_le (by omega)]))]
/-- Are two Lins one? -/
def linB (x y : Lin) : Bool := decide (x.num = y.num) && decide (x.terms = y.terms)
theorem linB_refl (x : Lin) : linB x x = true := by unfold linB; simp
theorem same64_hc {h : Hp} {p q : Option Addr} {l m c d : Nat} {x y : Lin} (v : VwT h p l x.terms) (w : VwT h q m y.terms) (hl : x.terms.length ≤ 2 ^ 60) :
    HC Tryd.prog 64 #[linV p l c x, linV q m d y] h fun r h' => r = .bool (linB x y) ∧ Ext h h' := by
  refine hcr_of (args := [.agg #[.slice p l c, .int .u32 x.num], .agg #[.slice q m d, .int .u32 y.num]]) mixed Tryd.func64 (by kernel_rfl) (t_expr_Same_eq p l c x.num q m d y.num) ?_
  unfold t_expr_Same
  refine newB ?_
  intro h1 b1 e1 z1
  refine newB ?_
  intro h2 b2 e2 z2
  have b1 := b1.keep e2 (by simp)
  have e02 := e1.trans e2
  rw [add_box, add_box]
  refine loads_box b1 ((x.num : Int), ()) rfl ?_
  dsimp only [flat, unc, unc1, List.nil_append, List.cons_append]
  refine loads_box b2 ((y.num : Int), ()) rfl ?_
  dsimp only [flat, unc, unc1, List.nil_append, List.cons_append]
  refine cond_mk (fun g1 => ?_) (fun g1 => ?_)
  · have g1 : x.num = y.num := by have : (x.num : Int) = y.num := by simpa using g1
                                  omega
    refine loads_box b1 ((p, l, c), ()) rfl ?_
    dsimp only [flat, unc, unc1, List.nil_append, List.cons_append]
    refine loads_box b2 ((q, m, d), ()) rfl ?_
    dsimp only [flat, unc, unc1, List.nil_append, List.cons_append]
    refine call_bool (equal90_hc (v.keep e02 (by simp)) (w.keep e02 (by simp)) hl) ?_
    refine ⟨?_, e02⟩
    unfold linB
    rw [decide_eq_true g1]
    rfl
  · have g1 : ¬ x.num = y.num := by have : ¬ (x.num : Int) = y.num := by simpa using g1
                                    omega
    refine ⟨?_, e02⟩
    unfold linB
    rw [decide_eq_false g1]
    rfl
theorem same48_hc {h : Hp} {p q : Option Addr} {l m c d : Nat} {x y : Lin} (v : VwT h p l x.terms) (w : VwT h q m y.terms) (hl : x.terms.length ≤ 2 ^ 60) :
    HC Tryd.prog 48 #[linV p l c x, linV q m d y] h fun r h' => r = .bool (linB x y) ∧ Ext h h' := by
  refine hcr_of (args := [.agg #[.slice p l c, .int .u32 x.num], .agg #[.slice q m d, .int .u32 y.num]]) mixed Tryd.func48 (by kernel_rfl) (t_spandrelref4_Same_eq p l c x.num q m d y.num) ?_
  unfold t_spandrelref4_Same
  refine newB ?_
  intro h1 b1 e1 z1
  refine newB ?_
  intro h2 b2 e2 z2
  have b1 := b1.keep e2 (by simp)
  have e02 := e1.trans e2
  have v := v.keep e02 (by simp)
  have w := w.keep e02 (by simp)
  have hv := v.len
  have hw := w.len
  rw [add_box, add_box]
  refine loads_box b1 ((x.num : Int), ()) rfl ?_
  dsimp only [flat, unc, unc1, List.nil_append, List.cons_append]
  refine loads_box b2 ((y.num : Int), ()) rfl ?_
  dsimp only [flat, unc, unc1, List.nil_append, List.cons_append]
  refine cond_mk (fun g1 => ?_) (fun g1 => ?_)
  · have g1 : ¬ x.num = y.num := by have : ¬ (x.num : Int) = y.num := by simpa using g1
                                    omega
    refine ⟨?_, e02⟩
    unfold linB
    rw [decide_eq_false g1]
    rfl
  · have g1 : x.num = y.num := by have : (x.num : Int) = y.num := by simpa using g1
                                  omega
    have hB : linB x y = decide (x.terms = y.terms) := by
      unfold linB
      rw [decide_eq_true g1]
      rfl
    rw [hB]
    refine loads_box b1 ((p, l, c), ()) rfl ?_
    dsimp only [flat, unc, unc1, List.nil_append, List.cons_append]
    refine loads_box b2 ((q, m, d), ()) rfl ?_
    dsimp only [flat, unc, unc1, List.nil_append, List.cons_append]
    refine cond_mk (fun g2 => ?_) (fun g2 => ?_)
    · have g2 : ¬ (l : Int) = (m : Int) := by simpa using g2
      exact ⟨by rw [decide_eq_false (fun e => by rw [e] at hv; omega)], e02⟩
    · have g2 : (l : Int) = (m : Int) := by simpa using g2
      refine loop_of (cs := [(false, [.bool]), (false, [.int .i64])]) (fun z n h' => ∃ (i : Nat), z.2.1 = (i : Int) ∧ i ≤ x.terms.length ∧ n = x.terms.length - i ∧ h2 = h' ∧ (x.terms = y.terms ↔ x.terms.drop i = y.terms.drop i)) (false, (0 : Int), ()) x.terms.length rfl
        ⟨0, rfl, by omega, by omega, rfl, Iff.rfl⟩ ?_
      rintro ⟨b8, n8, ⟨⟩⟩ n h3 ⟨i, hi, hile, rfl, rfl, hq⟩
      simp only at hi
      subst hi
      dsimp only [flat, unc, unc1, List.nil_append, List.cons_append]
      refine loads_box b1 ((p, l, c), ()) rfl ?_
      dsimp only [flat, unc, unc1, List.nil_append, List.cons_append]
      refine cond_mk (fun g2 => ?_) (fun g2 => ?_)
      · have g2 := of_decide_eq_true g2
        have hi1 : i < x.terms.length := by omega
        have hi2 : i < y.terms.length := by omega
        obtain ⟨a, rfl, hc⟩ := v.cells i hi1
        obtain ⟨a', rfl, hc'⟩ := w.cells i hi2
        have hst := drop_eq_step hi1 hi2
        have hno := ne_of_drop hi1 hi2
        generalize x.terms[i] = t at hc hst hno
        generalize y.terms[i] = u at hc' hst hno
        refine loads_box b1 ((some a, l, c), ()) rfl ?_
        dsimp only [flat, unc, unc1, List.nil_append, List.cons_append]
        refine need_of ⟨by omega, by omega⟩ (osome_mk rfl ?_)
        rw [show Int.toNat (i : Int) = i by omega]
        refine loads_of (t.1, (t.2 : Int), ()) hc ?_
        dsimp only [flat, unc, unc1, List.nil_append, List.cons_append]
        refine loads_box b2 ((some a', m, d), ()) rfl ?_
        dsimp only [flat, unc, unc1, List.nil_append, List.cons_append]
        refine need_of ⟨by omega, by omega⟩ (osome_mk rfl ?_)
        refine loads_of (u.1, (u.2 : Int), ()) hc' ?_
        dsimp only [flat, unc, unc1, List.nil_append, List.cons_append]
        refine sem_bool (b := decide (t ≠ u)) (fun K' hk => cmpTrm _ _ _ _ _ _ _ _ (by rw [trm_ne]; exact hk)) ?_
        refine ⟨⟨b2.cells _ rfl, b1.cells _ rfl, trivial⟩, ?_⟩
        refine cond_mk (fun g3 => ?_) (fun g3 => ?_)
        · exact ⟨by rw [decide_eq_false (hno (of_decide_eq_true g3))], e02⟩
        · have g3 : t = u := by simpa using g3
          have hw : IntKind.wrap .i64 ((i : Int) + 1) = ((i + 1 : Nat) : Int) := by rw [wrap_i64 (by omega) (by omega)]; omega
          exact again_mk (cs := [(false, [.bool]), (false, [.int .i64])]) (b8, ((i + 1 : Nat) : Int), ()) (x.terms.length - (i + 1)) rfl (by omega) (congrArg (fun z => [Value.bool b8, Value.int .i64 z]) hw) ⟨i + 1, rfl, by omega, rfl, rfl, hq.trans (hst g3)⟩
      · have g2 := of_decide_eq_false g2
        refine ⟨?_, e02⟩
        rw [decide_eq_true (hq.2 (by rw [List.drop_eq_nil_of_le (by omega), List.drop_eq_nil_of_le (by omega)]))]
/-- A slice literal without elements. -/
theorem lit0_of {P : Program} {L : Lp} {K : Value → Hp → Prop} {h : Hp} {k : Option Addr → Nat → Nat → T} {t e : TypeId} {z : Value} {sz by' : Nat} (ht : P.underlying t = some (.slice e)) (hinf : (P.info? e).map (fun i => (i.zero, i.size, i.bytes)) = some (some z, sz, by'))
    (hk : ∀ h' , SL h' h.size e sz (some ⟨h.size, 0, none⟩) 0 0 [] → Ext h h' → k (some ⟨h.size, 0, none⟩) 0 0 L K h') : T.sem P (Instr.buildSlice t 0 #[]) false [(false, [.slice 0])] k L K h := by
  obtain ⟨i, hi, hz, rfl, rfl⟩ := inf_of hinf
  refine sem_slice ?_
  unfold Instr.buildSlice
  rw [semW_bind', semW_underlying ht]
  simp only
  rw [semW_bind', semW_sizeOf hi]
  simp only [Nat.zero_mul]
  rw [if_neg (by omega)]
  have h0 : ∀ f : Nat → Value, Array.map f (Array.range 0) = #[] := fun f => by simp
  simp only [h0]
  refine ⟨_, _, _, rfl, hk _ ?_ (Ext.push h _)⟩
  exact ⟨rfl, by simp, h.size, [], [], rfl, Nat.le_refl _, ⟨Nat.le_refl _, by omega⟩, by simpa using Box.new h e [], by simp⟩
theorem cellsAt_flat {h : Hp} {a : Addr} : ∀ (us : Tms) (k : Nat), (∀ i, (hi : i < us.length) → cellsAt h (a.add ((k + i) * 2)) 0 (encT us[i])) → cellsAt h a (k * 2) (us.map encT).flatten
  | [], _, _ => trivial
  | t :: us, k, hc => by
    have h0 := hc 0 (by simp)
    obtain ⟨h1, h2, _⟩ := h0
    rw [add_add] at h1 h2
    have ih := cellsAt_flat us (k + 1) (fun i hi => by
      have := hc (i + 1) (by simpa using hi)
      rw [show k + (i + 1) = k + 1 + i by omega] at this
      exact this)
    rw [show (k + 1) * 2 = k * 2 + 1 + 1 by omega] at ih
    exact ⟨h1, by simpa using h2, ih⟩
theorem VwT.flat {h : Hp} {a : Addr} {l : Nat} {us : Tms} (v : VwT h (some a) l us) : cellsAt h a 0 (us.map encT).flatten := by
  have := cellsAt_flat (h := h) (a := a) us 0 (fun i hi => by
    obtain ⟨a', e, hc⟩ := v.cells i hi
    cases e
    rw [Nat.zero_add]
    exact hc)
  simpa using this
theorem encT_plain (us : Tms) : (us.map encT).flatten.all plainV = true := by
  rw [List.all_eq_true]
  intro v hv
  obtain ⟨x, hx, hv⟩ := List.mem_flatten.1 hv
  obtain ⟨t, _, rfl⟩ := List.mem_map.1 hx
  simp only [encT, List.mem_cons, List.not_mem_nil, or_false] at hv
  rcases hv with rfl | rfl <;> rfl
/-- append(l, m...) of terms. -/
theorem appT_of {L : Lp} {K : Value → Hp → Prop} {h : Hp} {k : Option Addr → Nat → Nat → T} {ty : TypeId} {b : Nat} {p : Option Addr} {l c : Nat} {xs : Tms} (s : SL h b 80 2 p l c (xs.map encT)) {q : Option Addr} {m d : Nat} {us : Tms} (v : VwT h q m us) (hq0 : q = none → d = 0)
    (hl : l + m ≤ 2 ^ 40) (hb : b ≤ h.size)
    (hk : ∀ p' c' h', SL h' b 80 2 p' (l + m) c' ((xs ++ us).map encT) → Ch (blkOf p) h h' → (p' = p ∨ ∃ a, p' = some a ∧ h.size ≤ a.block) → k p' (l + m) c' L K h') :
    T.sem Tryd.prog (Builtin.append_ #[67, 67] ty #[.slice p l c, .slice q m d]) false [(false, [.slice 0])] k L K h := by
  obtain ⟨i, hi, hz, hsz, hby⟩ := inf_of termZ
  refine sem_slice ?_
  cases q with
  | none =>
    have h0 : m = 0 := by
      have := v.len
      cases us with
      | nil => exact this
      | cons t us => obtain ⟨a, ha, _⟩ := v.cells 0 (by simp); cases ha
    have h1 : us = [] := by
      have := v.len
      exact List.length_eq_zero_iff.1 (by omega)
    subst h0 h1
    have hd := hq0 rfl
    subst hd
    have hc0 : l ≤ c := by
      cases p with
      | none =>
        have h2 := s.2.2.2
        have h3 := s.1
        rw [h2] at h3
        simp at h3
        omega
      | some a =>
        obtain ⟨g, pre, rest, rfl, hbg, hlc, _⟩ := s.2.2
        exact hlc.1
    simp [Builtin.append_, semW_bind', semW_underlying und67, semW_sizeOf hi, cellsOf_info hi, Builtin.lenOf, Builtin.firstCells, hc0]
    have hfin : ∃ p' l' c', Value.slice p l c = .slice p' l' c' ∧ k p' l' c' L K h := ⟨p, l, c, rfl, by simpa using hk p c h (by simpa using s) (Ch.refl _ _) (.inl rfl)⟩
    cases p with
    | none => exact hfin
    | some a => exact hfin
  | some a =>
    refine append_of und67 hi hz (by rw [hsz]; rfl) (by rw [hsz]; exact s) (ys := us.map encT) (by rw [List.length_map]; exact v.len) (fun y hy => ?_) v.flat (encT_plain us) (by rw [hby]; omega) (by omega) hb ?_
    · obtain ⟨t, _, rfl⟩ := List.mem_map.1 hy
      rw [hsz]
      rfl
    · intro p' c' h' s' k' hp'
      rw [hsz, ← List.map_append] at s'
      exact ⟨_, _, _, rfl, hk p' c' h' s' k' hp'⟩
end Go.Sx
