/- LexCut and LexAgain answer true, over heaps. Condition: the error variables hold interface values. -/
import Derived.Test.YtpbjlnlekobodaaDoorLexO
set_option linter.unusedVariables false
set_option linter.unusedSimpArgs false
set_option linter.deprecated false
set_option maxRecDepth 100000
namespace Go.Sx
open Go.Proofs
theorem ba_app (a b : ByteArray) : (a ++ b).data.toList = a.data.toList ++ b.data.toList := by
  rw [ByteArray.data_append, Array.toList_append]
theorem ba_size (a : ByteArray) : a.size = a.data.toList.length := by simp
/-- Same of lists of tokens, of the book. -/
theorem bookSame_hc {h : Hp} {b b' : Nat} {e e' : TypeId} {p0 p1 : Option Addr} {l0 c0 l1 c1 : Nat} {ts : List Tok} (hlen : ts.length ≤ 2 ^ 48) (s0 : SL h b e 4 p0 l0 c0 (ts.map enc)) (s1 : SL h b' e' 4 p1 l1 c1 (ts.map enc)) :
    HCp Tryd.prog 25 [.slice p0 l0 c0, .slice p1 l1 c1] h (.bool true) := by
  refine hcp_of mixed Tryd.func25 (by kernel_rfl) (t_spandrelbook_Same_lex_Token__eq p0 l0 c0 p1 l1 c1) ?_
  unfold t_spandrelbook_Same_lex_Token_
  have e0 : l0 = ts.length := by rw [s0.1, List.length_map]
  have e1 : l1 = ts.length := by rw [s1.1, List.length_map]
  refine cond_f (by rw [e0, e1]; simp) ?_
  refine loop_of (cs := [(false, [.bool]), (false, [.int .i64])]) (fun x n h' => h' = h ∧ ∃ k : Nat, x.2.1 = (k : Int) ∧ k ≤ ts.length ∧ n = ts.length - k) (false, (0 : Int), ()) ts.length rfl ⟨rfl, 0, rfl, by omega, by omega⟩ ?_
  rintro ⟨b1, n2, ⟨⟩⟩ m h' ⟨rfl, k, hk, hle, rfl⟩
  simp only at hk
  subst hk
  dsimp only [flat, unc, unc1, List.nil_append, List.cons_append]
  refine cond_mk (fun hb => ?_) (fun hb => ⟨rfl, rfl⟩)
  have hb : (k : Int) < (l0 : Int) := of_decide_eq_true hb
  have hlt : k < ts.length := by omega
  obtain ⟨a, rfl, hc⟩ := s0.cells (i := k) (by simpa using hlt)
  obtain ⟨a', rfl, hc'⟩ := s1.cells (i := k) (by simpa using hlt)
  rw [List.getElem_map] at hc hc'
  generalize ts[k] = t at hc hc'
  have hkn : Int.toNat (k : Int) = k := by omega
  rw [hkn]
  refine need_of ⟨by omega, by omega⟩ (osome_mk rfl (loads_of ((t.kind : Int), t.text, (t.num : Int), (t.at_ : Int), ()) hc ?_))
  refine need_of ⟨by omega, by omega⟩ (osome_mk rfl (loads_of ((t.kind : Int), t.text, (t.num : Int), (t.at_ : Int), ()) hc' ?_))
  refine sem_bool (b := false) (fun K' hk => cmpTok _ _ _ _ _ _ _ _ _ _ _ _ (by rw [bytes_beq]; simpa using hk)) ?_
  refine cond_f rfl ?_
  have hw : IntKind.wrap .i64 ((k : Int) + 1) = (k : Int) + 1 := wrap_i64 (by omega) (by omega)
  exact again_mk (cs := [(false, [.bool]), (false, [.int .i64])]) (b1, (k : Int) + 1, ()) (ts.length - (k + 1)) rfl (by omega) (congrArg (fun z => [Value.bool b1, .int .i64 z]) hw) ⟨rfl, k + 1, (show ((k : Int) + 1) = ((k + 1 : Nat) : Int) from by omega), by omega, rfl⟩
theorem known_end {h h1 : Hp} {L : Lp} (hl : Laid h) (e : Ext h h1) :
    (T.call Tryd.prog 24 [] false [(false, [.bool])] <| fun (b8 : Bool) => T.ret (.bool b8)) L (fun v h' => v = .bool true ∧ Ext h h') h1 := by
  refine call_of (known_hc h1 (hl.ext e)) ?_
  rintro _ h3 ⟨rfl, e3⟩
  exact ⟨(true, ()), rfl, rfl, e.trans e3⟩
theorem lexCut_hc (s u : ByteArray) (h : Hp) (hl : Laid h) : HC Tryd.prog 5 #[.string s, .string u] h fun v h' => v = .bool true ∧ Ext h h' := by
  refine hcr_of (args := [.string s, .string u]) mixed Tryd.func5 (by kernel_rfl) (t_spandrellaw2_LexCut_eq s u) ?_
  unfold t_spandrellaw2_LexCut
  refine call_str (few_hc s 500 h (by omega)) ?_
  obtain ⟨s1, hs1⟩ : ∃ s1, s1 = s.extract 0 (min (Int.toNat 500) s.size) := ⟨_, rfl⟩
  rw [← hs1]
  have hsz : s1.size ≤ 500 := by rw [hs1, ext_size]; omega
  refine call_of (tokens_hc s1 h (by omega) hl) ?_
  rintro _ h1 ⟨p1, l1, c1, rfl, sl1, e1⟩
  refine ⟨((p1, l1, c1), ((lexS s1).2.1 : Int), ((lexS s1).2.2 : Int), ()), rfl, ?_⟩
  dsimp only [unc, unc1, flat, List.nil_append, List.cons_append]
  rcases lexS_cases s1 with ⟨hc, he⟩ | ⟨a, ha, he⟩
  · rw [he]
    refine cond_f rfl (need_of (by omega) ?_)
    refine call_str (few_hc u 300 h1 (by omega)) ?_
    obtain ⟨u1, hu1⟩ : ∃ u1, u1 = u.extract 0 (min (Int.toNat 300) u.size) := ⟨_, rfl⟩
    rw [← hu1]
    have huz : u1.size ≤ 300 := by rw [hu1, ext_size]; omega
    have hzz : (s1 ++ ⟨#[32, 59]⟩ : ByteArray).size = s1.size + 2 := by rw [ByteArray.size_append]; rfl
    refine need_of (by omega) ?_
    have hz2 : ((s1 ++ ⟨#[32, 59]⟩) ++ u1 : ByteArray).size ≤ 2 ^ 40 := by rw [ByteArray.size_append]; omega
    have hcut : lexS ((s1 ++ ⟨#[32, 59]⟩) ++ u1) = ((lexS s1).1, 0, 0) := by
      refine chain_lexS (chain_append (u := u1.data.toList) ?_ hc)
      rw [ba_app, ba_app, List.append_assoc]
      rfl
    refine call_of (tokens_hc _ h1 hz2 (hl.ext e1)) ?_
    rintro _ h2 ⟨p2, l2, c2, rfl, sl2, e2⟩
    rw [hcut] at sl2 ⊢
    refine ⟨((p2, l2, c2), (0 : Int), (0 : Int), ()), rfl, ?_⟩
    dsimp only [unc, unc1, flat, List.nil_append, List.cons_append]
    refine cond_t rfl ?_
    refine call_bool (bookSame_hc (by have := lexS_len s1; omega) (sl1.keep e2 (by simp)) sl2) (cond_t rfl ?_)
    exact known_end hl (e1.trans e2)
  · rw [he]
    exact cond_t rfl (known_end hl e1)
theorem joinL_snoc : ∀ (l : List Tok) (t : Tok), joinL (l ++ [t]) = joinL l ++ (t.text.data.toList ++ [32])
  | [], t => by simp [joinL]
  | x :: l, t => by simp [joinL, joinL_snoc l t]
theorem lexAgain_hc (s : ByteArray) (h : Hp) (hl : Laid h) : HC Tryd.prog 4 #[.string s] h fun v h' => v = .bool true ∧ Ext h h' := by
  refine hcr_of (args := [.string s]) mixed Tryd.func4 (by kernel_rfl) (t_spandrellaw2_LexAgain_eq s) ?_
  unfold t_spandrellaw2_LexAgain
  refine call_str (few_hc s 1000 h (by omega)) ?_
  obtain ⟨s1, hs1⟩ : ∃ s1, s1 = s.extract 0 (min (Int.toNat 1000) s.size) := ⟨_, rfl⟩
  rw [← hs1]
  have hz : s1.size ≤ 1000 := by rw [hs1, ext_size]; omega
  clear hs1
  refine call_of (tokens_hc s1 h (by omega) hl) ?_
  rintro _ h1 ⟨p1, l1, c1, rfl, sl1, e1⟩
  refine ⟨((p1, l1, c1), ((lexS s1).2.1 : Int), ((lexS s1).2.2 : Int), ()), rfl, ?_⟩
  dsimp only [unc, unc1, flat, List.nil_append, List.cons_append]
  have hsz : s1.data.toList.length = s1.size := by simp
  rcases lexS_cases s1 with ⟨hc, he⟩ | ⟨a, ha, he⟩
  · rw [he]
    have hlen := lexS_len s1
    generalize (lexS s1).1 = ts at hc sl1 hlen
    have hl1 : l1 = ts.length := by rw [sl1.1, List.length_map]
    refine cond_f rfl ?_
    refine loop_of (cs := [(false, [.bool]), (false, [.int .i64]), (false, [.string]), (false, [.int .i64])])
      (fun x n h' => Ext h1 h' ∧ ∃ i k : Nat, x.2.2.2.1 = (i : Int) ∧ x.2.1 = (k : Int) ∧ i ≤ ts.length ∧ n = ts.length - i ∧ Chain s1 k (ts.drop i) ∧ k ≤ s1.size ∧ x.2.2.1.data.toList = joinL (ts.take i) ∧ x.2.2.1.size ≤ k + i ∧ i ≤ k)
      (false, (0 : Int), (⟨#[]⟩ : ByteArray), (0 : Int), ()) ts.length rfl ⟨Ch.refl _ _, 0, 0, rfl, rfl, by omega, by omega, hc, by omega, rfl, Nat.le_refl 0, by omega⟩ ?_
    rintro ⟨b7, n8, (s9 : ByteArray), n10, ⟨⟩⟩ m h2 ⟨e2, i, k, hi, hk, hile, rfl, hck, hkle, hjoin, hjs, hik⟩
    simp only at hi hk hjoin hjs
    subst hi hk
    dsimp only [flat, unc, unc1, List.nil_append, List.cons_append]
    refine cond_mk (fun g1 => ?_) (fun g1 => ?_)
    · have g1 := of_decide_eq_true g1
      have hlt : i < ts.length := by omega
      have hdr : ts.drop i = ts[i] :: ts.drop (i + 1) := List.drop_eq_getElem_cons hlt
      have htk : ts.take (i + 1) = ts.take i ++ [ts[i]] := List.take_succ_eq_append_getElem hlt
      obtain ⟨a, rfl, hcell⟩ := (sl1.keep e2 (by simp)).cells (i := i) (by simpa using hlt)
      rw [List.getElem_map] at hcell
      rw [hdr] at hck
      generalize ts[i] = t at hck htk hcell
      refine need_of ⟨by omega, by omega⟩ (osome_mk rfl ?_)
      rw [show Int.toNat (i : Int) = i by omega]
      refine loads_of ((t.kind : Int), t.text, (t.num : Int), (t.at_ : Int), ()) hcell ?_
      dsimp only [flat, unc, unc1, List.nil_append, List.cons_append]
      refine newB ?_
      intro h3 b3 e3 z3
      refine stores_of b3 rfl (by simp) ?_
      intro h4 b4 c4 z4
      have b4 : Box h4 h2.size 35 (enc t) := b4
      have e4 : Ext h2 h4 := Ch.trans e3 c4 (fun j hj hjl => by simp at hj; omega)
      -- the token's place
      cases hck with
      | tok _ kind n m _ hk2 hD hck =>
        have hbl := blank_le hk2
        obtain ⟨hn1, hn2⟩ := lexD_pos hD
        have hget := fun j => @rowN_get (s1.data.toList.drop k) blanksL j
        generalize hav : k + rowN (s1.data.toList.drop k) blanksL = av at *
        rw [List.length_drop] at hn2
        have hl3 : ∀ {L K} {kk : Int → T}, kk (av : Int) L K h4 → T.loads ((⟨h2.size, 0, none⟩ : Addr).add 3) [.int .i64] kk L K h4 := by
          intro L K kk hkk
          rw [add_box]
          exact loads_box b4 ((av : Int), ()) rfl hkk
        have hl1' : ∀ {L K} {kk : ByteArray → T}, kk (s1.extract av (av + n)) L K h4 → T.loads ((⟨h2.size, 0, none⟩ : Addr).add 1) [.string] kk L K h4 := by
          intro L K kk hkk
          rw [add_box]
          exact loads_box b4 (s1.extract av (av + n), ()) rfl hkk
        have hxs : (s1.extract av (av + n)).size = n := by rw [ext_size]; omega
        have hxl : (s1.extract av (av + n)).data.toList.length = n := by rw [← ba_size]; exact hxs
        refine hl3 (cond_f (decide_eq_false (by omega)) ?_)
        have hw1 : IntKind.wrap .i64 ((av : Int) + (n : Int)) = ((av + n : Nat) : Int) := by rw [wrap_i64 (by omega) (by omega)]; omega
        refine hl3 (hl1' ?_)
        rw [hxs, hw1]
        refine cond_f (decide_eq_false (by omega)) (hl1' ?_)
        refine cond_f ?_ (hl3 (hl3 (hl1' ?_)))
        · rw [ByteArray.toList_eq]
          cases hx : (s1.extract av (av + n)).data.toList with
          | nil => rw [hx] at hxl; simp at hxl; omega
          | cons d D => rfl
        rw [hxs, hw1]
        refine need_of ⟨by omega, by omega, by omega⟩ (hl1' ?_)
        rw [show Int.toNat (av : Int) = av by omega, show Int.toNat ((av + n : Nat) : Int) = av + n by omega]
        refine cond_f (by simp) ?_
        -- the blanks
        refine loop_of (cs := [(false, [.bool]), (false, [.int .i64])]) (fun x n h' => h' = h4 ∧ ∃ j : Nat, x.2.1 = (j : Int) ∧ k ≤ j ∧ j ≤ av ∧ n = av - j) (b7, (k : Int), ()) (av - k) rfl ⟨rfl, k, rfl, by omega, by omega, rfl⟩ ?_
        rintro ⟨b25, n26, ⟨⟩⟩ m' h5 ⟨rfl, j, hj, hkj, hja, rfl⟩
        simp only at hj
        subst hj
        dsimp only [flat, unc, unc1, List.nil_append, List.cons_append]
        refine hl3 (cond_mk (fun g2 => ?_) (fun g2 => ?_))
        · have g2 := of_decide_eq_true g2
          have hb := hget (j - k) (by omega)
          rw [getD_drop', show k + (j - k) = j by omega] at hb
          have hsb : sbyte s1 (j : Int) = cN (s1.data.toList.getD j 0) := by rw [sbyte_cN, show Int.toNat (j : Int) = j by omega]
          rw [hsb]
          have hw2 : IntKind.wrap .i64 ((j : Int) + 1) = ((j + 1 : Nat) : Int) := by rw [wrap_i64 (by omega) (by omega)]; omega
          rw [hw2]
          have ag : (T.again 1 [.bool b25, .int .i64 ((j + 1 : Nat) : Int)]) [Jl (cs := [(false, [.bool]), (false, [.int .i64]), (false, [.string]), (false, [.int .i64])]) (fun x n h' => Ext h1 h' ∧ ∃ i k : Nat, x.2.2.2.1 = (i : Int) ∧ x.2.1 = (k : Int) ∧ i ≤ ts.length ∧ n = ts.length - i ∧ Chain s1 k (ts.drop i) ∧ k ≤ s1.size ∧ x.2.2.1.data.toList = joinL (ts.take i) ∧ x.2.2.1.size ≤ k + i ∧ i ≤ k) (ts.length - i),
              Jl (cs := [(false, [.bool]), (false, [.int .i64])]) (fun x n h' => h' = h5 ∧ ∃ j : Nat, x.2.1 = (j : Int) ∧ k ≤ j ∧ j ≤ av ∧ n = av - j) (av - j)] (fun v h' => v = .bool true ∧ Ext h h') h5 :=
            again_mk (cs := [(false, [.bool]), (false, [.int .i64])]) (b25, ((j + 1 : Nat) : Int), ()) (av - (j + 1)) rfl (by omega) rfl ⟨rfl, j + 1, rfl, by omega, by omega, rfl⟩
          refine need_of ⟨by omega, by omega⟩ (cond_mk (fun g3 => ?_) (fun g3 => ag))
          refine need_of ⟨by omega, by omega⟩ (cond_mk (fun g4 => ?_) (fun g4 => ag))
          refine need_of ⟨by omega, by omega⟩ (cond_mk (fun g5 => ?_) (fun g5 => ag))
          exfalso
          simp only [blanksL, List.contains_cons, List.contains_nil, Bool.or_false, Bool.or_eq_true, beq_iff_eq] at hb
          rcases hb with hb | hb | hb
          · rw [hb] at g3; revert g3; decide
          · rw [hb] at g4; revert g4; decide
          · rw [hb] at g5; revert g5; decide
        · have g2 := of_decide_eq_false g2
          refine hl3 (hl1' (hl1' ?_))
          rw [hxs, hw1]
          have hsz9 : (s9 ++ s1.extract av (av + n)).size = s9.size + n := by rw [ByteArray.size_append, hxs]
          refine need_of (by omega) (need_of (by rw [hsz9]; omega) ?_)
          have hw3 : IntKind.wrap .i64 ((i : Int) + 1) = ((i + 1 : Nat) : Int) := by rw [wrap_i64 (by omega) (by omega)]; omega
          rw [hw3]
          refine again_mk (cs := [(false, [.bool]), (false, [.int .i64]), (false, [.string]), (false, [.int .i64])]) (b25, ((av + n : Nat) : Int), (s9 ++ s1.extract av (av + n)) ++ ⟨#[32]⟩, ((i + 1 : Nat) : Int), ()) (ts.length - (i + 1)) rfl (by omega) rfl ?_
          refine ⟨e2.trans e4, i + 1, av + n, rfl, rfl, by omega, rfl, hck, by omega, ?_, ?_, by omega⟩
          · show ((s9 ++ s1.extract av (av + n)) ++ ⟨#[32]⟩ : ByteArray).data.toList = _
            rw [ba_app, ba_app, htk, joinL_snoc, hjoin, List.append_assoc]
          · show ((s9 ++ s1.extract av (av + n)) ++ ⟨#[32]⟩ : ByteArray).size ≤ _
            rw [ByteArray.size_append, hsz9]
            show s9.size + n + 1 ≤ _
            omega
    · have g1 := of_decide_eq_false g1
      have hi : i = ts.length := by omega
      subst hi
      rw [List.take_length] at hjoin
      obtain ⟨us, hu, hul, hal⟩ := chain_join (s' := s9) hc 0 [] (.inl rfl) (by omega) (by rw [hjoin]; rfl)
      have hlx := chain_lexS hu
      refine call_of (tokens_hc s9 h2 (by omega) (hl.ext (e1.trans e2))) ?_
      rintro _ h3 ⟨p3, l3, c3, rfl, sl3, e3⟩
      rw [hlx] at sl3 ⊢
      refine ⟨((p3, l3, c3), (0 : Int), (0 : Int), ()), rfl, ?_⟩
      dsimp only [unc, unc1, flat, List.nil_append, List.cons_append]
      have hl3 : l3 = us.length := by rw [sl3.1, List.length_map]
      refine cond_f rfl (cond_f (by rw [hl3, hul, hl1]; simp) ?_)
      have sl1' := sl1.keep (e2.trans e3) (by simp)
      refine loop_of (cs := [(false, [.bool]), (false, [.int .i64])]) (fun x n h' => h' = h3 ∧ ∃ j : Nat, x.2.1 = (j : Int) ∧ j ≤ ts.length ∧ n = ts.length - j) (b7, (0 : Int), ()) ts.length rfl ⟨rfl, 0, rfl, by omega, by omega⟩ ?_
      rintro ⟨b16, n17, ⟨⟩⟩ m' h5 ⟨rfl, j, hj, hjle, rfl⟩
      simp only at hj
      subst hj
      dsimp only [flat, unc, unc1, List.nil_append, List.cons_append]
      refine cond_mk (fun g2 => ?_) (fun g2 => known_end hl ((e1.trans e2).trans e3))
      have g2 := of_decide_eq_true g2
      have hjt : j < ts.length := by omega
      have hju : j < us.length := by omega
      obtain ⟨a, rfl, hcell⟩ := sl1'.cells (i := j) (by simpa using hjt)
      obtain ⟨a', rfl, hcell'⟩ := sl3.cells (i := j) (by simpa using hju)
      rw [List.getElem_map] at hcell hcell'
      have hal := hal j hju hjt
      generalize ts[j] = t at hcell hal
      generalize us[j] = u at hcell' hal
      obtain ⟨a1, a2, a3⟩ := hal
      rw [show Int.toNat (j : Int) = j by omega]
      obtain ⟨q0, q1, q2, q3, _⟩ := hcell
      obtain ⟨r0, r1, r2, r3, _⟩ := hcell'
      refine need_of ⟨by omega, by omega⟩ (osome_mk rfl (loads_of ((u.kind : Int), ()) ⟨r0, trivial⟩ ?_))
      refine need_of ⟨by omega, by omega⟩ (osome_mk rfl (loads_of ((t.kind : Int), ()) ⟨q0, trivial⟩ ?_))
      refine cond_f (by show ((u.kind : Int) != (t.kind : Int)) = false; rw [a1]; simp) ?_
      refine need_of ⟨by omega, by omega⟩ (osome_mk rfl (loads_of (u.text, ()) ⟨r1, trivial⟩ ?_))
      refine need_of ⟨by omega, by omega⟩ (osome_mk rfl (loads_of (t.text, ()) ⟨q1, trivial⟩ ?_))
      refine cond_f (by show (!((ByteArray.toList u.text) == (ByteArray.toList t.text))) = false; rw [a2]; simp) ?_
      refine need_of ⟨by omega, by omega⟩ (osome_mk rfl (loads_of ((u.num : Int), ()) ⟨r2, trivial⟩ ?_))
      refine need_of ⟨by omega, by omega⟩ (osome_mk rfl (loads_of ((t.num : Int), ()) ⟨q2, trivial⟩ ?_))
      refine cond_f (by show ((u.num : Int) != (t.num : Int)) = false; rw [a3]; simp) ?_
      have hw : IntKind.wrap .i64 ((j : Int) + 1) = (j : Int) + 1 := wrap_i64 (by omega) (by omega)
      exact again_mk (cs := [(false, [.bool]), (false, [.int .i64])]) (b16, (j : Int) + 1, ()) (ts.length - (j + 1)) rfl (by omega) (congrArg (fun z => [Value.bool b16, .int .i64 z]) hw) ⟨rfl, j + 1, (show ((j : Int) + 1) = ((j + 1 : Nat) : Int) from by omega), by omega, rfl⟩
  · rw [he] at sl1 ⊢
    have hl1 : l1 = 0 := sl1.1
    subst hl1
    refine cond_t rfl (cond_t rfl (cond_t (decide_eq_true (by simp)) (cond_t (decide_eq_true (by simp only; omega)) ?_)))
    exact known_end hl e1
end Go.Sx
