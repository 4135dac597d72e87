/- LineKept answers true, over heaps. Condition: the error variables hold interface values. -/
import Derived.Test.YtpbjlnlekobodaaDoorLineB
import Derived.Test.YtpbjlnlekobodaaDoorBookC
set_option linter.unusedVariables false
set_option linter.unusedSimpArgs false
set_option linter.deprecated false
set_option maxRecDepth 100000
namespace Go.Sx
open Go.Proofs
theorem few3_hc (s : ByteArray) (n : Int) (h : Hp) (hn : 0 ≤ n) : HCp Tryd.prog 33 [.string s, .int .i64 n] h (.string (s.extract 0 (min n.toNat s.size))) := by
  refine hcp_of mixed Tryd.func33 (by kernel_rfl) (t_spandrellaw3_few_eq s n) ?_
  refine cond_mk (fun h1 => ?_) (fun h1 => ?_)
  · have h1 := of_decide_eq_true h1
    refine need_of ⟨by omega, hn, by omega⟩ ⟨?_, rfl⟩
    congr 1
    rw [Nat.min_eq_left (by omega)]
  · have h1 := of_decide_eq_false h1
    refine ⟨?_, rfl⟩
    congr 1
    refine ba_ext ?_
    rw [ext_list, List.drop_zero, Nat.sub_zero, Nat.min_eq_right (by omega)]
    exact (List.take_of_length_le (by simp)).symm
abbrev klS1 : ByteArray := ⟨#[120, 58, 32, 97, 100, 100, 32, 114, 49, 44, 32, 114, 50]⟩
abbrev klS2 : ByteArray := ⟨#[97, 100, 100, 32, 114, 49, 44]⟩
theorem parse1 : parseS klS1 = (⟨⟨#[120]⟩, ⟨#[97, 100, 100]⟩, [[⟨1, ⟨#[114, 49]⟩, 0, 7⟩], [⟨1, ⟨#[114, 50]⟩, 0, 11⟩]]⟩, 0, 0) := by kernel_rfl
theorem parse2 : parseS klS2 = (lnNil, 7, 20) := by kernel_rfl
theorem known3_hc (h : Hp) (hl : Laid h) : HC Tryd.prog 37 #[] h fun v h' => v = .bool true ∧ Ext h h' := by
  refine hcr_of (args := []) mixed Tryd.func37 (by kernel_rfl) t_spandrellaw3_known_eq ?_
  unfold t_spandrellaw3_known
  refine call_of (parse_hc klS1 h (by decide) hl) ?_
  rintro _ h1 ⟨e1, p1, c1, al1, rfl, A1, hal1⟩
  rw [parse1] at hal1 ⊢
  have hlen1 : al1.length = 2 := by
    have := congrArg List.length hal1
    simpa using this
  refine ⟨((⟨#[120]⟩ : ByteArray), (⟨#[97, 100, 100]⟩ : ByteArray), (p1, al1.length, c1), (0 : Int), (0 : Int), ()), rfl, ?_⟩
  dsimp only [unc, unc1, flat, List.nil_append, List.cons_append]
  refine newB ?_
  intro h2 b2 e2 z2
  refine stores_of b2 rfl (by simp) ?_
  intro h3 b3 k3 z3
  have b3 : Box h3 h1.size 48 [.string ⟨#[120]⟩, .string ⟨#[97, 100, 100]⟩, .slice p1 al1.length c1] := b3
  have e3 : Ext h1 h3 := Ch.trans e2 k3 (fun i hi hl => by simp at hi; omega)
  have e03 := e1.trans e3
  refine call_of (parse_hc klS2 h3 (by decide) (hl.ext e03)) ?_
  rintro _ h4 ⟨e4, p4, c4, al4, rfl, A4, hal4⟩
  rw [parse2] at hal4 ⊢
  refine ⟨((⟨#[]⟩ : ByteArray), (⟨#[]⟩ : ByteArray), (p4, al4.length, c4), (7 : Int), (20 : Int), ()), rfl, ?_⟩
  dsimp only [unc, unc1, flat, List.nil_append, List.cons_append]
  refine newB ?_
  intro h5 b5 e5 z5
  refine stores_of b5 rfl (by simp) ?_
  intro h6 b6 k6 z6
  have e6 : Ext h4 h6 := Ch.trans e5 k6 (fun i hi hl => by simp at hi; omega)
  have b6 := (b3.keep e4 (by simp)).keep e6 (by simp)
  refine cond_t rfl ?_
  refine loads_box b6 ((⟨#[120]⟩ : ByteArray), ()) rfl ?_
  dsimp only [unc, unc1, flat, List.nil_append, List.cons_append]
  refine cond_t (by rw [ByteArray.toList_eq]; rfl) ?_
  rw [add_box]
  refine loads_box b6 ((⟨#[97, 100, 100]⟩ : ByteArray), ()) rfl ?_
  dsimp only [unc, unc1, flat, List.nil_append, List.cons_append]
  refine cond_t (by rw [ByteArray.toList_eq]; rfl) ?_
  rw [add_box]
  refine loads_box b6 ((p1, al1.length, c1), ()) rfl ?_
  dsimp only [unc, unc1, flat, List.nil_append, List.cons_append]
  refine cond_t (by rw [hlen1]; rfl) (cond_t rfl ?_)
  exact ⟨rfl, (e03.trans e4).trans e6⟩
theorem known3_end {h h1 : Hp} {L : Lp} (hl : Laid h) (e : Ext h h1) :
    (T.call Tryd.prog 37 [] false [(false, [.bool])] <| fun (b8 : Bool) => T.ret (.bool b8)) L (fun v h' => v = .bool true ∧ Ext h h') h1 := by
  refine call_boolx (known3_hc h1 (hl.ext e)) ?_
  intro h3 e3
  exact ⟨rfl, e.trans e3⟩
theorem argsS_bound (n N : Nat) : ∀ (ts : List Tok) (done : List (List Tok)) (cur : List Tok) (r : List (List Tok)), argsS n ts done cur = .ok r → (∀ l, l ∈ done → l.length ≤ N) → cur.length + ts.length ≤ N →
    (∀ l, l ∈ r → l.length ≤ N) ∧ r.length ≤ done.length + 1 + ts.length
  | [], done, cur, r, h, hd, hc => by
    simp only [argsS] at h
    split at h
    · cases h
    · injection h with h
      subst h
      refine ⟨fun l hl => ?_, by simp⟩
      rcases List.mem_append.1 hl with hl | hl
      · exact hd l hl
      · have : l = cur := by simpa using hl
        subst this
        simpa using hc
  | t :: ts, done, cur, r, h, hd, hc => by
    simp only [argsS] at h
    simp only [List.length_cons] at hc
    split at h
    · cases h
    · split at h
      · have := argsS_bound n N ts (done ++ [cur]) [] r h (fun l hl => by
          rcases List.mem_append.1 hl with hl | hl
          · exact hd l hl
          · have : l = cur := by simpa using hl
            subst this
            omega) (by simp; omega)
        refine ⟨this.1, ?_⟩
        have h2 := this.2
        simp at h2 ⊢
        omega
      · have := argsS_bound n N ts done (cur ++ [t]) r h hd (by simp; omega)
        refine ⟨this.1, ?_⟩
        have h2 := this.2
        simp at h2 ⊢
        omega
theorem parseT_bound (n N : Nat) (lb : ByteArray) (us : List Tok) (h : us.length ≤ N) : (∀ l, l ∈ (parseT n lb us).1.args → l.length ≤ N) ∧ (parseT n lb us).1.args.length ≤ N + 1 := by
  cases us with
  | nil => simp [parseT]
  | cons t us =>
    simp only [List.length_cons] at h
    simp only [parseT]
    split
    · simp [lnNil]
    · cases hA : argsA n us with
      | error a => simp [lnNil]
      | ok l =>
        unfold argsA at hA
        split at hA
        · injection hA with hA
          subst hA
          simp
        · have := argsS_bound n N us [] [] l hA (by simp) (by simp; omega)
          refine ⟨this.1, ?_⟩
          have h2 := this.2
          simp at h2 ⊢
          omega
theorem parseS_bound (s : ByteArray) : (∀ l, l ∈ (parseS s).1.args → l.length ≤ s.size) ∧ (parseS s).1.args.length ≤ s.size + 1 := by
  have hlen := lexS_len s
  unfold parseS
  split
  · simp [lnNil]
  · unfold parseL
    split
    · exact parseT_bound _ _ _ _ (by rw [List.length_drop]; omega)
    · exact parseT_bound _ _ _ _ hlen
theorem lineKept_hc (s : ByteArray) (h : Hp) (hl : Laid h) : HC Tryd.prog 11 #[.string s] h fun v h' => v = .bool true ∧ Ext h h' := by
  refine hcr_of (args := [.string s]) mixed Tryd.func11 (by kernel_rfl) (t_spandrellaw3_LineKept_eq s) ?_
  unfold t_spandrellaw3_LineKept
  refine call_str (few3_hc s 500 h (by omega)) ?_
  obtain ⟨s1, hs1⟩ : ∃ s1, s1 = s.extract 0 (min (Int.toNat 500) s.size) := ⟨_, rfl⟩
  rw [← hs1]
  have hz : s1.size ≤ 500 := by rw [hs1, ext_size]; omega
  clear hs1
  have hbound := parseS_bound s1
  refine newB ?_
  intro h1 b1 e1 z1
  refine loop_of (cs := [(false, [.int .i64])]) (fun x n h' => ∃ i : Nat, x.1 = (i : Int) ∧ i ≤ 2 ∧ n = 2 - i ∧ Since h.size h h' ∧ ∃ pl cl pw cw es, Book h' h.size h.size pl cl pw cw es ∧ es.length ≤ 4000) ((0 : Int), ()) 2 rfl
    ⟨0, rfl, by omega, by omega, Since.of e1 (by simp), _, _, _, _, _, Book.empty b1 (Nat.le_refl _), by simp⟩ ?_
  clear b1 e1 z1 h1
  rintro ⟨n3, ⟨⟩⟩ m h2 ⟨i, hi, hile, rfl, s2, pl, cl, pw, cw, es, B, hes⟩
  simp only at hi
  subst hi
  dsimp only [flat, unc, unc1, List.nil_append, List.cons_append]
  refine cond_mk (fun g1 => ?_) (fun g1 => ?_)
  · have g1 := of_decide_eq_true g1
    refine call_of (parse_hc s1 h2 (by omega) (hl.ext s2.toExt)) ?_
    rintro _ h3 ⟨e3, p, c, al, rfl, A, hal⟩
    refine ⟨((parseS s1).1.label, (parseS s1).1.op, (p, al.length, c), ((parseS s1).2.1 : Int), ((parseS s1).2.2 : Int), ()), rfl, ?_⟩
    dsimp only [unc, unc1, flat, List.nil_append, List.cons_append]
    have halen : al.length ≤ s1.size + 1 := by
      have := congrArg List.length hal
      rw [List.length_map] at this
      rw [this]; exact hbound.2
    have hals : ∀ a, a ∈ al → a.ts.length ≤ s1.size := fun a ha => hbound.1 a.ts (by rw [← hal]; exact List.mem_map.2 ⟨a, ha, rfl⟩)
    have hlt := B.lt
    have hsz := s2.1
    have hsz3 := e3.size
    refine newB ?_
    intro h4 b4 e4 z4
    refine stores_of b4 rfl (by simp) ?_
    intro h5 b5 k5 z5
    have b5 : Box h5 h3.size 48 [.string (parseS s1).1.label, .string (parseS s1).1.op, .slice p al.length c] := b5
    have e35 : Ext h3 h5 := Ch.trans e4 k5 (fun i hi hl => by simp at hi; omega)
    have e25 := e3.trans e35
    have A5 := A.keep e35 (by simp) (by simp)
    have B5 := B.keep e25 (by simp) (by simp) (by simp) (by simp)
    have hin : ∀ x, (x ∈ blkOf p ∨ (∃ a, a ∈ al ∧ x ∈ blkOf a.p) ∨ x = h3.size) → h2.size ≤ x := by
      rintro x (hx | ⟨a, ha, hx⟩ | rfl)
      · exact (A.out.blk hx).1
      · exact ((A.inn a ha).blk hx).1
      · exact hsz3
    refine loop_of (cs := [(false, [.int .i64])]) (fun x n h' => ∃ k : Nat, x.1 = (k : Int) ∧ k ≤ al.length ∧ n = al.length - k ∧ ∃ pl cl pw cw es, Book h' h.size h.size pl cl pw cw es ∧ es.length ≤ 4000 ∧ Args h' h.size 23 35 p c al ∧
        Box h' h3.size 48 [.string (parseS s1).1.label, .string (parseS s1).1.op, .slice p al.length c] ∧ Since h.size h h' ∧ (∀ x, (x ∈ blkOf p ∨ (∃ a, a ∈ al ∧ x ∈ blkOf a.p) ∨ x = h3.size) → x ≠ h.size ∧ x ∉ blkOf pl ∧ x ∉ blkOf pw) ∧
        ∀ a, a ∈ al.drop k → ∀ x, x ∈ blkOf a.p → ∀ e, e ∈ es → x ∉ e.blks) ((0 : Int), ()) al.length rfl
      ⟨0, rfl, by omega, by omega, pl, cl, pw, cw, es, B5, hes, A5.mono (by omega), b5, s2.trans (Since.of e25 (by simp)), ?_, ?_⟩ ?_
    · intro x hx
      have := hin x hx
      refine ⟨by have := hlt.1; omega, fun hh => ?_, fun hh => ?_⟩
      · have := hlt.2.1 x hh; omega
      · have := hlt.2.2.1 x hh; omega
    · intro a ha x hx e he hh
      have := hin x (.inr (.inl ⟨a, by simpa using ha, hx⟩))
      have := hlt.2.2.2 e he x hh
      omega
    · clear B5 A5 b5 e25 e35 k5 z5 b4 e4 z4 B hes s2 hlt hin hsz A
      rintro ⟨n12, ⟨⟩⟩ m h6 ⟨k, hk, hkle, rfl, pl, cl, pw, cw, es, B, hes, A, b6, s6, hd, hde⟩
      simp only at hk
      subst hk
      dsimp only [unc, unc1, flat, List.nil_append, List.cons_append]
      rw [add_box]
      refine loads_box b6 ((p, al.length, c), ()) rfl ?_
      dsimp only [unc, unc1, flat, List.nil_append, List.cons_append]
      refine cond_mk (fun g2 => ?_) (fun g2 => ?_)
      · have g2 := of_decide_eq_true g2
        have hklt : k < al.length := by omega
        refine loads_box b6 ((p, al.length, c), ()) rfl ?_
        dsimp only [unc, unc1, flat, List.nil_append, List.cons_append]
        obtain ⟨a, ha, hc⟩ := A.out.cells (i := k) (by rw [List.length_map]; exact hklt)
        rw [List.getElem_map] at hc
        have hmem : al[k] ∈ al := List.getElem_mem hklt
        have hdr : al.drop k = al[k] :: al.drop (k + 1) := List.drop_eq_getElem_cons hklt
        have hpp : ∀ a', a' ∈ al.drop (k + 1) → ∀ x, x ∈ blkOf al[k].p → x ∉ blkOf a'.p := by
          have := A.pp.sublist (List.drop_sublist k al)
          rw [hdr] at this
          exact fun a' ha' => (List.pairwise_cons.1 this).1 a' ha'
        rw [hdr] at hde
        generalize al[k] = q at hc hmem hpp hde
        refine need_of ⟨by omega, by omega⟩ (osome_mk ha ?_)
        rw [show Int.toNat (k : Int) = k by omega]
        refine loads_of ((q.p, q.l, q.c), ()) hc ?_
        dsimp only [unc, unc1, flat, List.nil_append, List.cons_append]
        refine call_of (keep_hc B hes (A.inn q hmem) (by have := hals q hmem; omega) (fun x hx => ?_) s6.1) ?_
        · have h1 := hd x (.inr (.inl ⟨q, hmem, hx⟩))
          exact ⟨h1.1, h1.2.1, h1.2.2, fun e he => hde q (by simp) x hx e he⟩
        · rintro _ h7 ⟨rfl, es', hes', hto⟩
          refine ⟨(), rfl, ?_⟩
          have s7 := hto.since (Nat.le_refl _) (fun x hx => (B.one.blk hx).1) (fun x hx => (B.two.blk hx).1)
          obtain ⟨pl', cl', pw', cw', B7, k7, w1, w2, w3⟩ := hto
          have hnot : ∀ x, (x ∈ blkOf p ∨ (∃ a, a ∈ al ∧ x ∈ blkOf a.p) ∨ x = h3.size) → x ∉ h.size :: (blkOf pl ++ blkOf pw) := by
            intro x hx hh
            have h1 := hd x hx
            rcases List.mem_cons.1 hh with hh | hh
            · exact h1.1 hh
            · rcases List.mem_append.1 hh with hh | hh
              · exact h1.2.1 hh
              · exact h1.2.2 hh
          have hlt6 : ∀ x, (x ∈ blkOf p ∨ (∃ a, a ∈ al ∧ x ∈ blkOf a.p) ∨ x = h3.size) → x < h6.size := by
            rintro x (hx | ⟨a, ha, hx⟩ | rfl)
            · exact (A.out.blk hx).2
            · exact ((A.inn a ha).blk hx).2
            · exact b6.lt
          have hw : IntKind.wrap .i64 ((k : Int) + 1) = ((k + 1 : Nat) : Int) := by rw [wrap_i64 (by omega) (by omega)]; omega
          refine again_mk (cs := [(false, [.int .i64])]) (((k + 1 : Nat) : Int), ()) (al.length - (k + 1)) rfl (by omega) (congrArg (fun z => [Value.int .i64 z]) hw) ⟨k + 1, rfl, by omega, rfl, pl', cl', pw', cw', es', B7, hes',
            A.keep k7 (fun x hx => hnot x (.inl hx)) (fun a ha x hx => hnot x (.inr (.inl ⟨a, ha, hx⟩))), b6.keep k7 (hnot _ (.inr (.inr rfl))), s6.trans s7, ?_, ?_⟩
          · intro x hx
            have h1 := hd x hx
            have h2 := hlt6 x hx
            refine ⟨h1.1, fun hh => ?_, fun hh => ?_⟩
            · rcases w1 x hh with h3 | h3
              · exact h1.2.1 h3
              · omega
            · rcases w2 x hh with h3 | h3
              · exact h1.2.2 h3
              · omega
          · intro a' ha' x hx e he hh
            have ha'm : a' ∈ al := List.mem_of_mem_drop ha'
            rcases w3 e he x hh with h3 | h3 | ⟨f, hf, h3⟩
            · exact hpp a' ha' x h3 hx
            · have := hlt6 x (.inr (.inl ⟨a', ha'm, hx⟩)); omega
            · exact hde a' (by simp [ha']) x hx f hf h3
      · have hw : IntKind.wrap .i64 ((i : Int) + 1) = ((i + 1 : Nat) : Int) := by rw [wrap_i64 (by omega) (by omega)]; omega
        exact again_mk (cs := [(false, [.int .i64])]) (((i + 1 : Nat) : Int), ()) (2 - (i + 1)) rfl (by omega) (congrArg (fun z => [Value.int .i64 z]) hw) ⟨i + 1, rfl, by omega, rfl, s6, pl, cl, pw, cw, es, B, hes⟩
  · refine call_boolx (apart38_hc B hes s2.1) ?_
    intro h3 s3
    refine cond_t rfl ?_
    exact known3_end hl (s2.trans s3).toExt
end Go.Sx
