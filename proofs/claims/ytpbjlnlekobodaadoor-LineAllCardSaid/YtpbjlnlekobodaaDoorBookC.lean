/- mark of the third layer, and Apart with it. Condition: as before. -/
import Derived.Test.YtpbjlnlekobodaaDoorBookB
import Derived.Test.YtpbjlnlekobodaaDoorLineT
set_option linter.unusedVariables false
set_option linter.unusedSimpArgs false
set_option linter.deprecated false
set_option maxRecDepth 100000
namespace Go.Sx
open Go.Proofs
theorem mark38_hc (i j : Int) (h : Hp) : HC Tryd.prog 38 #[.int .i64 i, .int .i64 j] h fun v h' => v = .agg #[.int .i64 (IntKind.wrap .i64 (-100 - i)), .string ⟨#[]⟩, .int .u32 0, .int .i64 (IntKind.wrap .i64 (0 - j))] ∧ Ext h h' := by
  refine hcr_of (args := [.int .i64 i, .int .i64 j]) mixed Tryd.func38 (by kernel_rfl) (t_spandrellaw3_mark_eq i j) ?_
  unfold t_spandrellaw3_mark
  refine newB ?_
  intro h1 b1 e1 z1
  refine stores_of b1 rfl (by simp) ?_
  intro h2 b2 k2 z2
  have b2 : Box h2 h.size 35 [.int .i64 (IntKind.wrap .i64 (-100 - i)), .string ⟨#[]⟩, .int .u32 0, .int .i64 (IntKind.wrap .i64 (0 - j))] := b2
  refine loads_box b2 (IntKind.wrap .i64 (-100 - i), (⟨#[]⟩ : ByteArray), (0 : Int), IntKind.wrap .i64 (0 - j), ()) rfl ?_
  exact ⟨rfl, Ch.trans e1 k2 (fun i hi hl => by simp at hi; omega)⟩
theorem apart38_hc {h : Hp} {gb b : Nat} {pl : Option Addr} {cl : Nat} {pw : Option Addr} {cw : Nat} {es : List Ent} (B : Book h gb b pl cl pw cw es) (hlen : es.length ≤ 4000) (hbs : b ≤ h.size) :
    HC Tryd.prog 27 #[.pointer (some ⟨gb, 0, none⟩), .func (Fn.func 38) #[] #[]] h fun v h' => v = .bool true ∧ Since b h h' := by
  refine hcr_of (args := [.pointer (some ⟨gb, 0, none⟩), .func (Fn.func 38) #[] #[]]) mixed Tryd.func27 (by kernel_rfl) (t_spandrelbook_Book_lex_Token___Apart_s38_eq (some ⟨gb, 0, none⟩)) ?_
  unfold t_spandrelbook_Book_lex_Token___Apart_s38
  refine call_of (stays_hc B hlen) ?_
  rintro _ h0 ⟨rfl, B0, k0⟩
  refine ⟨(true, ()), rfl, ?_⟩
  dsimp only [flat, unc, unc1, List.nil_append, List.cons_append]
  refine cond_f rfl ?_
  have s0 : Since b h h0 := Since.of k0 fun i hi _ => by simp at hi; subst hi; exact B.ge
  have M0 : Marking h0 gb b pl cl es 0 0 := by
    obtain ⟨held, hb⟩ := B0.box
    refine ⟨⟨_, _, hb⟩, B0.one, fun k hk => ?_⟩
    have := Room.of_SL (B0.ent es[k] (List.getElem_mem hk)).1 k
    rw [if_neg (by omega)]
    by_cases h : k = 0
    · rw [if_pos h]; exact this
    · rw [if_neg h]; exact this
  have hsz : h.size ≤ h0.size := k0.size
  have gpl := B.gpl
  have eg := B.eg
  have hge := B.ge
  have hpw : ∀ i j (hi : i < es.length) (hj : j < es.length), i ≠ j → ∀ x, x ∈ es[i].blks → x ∉ es[j].blks := by
    intro i j hi hj hij x hx
    rcases Nat.lt_or_ge i j with h1 | h1
    · exact (List.pairwise_iff_getElem.1 B.ee) i j hi hj h1 x hx
    · intro hx2
      exact (List.pairwise_iff_getElem.1 B.ee) j i hj hi (by omega) x hx2 hx
  have hlt := B.lt
  clear B B0
  -- the marking
  refine loop_of (cs := [(false, [.int .i64])]) (fun x n h' => ∃ i : Nat, x.1 = (i : Int) ∧ i ≤ es.length ∧ n = es.length - i ∧ Marking h' gb b pl cl es i 0 ∧ Since b h h' ∧ h.size ≤ h'.size) ((0 : Int), ()) es.length rfl ⟨0, rfl, by omega, by omega, M0, s0, hsz⟩ ?_
  clear M0 s0 hsz k0 h0
  rintro ⟨n1, ⟨⟩⟩ m0 h1 ⟨i, hi, hile, rfl, M, s1, z1⟩
  simp only at hi
  subst hi
  dsimp only [flat, unc, unc1, List.nil_append, List.cons_append]
  obtain ⟨v, w, hb⟩ := M.box
  refine osome_mk rfl (loads_box hb ((pl, es.length, cl), ()) rfl ?_)
  dsimp only [flat, unc, unc1, List.nil_append, List.cons_append]
  refine cond_mk (fun g1 => ?_) (fun g1 => ?_)
  · have g1 := of_decide_eq_true g1
    have hilt : i < es.length := by omega
    obtain ⟨q1, hq1, c1⟩ := M.one.cells (i := i) (by rw [List.length_map]; omega)
    rw [List.getElem_map] at c1
    rw [show Int.toNat (i : Int) = i by omega]
    refine osome_mk rfl (loads_box hb ((pl, es.length, cl), ()) rfl ?_)
    dsimp only [flat, unc, unc1, List.nil_append, List.cons_append]
    refine need_of ⟨by omega, by omega⟩ (osome_mk hq1 (loads_of ((es[i].p, es[i].l, es[i].c), ()) c1 ?_))
    dsimp only [flat, unc, unc1, List.nil_append, List.cons_append]
    refine osome_mk rfl (loads_box hb ((pl, es.length, cl), ()) rfl ?_)
    dsimp only [flat, unc, unc1, List.nil_append, List.cons_append]
    refine need_of ⟨by omega, by omega⟩ (osome_mk hq1 (loads_of ((es[i].p, es[i].l, es[i].c), ()) c1 ?_))
    dsimp only [flat, unc, unc1, List.nil_append, List.cons_append]
    refine need_of ⟨by omega, by omega, by omega⟩ ?_
    clear hb c1 hq1 q1
    refine loop_of (cs := [(false, [.int .i64])]) (fun x n h' => ∃ j : Nat, x.1 = (j : Int) ∧ j ≤ es[i].c ∧ n = es[i].c - j ∧ Marking h' gb b pl cl es i j ∧ Since b h h' ∧ h.size ≤ h'.size) ((0 : Int), ()) es[i].c rfl ⟨0, rfl, by omega, by omega, M, s1, z1⟩ ?_
    clear M s1 z1 v w
    rintro ⟨n2, ⟨⟩⟩ m1 h2 ⟨j, hj, hjle, rfl, M, s2, z2⟩
    simp only at hj
    subst hj
    dsimp only [flat, unc, unc1, List.nil_append, List.cons_append]
    refine cond_mk (fun g2 => ?_) (fun g2 => ?_)
    · have g2 := of_decide_eq_true g2
      have hjlt : j < es[i].c := by omega
      refine callv_of (cap := []) (by kernel_rfl) rfl (mark38_hc i j h2) ?_
      rintro _ h3 ⟨rfl, e3⟩
      refine ⟨(IntKind.wrap .i64 (-100 - (i : Int)), (⟨#[]⟩ : ByteArray), (0 : Int), IntKind.wrap .i64 (0 - (j : Int)), ()), rfl, ?_⟩
      dsimp only [flat, unc, unc1, List.nil_append, List.cons_append]
      have M3 := M.keep e3 (by simp) (by simp) (by simp)
      refine need_of ⟨by omega, by omega⟩ ?_
      have hroom := M3.room i hilt
      rw [if_neg (by omega), if_pos rfl] at hroom
      cases hp : es[i].p with
      | none =>
        rw [hp] at hroom
        have : es[i].c = 0 := hroom
        omega
      | some a =>
        rw [hp] at hroom
        obtain ⟨g, o, cells, rfl, hbg, hcm, hbox, hr, hm⟩ := hroom
        have hgb : g ∈ es[i].blks := by unfold Ent.blks; rw [hp]; simp [blkOf]
        rw [if_neg (by omega)]
        refine osome_mk (a := ⟨g, o, none⟩) (by rw [Option.map_some, add_box, Nat.add_zero]) ?_
        rw [add_box, show Int.toNat (j : Int) = j by omega]
        refine stores_of hbox rfl (by simp; omega) ?_
        intro h4 hb4 k4 z4
        have hw : IntKind.wrap .i64 ((j : Int) + 1) = ((j + 1 : Nat) : Int) := by rw [wrap_i64 (by omega) (by omega)]; omega
        have hcl : (setL cells (o + j * 4) (mkL i j)).length = cells.length := setL_length _ _ _
        refine again_mk (cs := [(false, [.int .i64])]) (((j + 1 : Nat) : Int), ()) (es[i].c - (j + 1)) rfl (by omega) (congrArg (fun z => [Value.int .i64 z]) hw) ⟨j + 1, rfl, by omega, rfl, ?_, ?_, ?_⟩
        · obtain ⟨v, w, hb⟩ := M3.box
          refine ⟨⟨v, w, hb.keep k4 ?_⟩, M3.one.keep' k4 fun x hx => ?_, fun k hk => ?_⟩
          · simp; exact fun e => (eg es[i] (List.getElem_mem hilt) g hgb).1 e.symm
          · simp; intro e; subst e; exact (eg es[i] (List.getElem_mem hilt) x hgb).2.1 hx
          · by_cases hki : k = i
            · subst hki
              rw [if_neg (by omega), if_pos rfl, hp]
              refine ⟨g, o, _, rfl, hbg, hcm, hb4, by rw [setL_length]; exact hr, fun j' hj' => ?_⟩
              by_cases hjj : j' = j
              · subst hjj
                exact setL_take rfl (by omega)
              · rw [← hm j' (by omega)]
                exact setL_before (vs := mkL k j) (by show _ + 4 ≤ _; omega) (by omega)
            · have := M3.room k hk
              rw [if_neg hki] at this ⊢
              refine this.keep k4 fun x hx => ?_
              simp; intro e; subst e
              exact hpw k i hk hilt hki x (List.mem_append_left _ hx) hgb
        · exact (s2.trans (Since.of e3 (by simp))).trans (Since.of k4 fun x hx _ => by simp at hx; subst hx; exact hbg)
        · have := e3.size; have := k4.size; omega
    · have g2 := of_decide_eq_false g2
      have hj : j = es[i].c := by omega
      subst hj
      have hw : IntKind.wrap .i64 ((i : Int) + 1) = ((i + 1 : Nat) : Int) := by rw [wrap_i64 (by omega) (by omega)]; omega
      refine again_mk (cs := [(false, [.int .i64])]) (((i + 1 : Nat) : Int), ()) (es.length - (i + 1)) rfl (by omega) (congrArg (fun z => [Value.int .i64 z]) hw) ⟨i + 1, rfl, by omega, rfl, ⟨M.box, M.one, fun k hk => ?_⟩, s2, z2⟩
      have := M.room k hk
      by_cases hki : k < i
      · rw [if_pos hki] at this
        rw [if_pos (by omega)]; exact this
      · rw [if_neg hki] at this
        by_cases hke : k = i
        · subst hke
          rw [if_pos rfl] at this
          rw [if_pos (by omega)]; exact this
        · rw [if_neg hke] at this
          rw [if_neg (by omega)]
          by_cases hk1 : k = i + 1
          · rw [if_pos hk1]; exact this
          · rw [if_neg hk1]; exact this
  · have g1 := of_decide_eq_false g1
    have hi : i = es.length := by omega
    subst hi
    clear hb
    -- the look
    refine loop_of (cs := [(false, [.bool]), (false, [.int .i64])]) (fun x n h' => ∃ i : Nat, x.2.1 = (i : Int) ∧ i ≤ es.length ∧ n = es.length - i ∧ Marking h' gb b pl cl es es.length 0 ∧ Since b h h' ∧ h.size ≤ h'.size) (false, (0 : Int), ()) es.length rfl ⟨0, rfl, by omega, by omega, M, s1, z1⟩ ?_
    clear M s1 z1 v w
    rintro ⟨b7, n8, ⟨⟩⟩ m0 h2 ⟨i, hi, hile', rfl, M, s1, z1⟩
    simp only at hi
    subst hi
    dsimp only [flat, unc, unc1, List.nil_append, List.cons_append]
    obtain ⟨v, w, hb⟩ := M.box
    refine osome_mk rfl (loads_box hb ((pl, es.length, cl), ()) rfl ?_)
    dsimp only [flat, unc, unc1, List.nil_append, List.cons_append]
    refine cond_mk (fun g2 => ?_) (fun g2 => ?_)
    · have g2 := of_decide_eq_true g2
      have hilt : i < es.length := by omega
      obtain ⟨q1, hq1, c1⟩ := M.one.cells (i := i) (by rw [List.length_map]; omega)
      rw [List.getElem_map] at c1
      rw [show Int.toNat (i : Int) = i by omega]
      refine osome_mk rfl (loads_box hb ((pl, es.length, cl), ()) rfl ?_)
      dsimp only [flat, unc, unc1, List.nil_append, List.cons_append]
      refine need_of ⟨by omega, by omega⟩ (osome_mk hq1 (loads_of ((es[i].p, es[i].l, es[i].c), ()) c1 ?_))
      dsimp only [flat, unc, unc1, List.nil_append, List.cons_append]
      refine osome_mk rfl (loads_box hb ((pl, es.length, cl), ()) rfl ?_)
      dsimp only [flat, unc, unc1, List.nil_append, List.cons_append]
      refine need_of ⟨by omega, by omega⟩ (osome_mk hq1 (loads_of ((es[i].p, es[i].l, es[i].c), ()) c1 ?_))
      dsimp only [flat, unc, unc1, List.nil_append, List.cons_append]
      refine need_of ⟨by omega, by omega, by omega⟩ ?_
      clear hb c1 hq1 q1
      refine loop_of (cs := [(false, [.bool]), (false, [.int .i64])]) (fun x n h' => ∃ j : Nat, x.2.1 = (j : Int) ∧ j ≤ es[i].c ∧ n = es[i].c - j ∧ Marking h' gb b pl cl es es.length 0 ∧ Since b h h' ∧ h.size ≤ h'.size) (b7, (0 : Int), ()) es[i].c rfl ⟨0, rfl, by omega, by omega, M, s1, z1⟩ ?_
      clear M s1 z1 v w
      rintro ⟨b29, n30, ⟨⟩⟩ m1 h3 ⟨j, hj, hjle, rfl, M, s2, z2⟩
      simp only at hj
      subst hj
      dsimp only [flat, unc, unc1, List.nil_append, List.cons_append]
      refine cond_mk (fun g3 => ?_) (fun g3 => ?_)
      · have g3 := of_decide_eq_true g3
        have hjlt : j < es[i].c := by omega
        refine need_of ⟨by omega, by omega⟩ ?_
        have hroom := M.room i hilt
        rw [if_pos hilt] at hroom
        cases hp : es[i].p with
        | none =>
          rw [hp] at hroom
          have : es[i].c = 0 := hroom
          omega
        | some a =>
          rw [hp] at hroom
          obtain ⟨g, o, cells, rfl, hbg, hcm, hbox, hr, hm⟩ := hroom
          rw [if_neg (by omega)]
          refine osome_mk (a := ⟨g, o, none⟩) (by rw [Option.map_some, add_box, Nat.add_zero]) ?_
          rw [add_box, show Int.toNat (j : Int) = j by omega]
          refine loads_box hbox (IntKind.wrap .i64 (-100 - (i : Int)), (⟨#[]⟩ : ByteArray), (0 : Int), IntKind.wrap .i64 (0 - (j : Int)), ()) (hm j hjlt) ?_
          dsimp only [flat, unc, unc1, List.nil_append, List.cons_append]
          refine callv_of (cap := []) (by kernel_rfl) rfl (mark38_hc i j h3) ?_
          rintro _ h4 ⟨rfl, e4⟩
          refine ⟨(IntKind.wrap .i64 (-100 - (i : Int)), (⟨#[]⟩ : ByteArray), (0 : Int), IntKind.wrap .i64 (0 - (j : Int)), ()), rfl, ?_⟩
          dsimp only [flat, unc, unc1, List.nil_append, List.cons_append]
          refine ⟨⟨(hbox.keep e4 (by simp)).cells _ (hm j hjlt), trivial⟩, ?_⟩
          refine sem_bool (b := false) (fun K' hk => cmpTok _ _ _ _ _ _ _ _ _ _ _ _ (by rw [bytes_beq]; simpa using hk)) ?_
          refine cond_f rfl ?_
          have hw : IntKind.wrap .i64 ((j : Int) + 1) = ((j + 1 : Nat) : Int) := by rw [wrap_i64 (by omega) (by omega)]; omega
          exact again_mk (cs := [(false, [.bool]), (false, [.int .i64])]) (b29, ((j + 1 : Nat) : Int), ()) (es[i].c - (j + 1)) rfl (by omega) (congrArg (fun z => [Value.bool b29, .int .i64 z]) hw)
            ⟨j + 1, rfl, by omega, rfl, M.keep e4 (by simp) (by simp) (by simp), s2.trans (Since.of e4 (by simp)), by have := e4.size; omega⟩
      · have hw : IntKind.wrap .i64 ((i : Int) + 1) = ((i + 1 : Nat) : Int) := by rw [wrap_i64 (by omega) (by omega)]; omega
        exact again_mk (cs := [(false, [.bool]), (false, [.int .i64])]) (b29, ((i + 1 : Nat) : Int), ()) (es.length - (i + 1)) rfl (by omega) (congrArg (fun z => [Value.bool b29, .int .i64 z]) hw) ⟨i + 1, rfl, by omega, rfl, M, s2, z2⟩
    · refine osome_mk rfl (stores_of hb rfl (by simp) ?_)
      intro h3 hb3 k3 z3
      refine osome_mk rfl ?_
      rw [add_box]
      refine stores_of hb3 rfl (by simp [setL]) ?_
      intro h4 hb4 k4 z4
      refine osome_mk rfl ?_
      rw [add_box]
      refine stores_of hb4 rfl (by simp [setL]) ?_
      intro h5 hb5 k5 z5
      have hs : ∀ {a c : Hp}, Ch [gb] a c → Since b a c := fun k => Since.of k fun x hx _ => by simp at hx; subst hx; exact hge
      exact ⟨rfl, ((s1.trans (hs k3)).trans (hs k4)).trans (hs k5)⟩
end Go.Sx
