/- LineSpaced answers true, over heaps. Condition: the error variables hold interface values. -/
import Derived.Test.YtpbjlnlekobodaaDoorLineC
import Derived.Test.YtpbjlnlekobodaaDoorLineD
set_option linter.unusedVariables false
set_option linter.unusedSimpArgs false
set_option linter.deprecated false
set_option maxRecDepth 100000
namespace Go.Sx
open Go.Proofs
theorem lineSpaced_hc (s u : ByteArray) (h : Hp) (hl : Laid h) : HC Tryd.prog 10 #[.string s, .string u] h fun v h' => v = .bool true ∧ Ext h h' := by
  refine hcr_of (args := [.string s, .string u]) mixed Tryd.func10 (by kernel_rfl) (t_spandrellaw3_LineSpaced_eq s u) ?_
  unfold t_spandrellaw3_LineSpaced
  refine call_str (few3_hc s 500 h (by omega)) ?_
  obtain ⟨s1, hs1⟩ : ∃ s1, s1 = s.extract 0 (min (Int.toNat 500) s.size) := ⟨_, rfl⟩
  rw [← hs1]
  have hz : s1.size ≤ 500 := by rw [hs1, ext_size]; omega
  clear hs1
  refine call_of (parse_hc s1 h (by omega) hl) ?_
  rintro _ h1 ⟨e1, p, c, al, rfl, A1, hal⟩
  refine ⟨((parseS s1).1.label, (parseS s1).1.op, (p, al.length, c), ((parseS s1).2.1 : Int), ((parseS s1).2.2 : Int), ()), rfl, ?_⟩
  dsimp only [unc, unc1, flat, List.nil_append, List.cons_append]
  refine newB ?_
  intro h2 b2 e2 z2
  refine stores_of b2 rfl (by simp) ?_
  intro h3 b3 k3 z3
  have b3 : Box h3 h1.size 48 [.string (parseS s1).1.label, .string (parseS s1).1.op, .slice p al.length c] := b3
  have e13 : Ext h1 h3 := Ch.trans e2 k3 (fun i hi hl => by simp at hi; omega)
  have e03 := e1.trans e13
  have hza : (⟨#[9, 32, 32]⟩ ++ s1 : ByteArray).size = 3 + s1.size := by rw [ByteArray.size_append]; rfl
  have hzb : ((⟨#[9, 32, 32]⟩ ++ s1) ++ ⟨#[32, 59]⟩ : ByteArray).size = 3 + s1.size + 2 := by rw [ByteArray.size_append, hza]; rfl
  refine need_of (by omega) (need_of (by omega) ?_)
  refine call_str (few3_hc u 100 h3 (by omega)) ?_
  obtain ⟨u1, hu1⟩ : ∃ u1, u1 = u.extract 0 (min (Int.toNat 100) u.size) := ⟨_, rfl⟩
  rw [← hu1]
  have huz : u1.size ≤ 100 := by rw [hu1, ext_size]; omega
  clear hu1
  refine need_of (by omega) ?_
  obtain ⟨s2, hs2⟩ : ∃ s2, s2 = ((⟨#[9, 32, 32]⟩ ++ s1) ++ ⟨#[32, 59]⟩) ++ u1 := ⟨_, rfl⟩
  rw [← hs2]
  have hz2 : s2.size = 3 + s1.size + 2 + u1.size := by rw [hs2, ByteArray.size_append, hzb]
  have hsp := parse_spaced (s := s1) (s' := s2) (u := u1.data.toList) (by
    rw [hs2, ba_app, ba_app, ba_app]
    simp)
  clear hs2 hza hzb
  refine call_of (parse_hc s2 h3 (by omega) (hl.ext e03)) ?_
  rintro _ h4 ⟨e4, p', c', al', rfl, A4, hal'⟩
  refine ⟨((parseS s2).1.label, (parseS s2).1.op, (p', al'.length, c'), ((parseS s2).2.1 : Int), ((parseS s2).2.2 : Int), ()), rfl, ?_⟩
  dsimp only [unc, unc1, flat, List.nil_append, List.cons_append]
  refine newB ?_
  intro h5 b5 e5 z5
  refine stores_of b5 rfl (by simp) ?_
  intro h6 b6 k6 z6
  have b6 : Box h6 h4.size 48 [.string (parseS s2).1.label, .string (parseS s2).1.op, .slice p' al'.length c'] := b6
  have e46 : Ext h4 h6 := Ch.trans e5 k6 (fun i hi hl => by simp at hi; omega)
  have e06 : Ext h h6 := (e03.trans e4).trans e46
  have c3 := (b3.keep e4 (by simp)).keep e46 (by simp)
  have A6 := (A1.keep (e13.trans (e4.trans e46)) (by simp) (by simp))
  have A6' := A4.keep e46 (by simp) (by simp)
  have hne := parseS_ne s1
  have hb := parseS_bound s1
  have hat0 := parseS_at s1
  clear A1 A4 b3 b5 e46 k6 z6 e5 z5 e4 e03 e13 k3 z3 e2 b2 z2
  rcases hsp with ⟨r1, r2, r3, r4, r5⟩ | ⟨r1, r2, r3⟩
  · rw [r1, r2]
    refine cond_f rfl (cond_f rfl ?_)
    refine loads_box c3 ((parseS s1).1.label, ()) rfl ?_
    dsimp only [unc, unc1, flat, List.nil_append, List.cons_append]
    refine loads_box b6 ((parseS s2).1.label, ()) rfl ?_
    dsimp only [unc, unc1, flat, List.nil_append, List.cons_append]
    refine cond_f (by rw [r3]; simp) ?_
    rw [add_box, add_box]
    refine loads_box c3 ((parseS s1).1.op, ()) rfl ?_
    dsimp only [unc, unc1, flat, List.nil_append, List.cons_append]
    refine loads_box b6 ((parseS s2).1.op, ()) rfl ?_
    dsimp only [unc, unc1, flat, List.nil_append, List.cons_append]
    refine cond_f (by rw [r4]; simp) ?_
    rw [add_box, add_box]
    refine loads_box c3 ((p, al.length, c), ()) rfl ?_
    dsimp only [unc, unc1, flat, List.nil_append, List.cons_append]
    refine loads_box b6 ((p', al'.length, c'), ()) rfl ?_
    dsimp only [unc, unc1, flat, List.nil_append, List.cons_append]
    have hts : al'.map In.ts = (al.map In.ts).map (List.map (sh 3)) := by rw [hal', r5, hal]
    have hlen : al'.length = al.length := by
      have := congrArg List.length hts
      simpa using this
    have hne' : ∀ a, a ∈ al → a.ts ≠ [] := fun a ha => hne a.ts (by rw [← hal]; exact List.mem_map.2 ⟨a, ha, rfl⟩)
    have hbl : ∀ a, a ∈ al → a.ts.length ≤ s1.size := fun a ha => hb.1 a.ts (by rw [← hal]; exact List.mem_map.2 ⟨a, ha, rfl⟩)
    have hall : al.length ≤ s1.size + 1 := by
      have := congrArg List.length hal
      rw [List.length_map] at this
      rw [this]; exact hb.2
    refine cond_f (by rw [hlen]; simp) ?_
    refine loop_of (cs := [(false, [.bool]), (false, [.int .i64])]) (fun x n h' => ∃ i : Nat, x.2.1 = (i : Int) ∧ i ≤ al.length ∧ n = al.length - i ∧ Ext h6 h') (false, (0 : Int), ()) al.length rfl ⟨0, rfl, by omega, by omega, Ch.refl _ _⟩ ?_
    rintro ⟨b30, n31, ⟨⟩⟩ m h7 ⟨i, hi, hile, rfl, e7⟩
    simp only at hi
    subst hi
    dsimp only [unc, unc1, flat, List.nil_append, List.cons_append]
    have c7 := c3.keep e7 (by simp)
    have b7 := b6.keep e7 (by simp)
    refine loads_box c7 ((p, al.length, c), ()) rfl ?_
    dsimp only [unc, unc1, flat, List.nil_append, List.cons_append]
    refine cond_mk (fun g1 => ?_) (fun g1 => known3_end hl (e06.trans e7))
    have g1 := of_decide_eq_true g1
    have hilt : i < al.length := by omega
    have hilt' : i < al'.length := by omega
    obtain ⟨a, rfl, hc⟩ := (A6.keep e7 (by simp) (by simp)).out.cells (i := i) (by rw [List.length_map]; exact hilt)
    obtain ⟨a', rfl, hc'⟩ := (A6'.keep e7 (by simp) (by simp)).out.cells (i := i) (by rw [List.length_map]; exact hilt')
    rw [List.getElem_map] at hc hc'
    have hq := (A6.inn al[i] (List.getElem_mem hilt)).keep e7 (by simp)
    have hq' := (A6'.inn al'[i] (List.getElem_mem hilt')).keep e7 (by simp)
    have hqne := hne' al[i] (List.getElem_mem hilt)
    have hqb := hbl al[i] (List.getElem_mem hilt)
    have hqat : ∀ t, t ∈ al[i].ts → t.at_ ≤ s1.size := fun t ht => hat0.2 al[i].ts (by rw [← hal]; exact List.mem_map.2 ⟨al[i], List.getElem_mem hilt, rfl⟩) t ht
    have hqt : al'[i].ts = al[i].ts.map (sh 3) := by
      have h1 : (al'.map In.ts)[i]'(by simpa using hilt') = al'[i].ts := by simp
      have h2 : ((al.map In.ts).map (List.map (sh 3)))[i]'(by simpa using hilt) = al[i].ts.map (sh 3) := by simp
      rw [← h1, ← h2]
      congr 1
    generalize al[i] = q at hc hq hqne hqb hqt hqat
    generalize al'[i] = q' at hc' hq' hqt
    have hql : q.l = q.ts.length := by rw [hq.1, List.length_map]
    have hql' : q'.l = q.l := by rw [hq'.1, List.length_map, hqt, List.length_map, hql]
    have hqpos : q.ts.length ≠ 0 := fun hh => hqne (List.eq_nil_of_length_eq_zero hh)
    rw [show Int.toNat (i : Int) = i by omega]
    have ld1 : ∀ {hh : Hp} {L : Lp} {K : Value → Hp → Prop} {kk : Option Addr → Nat → Nat → T}, Ext h7 hh → kk q.p q.l q.c L K hh →
        T.loads (⟨h1.size, 0 + 2, none⟩ : Addr) [.slice 23] (fun p39 l40 l41 => T.need (((0 : Int) ≤ (i : Int)) ∧ ((i : Int) < (l40 : Int))) <| T.osome p39 <| fun a45 => T.loads (a45.add (i * 1)) [.slice 35] kk) L K hh := by
      intro hh L K kk e hk
      refine loads_box (c7.keep e (by simp)) ((some a, al.length, c), ()) rfl ?_
      refine need_of ⟨by omega, by omega⟩ (osome_mk rfl ?_)
      exact loads_of ((q.p, q.l, q.c), ()) (cellsAt_keep e (by simp) _ _ hc) hk
    have ld2 : ∀ {hh : Hp} {L : Lp} {K : Value → Hp → Prop} {kk : Option Addr → Nat → Nat → T}, Ext h7 hh → kk q'.p q'.l q'.c L K hh →
        T.loads (⟨h4.size, 0 + 2, none⟩ : Addr) [.slice 23] (fun p39 l40 l41 => T.need (((0 : Int) ≤ (i : Int)) ∧ ((i : Int) < (l40 : Int))) <| T.osome p39 <| fun a45 => T.loads (a45.add (i * 1)) [.slice 35] kk) L K hh := by
      intro hh L K kk e hk
      refine loads_box (b7.keep e (by simp)) ((some a', al'.length, c'), ()) rfl ?_
      dsimp only [unc, unc1, flat, List.nil_append, List.cons_append]
      refine need_of ⟨by omega, by omega⟩ (osome_mk rfl ?_)
      exact loads_of ((q'.p, q'.l, q'.c), ()) (cellsAt_keep e (by simp) _ _ hc') hk
    refine ld1 (Ch.refl _ _) (ld2 (Ch.refl _ _) ?_)
    refine cond_f (by rw [hql']; simp) (ld1 (Ch.refl _ _) ?_)
    refine cond_f (by show ((q.l : Int) == 0) = false; simp only [beq_eq_false_iff_ne, ne_eq]; omega) ?_
    refine loop_of (cs := [(false, [.bool]), (false, [.int .i64])]) (fun x n h' => ∃ j : Nat, x.2.1 = (j : Int) ∧ j ≤ q.l ∧ n = q.l - j ∧ Ext h7 h') (b30, (0 : Int), ()) q.l rfl ⟨0, rfl, by omega, by omega, Ch.refl _ _⟩ ?_
    rintro ⟨b56, n57, ⟨⟩⟩ m h8 ⟨j, hj, hjle, rfl, e8⟩
    simp only at hj
    subst hj
    dsimp only [unc, unc1, flat, List.nil_append, List.cons_append]
    refine ld1 e8 (cond_mk (fun g2 => ?_) (fun g2 => ?_))
    · have g2 : (j : Int) < (q.l : Int) := of_decide_eq_true g2
      have hjlt : j < q.ts.length := by omega
      have hjlt' : j < q'.ts.length := by rw [hqt, List.length_map]; exact hjlt
      refine ld2 e8 ?_
      obtain ⟨x', hx', hd'⟩ := (hq'.keep e8 (by simp)).cells (i := j) (by simpa using hjlt')
      obtain ⟨x, hx, hd⟩ := (hq.keep e8 (by simp)).cells (i := j) (by simpa using hjlt)
      rw [List.getElem_map] at hd hd'
      have ht : q'.ts[j] = sh 3 q.ts[j] := by
        have : (q.ts.map (sh 3))[j]'(by simpa using hjlt) = sh 3 q.ts[j] := by simp
        rw [← this]
        congr 1
      rw [ht] at hd'
      have htat := hqat q.ts[j] (List.getElem_mem hjlt)
      generalize q.ts[j] = t at hd hd' htat
      refine need_of ⟨by omega, by omega⟩ (osome_mk hx' ?_)
      rw [show Int.toNat (j : Int) = j by omega]
      refine loads_of ((t.kind : Int), t.text, (t.num : Int), ((t.at_ + 3 : Nat) : Int), ()) hd' ?_
      dsimp only [unc, unc1, flat, List.nil_append, List.cons_append]
      refine newB ?_
      intro h9 b9 e9 z9
      refine stores_of b9 rfl (by simp) ?_
      intro h10 b10 k10 z10
      have b10 : Box h10 h8.size 35 [.int .i64 t.kind, .string t.text, .int .u32 t.num, .int .i64 ((t.at_ + 3 : Nat) : Int)] := b10
      rw [add_box]
      refine loads_box b10 (((t.at_ + 3 : Nat) : Int), ()) rfl ?_
      dsimp only [unc, unc1, flat, List.nil_append, List.cons_append]
      refine stores_of b10 rfl (by simp) ?_
      intro h11 b11 k11 z11
      have e811 : Ext h8 h11 := Ch.trans (Ch.trans e9 k10 (fun i hi hl => by simp at hi; omega)) k11 (fun i hi hl => by simp at hi; omega)
      have b11 : Box h11 h8.size 35 [.int .i64 t.kind, .string t.text, .int .u32 t.num, .int .i64 (IntKind.wrap .i64 (((t.at_ + 3 : Nat) : Int) - 3))] := b11
      refine loads_box b11 ((t.kind : Int), t.text, (t.num : Int), IntKind.wrap .i64 (((t.at_ + 3 : Nat) : Int) - 3), ()) rfl ?_
      dsimp only [unc, unc1, flat, List.nil_append, List.cons_append]
      have e711 := e8.trans e811
      refine loads_box (c7.keep e711 (by simp)) ((some a, al.length, c), ()) rfl ?_
      refine need_of ⟨by omega, by omega⟩ (osome_mk rfl ?_)
      refine loads_of ((q.p, q.l, q.c), ()) (cellsAt_keep e711 (by simp) _ _ hc) ?_
      dsimp only [unc, unc1, flat, List.nil_append, List.cons_append]
      refine need_of ⟨by omega, by omega⟩ (osome_mk hx ?_)
      refine loads_of ((t.kind : Int), t.text, (t.num : Int), (t.at_ : Int), ()) (cellsAt_keep e811 (by simp) _ _ hd) ?_
      dsimp only [unc, unc1, flat, List.nil_append, List.cons_append]
      have hat : IntKind.wrap .i64 (((t.at_ + 3 : Nat) : Int) - 3) = (t.at_ : Int) := by rw [wrap_i64 (by omega) (by omega)]; omega
      rw [hat]
      refine sem_bool (b := false) (fun K' hk => cmpTok _ _ _ _ _ _ _ _ _ _ _ _ (by rw [bytes_beq]; simpa using hk)) ?_
      refine ⟨⟨cellsAt_keep e711 (by simp) _ _ hc, (c7.keep e711 (by simp)).cells _ rfl, trivial⟩, ?_⟩
      refine cond_f rfl ?_
      have hw : IntKind.wrap .i64 ((j : Int) + 1) = ((j + 1 : Nat) : Int) := by rw [wrap_i64 (by omega) (by omega)]; omega
      exact again_mk (cs := [(false, [.bool]), (false, [.int .i64])]) (b56, ((j + 1 : Nat) : Int), ()) (q.l - (j + 1)) rfl (by omega) (congrArg (fun z => [Value.bool b56, .int .i64 z]) hw) ⟨j + 1, rfl, by omega, rfl, e711⟩
    · have hw : IntKind.wrap .i64 ((i : Int) + 1) = ((i + 1 : Nat) : Int) := by rw [wrap_i64 (by omega) (by omega)]; omega
      exact again_mk (cs := [(false, [.bool]), (false, [.int .i64])]) (b56, ((i + 1 : Nat) : Int), ()) (al.length - (i + 1)) rfl (by omega) (congrArg (fun z => [Value.bool b56, .int .i64 z]) hw) ⟨i + 1, rfl, by omega, rfl, e7.trans e8⟩
  · rw [r1, r2]
    refine cond_f rfl (cond_t rfl ?_)
    rcases r3 with r3 | ⟨r3, r4⟩
    · refine cond_t ?_ (known3_end hl e06)
      have hw : IntKind.wrap .i64 (((parseS s1).2.1 : Int) + 3) = (((parseS s1).2.1 + 3 : Nat) : Int) := by have := hat0.1; rw [wrap_i64 (by omega) (by omega)]; omega
      rw [hw, r3]
      simp
    · refine cond_mk (fun g1 => known3_end hl e06) (fun g1 => ?_)
      refine cond_t (by rw [r3]; simp) (cond_t (by rw [r3, r4]; exact decide_eq_true (by omega)) (known3_end hl e06))
end Go.Sx
