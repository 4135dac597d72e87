/- LexKept answers true, over heaps. Condition: the error variables hold interface values. -/
import Derived.Test.YtpbjlnlekobodaaDoorBookB
set_option linter.unusedVariables false
set_option linter.unusedSimpArgs false
set_option linter.deprecated false
set_option maxRecDepth 100000
namespace Go.Sx
open Go.Proofs
theorem Since.toExt {h h' : Hp} (s : Since h.size h h') : Ext h h' := ⟨s.1, fun i hi _ => s.2 i hi hi⟩
theorem BookTo.since {h h' : Hp} {gb b : Nat} {pl pw p : Option Addr} {es es' : List Ent} (t : BookTo h gb b pl pw es p h' es') (hgb : b ≤ gb) (hpl : ∀ i, i ∈ blkOf pl → b ≤ i) (hpw : ∀ i, i ∈ blkOf pw → b ≤ i) : Since b h h' := by
  obtain ⟨_, _, _, _, _, k, _⟩ := t
  refine Since.of k fun i hi _ => ?_
  rcases List.mem_cons.1 hi with rfl | hi
  · exact hgb
  · rcases List.mem_append.1 hi with hi | hi
    · exact hpl i hi
    · exact hpw i hi
theorem Book.empty {h : Hp} {gb b : Nat} (hb : Box h gb 40 [.slice none 0 0, .slice none 0 0, .int .i64 0, .bool false]) (hge : b ≤ gb) : Book h gb b none 0 none 0 [] :=
  ⟨⟨0, hb⟩, hge, SL.nil _ _ _ _, SL.nil _ _ _ _, by simp, by simp [blkOf], by simp [blkOf], by simp [blkOf], by simp, by simp, List.Pairwise.nil⟩
theorem lexKept_hc (s : ByteArray) (h : Hp) (hl : Laid h) : HC Tryd.prog 6 #[.string s] h fun v h' => v = .bool true ∧ Ext h h' := by
  refine hcr_of (args := [.string s]) mixed Tryd.func6 (by kernel_rfl) (t_spandrellaw2_LexKept_eq s) ?_
  unfold t_spandrellaw2_LexKept
  refine call_str (few_hc s 500 h (by omega)) ?_
  obtain ⟨s1, hs1⟩ : ∃ s1, s1 = s.extract 0 (min (Int.toNat 500) s.size) := ⟨_, rfl⟩
  rw [← hs1]
  have hz : s1.size ≤ 500 := by rw [hs1, ext_size]; omega
  clear hs1
  refine newB ?_
  intro h1 b1 e1 z1
  refine loop_of (cs := [(false, [.int .i64])]) (fun x n h' => ∃ i : Nat, x.1 = (i : Int) ∧ i ≤ 2 ∧ n = 2 - i ∧ Since h.size h h' ∧ ∃ pl cl pw cw es, Book h' h.size h.size pl cl pw cw es ∧ es.length ≤ 4000) ((0 : Int), ()) 2 rfl
    ⟨0, rfl, by omega, by omega, Since.of e1 (by simp), _, _, _, _, _, Book.empty b1 (Nat.le_refl _), by simp⟩ ?_
  clear b1 e1 z1 h1
  rintro ⟨n3, ⟨⟩⟩ m h2 ⟨i, hi, hile, rfl, s2, pl, cl, pw, cw, es, B, hes⟩
  simp only at hi
  subst hi
  dsimp only [flat, unc, unc1, List.nil_append, List.cons_append]
  refine cond_mk (fun g1 => ?_) (fun g1 => ?_)
  · have g1 := of_decide_eq_true g1
    refine call_of (tokens_hc s1 h2 (by omega) (hl.ext s2.toExt)) ?_
    rintro _ h3 ⟨p, l, c, rfl, sl, e3⟩
    refine ⟨((p, l, c), ((lexS s1).2.1 : Int), ((lexS s1).2.2 : Int), ()), rfl, ?_⟩
    dsimp only [unc, unc1, flat, List.nil_append, List.cons_append]
    have B3 := B.keep e3 (by simp) (by simp) (by simp) (by simp)
    have hlt := B.lt
    have hlen := lexS_len s1
    have hsz := s2.1
    have hsz3 := e3.size
    refine call_of (keep_hc B3 hes (sl.mono (by omega)) (by omega) (fun x hx => ?_) (by omega)) ?_
    · have hx := (sl.blk hx).1
      refine ⟨by have := hlt.1; omega, fun hh => ?_, fun hh => ?_, fun e he hh => ?_⟩
      · have := hlt.2.1 x hh; omega
      · have := hlt.2.2.1 x hh; omega
      · have := hlt.2.2.2 e he x hh; omega
    · rintro _ h4 ⟨rfl, es', hes', hto⟩
      refine ⟨(), rfl, ?_⟩
      have hw : IntKind.wrap .i64 ((i : Int) + 1) = ((i + 1 : Nat) : Int) := by rw [wrap_i64 (by omega) (by omega)]; omega
      have s4 := hto.since (Nat.le_refl _) (fun x hx => (B.one.blk hx).1) (fun x hx => (B.two.blk hx).1)
      obtain ⟨pl', cl', pw', cw', B4, _⟩ := hto
      exact again_mk (cs := [(false, [.int .i64])]) (((i + 1 : Nat) : Int), ()) (2 - (i + 1)) rfl (by omega) (congrArg (fun z => [Value.int .i64 z]) hw) ⟨i + 1, rfl, by omega, rfl, (s2.trans (Since.of e3 (by simp))).trans s4, pl', cl', pw', cw', es', B4, hes'⟩
  · refine call_of (apart_hc B hes s2.1) ?_
    rintro _ h3 ⟨rfl, s3⟩
    refine ⟨(true, ()), rfl, ?_⟩
    dsimp only [unc, unc1, flat, List.nil_append, List.cons_append]
    refine cond_t rfl ?_
    exact known_end hl (s2.trans s3).toExt
end Go.Sx
