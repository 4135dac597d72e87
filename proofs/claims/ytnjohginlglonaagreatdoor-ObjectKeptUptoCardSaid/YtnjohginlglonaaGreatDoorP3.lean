/- Contracts over heaps, and plain laws, for the functions that the laws of chapter 10 call, part 3: Writers over heaps: numbers, texts, sums. Writers over heaps: sums of names. The first append behind []byte(".."): that slice's block is marked behind its end. Writers over heaps: sections. Write over heaps. Readers over heaps: Get, GetText, refuse, numbers, texts. Readers over heaps: refuse, numbers, texts. Readers over heaps: sums of names. Readers over heaps: refusals at the place where a thing begins; signed numbers. Condition: as each statement says. -/
import Derived.Test.YtnjohginlglonaaGreatDoorP2
set_option linter.unusedVariables false
set_option linter.unusedSimpArgs false
set_option maxRecDepth 100000
namespace Go.Sx.Ob
open Go.Proofs
theorem und22 : Tryz.prog.underlying 22 = some (.slice 5) := by kernel_rfl
theorem byZ : (Tryz.prog.info? 5).map (fun i => (i.zero, i.size, i.bytes)) = some (some (.int .u8 0), 1, 1) := by kernel_rfl
/-- A writer at a block, with its bytes. -/
def WrS (h : Hp) (b0 g : Nat) (p : Option Addr) (bs : Bt) (many : Bool) : Prop := ∃ l c, Box h g 92 [.slice p l c, .bool many] ∧ SL h b0 5 1 p l c (byC bs) ∧ g ∉ blkOf p ∧ b0 ≤ g
def Wst (g : Nat) (h : Hp) (p : Option Addr) (h' : Hp) (p' : Option Addr) : Prop := Ch (g :: blkOf p) h h' ∧ (p' = p ∨ ∃ a, p' = some a ∧ h.size ≤ a.block)
theorem Wst.refl (g : Nat) (h : Hp) (p : Option Addr) : Wst g h p h p := ⟨Ch.refl _ _, .inl rfl⟩
theorem Wst.trans {g : Nat} {h h1 h2 : Hp} {p p1 p2 : Option Addr} (a : Wst g h p h1 p1) (b : Wst g h1 p1 h2 p2) : Wst g h p h2 p2 := by
  refine ⟨a.1.trans b.1 ?_, ?_⟩
  · intro i hi hl
    rcases List.mem_cons.1 hi with rfl | hi
    · simp
    · rcases a.2 with h1 | ⟨q, h1, h3⟩
      · rw [h1] at hi
        exact List.mem_cons_of_mem _ hi
      · rw [h1] at hi
        simp [blkOf] at hi
        omega
  · rcases b.2 with h3 | ⟨q, h3, h4⟩
    · rcases a.2 with h5 | ⟨r, h5, h6⟩
      · exact .inl (h3.trans h5)
      · exact .inr ⟨r, h3.trans h5, h6⟩
    · exact .inr ⟨q, h3, Nat.le_trans a.1.size h4⟩
theorem Wst.of {g : Nat} {h h' : Hp} (e : Ext h h') (p : Option Addr) : Wst g h p h' p := ⟨e.mono (by simp), .inl rfl⟩
theorem SL.blk {h : Hp} {b : Nat} {e : TypeId} {sz : Nat} {p : Option Addr} {l c : Nat} {xs : List (List Value)} (s : SL h b e sz p l c xs) : ∀ i, i ∈ blkOf p → b ≤ i ∧ i < h.size := by
  intro i hi
  cases p with
  | none => simp [blkOf] at hi
  | some a =>
    obtain ⟨g, pre, rest, rfl, hb, _, hbox, _⟩ := s.2.2
    simp [blkOf] at hi
    exact ⟨by omega, by rw [hi]; exact hbox.lt⟩
theorem WrS.blk {h : Hp} {b0 g : Nat} {p : Option Addr} {bs : Bt} {many : Bool} (w : WrS h b0 g p bs many) : ∀ i, i ∈ g :: blkOf p → b0 ≤ i ∧ i < h.size := by
  obtain ⟨l, c, b, s, hg, hb⟩ := w
  intro i hi
  rcases List.mem_cons.1 hi with rfl | hi
  · exact ⟨hb, b.lt⟩
  · exact Ob.SL.blk s i hi
theorem WrS.ext {h0 h h' : Hp} {g : Nat} {p p' : Option Addr} {bs : Bt} {many : Bool} (w : WrS h h0.size g p bs many) (e : Ext h0 h) (s : Wst g h p h' p') : Ext h0 h' :=
  Ch.trans e s.1 (fun i hi hl => absurd (w.blk i hi).1 (by omega))
theorem WrS.keep {h h' : Hp} {b0 g : Nat} {p : Option Addr} {bs : Bt} {many : Bool} (w : WrS h b0 g p bs many) (e : Ext h h') : WrS h' b0 g p bs many := by
  obtain ⟨l, c, b, s, hg, hb⟩ := w
  exact ⟨l, c, b.keep e (by simp), s.keep e (by simp), hg, hb⟩
/-- What is written behind in the slice is put into the writer. -/
theorem WrS.put {h h1 h2 : Hp} {b0 g : Nat} {p p1 : Option Addr} {l1 c1 : Nat} {bs bs' : Bt} {many many' : Bool} (w : WrS h b0 g p bs many) (s1 : SL h1 b0 5 1 p1 l1 c1 (byC bs')) (c : Ch (blkOf p) h h1) (hm : p1 = p ∨ ∃ a, p1 = some a ∧ h.size ≤ a.block)
    (b2 : Box h2 g 92 [.slice p1 l1 c1, .bool many']) (k2 : Ch [g] h1 h2) : WrS h2 b0 g p1 bs' many' ∧ Wst g h p h2 p1 := by
  obtain ⟨l, cc, b, s, hg, hb⟩ := w
  have hg1 : g ∉ blkOf p1 := by
    rcases hm with h3 | ⟨a, h3, h4⟩
    · rw [h3]; exact hg
    · rw [h3]
      have := b.lt
      simp [blkOf]
      omega
  refine ⟨⟨l1, c1, b2, s1.keep k2 (fun a ha hi => hg1 (by rw [ha]; simp at hi; simp [blkOf, hi])), hg1, hb⟩, ?_, hm⟩
  exact (c.mono (fun i hi _ => List.mem_cons_of_mem _ hi)).trans k2 (fun i hi _ => by simp at hi; simp [hi])
theorem bytB_succ (n w : Nat) : bytB n (w + 1) = UInt8.ofNat n :: bytB (n / 256) w := rfl
theorem wNumber_hc {h : Hp} {b0 g : Nat} {p : Option Addr} {bs : Bt} {many : Bool} (w : WrS h b0 g p bs many) (n k : Nat) (hb : b0 ≤ h.size) (hl : bs.length + k ≤ 2 ^ 40) :
    HC Tryz.prog 39 #[.pointer (some ⟨g, 0, none⟩), .int .u32 n, .int .i64 k] h fun v h' => v = .tuple #[] ∧ ∃ p', WrS h' b0 g p' (bs ++ bytB n k) many ∧ Wst g h p h' p' := by
  refine hcr_of (args := [.pointer (some ⟨g, 0, none⟩), .int .u32 n, .int .i64 k]) mixed Tryz.func39 (by kernel_rfl) (t_object_writer__number_eq (some ⟨g, 0, none⟩) n k) ?_
  unfold t_object_writer__number
  refine loop_of (cs := [(false, [.int .u32]), (false, [.int .i64])]) (fun y m h' => ∃ (i r : Nat) (p' : Option Addr) (cs : Bt), y.1 = (r : Int) ∧ y.2.1 = (i : Int) ∧ i ≤ k ∧ m = k - i ∧ WrS h' b0 g p' cs many ∧ Wst g h p h' p' ∧ bs ++ bytB n k = cs ++ bytB r (k - i) ∧ cs.length = bs.length + i) ((n : Int), (0 : Int), ()) k rfl
    ⟨0, n, p, bs, rfl, rfl, by omega, by omega, w, Wst.refl _ _ _, rfl, rfl⟩ ?_
  rintro ⟨n3, n4, ⟨⟩⟩ m h1 ⟨i, r, p1, cs, hr, hi, hik, rfl, w1, s1, hbs, hcl⟩
  simp only at hr hi
  subst hr hi
  dsimp only [flat, unc, unc1, List.nil_append, List.cons_append]
  refine cond_mk (fun q => ?_) (fun q => ?_)
  · have q := of_decide_eq_true q
    obtain ⟨l, c, b, s, hg, hbg⟩ := id w1
    refine osome_mk rfl ?_
    refine loads_box b ((p1, l, c), ()) rfl ?_
    dsimp only [flat, unc, unc1, List.nil_append, List.cons_append]
    have hl1 : l = cs.length := by rw [s.1, byC_length]
    have hs0 := s1.1.size
    refine push_of (z := .int .u8 0) (vs := [.int .u8 (IntKind.wrap .u8 r)]) und22 byZ rfl (by omega) (by omega) (by kernel_rfl) rfl rfl s (by omega) (by omega) (by omega) ?_
    intro p2 c2 h2 s2 k2 hp2
    refine osome_mk rfl ?_
    refine stores_of (b.keep k2 hg) rfl (by simp) ?_
    intro h3 b3 k3 z3
    have hv : (byC cs ++ [[.int .u8 (IntKind.wrap .u8 r)]] : List (List Value)) = byC (cs ++ [UInt8.ofNat r]) := by
      rw [byC_append, wrap_u8_mod]
      unfold byC
      simp
    rw [hv] at s2
    obtain ⟨w3, s3⟩ := w1.put (bs' := cs ++ [UInt8.ofNat r]) s2 k2 hp2 b3 k3
    refine need_of (by omega) ?_
    refine again_mk (cs := [(false, [.int .u32]), (false, [.int .i64])]) (((r / 256 : Nat) : Int), ((i + 1 : Nat) : Int), ()) (k - (i + 1)) rfl (by omega) (by rw [wrap_i64 (by omega) (by omega), Int.fdiv_eq_ediv_of_nonneg _ (by omega)]; rfl) ?_
    refine ⟨i + 1, r / 256, p2, cs ++ [UInt8.ofNat r], rfl, rfl, by omega, rfl, w3, s1.trans s3, ?_, by simp; omega⟩
    rw [hbs, show k - i = k - (i + 1) + 1 by omega, bytB_succ]
    simp
  · have q := of_decide_eq_false q
    have : k - i = 0 := by omega
    rw [this] at hbs
    refine ⟨rfl, p1, ?_, s1⟩
    rw [hbs]
    simpa [bytB] using w1
theorem Wst.box {g k : Nat} {h h' : Hp} {p p' : Option Addr} {e : TypeId} {xs : List Value} (b : Box h k e xs) (hk : k ∉ g :: blkOf p) (s : Wst g h p h' p') : Box h' k e xs ∧ k ∉ g :: blkOf p' := by
  refine ⟨b.keep s.1 hk, ?_⟩
  rcases s.2 with h3 | ⟨a, h3, h4⟩
  · rw [h3]; exact hk
  · rw [h3]
    have := b.lt
    have h5 : k ≠ g := fun e => hk (by rw [e]; simp)
    simp [blkOf]
    omega
theorem wrap_u32 (n : Int) : IntKind.wrap .u32 n = ((u32 n : Nat) : Int) := by
  simp only [IntKind.wrap, IntKind.bits, IntKind.signed, Bool.false_and, Bool.false_eq_true, if_false]
  unfold u32
  omega
theorem bytB_u32 (n : Nat) : bytB (u32 (n : Int)) 2 = bytB n 2 := by
  rw [← bytB_mod 2 (u32 n), ← bytB_mod 2 n]
  congr 1
  unfold u32
  omega
theorem wText_hc {h : Hp} {b0 g : Nat} {p : Option Addr} {bs : Bt} {many : Bool} (w : WrS h b0 g p bs many) (t : ByteArray) (hb : b0 ≤ h.size) (hl : bs.length + (wText t).length ≤ 2 ^ 40) :
    HC Tryz.prog 40 #[.pointer (some ⟨g, 0, none⟩), .string t] h fun v h' => v = .tuple #[] ∧ ∃ p', WrS h' b0 g p' (bs ++ wText t) many ∧ Wst g h p h' p' := by
  have hwl : (wText t).length = 2 + t.size := by unfold wText; rw [List.length_append, bytB_length]; simp
  refine hcr_of (args := [.pointer (some ⟨g, 0, none⟩), .string t]) mixed Tryz.func40 (by kernel_rfl) (t_object_writer__text_eq (some ⟨g, 0, none⟩) t) ?_
  unfold t_object_writer__text
  rw [wrap_u32]
  refine call_of (wNumber_hc w (u32 t.size) 2 hb (by omega)) ?_
  rintro _ h1 ⟨rfl, p1, w1, s1⟩
  refine ⟨(), rfl, ?_⟩
  dsimp only [flat, unc, unc1, List.nil_append, List.cons_append]
  rw [bytB_u32] at w1
  obtain ⟨l, c, b, s, hg, hbg⟩ := id w1
  refine osome_mk rfl ?_
  refine loads_box b ((p1, l, c), ()) rfl ?_
  dsimp only [flat, unc, unc1, List.nil_append, List.cons_append]
  have hl1 : l = bs.length + 2 := by rw [s.1, byC_length, List.length_append, bytB_length]
  have hs0 := s1.1.size
  obtain ⟨i, hi, hz, hsz, hby⟩ := inf_of byZ
  refine sem_slice (appendStr_of (st := t) und22 und9 hi hz (by rw [hsz]; rfl) (by rw [hsz]; exact s) hsz (by rw [hby]; omega) (by omega) (by omega) ?_)
  intro p2 c2 h2 s2 k2 hp2
  refine ⟨p2, _, c2, rfl, ?_⟩
  refine osome_mk rfl ?_
  refine stores_of (b.keep k2 hg) rfl (by simp) ?_
  intro h3 b3 k3 z3
  rw [hsz, ← byC_append] at s2
  obtain ⟨w3, s3⟩ := w1.put s2 k2 hp2 b3 k3
  refine ⟨rfl, p2, ?_, s1.trans s3⟩
  unfold wText
  rw [← List.append_assoc]
  exact w3
end Go.Sx.Ob

set_option linter.unusedVariables false
set_option linter.unusedSimpArgs false
set_option maxRecDepth 100000
namespace Go.Sx.Ob
open Go.Proofs
/-- What goes on behind the mark that there are too many. -/
def wLinT (p0 : Option Addr) (a2 : Addr) : T :=
  T.loads a2 [.slice 104] <| fun (p6 : Option Addr) (l7 : Nat) (l8 : Nat) =>
  T.call Tryz.prog 39 [.pointer p0, .int .u32 (IntKind.wrap .u32 (l7 : Int)), .int .i64 (2 : Int)] true [] <| T.loads a2 [.slice 104] <| fun (p9 : Option Addr) (l10 : Nat) (l11 : Nat) =>
  T.loop [(false, [.int .i64])] [.int .i64 (0 : Int)] <| fun (n12 : Int) =>
  cond (decide (n12 < (l10 : Int)))
   (T.need (((0 : Int) ≤ n12) ∧ (n12 < (l10 : Int))) <|
   T.osome p9 <| fun (a13 : Addr) =>
   T.loads (a13.add ((Int.toNat n12) * 2)) [.string, .int .u32] <| fun (s14 : ByteArray) (n15 : Int) =>
   T.new [.string ⟨#[]⟩, .int .u32 (0 : Int)] 104 <| fun (a16 : Addr) =>
   T.stores a16 [.string s14, .int .u32 n15] <|
   T.loads a16 [.string] <| fun (s17 : ByteArray) =>
   T.call Tryz.prog 40 [.pointer p0, .string s17] true [] <| T.loads (a16.add 1) [.int .u32] <| fun (n18 : Int) =>
   T.call Tryz.prog 39 [.pointer p0, .int .u32 n18, .int .i64 (4 : Int)] true [] <| T.again 0 [.int .i64 (IntKind.wrap .i64 (n12 + (1 : Int)))])
   (T.loads (a2.add 1) [.int .u32] <| fun (n13 : Int) =>
   T.call Tryz.prog 39 [.pointer p0, .int .u32 n13, .int .i64 (4 : Int)] true [] <| T.ret (.tuple #[]))
theorem wLinT_of {h0 hS h : Hp} (e0 : Ext h0 h) {g k : Nat} {p pS : Option Addr} {bs : Bt} {many : Bool} (w : WrS h h0.size g p bs many) (sS : Wst g hS pS h p) {q : Option Addr} {l c : Nat} {x : Lin} (v : LinAt h0 q l x)
    (b : Box h k 75 [.slice q l c, .int .u32 x.num]) (hk : k ∉ g :: blkOf p) (hl : bs.length + (wLin x).length ≤ 2 ^ 40) :
    wLinT (some ⟨g, 0, none⟩) ⟨k, 0, none⟩ [] (fun v h' => v = .tuple #[] ∧ ∃ p', WrS h' h0.size g p' (bs ++ wLin x) many ∧ Wst g hS pS h' p') h := by
  have hwl : (wLin x).length = 2 + ((x.terms.flatMap wTerm).length + 4) := by unfold wLin; rw [List.length_append, List.length_append, bytB_length, bytB_length]
  have hll := v.vw.len
  have hmm := v.many
  have hz0 := e0.size
  unfold wLinT
  refine loads_box b ((q, l, c), ()) rfl ?_
  dsimp only [flat, unc, unc1, List.nil_append, List.cons_append]
  rw [wrap_u32]
  refine call_of (wNumber_hc w (u32 l) 2 hz0 (by omega)) ?_
  rintro _ h1 ⟨rfl, p1, w1, s1⟩
  refine ⟨(), rfl, ?_⟩
  dsimp only [flat, unc, unc1, List.nil_append, List.cons_append]
  rw [bytB_u32] at w1
  obtain ⟨b1, hk1⟩ := s1.box b hk
  have e1 := w.ext e0 s1
  refine loads_box b1 ((q, l, c), ()) rfl ?_
  dsimp only [flat, unc, unc1, List.nil_append, List.cons_append]
  have hbs : bs ++ wLin x = (bs ++ bytB l 2) ++ ((x.terms.drop 0).flatMap wTerm ++ bytB x.num 4) := by
    unfold wLin
    rw [hll, List.drop_zero, List.append_assoc]
  refine loop_of (cs := [(false, [.int .i64])]) (fun y m h' => ∃ (i : Nat) (p' : Option Addr) (cs : Bt), y.1 = (i : Int) ∧ i ≤ x.terms.length ∧ m = x.terms.length - i ∧ WrS h' h0.size g p' cs many ∧ Wst g hS pS h' p' ∧ Ext h0 h' ∧ Box h' k 75 [.slice q l c, .int .u32 x.num] ∧ k ∉ g :: blkOf p' ∧ bs ++ wLin x = cs ++ ((x.terms.drop i).flatMap wTerm ++ bytB x.num 4)) ((0 : Int), ()) x.terms.length rfl
    ⟨0, p1, bs ++ bytB l 2, rfl, by omega, by omega, w1, sS.trans s1, e1, b1, hk1, hbs⟩ ?_
  clear hbs w1 s1 e1 b1 hk1 w b hk e0 sS
  rintro ⟨n12, ⟨⟩⟩ m h2 ⟨i, p2, cs, hi, hik, rfl, w2, s2, e2, b2, hk2, hbs⟩
  simp only at hi
  subst hi
  dsimp only [flat, unc, unc1, List.nil_append, List.cons_append]
  have hlen := congrArg List.length hbs
  simp only [List.length_append, bytB_length] at hlen
  have hz2 := e2.size
  refine cond_mk (fun r => ?_) (fun r => ?_)
  · have r := of_decide_eq_true r
    have hil : i < x.terms.length := by omega
    obtain ⟨a, rfl, hc⟩ := (v.vw.keep e2 (by simp)).cells i hil
    rw [List.drop_eq_getElem_cons hil, List.flatMap_cons] at hbs hlen
    generalize x.terms[i] = t at hc hbs hlen
    refine need_of ⟨by omega, by omega⟩ (osome_mk rfl ?_)
    rw [show Int.toNat (i : Int) = i by omega]
    refine loads_of (t.1, (t.2 : Int), ()) hc ?_
    dsimp only [flat, unc, unc1, List.nil_append, List.cons_append]
    refine newB ?_
    intro h3 b3 e3 z3
    refine stores_of b3 rfl (by simp) ?_
    intro h4 b4 k4 z4
    have b4 : Box h4 h2.size 104 [.string t.1, .int .u32 t.2] := b4
    have e24 : Ext h2 h4 := e3.st k4 (Nat.le_refl _)
    have w4 := w2.keep e24
    have s4 : Wst g h2 p2 h4 p2 := Wst.of e24 p2
    have b5 := b2.keep e24 (by simp)
    have hk4 : h2.size ∉ g :: blkOf p2 := fun hh => absurd (w2.blk _ hh).2 (by omega)
    have e4 := e2.trans e24
    have hz4 := e4.size
    simp only [wTerm, List.length_append, bytB_length] at hlen
    refine loads_box b4 (t.1, ()) rfl ?_
    dsimp only [flat, unc, unc1, List.nil_append, List.cons_append]
    refine call_of (wText_hc w4 t.1 hz4 (by omega)) ?_
    rintro _ h5 ⟨rfl, p5, w5, s5⟩
    refine ⟨(), rfl, ?_⟩
    dsimp only [flat, unc, unc1, List.nil_append, List.cons_append]
    obtain ⟨b6, hk6⟩ := s5.box b5 hk2
    obtain ⟨b7, hk7⟩ := s5.box b4 hk4
    have e5 := w4.ext e4 s5
    have hz5 := e5.size
    rw [add_box]
    refine loads_box b7 ((t.2 : Int), ()) rfl ?_
    dsimp only [flat, unc, unc1, List.nil_append, List.cons_append]
    refine call_of (wNumber_hc w5 t.2 4 hz5 (by rw [List.length_append]; omega)) ?_
    rintro _ h6 ⟨rfl, p6, w6, s6⟩
    refine ⟨(), rfl, ?_⟩
    dsimp only [flat, unc, unc1, List.nil_append, List.cons_append]
    obtain ⟨b8, hk8⟩ := s6.box b6 hk6
    have e6 := w5.ext e5 s6
    refine again_mk (cs := [(false, [.int .i64])]) (((i + 1 : Nat) : Int), ()) (x.terms.length - (i + 1)) rfl (by omega) (by rw [wrap_i64 (by omega) (by omega)]; rfl) ?_
    refine ⟨i + 1, p6, cs ++ wText t.1 ++ bytB t.2 4, rfl, by omega, rfl, w6, (s2.trans s4).trans (s5.trans s6), e6, b8, hk8, ?_⟩
    rw [hbs]
    simp only [wTerm, List.append_assoc]
  · have r := of_decide_eq_false r
    have hil : i = x.terms.length := by omega
    subst hil
    rw [List.drop_length, List.flatMap_nil, List.nil_append] at hbs
    rw [add_box]
    refine loads_box b2 ((x.num : Int), ()) rfl ?_
    dsimp only [flat, unc, unc1, List.nil_append, List.cons_append]
    refine call_of (wNumber_hc w2 x.num 4 hz2 (by simp at hlen; omega)) ?_
    rintro _ h6 ⟨rfl, p6, w6, s6⟩
    refine ⟨(), rfl, ?_⟩
    dsimp only [flat, unc, unc1, List.nil_append, List.cons_append]
    refine ⟨rfl, p6, ?_, s2.trans s6⟩
    rw [hbs]
    exact w6
theorem wLin_hc {h0 h : Hp} (e0 : Ext h0 h) {g : Nat} {p : Option Addr} {bs : Bt} {many : Bool} (w : WrS h h0.size g p bs many) {q : Option Addr} {l c : Nat} {x : Lin} (v : LinAt h0 q l x) (hl : bs.length + (wLin x).length ≤ 2 ^ 40) :
    HC Tryz.prog 41 #[.pointer (some ⟨g, 0, none⟩), linV q l c x] h fun v h' => v = .tuple #[] ∧ ∃ p', WrS h' h0.size g p' (bs ++ wLin x) (many || decide (65535 < x.terms.length)) ∧ Wst g h p h' p' := by
  refine hcr_of (args := [.pointer (some ⟨g, 0, none⟩), .agg #[.slice q l c, .int .u32 x.num]]) mixed Tryz.func41 (by kernel_rfl) (t_object_writer__lin_eq (some ⟨g, 0, none⟩) q l c x.num) ?_
  unfold t_object_writer__lin
  have hll := v.vw.len
  have hz0 := e0.size
  refine newB ?_
  intro h1 b1 e1 z1
  have w1 := w.keep e1
  have s1 : Wst g h p h1 p := Wst.of e1 p
  have e01 := e0.trans e1
  have hk1 : h.size ∉ g :: blkOf p := fun hh => absurd (w.blk _ hh).2 (by omega)
  obtain ⟨l1, c1, bb, ss, hg, hbg⟩ := id w1
  refine osome_mk rfl ?_
  rw [add_box]
  refine loads_box bb (many, ()) rfl ?_
  dsimp only [flat, unc, unc1, List.nil_append, List.cons_append]
  have hst : ∀ (h2 : Hp) (many' : Bool), Box h2 g 92 [.slice p l1 c1, .bool many'] → Ch [g] h1 h2 → WrS h2 h0.size g p bs many' ∧ Wst g h p h2 p ∧ Ext h0 h2 ∧ Box h2 h.size 75 [.slice q l c, .int .u32 x.num] := by
    intro h2 many' b2 k2
    obtain ⟨w2, s2⟩ := w1.put ss (Ch.refl _ _) (.inl rfl) b2 k2
    exact ⟨w2, s1.trans s2, w1.ext e01 s2, (s2.box b1 hk1).1⟩
  refine cond_mk (fun q1 => ?_) (fun q1 => ?_)
  · refine osome_mk rfl ?_
    rw [add_box]
    refine stores_of bb rfl (by simp) ?_
    intro h2 b2 k2 z2
    obtain ⟨w2, s2, e2, b3⟩ := hst h2 true b2 k2
    subst q1
    rw [Bool.true_or]
    exact wLinT_of e2 w2 s2 v b3 hk1 hl
  · subst q1
    rw [Bool.false_or]
    refine loads_box b1 ((q, l, c), ()) rfl ?_
    dsimp only [flat, unc, unc1, List.nil_append, List.cons_append]
    refine osome_mk rfl ?_
    rw [add_box]
    refine stores_of bb rfl (by simp) ?_
    intro h2 b2 k2 z2
    obtain ⟨w2, s2, e2, b3⟩ := hst h2 _ b2 k2
    have hd : decide ((l : Int) > (65535 : Int)) = decide (65535 < x.terms.length) := by
      rw [hll]
      simp
      omega
    rw [hd] at w2
    exact wLinT_of e2 w2 s2 v b3 hk1 hl
end Go.Sx.Ob

set_option linter.unusedVariables false
set_option linter.unusedSimpArgs false
set_option maxRecDepth 100000
namespace Go.Sx.Ob
open Go.Proofs
/-- append of chunks to a slice that has no room. -/
theorem appendNew_of {P : Program} {h : Hp} {K : Value → Hp → Prop} {t ty e : TypeId} {i : TypeInfo} {z : Value} (ht : P.underlying t = some (.slice e)) (hi : P.info? e = some i) (hz : i.zero = some z) (hzs : z.cells.size = i.size)
    {b : Nat} {a1 : Addr} {l c : Nat} {xs ys : List (List Value)} (hlx : l = xs.length) (hxs : ∀ x, x ∈ xs → x.length = i.size) (hcx : cellsAt h a1 0 xs.flatten) (hcl : c = l) {a : Addr} {m cc : Nat} (hm : m = ys.length) (hm0 : 0 < m) (hys : ∀ y, y ∈ ys → y.length = i.size)
    (hc : cellsAt h a 0 ys.flatten) (hp : ys.flatten.all plainV = true) (hby : (2 * (l + m) + 1024) * i.bytes ≤ 2 ^ 48) (hl : l + m ≤ 2 ^ 48) (hb : b ≤ h.size)
    (hk : ∀ p' c' h', SL h' b e i.size p' (l + m) c' (xs ++ ys) → Ext h h' → (∃ a, p' = some a ∧ h.size ≤ a.block) → K (.slice p' (l + m) c') h') :
    semW P (Builtin.append_ #[t, t] ty #[.slice (some a1) l c, .slice (some a) m cc]) h K := by
  have hyl : ys.flatten.length = m * i.size := by rw [flatten_length ys hys, hm]
  have hxl : xs.flatten.length = l * i.size := by rw [flatten_length xs hxs, hlx]
  have hall : ∀ x, x ∈ xs ++ ys → x.length = i.size := fun x hx => (List.mem_append.1 hx).elim (hxs x) (hys x)
  have hlen : l + m = (xs ++ ys).length := by rw [List.length_append, ← hlx, hm]
  have hz' : (P.info? e).bind (·.zero) = some z := by rw [hi]; exact hz
  have hroom : ¬ l + m ≤ c := by omega
  have hcap : ¬ 281474976710656 < Builtin.nextslicecap (l + m) c * i.bytes := by
    have h1 := nextcap_le (need := l + m) (old := c) (by omega)
    have h2 := Nat.mul_le_mul_right i.bytes h1
    have h3 : (2:Nat) ^ 48 = 281474976710656 := rfl
    omega
  have hbig : ¬ (9223372036854775807 < (l : Int) + (m : Int) ∧ i.bytes = 0) := by
    have h3 : (2:Nat) ^ 48 = 281474976710656 := rfl
    omega
  simp [Builtin.append_, semW_bind', semW_underlying ht, semW_sizeOf hi, cellsOf_info hi, Builtin.lenOf, Builtin.firstCells, hroom, semW_typeInfo hi, semW_zeroValue hz', askRoom, hbig, hcap]
  intro tt
  have hge := cut_cap (l + m) c e tt
  generalize (Question.appendCap (l + m) c e).cut tt = nc at hge
  show semW P (if roomBytes < nc * i.bytes then mark Mark.noRoom else pure ()) h _
  have hroomy : ∀ K' : Unit → Hp → Prop, K' () h → semW P (if roomBytes < nc * i.bytes then mark Mark.noRoom else pure ()) h K' := by
    intro K' hk'
    split
    · exact hk'
    · exact hk'
  refine hroomy _ ?_
  refine semW_loadCells hxl hcx _ ?_
  refine semW_loadCells hyl hc _ ?_
  rw [semW_map]
  refine hk (some ⟨h.size, 0, none⟩) nc _ ⟨hlen, hall, h.size, [], (Builtin.zeroCells z.cells (nc - (l + m))).toList, rfl, hb, ⟨hge.1, hge.2 (by omega)⟩, ?_, ?_⟩ (Ext.push h _) ⟨_, rfl, Nat.le_refl _⟩
  · have e1 : xs.flatten.toArray ++ (ys.flatten.toArray ++ Builtin.zeroCells z.cells (nc - (l + m))) = ((xs ++ ys).flatten ++ (Builtin.zeroCells z.cells (nc - (l + m))).toList).toArray := by
      apply Array.toList_inj.1; simp
    rw [e1]
    exact Box.new h e _
  · rw [Array.length_toList, zeroCells_size, hzs]
theorem conv_of {h : Hp} {K : Value → Hp → Prop} {g l c : Nat} {xs : List Value} (b : Box h g 5 xs)
    (hk : ∀ h', cellsAt h' ⟨g, 0, none⟩ 0 xs → Ch [g] h h' → h'.size = h.size → K (.slice (some ⟨g, 0, none⟩) l c) h') : semW Tryz.prog (convert 22 22 (.slice (some ⟨g, 0, none⟩) l c)) h K := by
  have he : Tryz.prog.underlying 5 = some (.int .u8) := by kernel_rfl
  simp [convert, semW_bind', semW_underlying und22, semW_underlying he]
  show semW Tryz.prog ((fun _ => Value.slice (some ⟨g, 0, none⟩) l c) <$> markStringish ⟨g, 0, none⟩) h K
  rw [semW_map]
  have hsh : hshape h g = some (5, xs.toArray.size) := by
    unfold hshape
    unfold Box at b
    rw [b]
  unfold markStringish
  rw [semW_bind']
  show semW Tryz.prog (match hshape h g with
    | some (_, n) => freeze { block := g, off := n } 1
    | _ => pure ()) h _
  rw [hsh]
  show K (.slice (some ⟨g, 0, none⟩) l c) (hfreeze h ⟨g, xs.toArray.size, none⟩ 1)
  have hat : (hfreeze h ⟨g, xs.toArray.size, none⟩ 1)[g]? = some (.cells xs.toArray 5 (xs.toArray.size, xs.toArray.size + 1)) := by
    unfold hfreeze
    unfold Box at b
    rw [if_neg (by omega), Array.getElem?_modify, if_pos rfl, b]
    rfl
  refine hk _ ?_ ⟨?_, ?_⟩ ?_
  · have : ∀ (vs : List Value) (i : Nat), (∀ j, j < vs.length → xs[i + j]? = vs[j]?) → cellsAt (hfreeze h ⟨g, xs.toArray.size, none⟩ 1) ⟨g, 0, none⟩ i vs := by
      intro vs
      induction vs with
      | nil => intro i _; trivial
      | cons v vs ih =>
        intro i hv
        refine ⟨?_, ih (i + 1) fun j hj => ?_⟩
        · rw [add_box, hcell_of hat]
          have := hv 0 (by simp)
          simpa using this
        · have := hv (j + 1) (by simpa using hj)
          rw [List.getElem?_cons_succ] at this
          rw [← this]; congr 1; omega
    exact this xs 0 fun j _ => by simp
  · unfold hfreeze; rw [if_neg (by omega)]; simp
  · intro i hi hw
    unfold hfreeze
    rw [if_neg (by omega), Array.getElem?_modify, if_neg (by simp at hw; simp; omega)]
  · unfold hfreeze; rw [if_neg (by omega)]; simp
theorem fill1 (a : Int) : Instr.fill (fun j => some (j * 1, 1)) ((Array.range (1 * 1)).map ((Value.int .u8 0).cells[· % (Value.int .u8 0).cells.size]!)) [(0, .int .u8 a)] = some ([.int .u8 a] : List Value).toArray := by kernel_rfl
/-- A writer that has only its first bytes, in a slice without room. -/
def WrF (h : Hp) (b0 g g0 : Nat) (bs : Bt) (many : Bool) : Prop := Box h g 92 [.slice (some ⟨g0, 0, none⟩) bs.length bs.length, .bool many] ∧ cellsAt h ⟨g0, 0, none⟩ 0 (byC bs).flatten ∧ g0 < h.size ∧ g ≠ g0 ∧ b0 ≤ g ∧ b0 ≤ g0
theorem wNumF_hc {h : Hp} {b0 g g0 : Nat} {bs : Bt} {many : Bool} (w : WrF h b0 g g0 bs many) (n k : Nat) (hk0 : 0 < k) (hb : b0 ≤ h.size) (hl : bs.length + k ≤ 2 ^ 40) :
    HC Tryz.prog 39 #[.pointer (some ⟨g, 0, none⟩), .int .u32 n, .int .i64 k] h fun v h' => v = .tuple #[] ∧ ∃ p', WrS h' b0 g p' (bs ++ bytB n k) many ∧ Wst g h (some ⟨g0, 0, none⟩) h' p' := by
  refine hcr_of (args := [.pointer (some ⟨g, 0, none⟩), .int .u32 n, .int .i64 k]) mixed Tryz.func39 (by kernel_rfl) (t_object_writer__number_eq (some ⟨g, 0, none⟩) n k) ?_
  unfold t_object_writer__number
  refine loop_of (cs := [(false, [.int .u32]), (false, [.int .i64])]) (fun y m h' => ∃ (i r : Nat) (p' : Option Addr) (cs : Bt), y.1 = (r : Int) ∧ y.2.1 = (i : Int) ∧ i ≤ k ∧ m = k - i ∧ ((i = 0 ∧ h' = h ∧ p' = some ⟨g0, 0, none⟩ ∧ cs = bs) ∨ WrS h' b0 g p' cs many) ∧ Wst g h (some ⟨g0, 0, none⟩) h' p' ∧ bs ++ bytB n k = cs ++ bytB r (k - i) ∧ cs.length = bs.length + i) ((n : Int), (0 : Int), ()) k rfl
    ⟨0, n, some ⟨g0, 0, none⟩, bs, rfl, rfl, by omega, by omega, .inl ⟨rfl, rfl, rfl, rfl⟩, Wst.refl _ _ _, rfl, rfl⟩ ?_
  rintro ⟨n3, n4, ⟨⟩⟩ m h1 ⟨i, r, p1, cs, hr, hi, hik, rfl, w1, s1, hbs, hcl⟩
  simp only at hr hi
  subst hr hi
  dsimp only [flat, unc, unc1, List.nil_append, List.cons_append]
  have hv : (byC cs ++ [[.int .u8 (IntKind.wrap .u8 r)]] : List (List Value)) = byC (cs ++ [UInt8.ofNat r]) := by
    rw [byC_append, wrap_u8_mod]
    unfold byC
    simp
  refine cond_mk (fun q => ?_) (fun q => ?_)
  · have q := of_decide_eq_true q
    have hs0 := s1.1.size
    have hfin : ∀ (h3 : Hp) (p2 : Option Addr), WrS h3 b0 g p2 (cs ++ [UInt8.ofNat r]) many → Wst g h1 p1 h3 p2 → (T.need ((0 : Int) ≤ (8 : Int)) <| T.again 0 [.int .u32 (Int.fdiv (r : Int) (256 : Int)), .int .i64 (IntKind.wrap .i64 ((i : Int) + (1 : Int)))]) [Jl (cs := [(false, [.int .u32]), (false, [.int .i64])]) (fun y m h' => ∃ (i r : Nat) (p' : Option Addr) (cs : Bt), y.1 = (r : Int) ∧ y.2.1 = (i : Int) ∧ i ≤ k ∧ m = k - i ∧ ((i = 0 ∧ h' = h ∧ p' = some ⟨g0, 0, none⟩ ∧ cs = bs) ∨ WrS h' b0 g p' cs many) ∧ Wst g h (some ⟨g0, 0, none⟩) h' p' ∧ bs ++ bytB n k = cs ++ bytB r (k - i) ∧ cs.length = bs.length + i) (k - i)] (fun v h' => v = .tuple #[] ∧ ∃ p', WrS h' b0 g p' (bs ++ bytB n k) many ∧ Wst g h (some ⟨g0, 0, none⟩) h' p') h3 := by
      intro h3 p2 w3 s3
      refine need_of (by omega) ?_
      refine again_mk (cs := [(false, [.int .u32]), (false, [.int .i64])]) (((r / 256 : Nat) : Int), ((i + 1 : Nat) : Int), ()) (k - (i + 1)) rfl (by omega) (by rw [wrap_i64 (by omega) (by omega), Int.fdiv_eq_ediv_of_nonneg _ (by omega)]; rfl) ?_
      refine ⟨i + 1, r / 256, p2, cs ++ [UInt8.ofNat r], rfl, rfl, by omega, rfl, .inr w3, s1.trans s3, ?_, by simp; omega⟩
      rw [hbs, show k - i = k - (i + 1) + 1 by omega, bytB_succ]
      simp
    rcases w1 with ⟨rfl, rfl, rfl, rfl⟩ | w1
    · obtain ⟨b, hc, hg0, hgg, hb1, hb2⟩ := w
      refine osome_mk rfl ?_
      refine loads_box b ((some ⟨g0, 0, none⟩, cs.length, cs.length), ()) rfl ?_
      dsimp only [flat, unc, unc1, List.nil_append, List.cons_append]
      obtain ⟨inf, hin, hz, hsz, hby⟩ := inf_of byZ
      refine lit_of und22 byZ (by omega) (by omega) (fill1 _) ?_
      intro h2 b2 e2 z2
      refine sem_slice (appendNew_of (b := b0) (xs := byC cs) (ys := [[.int .u8 (IntKind.wrap .u8 r)]]) und22 hin hz (by rw [hsz]; rfl) (by rw [byC_length]) (by rw [hsz]; exact byC_len _) (cellsAt_keep e2 (by simp) _ _ hc) rfl rfl (by omega) (by rw [hsz]; simp) (b2.cells _ (by simp)) (by simp [plainV]) (by rw [hby]; omega) (by omega) (by omega) ?_)
      intro p2 c2 h3 s2 k3 hp2
      rw [hsz, hv] at s2
      refine ⟨p2, _, c2, rfl, ?_⟩
      refine osome_mk rfl ?_
      have e13 : Ext h1 h3 := e2.trans k3
      refine stores_of (b.keep e13 (by simp)) rfl (by simp) ?_
      intro h4 b4 k4 z4
      have b4 : Box h4 g 92 [.slice p2 (cs.length + 1) c2, .bool many] := b4
      obtain ⟨a2, rfl, ha2⟩ := hp2
      have hgl := b.lt
      refine hfin h4 (some a2) ⟨_, c2, b4, s2.keep k4 (by rintro a ⟨⟩; simp; have := e2.size; omega), by simp [blkOf]; have := e2.size; omega, hb1⟩ ⟨(e13.mono (by simp)).trans k4 (by simp), .inr ⟨a2, rfl, by have := e2.size; omega⟩⟩
    · obtain ⟨l, c, b, s, hg, hbg⟩ := id w1
      refine osome_mk rfl ?_
      refine loads_box b ((p1, l, c), ()) rfl ?_
      dsimp only [flat, unc, unc1, List.nil_append, List.cons_append]
      have hl1 : l = cs.length := by rw [s.1, byC_length]
      refine push_of (z := .int .u8 0) (vs := [.int .u8 (IntKind.wrap .u8 r)]) und22 byZ rfl (by omega) (by omega) (by kernel_rfl) rfl rfl s (by omega) (by omega) (by omega) ?_
      intro p2 c2 h2 s2 k2 hp2
      refine osome_mk rfl ?_
      refine stores_of (b.keep k2 hg) rfl (by simp) ?_
      intro h3 b3 k3 z3
      rw [hv] at s2
      obtain ⟨w3, s3⟩ := w1.put (bs' := cs ++ [UInt8.ofNat r]) s2 k2 hp2 b3 k3
      exact hfin h3 p2 w3 s3
  · have q := of_decide_eq_false q
    have : k - i = 0 := by omega
    rw [this] at hbs
    rcases w1 with ⟨rfl, _⟩ | w1
    · omega
    refine ⟨rfl, p1, ?_, s1⟩
    rw [hbs]
    simpa [bytB] using w1
end Go.Sx.Ob

set_option linter.unusedVariables false
set_option linter.unusedSimpArgs false
set_option maxRecDepth 100000
namespace Go.Sx.Ob
open Go.Proofs
def bigL (x : Lin) : Bool := decide (65535 < x.terms.length)
def bigI (x : Itm) : Bool := (decide (x.kind = 2) && wnt x.inst.op || decide (x.kind = 6)) && bigL x.e
theorem fill3 (a b c : Int) : Instr.fill (fun j => some (j * 1, 1)) ((Array.range (3 * 1)).map ((Value.int .u8 0).cells[· % (Value.int .u8 0).cells.size]!)) [(0, .int .u8 a), (1, .int .u8 b), (2, .int .u8 c)] = some ([.int .u8 a, .int .u8 b, .int .u8 c] : List Value).toArray := by kernel_rfl
theorem wInt1 (n : Int) : wInt n 1 = [UInt8.ofNat (u32 n)] := rfl
theorem wrap_u8_32 (n : Int) : IntKind.wrap .u8 n = (((UInt8.ofNat (u32 n)).toNat : Nat) : Int) := by
  rw [wrap_u8_mod]
  unfold u32
  simp
  omega
theorem wItems0_hc {h0 h : Hp} (t : Tab h0) (e0 : Ext h0 h) {g : Nat} {p : Option Addr} {bs : Bt} {many : Bool} (hn : ∀ n : Nat, HC Tryz.prog 39 #[.pointer (some ⟨g, 0, none⟩), .int .u32 n, .int .i64 2] h fun v h' => v = .tuple #[] ∧ ∃ p', WrS h' h0.size g p' (bs ++ bytB n 2) many ∧ Wst g h p h' p') (he : ∀ h' p', Wst g h p h' p' → Ext h0 h') {q : Option Addr} {l c : Nat} {us : List Itm} (v : VwI h0 q l us) (hl : bs.length + (wCnt wItm us).length ≤ 2 ^ 40) :
    HC Tryz.prog 38 #[.pointer (some ⟨g, 0, none⟩), .slice q l c] h fun v h' => v = .tuple #[] ∧ ∃ p', WrS h' h0.size g p' (bs ++ wCnt wItm us) (many || us.any bigI) ∧ Wst g h p h' p' := by
  refine hcr_of (args := [.pointer (some ⟨g, 0, none⟩), .slice q l c]) mixed Tryz.func38 (by kernel_rfl) (t_object_writer__items_eq (some ⟨g, 0, none⟩) q l c) ?_
  unfold t_object_writer__items
  have hwl : (wCnt wItm us).length = 2 + (us.flatMap wItm).length := by unfold wCnt; rw [List.length_append, bytB_length]
  have hll := v.len
  have hmm := v.many
  have hz0 := e0.size
  rw [wrap_u32]
  refine call_of (hn (u32 l)) ?_
  rintro _ h1 ⟨rfl, p1, w1, s1⟩
  refine ⟨(), rfl, ?_⟩
  dsimp only [flat, unc, unc1, List.nil_append, List.cons_append]
  rw [bytB_u32] at w1
  have e1 := he _ _ s1
  have hbs : bs ++ wCnt wItm us = (bs ++ bytB l 2) ++ (us.drop 0).flatMap wItm := by
    unfold wCnt
    rw [hll, List.drop_zero, List.append_assoc]
  refine loop_of (cs := [(false, [.int .i64])]) (fun y m h' => ∃ (i : Nat) (p' : Option Addr) (cs : Bt) (mm : Bool), y.1 = (i : Int) ∧ i ≤ us.length ∧ m = us.length - i ∧ WrS h' h0.size g p' cs mm ∧ Wst g h p h' p' ∧ Ext h0 h' ∧ bs ++ wCnt wItm us = cs ++ (us.drop i).flatMap wItm ∧ (many || us.any bigI) = (mm || (us.drop i).any bigI)) ((0 : Int), ()) us.length rfl
    ⟨0, p1, bs ++ bytB l 2, many, rfl, by omega, by omega, w1, s1, e1, hbs, rfl⟩ ?_
  clear hbs w1 s1 e1
  rintro ⟨n12, ⟨⟩⟩ m h2 ⟨i, p2, cs, mm, hi, hik, rfl, w2, s2, e2, hbs, hmy⟩
  simp only at hi
  subst hi
  dsimp only [flat, unc, unc1, List.nil_append, List.cons_append]
  have hlen := congrArg List.length hbs
  simp only [List.length_append] at hlen
  have hz2 := e2.size
  refine cond_mk (fun r => ?_) (fun r => ?_)
  · have r := of_decide_eq_true r
    have hil : i < us.length := by omega
    obtain ⟨a, qq, ll, cc, rfl, hc, va⟩ := v.cells i hil
    have hc := cellsAt_keep e2 (by simp) _ _ hc
    rw [List.drop_eq_getElem_cons hil, List.flatMap_cons] at hbs hlen
    rw [List.drop_eq_getElem_cons hil, List.any_cons] at hmy
    generalize us[i] = x at hc hbs hlen hmy va
    refine need_of ⟨by omega, by omega⟩ (osome_mk rfl ?_)
    rw [show Int.toNat (i : Int) = i by omega]
    refine loads_of (x.kind, x.name, x.inst.op, x.inst.a, x.inst.b, x.inst.n, x.inst.form, (qq, ll, cc), (x.e.num : Int), x.n, ()) hc ?_
    dsimp only [flat, unc, unc1, List.nil_append, List.cons_append]
    refine newB ?_
    intro h3 b3 e3 z3
    refine stores_of b3 rfl (by simp) ?_
    intro h4 b4 k4' z4
    have b4 : Box h4 h2.size 102 (encI qq ll cc x) := b4
    have e24 : Ext h2 h4 := e3.st k4' (Nat.le_refl _)
    have w4 := w2.keep e24
    have s4 : Wst g h p h4 p2 := s2.trans (Wst.of e24 p2)
    have k4 : h2.size ∉ g :: blkOf p2 := fun hh => absurd (w2.blk _ hh).2 (by omega)
    have e4 := e2.trans e24
    have hz4 := e4.size
    clear hc b3 e3 z3 k4' z4 e24 w2 s2 e2
    simp only [add_box]
    refine loads_box b4 (x.kind, ()) rfl ?_
    dsimp only [flat, unc, unc1, List.nil_append, List.cons_append]
    have hag : ∀ (h' : Hp) (p' : Option Addr) (cs' : Bt) (mm' : Bool), WrS h' h0.size g p' cs' mm' → Wst g h p h' p' → Ext h0 h' → cs' = cs ++ wItm x → mm' = (mm || bigI x) →
        T.again 0 [.int .i64 (IntKind.wrap .i64 ((i : Int) + 1))] [Jl (cs := [(false, [.int .i64])]) (fun y m h' => ∃ (i : Nat) (p' : Option Addr) (cs : Bt) (mm : Bool), y.1 = (i : Int) ∧ i ≤ us.length ∧ m = us.length - i ∧ WrS h' h0.size g p' cs mm ∧ Wst g h p h' p' ∧ Ext h0 h' ∧ bs ++ wCnt wItm us = cs ++ (us.drop i).flatMap wItm ∧ (many || us.any bigI) = (mm || (us.drop i).any bigI)) (us.length - i)] (fun v h' => v = .tuple #[] ∧ ∃ p', WrS h' h0.size g p' (bs ++ wCnt wItm us) (many || us.any bigI) ∧ Wst g h p h' p') h' := by
      rintro h' p' _ _ w' s' e' rfl rfl
      refine again_mk (cs := [(false, [.int .i64])]) (((i + 1 : Nat) : Int), ()) (us.length - (i + 1)) rfl (by omega) (by rw [wrap_i64 (by omega) (by omega)]; rfl) ?_
      exact ⟨i + 1, p', _, _, rfl, by omega, rfl, w', s', e', by rw [hbs, List.append_assoc], by rw [hmy, Bool.or_assoc]⟩
    have hln : cs.length + (wItm x).length ≤ 2 ^ 40 := by
      rw [List.length_append] at hlen
      omega
    clear hbs hlen hmy hwl hl
    unfold wItm at hag hln
    simp only [List.length_append] at hln
    have hk1 : (wInt x.kind 1).length = 1 := rfl
    rw [wrap_u32]
    refine call_of (wNumber_hc w4 (u32 (x.kind)) 1 e4.size (by omega)) ?_
    rintro _ h5 ⟨rfl, p5, w5, t5⟩
    refine ⟨(), rfl, ?_⟩
    dsimp only [flat, unc, unc1, List.nil_append, List.cons_append]
    obtain ⟨b5, k5⟩ := t5.box b4 k4
    have e5 := w4.ext e4 t5
    have s5 := s4.trans t5
    have w5 : WrS h5 h0.size g p5 (cs ++ wInt x.kind 1) mm := w5
    refine loads_box b5 (x.kind, ()) rfl ?_
    dsimp only [flat, unc, unc1, List.nil_append, List.cons_append]
    have hcl : (cs ++ wInt x.kind 1).length = cs.length + 1 := by rw [List.length_append]; rfl
    refine cond_mk (fun q1 => ?_) (fun q1 => ?_)
    · have q1 : x.kind = 1 := by simpa using q1
      rw [if_pos q1] at hag hln
      refine loads_box b5 (x.name, ()) rfl ?_
      dsimp only [flat, unc, unc1, List.nil_append, List.cons_append]
      refine call_of (wText_hc w5 x.name e5.size (by omega)) ?_
      rintro _ h6 ⟨rfl, p6, w6, t6⟩
      refine ⟨(), rfl, ?_⟩
      dsimp only [flat, unc, unc1, List.nil_append, List.cons_append]
      exact hag h6 p6 _ _ w6 (s5.trans t6) (w5.ext e5 t6) (by rw [List.append_assoc]) (by unfold bigI; rw [q1]; simp)
    have q1 : x.kind ≠ 1 := by simpa using q1
    rw [if_neg q1] at hag hln
    refine cond_mk (fun q2 => ?_) (fun q2 => ?_)
    · have q2 : x.kind = 2 := by simpa using q2
      rw [if_pos q2] at hag hln
      simp only [List.length_append] at hln
      have hi1 : (wInt x.inst.op 1).length = 1 := rfl
      have hi2 : (wInt x.inst.a 1).length = 1 := rfl
      have hi3 : (wInt x.inst.b 1).length = 1 := rfl
      have hi4 : (wInt x.inst.n 4).length = 4 := rfl
      obtain ⟨l5, c5, bb, ss, hg, hbg⟩ := id w5
      have hl5 : l5 = cs.length + 1 := by rw [ss.1, byC_length, hcl]
      refine osome_mk rfl ?_
      refine loads_box bb ((p5, l5, c5), ()) rfl ?_
      dsimp only [flat, unc, unc1, List.nil_append, List.cons_append]
      refine loads_box b5 (x.inst.op, ()) rfl ?_
      dsimp only [flat, unc, unc1, List.nil_append, List.cons_append]
      refine loads_box b5 (x.inst.a, ()) rfl ?_
      dsimp only [flat, unc, unc1, List.nil_append, List.cons_append]
      refine loads_box b5 (x.inst.b, ()) rfl ?_
      dsimp only [flat, unc, unc1, List.nil_append, List.cons_append]
      refine lit_of und22 byZ (by omega) (by omega) (fill3 _ _ _) ?_
      intro h6 b6 e6 z6
      have hst : ∀ (h' : Hp), Box h' h2.size 102 (encI qq ll cc x) → T.stab h' [(⟨h2.size, 0 + 2 + 2, none⟩, [.int .i64 x.inst.b]), (⟨h2.size, 0 + 2 + 1, none⟩, [.int .i64 x.inst.a]), (⟨h2.size, 0 + 2, none⟩, [.int .i64 x.inst.op])] :=
        fun h' b => ⟨b.cells _ rfl, b.cells _ rfl, b.cells _ rfl, trivial⟩
      have b56 := b5.keep e6 (by simp)
      refine ⟨⟨(hst _ b56).1, (hst _ b56).2.1, (hst _ b56).2.2.1, (bb.keep e6 (by simp)).cells _ rfl, trivial⟩, ?_⟩
      obtain ⟨inf, hin, hz, hsz, hby⟩ := inf_of byZ
      have ss6 := ss.keep e6 (by simp)
      rw [wrap_u8_32, wrap_u8_32, wrap_u8_32] at b6
      refine sem_slice (append_of (ys := byC [UInt8.ofNat (u32 x.inst.op), UInt8.ofNat (u32 x.inst.a), UInt8.ofNat (u32 x.inst.b)]) (m := 3) und22 hin hz (by rw [hsz]; rfl) (by rw [hsz]; exact ss6) rfl (by rw [hsz]; exact byC_len _) (b6.cells _ rfl) (byC_plain _) (by rw [hby]; omega) (by omega) (by have := e5.size; have := e6.size; omega) ?_)
      intro p7 c7 h7 ss7 kk7 hp7
      rw [hsz, ← byC_append] at ss7
      have b57 : Box h7 h2.size 102 (encI qq ll cc x) := b56.keep kk7 (fun hh => k5 (List.mem_cons_of_mem _ hh))
      refine ⟨p7, _, c7, rfl, ⟨hst _ b57, ?_⟩⟩
      refine osome_mk rfl ?_
      have bb6 := bb.keep e6 (by simp)
      refine stores_of (bb6.keep kk7 hg) rfl (by simp) ?_
      intro h8 b8' kk8 z8
      obtain ⟨w8, t8'⟩ := (w5.keep e6).put ss7 kk7 hp7 b8' kk8
      have t8 : Wst g h5 p5 h8 p7 := (Wst.of e6 p5).trans t8'
      obtain ⟨b8, k8⟩ := t8.box b5 k5
      have e8 := w5.ext e5 t8
      have s8 := s5.trans t8
      have hc8 : (cs ++ wInt x.kind 1 ++ [UInt8.ofNat (u32 x.inst.op), UInt8.ofNat (u32 x.inst.a), UInt8.ofNat (u32 x.inst.b)]).length = cs.length + 4 := by rw [List.length_append, hcl]; rfl
      refine loads_box b8 (x.inst.n, ()) rfl ?_
      dsimp only [flat, unc, unc1, List.nil_append, List.cons_append]
      rw [wrap_u32]
      refine call_of (wNumber_hc w8 (u32 x.inst.n) 4 e8.size (by omega)) ?_
      rintro _ h9 ⟨rfl, p9, w9, t9⟩
      refine ⟨(), rfl, ?_⟩
      dsimp only [flat, unc, unc1, List.nil_append, List.cons_append]
      obtain ⟨b9, k9⟩ := t9.box b8 k8
      have e9 := w8.ext e8 t9
      have s9 := s8.trans t9
      refine loads_box b9 (x.inst.op, ()) rfl ?_
      dsimp only [flat, unc, unc1, List.nil_append, List.cons_append]
      refine call_of (wants_hc (t.keep e9 (by simp)) x.inst.op va.op.1 va.op.2) ?_
      rintro _ h10 ⟨rfl, e10'⟩
      refine ⟨(wnt x.inst.op, ()), rfl, ?_⟩
      dsimp only [flat, unc, unc1, List.nil_append, List.cons_append]
      have b10 := b9.keep e10' (by simp)
      have e10 := e9.trans e10'
      have w10 := w9.keep e10'
      have s10 := s9.trans (Wst.of e10' p9)
      have hc9 : (cs ++ wInt x.kind 1 ++ [UInt8.ofNat (u32 x.inst.op), UInt8.ofNat (u32 x.inst.a), UInt8.ofNat (u32 x.inst.b)] ++ bytB (u32 x.inst.n) 4).length = cs.length + 8 := by rw [List.length_append, hc8, bytB_length]
      refine cond_mk (fun q3 => ?_) (fun q3 => ?_)
      · rw [if_pos q3] at hag hln
        refine loads_box b10 ((qq, ll, cc), (x.e.num : Int), ()) rfl ?_
        dsimp only [flat, unc, unc1, List.nil_append, List.cons_append]
        refine call_of (wLin_hc e10 w10 va.lin (by omega)) ?_
        rintro _ h11 ⟨rfl, p11, w11, t11⟩
        refine ⟨(), rfl, ?_⟩
        dsimp only [flat, unc, unc1, List.nil_append, List.cons_append]
        exact hag h11 p11 _ _ w11 (s10.trans t11) (w10.ext e10 t11) (by simp only [wInt1, List.append_assoc]; rfl) (by unfold bigI bigL; rw [q2, q3]; simp)
      · rw [if_neg (by rw [q3]; simp)] at hag hln
        exact hag h10 p9 _ _ w10 s10 e10 (by simp only [wInt1, List.append_assoc, List.append_nil]; rfl) (by unfold bigI; rw [q2, q3]; simp)
    have q2 : x.kind ≠ 2 := by simpa using q2
    rw [if_neg q2] at hag hln
    refine cond_mk (fun q3 => ?_) (fun q3 => ?_)
    · have q3 : x.kind = 3 := by simpa using q3
      refine cond_t (by simpa using q3) ?_
      rw [if_pos (.inl q3)] at hag hln
      have hi1 : (wInt x.n 2).length = 2 := rfl
      refine loads_box b5 (x.n, ()) rfl ?_
      dsimp only [flat, unc, unc1, List.nil_append, List.cons_append]
      rw [wrap_u32]
      refine call_of (wNumber_hc w5 (u32 x.n) 2 e5.size (by omega)) ?_
      rintro _ h6 ⟨rfl, p6, w6, t6⟩
      refine ⟨(), rfl, ?_⟩
      dsimp only [flat, unc, unc1, List.nil_append, List.cons_append]
      exact hag h6 p6 _ _ w6 (s5.trans t6) (w5.ext e5 t6) (by rw [List.append_assoc]; rfl) (by unfold bigI; rw [decide_eq_false q2, decide_eq_false (show ¬ x.kind = 6 by omega)]; simp)
    have q3 : x.kind ≠ 3 := by simpa using q3
    refine cond_mk (fun q5 => ?_) (fun q5 => ?_)
    · have q5 : x.kind = 5 := by simpa using q5
      rw [if_pos (.inr q5)] at hag hln
      have hi1 : (wInt x.n 2).length = 2 := rfl
      refine loads_box b5 (x.n, ()) rfl ?_
      dsimp only [flat, unc, unc1, List.nil_append, List.cons_append]
      rw [wrap_u32]
      refine call_of (wNumber_hc w5 (u32 x.n) 2 e5.size (by omega)) ?_
      rintro _ h6 ⟨rfl, p6, w6, t6⟩
      refine ⟨(), rfl, ?_⟩
      dsimp only [flat, unc, unc1, List.nil_append, List.cons_append]
      exact hag h6 p6 _ _ w6 (s5.trans t6) (w5.ext e5 t6) (by rw [List.append_assoc]; rfl) (by unfold bigI; rw [decide_eq_false q2, decide_eq_false (show ¬ x.kind = 6 by omega)]; simp)
    have q5 : x.kind ≠ 5 := by simpa using q5
    rw [if_neg (by omega)] at hag hln
    refine cond_mk (fun q6 => ?_) (fun q6 => ?_)
    · have q6 : x.kind = 6 := by simpa using q6
      rw [if_pos q6] at hag hln
      refine loads_box b5 ((qq, ll, cc), (x.e.num : Int), ()) rfl ?_
      dsimp only [flat, unc, unc1, List.nil_append, List.cons_append]
      refine call_of (wLin_hc e5 w5 va.lin (by omega)) ?_
      rintro _ h6 ⟨rfl, p6, w6, t6⟩
      refine ⟨(), rfl, ?_⟩
      dsimp only [flat, unc, unc1, List.nil_append, List.cons_append]
      exact hag h6 p6 _ _ w6 (s5.trans t6) (w5.ext e5 t6) (by rw [List.append_assoc]) (by unfold bigI bigL; rw [q6]; simp)
    have q6 : x.kind ≠ 6 := by simpa using q6
    rw [if_neg q6] at hag hln
    refine cond_mk (fun q7 => ?_) (fun q7 => ?_)
    · have q7 : x.kind = 7 := by simpa using q7
      rw [if_pos q7] at hag hln
      have hi1 : (wInt x.n 4).length = 4 := rfl
      refine loads_box b5 (x.n, ()) rfl ?_
      dsimp only [flat, unc, unc1, List.nil_append, List.cons_append]
      rw [wrap_u32]
      refine call_of (wNumber_hc w5 (u32 x.n) 4 e5.size (by omega)) ?_
      rintro _ h6 ⟨rfl, p6, w6, t6⟩
      refine ⟨(), rfl, ?_⟩
      dsimp only [flat, unc, unc1, List.nil_append, List.cons_append]
      exact hag h6 p6 _ _ w6 (s5.trans t6) (w5.ext e5 t6) (by rw [List.append_assoc]; rfl) (by unfold bigI; rw [decide_eq_false q2, decide_eq_false (show ¬ x.kind = 6 by omega)]; simp)
    have q7 : x.kind ≠ 7 := by simpa using q7
    rw [if_neg q7] at hag hln
    exact hag h5 p5 _ _ w5 s5 e5 (by rw [List.append_nil]) (by unfold bigI; rw [decide_eq_false q2, decide_eq_false q6]; simp)
  · have r := of_decide_eq_false r
    have hil : i = us.length := by omega
    subst hil
    rw [List.drop_length, List.flatMap_nil, List.append_nil] at hbs
    rw [List.drop_length, List.any_nil, Bool.or_false] at hmy
    refine ⟨rfl, p2, ?_, s2⟩
    rw [hbs, hmy]
    exact w2
theorem wItems_hc {h0 h : Hp} (t : Tab h0) (e0 : Ext h0 h) {g : Nat} {p : Option Addr} {bs : Bt} {many : Bool} (w : WrS h h0.size g p bs many) {q : Option Addr} {l c : Nat} {us : List Itm} (v : VwI h0 q l us) (hl : bs.length + (wCnt wItm us).length ≤ 2 ^ 40) :
    HC Tryz.prog 38 #[.pointer (some ⟨g, 0, none⟩), .slice q l c] h fun v h' => v = .tuple #[] ∧ ∃ p', WrS h' h0.size g p' (bs ++ wCnt wItm us) (many || us.any bigI) ∧ Wst g h p h' p' := by
  have hwl : (wCnt wItm us).length = 2 + (us.flatMap wItm).length := by unfold wCnt; rw [List.length_append, bytB_length]
  exact wItems0_hc t e0 (fun n => wNumber_hc w n 2 e0.size (by omega)) (fun h' p' s => w.ext e0 s) v hl
theorem wItemsF_hc {h0 h : Hp} (t : Tab h0) (e0 : Ext h0 h) {g g0 : Nat} {bs : Bt} {many : Bool} (w : WrF h h0.size g g0 bs many) {q : Option Addr} {l c : Nat} {us : List Itm} (v : VwI h0 q l us) (hl : bs.length + (wCnt wItm us).length ≤ 2 ^ 40) :
    HC Tryz.prog 38 #[.pointer (some ⟨g, 0, none⟩), .slice q l c] h fun v h' => v = .tuple #[] ∧ ∃ p', WrS h' h0.size g p' (bs ++ wCnt wItm us) (many || us.any bigI) ∧ Wst g h (some ⟨g0, 0, none⟩) h' p' := by
  have hwl : (wCnt wItm us).length = 2 + (us.flatMap wItm).length := by unfold wCnt; rw [List.length_append, bytB_length]
  refine wItems0_hc t e0 (fun n => wNumF_hc w n 2 (by omega) e0.size (by omega)) (fun h' p' s => ?_) v hl
  obtain ⟨b, hc, hg0, hgg, hb1, hb2⟩ := w
  exact Ch.trans e0 s.1 (fun i hi hl => by simp [blkOf] at hi; omega)
end Go.Sx.Ob

set_option linter.unusedVariables false
set_option linter.unusedSimpArgs false
set_option maxRecDepth 100000
namespace Go.Sx.Ob
open Go.Proofs
theorem fill5 : Instr.fill (fun j => some (j * 1, 1)) ((Array.range (5 * 1)).map ((Value.int .u8 0).cells[· % (Value.int .u8 0).cells.size]!)) [(0, .int .u8 83), (1, .int .u8 80), (2, .int .u8 65), (3, .int .u8 78), (4, .int .u8 1)] = some ((byC headL).flatten : List Value).toArray := by kernel_rfl
def bigU (u : Unt) : Bool := u.text.any bigI || (u.data.any bigI || u.equs.any fun e => bigL e.2)
def wrE (u : Unt) : Nat := if untR u ≠ 0 then 31 else if bigU u then 4 else if 1048576 < (wUnt u).length then 3 else 0
theorem write_hc {h : Hp} (t : Tab h) {a b c d : Sli} {u : Unt} (v : UntAt h a b c d u) (hl : (wUnt u).length ≤ 2 ^ 40) :
    HC Tryz.prog 14 #[untV a b c d] h fun w h' => ∃ s : Sli, w = .tuple #[s.v, .int .i64 (wrE u : Nat)] ∧ (wrE u ≠ 0 → s = ⟨none, 0, 0⟩) ∧ (wrE u = 0 → SL h' h.size 5 1 s.p s.l s.c (byC (wUnt u))) ∧ Ext h h' := by
  refine hcr_of (args := [untV a b c d]) mixed Tryz.func14 (by kernel_rfl) (t_object_Write_eq a.p a.l a.c b.p b.l b.c c.p c.l c.c d.p d.l d.c) ?_
  unfold t_object_Write
  have n3 := v.equs.len
  have n4 := v.globs.len
  have m3 := v.equs.many
  have m4 := v.globs.many
  refine newB ?_
  intro g1 b1 e1 z1
  have b1 : Box g1 h.size 28 [a.v, b.v, c.v, d.v] := b1
  simp only [add_box]
  refine loads_box b1 ((a.p, a.l, a.c), (b.p, b.l, b.c), (c.p, c.l, c.c), (d.p, d.l, d.c), ()) rfl ?_
  dsimp only [flat, unc, unc1, List.nil_append, List.cons_append]
  refine call_of (unitRight_hc (a := a) (b := b) (c := c) (d := d) (t.keep e1 (by simp)) (v.keep e1)) ?_
  rintro _ g2 ⟨rfl, e2⟩
  refine ⟨(((untR u : Nat) : Int), ()), rfl, ?_⟩
  dsimp only [flat, unc, unc1, List.nil_append, List.cons_append]
  have e02 := e1.trans e2
  refine cond_mk (fun q => ?_) (fun q => ?_)
  · have q : untR u ≠ 0 := by
      intro h0
      rw [h0] at q
      simp at q
    have hw : wrE u = 31 := by unfold wrE; rw [if_pos q]
    exact ⟨⟨none, 0, 0⟩, by rw [hw]; rfl, fun _ => rfl, fun h0 => (by rw [hw] at h0; cases h0), e02⟩
  have q : untR u = 0 := by simpa using q
  have b1 := b1.keep e2 (by simp)
  have hw : wrE u = if bigU u then 4 else if 1048576 < (wUnt u).length then 3 else 0 := by unfold wrE; rw [if_neg (by omega)]
  have t2 := t.keep e02 (by simp)
  have v2 := v.keep e02
  have s0 := e02.size
  clear t v
  refine lit_of und22 byZ (by omega) (by omega) fill5 ?_
  intro g3 b3 e3 z3
  refine sem_slice (conv_of (b3 : Box g3 g2.size 5 (byC headL).flatten) ?_)
  intro g4 c4 k4 z4
  refine ⟨_, _, _, rfl, ?_⟩
  refine newB ?_
  intro g5 b5 e5 z5
  have e24 : Ext g2 g4 := e3.st k4 (Nat.le_refl _)
  have e25 := e24.trans e5
  have b1 := b1.keep e25 (by simp)
  have hz3 := e3.size
  have wF : WrF g5 g2.size g4.size g2.size headL false := ⟨b5, cellsAt_keep e5 (by simp) _ _ c4, by omega, by omega, by omega, Nat.le_refl _⟩
  have hb0 := b1.lt
  have hlen := hl
  have h1z : h.size < g2.size := by have := e2.size; omega
  have hb1k : h.size ∉ g4.size :: blkOf (some (⟨g2.size, 0, none⟩ : Addr)) := by simp [blkOf]; omega
  obtain ⟨g, hg⟩ : ∃ g, g = g4.size := ⟨_, rfl⟩
  obtain ⟨pS, hpS⟩ : ∃ pS, pS = some (⟨g2.size, 0, none⟩ : Addr) := ⟨_, rfl⟩
  rw [← hg] at wF hb1k ⊢
  rw [← hpS] at hb1k
  have hun : wUnt u = headL ++ wCnt wItm u.text ++ (wCnt wItm u.data ++ (wCnt wEqu u.equs ++ wCnt wText u.globs)) := by unfold wUnt; simp only [List.append_assoc]
  rw [hun] at hlen
  simp only [List.length_append] at hlen
  refine loads_box b1 ((a.p, a.l, a.c), ()) rfl ?_
  dsimp only [flat, unc, unc1, List.nil_append, List.cons_append]
  refine call_of (wItemsF_hc t2 e25 wF v2.text (by omega)) ?_
  rintro _ g6 ⟨rfl, p6, w6, s6⟩
  refine ⟨(), rfl, ?_⟩
  dsimp only [flat, unc, unc1, List.nil_append, List.cons_append]
  rw [← hpS] at s6
  obtain ⟨b6, k6⟩ := s6.box b1 hb1k
  have e6 : Ext g2 g6 := Ch.trans e25 s6.1 (fun i hi hl => by rw [hpS] at hi; simp [blkOf] at hi; omega)
  rw [Bool.false_or] at w6
  refine loads_box b6 ((b.p, b.l, b.c), ()) rfl ?_
  dsimp only [flat, unc, unc1, List.nil_append, List.cons_append]
  refine call_of (wItems_hc t2 e6 w6 v2.data (by rw [List.length_append]; omega)) ?_
  rintro _ g7 ⟨rfl, p7, w7, s7⟩
  refine ⟨(), rfl, ?_⟩
  dsimp only [flat, unc, unc1, List.nil_append, List.cons_append]
  obtain ⟨b7, k7⟩ := s7.box b6 k6
  have e7 := w6.ext e6 s7
  have s7 := s6.trans s7
  refine loads_box b7 ((c.p, c.l, c.c), ()) rfl ?_
  dsimp only [flat, unc, unc1, List.nil_append, List.cons_append]
  rw [wrap_u32]
  have hwe : (wCnt wEqu u.equs).length = 2 + (u.equs.flatMap wEqu).length := by unfold wCnt; rw [List.length_append, bytB_length]
  have hwg : (wCnt wText u.globs).length = 2 + (u.globs.flatMap wText).length := by unfold wCnt; rw [List.length_append, bytB_length]
  refine call_of (wNumber_hc w7 (u32 c.l) 2 e7.size (by simp only [List.length_append]; omega)) ?_
  rintro _ g8 ⟨rfl, p8, w8, s8⟩
  refine ⟨(), rfl, ?_⟩
  dsimp only [flat, unc, unc1, List.nil_append, List.cons_append]
  rw [bytB_u32, n3] at w8
  obtain ⟨b8, k8⟩ := s8.box b7 k7
  have e8 := w7.ext e7 s8
  have s8 := s7.trans s8
  refine loads_box b8 ((c.p, c.l, c.c), ()) rfl ?_
  dsimp only [flat, unc, unc1, List.nil_append, List.cons_append]
  refine loop_of (cs := [(false, [.int .i64])]) (fun y m h' => ∃ (i : Nat) (p' : Option Addr) (cs : Bt) (mm : Bool), y.1 = (i : Int) ∧ i ≤ u.equs.length ∧ m = u.equs.length - i ∧ WrS h' g2.size g p' cs mm ∧ Wst g g5 pS h' p' ∧ Ext g2 h' ∧ Box h' h.size 28 [a.v, b.v, c.v, d.v] ∧ h.size ∉ g :: blkOf p' ∧ wUnt u = cs ++ ((u.equs.drop i).flatMap wEqu ++ wCnt wText u.globs) ∧ bigU u = (mm || (u.equs.drop i).any fun e => bigL e.2)) ((0 : Int), ()) u.equs.length rfl
    ⟨0, p8, _, _, rfl, by omega, by omega, w8, s8, e8, b8, k8, by rw [hun, List.drop_zero]; unfold wCnt; simp only [List.append_assoc], by rw [List.drop_zero]; unfold bigU; rw [Bool.or_assoc]⟩ ?_
  clear w6 w7 w8 s6 s7 s8 e6 e7 e8 b6 b7 b8 k6 k7 k8 b1 hb1k wF
  rintro ⟨n12, ⟨⟩⟩ m g9 ⟨i, p9, cs, mm, hi, hik, rfl, w9, s9, e9, b9, k9, hbs, hmy⟩
  simp only at hi
  subst hi
  dsimp only [flat, unc, unc1, List.nil_append, List.cons_append]
  have hlb := congrArg List.length hbs
  simp only [List.length_append] at hlb
  have hz9 := e9.size
  refine cond_mk (fun r => ?_) (fun r => ?_)
  · have r := of_decide_eq_true r
    have hil : i < u.equs.length := by omega
    obtain ⟨aa, qq, ll, cc, rfl', hc, va, vn⟩ := v2.equs.cells i hil
    have hc := cellsAt_keep e9 (by simp) _ _ hc
    rw [List.drop_eq_getElem_cons hil, List.flatMap_cons] at hbs hlb
    rw [List.drop_eq_getElem_cons hil, List.any_cons] at hmy
    generalize u.equs[i] = x at hc hbs hlb hmy va vn
    refine need_of ⟨by omega, by omega⟩ (osome_mk rfl' ?_)
    rw [show Int.toNat (i : Int) = i by omega]
    refine loads_of (x.1, (qq, ll, cc), (x.2.num : Int), ()) hc ?_
    dsimp only [flat, unc, unc1, List.nil_append, List.cons_append]
    refine newB ?_
    intro h3 b3 e3 z3
    refine stores_of b3 rfl (by simp) ?_
    intro h4 b4 k4' z4
    have b4 : Box h4 g9.size 78 (encE qq ll cc x) := b4
    have e24 : Ext g9 h4 := e3.st k4' (Nat.le_refl _)
    have w4 := w9.keep e24
    have s4 := s9.trans (Wst.of e24 p9)
    have k4 : g9.size ∉ g :: blkOf p9 := fun hh => absurd (w9.blk _ hh).2 (by omega)
    have e4 := e9.trans e24
    have b10 := b9.keep e24 (by simp)
    simp only [List.length_append, wEqu] at hlb
    refine loads_box b4 (x.1, ()) rfl ?_
    dsimp only [flat, unc, unc1, List.nil_append, List.cons_append]
    refine call_of (wText_hc w4 x.1 e4.size (by omega)) ?_
    rintro _ h5 ⟨rfl, p5, w5, t5⟩
    refine ⟨(), rfl, ?_⟩
    dsimp only [flat, unc, unc1, List.nil_append, List.cons_append]
    obtain ⟨b5, k5⟩ := t5.box b4 k4
    obtain ⟨b11, k11⟩ := t5.box b10 k9
    have e5 := w4.ext e4 t5
    rw [add_box]
    refine loads_box b5 ((qq, ll, cc), (x.2.num : Int), ()) rfl ?_
    dsimp only [flat, unc, unc1, List.nil_append, List.cons_append]
    refine call_of (wLin_hc e5 w5 (va : LinAt g2 qq ll x.2) (by rw [List.length_append]; omega)) ?_
    rintro _ h6 ⟨rfl, p6, w6, t6⟩
    refine ⟨(), rfl, ?_⟩
    dsimp only [flat, unc, unc1, List.nil_append, List.cons_append]
    obtain ⟨b12, k12⟩ := t6.box b11 k11
    refine again_mk (cs := [(false, [.int .i64])]) (((i + 1 : Nat) : Int), ()) (u.equs.length - (i + 1)) rfl (by omega) (by rw [wrap_i64 (by omega) (by omega)]; rfl) ?_
    exact ⟨i + 1, p6, _, _, rfl, by omega, rfl, w6, (s4.trans t5).trans t6, w5.ext e5 t6, b12, k12, by rw [hbs]; simp only [wEqu, List.append_assoc], by rw [hmy]; unfold bigL; rw [Bool.or_assoc]⟩
  have r := of_decide_eq_false r
  have hil : i = u.equs.length := by omega
  subst hil
  rw [List.drop_length, List.flatMap_nil, List.nil_append] at hbs
  rw [List.drop_length, List.flatMap_nil, List.length_nil, Nat.zero_add] at hlb
  rw [List.drop_length, List.any_nil, Bool.or_false] at hmy
  refine loads_box b9 ((d.p, d.l, d.c), ()) rfl ?_
  dsimp only [flat, unc, unc1, List.nil_append, List.cons_append]
  rw [wrap_u32]
  refine call_of (wNumber_hc w9 (u32 d.l) 2 hz9 (by omega)) ?_
  rintro _ g8 ⟨rfl, p8, w8, t8⟩
  refine ⟨(), rfl, ?_⟩
  dsimp only [flat, unc, unc1, List.nil_append, List.cons_append]
  rw [bytB_u32, n4] at w8
  obtain ⟨b8, k8⟩ := t8.box b9 k9
  have e8 := w9.ext e9 t8
  have s8 := s9.trans t8
  refine loads_box b8 ((d.p, d.l, d.c), ()) rfl ?_
  dsimp only [flat, unc, unc1, List.nil_append, List.cons_append]
  refine loop_of (cs := [(false, [.int .i64])]) (fun y m h' => ∃ (i : Nat) (p' : Option Addr) (cs : Bt) (mm : Bool), y.1 = (i : Int) ∧ i ≤ u.globs.length ∧ m = u.globs.length - i ∧ WrS h' g2.size g p' cs mm ∧ Wst g g5 pS h' p' ∧ Ext g2 h' ∧ Box h' h.size 28 [a.v, b.v, c.v, d.v] ∧ h.size ∉ g :: blkOf p' ∧ wUnt u = cs ++ ((u.globs.drop i).flatMap wText ) ∧ bigU u = (mm || false)) ((0 : Int), ()) u.globs.length rfl
    ⟨0, p8, _, _, rfl, by omega, by omega, w8, s8, e8, b8, k8, by rw [hbs, List.drop_zero]; unfold wCnt; simp only [List.append_assoc], by rw [hmy, Bool.or_false]⟩ ?_
  clear w8 w9 s8 s9 e8 e9 b8 b9 k8 k9 hbs hmy hlb hz9 t8
  rintro ⟨n12, ⟨⟩⟩ m g9 ⟨i, p9, cs, mm, hi, hik, rfl, w9, s9, e9, b9, k9, hbs, hmy⟩
  simp only at hi
  subst hi
  dsimp only [flat, unc, unc1, List.nil_append, List.cons_append]
  have hlb := congrArg List.length hbs
  simp only [List.length_append] at hlb
  have hz9 := e9.size
  refine cond_mk (fun r => ?_) (fun r => ?_)
  · have r := of_decide_eq_true r
    have hil : i < u.globs.length := by omega
    obtain ⟨aa, rfl', hc, vn⟩ := v2.globs.cells i hil
    have hc := cellsAt_keep e9 (by simp) _ _ hc
    rw [List.drop_eq_getElem_cons hil, List.flatMap_cons] at hbs hlb
    generalize u.globs[i] = x at hc hbs hlb vn
    simp only [List.length_append] at hlb
    refine need_of ⟨by omega, by omega⟩ (osome_mk rfl' ?_)
    rw [show Int.toNat (i : Int) = i by omega]
    refine loads_of (x, ()) hc ?_
    dsimp only [flat, unc, unc1, List.nil_append, List.cons_append]
    refine call_of (wText_hc w9 x hz9 (by omega)) ?_
    rintro _ h5 ⟨rfl, p5, w5, t5⟩
    refine ⟨(), rfl, ?_⟩
    dsimp only [flat, unc, unc1, List.nil_append, List.cons_append]
    obtain ⟨b5, k5⟩ := t5.box b9 k9
    refine again_mk (cs := [(false, [.int .i64])]) (((i + 1 : Nat) : Int), ()) (u.globs.length - (i + 1)) rfl (by omega) (by rw [wrap_i64 (by omega) (by omega)]; rfl) ?_
    exact ⟨i + 1, p5, _, _, rfl, by omega, rfl, w5, s9.trans t5, w9.ext e9 t5, b5, k5, by rw [hbs]; simp only [List.append_assoc], hmy⟩
  have r := of_decide_eq_false r
  have hil : i = u.globs.length := by omega
  subst hil
  rw [List.drop_length, List.flatMap_nil, List.append_nil] at hbs
  rw [Bool.or_false] at hmy
  subst hbs hmy
  have e09 : Ext h g9 := e02.trans e9
  obtain ⟨l, cc, bb, ss, hgg, hbg⟩ := id w9
  have hll : l = (wUnt u).length := by rw [ss.1, byC_length]
  refine loads_box bb (bigU u, ()) rfl ?_
  dsimp only [flat, unc, unc1, List.nil_append, List.cons_append]
  refine cond_mk (fun r => ?_) (fun r => ?_)
  · have hw : wrE u = 4 := by rw [hw, if_pos r]
    exact ⟨⟨none, 0, 0⟩, by rw [hw]; rfl, fun _ => rfl, fun h0 => (by rw [hw] at h0; cases h0), e09⟩
  rw [if_neg (by rw [r]; simp)] at hw
  refine loads_box bb ((p9, l, cc), ()) rfl ?_
  dsimp only [flat, unc, unc1, List.nil_append, List.cons_append]
  refine cond_mk (fun r => ?_) (fun r => ?_)
  · have r := of_decide_eq_true r
    have hw : wrE u = 3 := by rw [hw, if_pos (by omega)]
    exact ⟨⟨none, 0, 0⟩, by rw [hw]; rfl, fun _ => rfl, fun h0 => (by rw [hw] at h0; cases h0), e09⟩
  · have r := of_decide_eq_false r
    have hw : wrE u = 0 := by rw [hw, if_neg (by omega)]
    refine loads_box bb ((p9, l, cc), ()) rfl ?_
    dsimp only [flat, unc, unc1, List.nil_append, List.cons_append]
    refine ⟨⟨p9, l, cc⟩, by rw [hw]; rfl, fun h0 => absurd hw h0, fun _ => ?_, e09⟩
    exact ⟨ss.1, ss.2.1, by
      have := ss.2.2
      cases p9 with
      | none => exact this
      | some a9 =>
        obtain ⟨g', pre, rest, h1, h2, h3⟩ := this
        exact ⟨g', pre, rest, h1, by omega, h3⟩⟩
end Go.Sx.Ob

set_option linter.unusedVariables false
set_option linter.unusedSimpArgs false
set_option maxRecDepth 100000
namespace Go.Sx.Ob
open Go.Proofs
structure VwB (h : Hp) (p : Option Addr) (l : Nat) (us : Bt) : Prop where
  len : l = us.length
  cells : ∀ i, (hi : i < us.length) → ∃ a, p = some a ∧ cellsAt h (a.add (i * 1)) 0 [.int .u8 (us[i].toNat : Int)]
theorem VwB.keep {h h' : Hp} {p : Option Addr} {l : Nat} {us : Bt} (v : VwB h p l us) (k : Ext h h') : VwB h' p l us :=
  ⟨v.len, fun i hi => by
    obtain ⟨a, ha, hc⟩ := v.cells i hi
    exact ⟨a, ha, cellsAt_keep k (by simp) _ _ hc⟩⟩
theorem legal63_hc (h : Hp) {w : Nat} (hw : w = 1 ∨ w = 2 ∨ w = 4) : HCp Tryz.prog 97 [.int .i64 w] h (.bool true) := by
  refine hcp_of mixed Tryz.func97 (by kernel_rfl) (t_octet_legal_eq w) ?_
  unfold t_octet_legal
  rcases hw with rfl | rfl | rfl
  · exact cond_t rfl ⟨rfl, rfl⟩
  · exact cond_f rfl (cond_t rfl ⟨rfl, rfl⟩)
  · exact cond_f rfl (cond_f rfl ⟨rfl, rfl⟩)
theorem shl_or {n b : Nat} (hn : n < 16777216) (hb : b < 256) :
    (IntKind.wrap .u32 (((BitVec.toNat ((BitVec.ofInt 32 (IntKind.wrap .u32 ((n : Int) * (256 : Int)))) ||| (BitVec.ofInt 32 (IntKind.wrap .u32 (b : Int))))) : Nat) : Int)) = ((b + 256 * n : Nat) : Int) := by
  have h1 : IntKind.wrap .u32 ((n : Int) * 256) = ((256 * n : Nat) : Int) := by rw [Go.Sx.wrap_u32 (by omega) (by omega)]; omega
  have h2 : IntKind.wrap .u32 (b : Int) = ((b : Nat) : Int) := by rw [Go.Sx.wrap_u32 (by omega) (by omega)]
  rw [h1, h2, BitVec.ofInt_natCast, BitVec.ofInt_natCast, BitVec.toNat_or, BitVec.toNat_ofNat, BitVec.toNat_ofNat, Nat.mod_eq_of_lt (by omega), Nat.mod_eq_of_lt (by omega)]
  have h3 : 256 * n ||| b = b + 256 * n := by
    have h4 : 256 * n + b = 256 * n ||| b := Nat.two_pow_add_eq_or_of_lt (i := 8) (b := b) (by omega) n
    rw [← h4, Nat.add_comm]
  rw [h3, Go.Sx.wrap_u32 (by omega) (by omega)]
theorem get_hc {h : Hp} {p : Option Addr} {l c : Nat} {us : Bt} (v : VwB h p l us) {i w : Nat} (hw : w = 1 ∨ w = 2 ∨ w = 4) (hi : i ≤ us.length) (hl : us.length ≤ 2 ^ 60) :
    HCp Tryz.prog 96 [.slice p l c, .int .i64 i, .int .i64 w] h (if w ≤ us.length - i then .tuple #[.int .u32 (numB ((us.drop i).take w) : Nat), .int .i64 0] else .tuple #[.int .u32 0, .int .i64 10]) := by
  refine hcp_of mixed Tryz.func96 (by kernel_rfl) (t_octet_Get_eq p l c i w) ?_
  unfold t_octet_Get
  have hll := v.len
  refine call_bool (legal63_hc h hw) ?_
  refine cond_f rfl ?_
  refine cond_f (by simp) ?_
  refine cond_f (by simp; omega) ?_
  rw [wrap_i64 (by omega) (by omega)]
  refine cond_mk (fun q => ?_) (fun q => ?_)
  · have q := of_decide_eq_true q
    exact ⟨by rw [if_neg (by omega)], rfl⟩
  have q := of_decide_eq_false q
  rw [if_pos (by omega), wrap_i64 (by omega) (by omega)]
  refine loop_of (cs := [(false, [.int .u32]), (false, [.int .i64])]) (fun y m h' => ∃ k : Nat, k ≤ w ∧ m = k ∧ y.2.1 = (k : Int) - 1 ∧ y.1 = ((numB ((us.drop (i + k)).take (w - k)) : Nat) : Int) ∧ h' = h) ((0 : Int), (w : Int) - 1, ()) w rfl
    ⟨w, Nat.le_refl _, rfl, rfl, by rw [Nat.sub_self, List.take_zero]; rfl, rfl⟩ ?_
  rintro ⟨n4, n5, ⟨⟩⟩ m h1 ⟨k, hk, rfl, h5, h4, rfl⟩
  simp only at h4 h5
  subst h4 h5
  dsimp only [flat, unc, unc1, List.nil_append, List.cons_append]
  refine cond_mk (fun r => ?_) (fun r => ?_)
  · have r := of_decide_eq_true r
    rw [wrap_i64 (by omega) (by omega)]
    refine need_of (by omega) (need_of ⟨by omega, by omega⟩ ?_)
    have hik : i + (m - 1) < us.length := by omega
    obtain ⟨a, rfl, hc⟩ := v.cells (i + (m - 1)) hik
    refine osome_mk rfl ?_
    have hix : ∀ z : Int, z = (i : Int) + ((m : Int) - 1) → z.toNat = i + (m - 1) := fun z hz => by omega
    have hc' : cellsAt h1 (a.add (Int.toNat ((i : Int) + ((m : Int) - 1)) * 1)) 0 [.int .u8 (us[i + (m - 1)].toNat : Int)] := by
      rw [hix _ rfl]
      exact hc
    refine loads_of ((us[i + (m - 1)].toNat : Int), ()) hc' ?_
    dsimp only [flat, unc, unc1, List.nil_append, List.cons_append]
    have hlt := numB_lt ((us.drop (i + m)).take (w - m))
    have hle : ((us.drop (i + m)).take (w - m)).length ≤ 3 := by rw [List.length_take]; omega
    have hp3 : 256 ^ ((us.drop (i + m)).take (w - m)).length ≤ 256 ^ 3 := Nat.pow_le_pow_right (by omega) hle
    have hbb := us[i + (m - 1)].toNat_lt
    rw [shl_or (by omega) (by omega), wrap_i64 (by omega) (by omega)]
    refine again_mk (cs := [(false, [.int .u32]), (false, [.int .i64])]) (_, (m : Int) - 1 - 1, ()) (m - 1) rfl (by omega) rfl ?_
    have hm1 : (m : Int) - 1 - 1 = ((m - 1 : Nat) : Int) - 1 := by omega
    refine ⟨m - 1, by omega, rfl, hm1, ?_, rfl⟩
    rw [show w - (m - 1) = (w - m) + 1 by omega, List.drop_eq_getElem_cons hik, List.take_succ_cons, numB, show i + (m - 1) + 1 = i + m by omega]
  · have r := of_decide_eq_false r
    have : m = 0 := by omega
    subst this
    exact ⟨rfl, rfl⟩
theorem bytesBack {P : Program} {h : Hp} (a : Addr) (l : List UInt8) (cap : Nat) (K : Value → Hp → Prop) (hc : cellsAt h a 0 (l.map byteV)) (hk : K (.string ⟨l.toArray⟩) h) : semW P (Conv.bytesToString (.slice (some a) l.length cap)) h K := by
  unfold Conv.bytesToString
  simp only
  rw [semW_bind']
  refine semW_loadCells (by simp) hc _ ?_
  rw [semW_bind', ← Array.forIn_toList]
  have key : ∀ (l : List UInt8) (s : ByteArray) (K' : ByteArray → Hp → Prop), K' ⟨s.data ++ l.toArray⟩ h → semW P (forIn (l.map byteV) s fun c r => match c with
      | .int .u8 n => (pure (ForInStep.yield (r.push (UInt8.ofNat n.toNat))) : Sem (ForInStep ByteArray))
      | _ => stuck "bytesToString: byte expected") h K' := by
    intro l
    induction l with
    | nil =>
      intro s K' hk
      have e : (⟨s.data ++ ([] : List UInt8).toArray⟩ : ByteArray) = s := by simp
      rw [e] at hk
      exact hk
    | cons c l ih =>
      intro s K' hk
      rw [List.map_cons, List.forIn_cons]
      rw [semW_bind']
      show semW P (forIn (List.map byteV l) (s.push (UInt8.ofNat ((c.toNat : Nat) : Int).toNat)) _) h K'
      have e1 : UInt8.ofNat ((c.toNat : Nat) : Int).toNat = c := by simp
      rw [e1]
      refine ih (s.push c) K' ?_
      have : (⟨(s.push c).data ++ l.toArray⟩ : ByteArray) = ⟨s.data ++ (c :: l).toArray⟩ := by
        congr 1
        apply Array.toList_inj.1
        simp
      rw [this]; exact hk
  refine key l ByteArray.empty _ ?_
  have e : (⟨ByteArray.empty.data ++ l.toArray⟩ : ByteArray) = ⟨l.toArray⟩ := by
    congr 1
    apply Array.toList_inj.1
    simp
  rw [e]
  exact hk
theorem VwB.from {h : Hp} {a : Addr} {l : Nat} {us : Bt} (v : VwB h (some a) l us) : ∀ (n i : Nat), i + n ≤ us.length → cellsAt h (a.add (i * 1)) 0 (((us.drop i).take n).map byteV) := by
  have key : ∀ (n i k : Nat), i + k + n ≤ us.length → cellsAt h (a.add (i * 1)) k (((us.drop (i + k)).take n).map byteV) := by
    intro n
    induction n with
    | zero => intro i k _; trivial
    | succ n ih =>
      intro i k hk
      rw [List.drop_eq_getElem_cons (by omega), List.take_succ_cons, List.map_cons]
      obtain ⟨b, hb, hc⟩ := v.cells (i + k) (by omega)
      cases hb
      refine ⟨?_, ?_⟩
      · have := hc.1
        rw [show (a.add ((i + k) * 1)).add 0 = (a.add (i * 1)).add k by rw [Go.Sx.add_add, Go.Sx.add_add]; congr 1; omega] at this
        exact this
      · have := ih i (k + 1) (by omega)
        rw [← Nat.add_assoc] at this
        exact this
  intro n i hi
  exact key n i 0 (by omega)
theorem conv22_9 {h : Hp} {K : Value → Hp → Prop} (x : Value) (hx : semW Tryz.prog (Conv.bytesToString x) h K) (hs : ∃ a l c, x = .slice a l c) : semW Tryz.prog (convert 22 9 x) h K := by
  have he : Tryz.prog.underlying 5 = some (.int .u8) := by kernel_rfl
  obtain ⟨a, l, c, rfl⟩ := hs
  simp [convert, semW_bind', semW_underlying und22, semW_underlying und9, semW_underlying he]
  exact hx
theorem getText_hc {h : Hp} {p : Option Addr} {l c : Nat} {us : Bt} (v : VwB h p l us) (hc : l ≤ c) {i : Nat} (hi : i ≤ us.length) (hl : us.length ≤ 2 ^ 60) :
    HCp Tryz.prog 84 [.slice p l c, .int .i64 i, .int .i64 65535] h (match textR (us.drop i) with | .ok q => .tuple #[.string q.1, .int .i64 ((us.length - q.2.length : Nat) : Int), .int .i64 0] | .error _ => .tuple #[.string ⟨#[]⟩, .int .i64 0, .int .i64 10]) := by
  refine hcp_of mixed Tryz.func84 (by kernel_rfl) (t_octet_GetText_eq p l c i 65535) ?_
  unfold t_octet_GetText
  have hll := v.len
  have hg := get_hc (c := c) v (w := 2) (by omega) hi hl
  unfold textR numR
  rw [List.length_drop]
  by_cases h2 : 2 ≤ us.length - i
  · rw [if_pos h2] at hg ⊢
    rw [andR_okk]
    have hnlt := numB_lt ((us.drop i).take 2)
    rw [show ((us.drop i).take 2).length = 2 by rw [List.length_take, List.length_drop]; omega] at hnlt
    generalize numB ((us.drop i).take 2) = n at hg hnlt
    refine call_ii hg ?_
    refine cond_f rfl ?_
    rw [wrap_i64 (x := (n : Int)) (by omega) (by omega), wrap_i64 (x := (i : Int) + 2) (by omega) (by omega), wrap_i64 (x := (l : Int) - ((i : Int) + 2)) (by omega) (by omega), wrap_i64 (x := (i : Int) + 2 + (n : Int)) (by omega) (by omega)]
    refine cond_f (by simp; omega) ?_
    rw [List.drop_drop, List.length_drop]
    refine cond_mk (fun q => ?_) (fun q => ?_)
    · have q := of_decide_eq_true q
      rw [if_neg (show ¬ n ≤ us.length - (i + 2) by omega)]
      exact ⟨rfl, rfl⟩
    have q := of_decide_eq_false q
    rw [if_pos (show n ≤ us.length - (i + 2) by omega)]
    refine need_of ⟨by omega, by omega, by omega⟩ ?_
    obtain ⟨a, rfl, _⟩ := v.cells 0 (by omega)
    have e1 : Int.toNat ((i : Int) + 2) = i + 2 := by omega
    have e2 : Int.toNat ((i : Int) + 2 + (n : Int)) = i + 2 + n := by omega
    rw [e1, e2, show i + 2 + n - (i + 2) = n by omega]
    have hbs : (((us.drop (i + 2)).take n)).length = n := by rw [List.length_take, List.length_drop]; omega
    have hcell := v.from n (i + 2) (by omega)
    have hfin : (T.ret (.tuple #[.string ⟨((us.drop (i + 2)).take n).toArray⟩, .int .i64 ((i : Int) + 2 + (n : Int)), .int .i64 0])) [] (fun v' h' => v' = (.tuple #[.string ⟨((us.drop (i + 2)).take n).toArray⟩, .int .i64 ((us.length - ((us.drop (i + 2)).drop n).length : Nat) : Int), .int .i64 0] : Value) ∧ h' = h) h := by
      refine ⟨?_, rfl⟩
      rw [List.drop_drop, List.length_drop]
      have : ((us.length - (us.length - (i + 2 + n)) : Nat) : Int) = (i : Int) + 2 + n := by omega
      rw [this]
    refine conv22_9 _ ?_ ⟨_, _, _, rfl⟩
    by_cases hcc : c = i + 2
    · rw [if_pos hcc]
      have hn0 : n = 0 := by omega
      subst hn0
      exact bytesBack a [] _ _ trivial ⟨((⟨((us.drop (i + 2)).take 0).toArray⟩ : ByteArray), ()), rfl, hfin⟩
    · rw [if_neg hcc]
      have := fun K hk => bytesBack (P := Tryz.prog) (a.add ((i + 2) * 1)) ((us.drop (i + 2)).take n) (c - (i + 2)) K hcell hk
      rw [hbs] at this
      exact this _ ⟨((⟨((us.drop (i + 2)).take n).toArray⟩ : ByteArray), ()), rfl, hfin⟩
  · rw [if_neg h2] at hg ⊢
    refine call_ii hg ?_
    exact cond_t rfl ⟨rfl, rfl⟩
end Go.Sx.Ob

set_option linter.unusedVariables false
set_option linter.unusedSimpArgs false
set_option maxRecDepth 100000
namespace Go.Sx.Ob
open Go.Proofs
/-- A reader reads, or has refused. -/
abbrev St := Except (Nat × Nat) Bt
def noAt (h : Hp) (g gm : Nat) (full : Bt) (at_ : Nat) (no : Option Addr) : St → Prop
  | .ok r => no = none ∧ full.drop at_ = r
  | .error e => e.1 ≤ full.length ∧ ∃ a, no = some ⟨a, 0, none⟩ ∧ Box h a 59 [.int .i64 ((full.length - e.1 : Nat) : Int), .int .i64 (e.2 : Nat)] ∧ a ≠ g ∧ a ≠ gm
def RdS (h : Hp) (g gm : Nat) (bp : Option Addr) (bl bc : Nat) (full : Bt) (st : St) (D : List ByteArray) : Prop :=
  ∃ (at_ : Nat) (no : Option Addr), Box h g 63 [.slice bp bl bc, .int .i64 at_, .pointer no, .map (some gm)] ∧ at_ ≤ full.length ∧ SetB h gm D ∧ g ≠ gm ∧ noAt h g gm full at_ no st
theorem noAt.keep {ws : List Nat} {h h' : Hp} {g gm : Nat} {full : Bt} {at_ : Nat} {no : Option Addr} {st : St} (n : noAt h g gm full at_ no st) (k : Ch ws h h') (hw : ∀ i, i ∈ ws → i < h.size → i = g ∨ i = gm) : noAt h' g gm full at_ no st := by
  cases st with
  | ok r => exact n
  | error e =>
    obtain ⟨h1, a, h2, h3, h4, h5⟩ := n
    exact ⟨h1, a, h2, h3.keep k (fun hi => (hw a hi h3.lt).elim (fun e => h4 e) (fun e => h5 e)), h4, h5⟩
theorem RdS.keep {h h' : Hp} {g gm : Nat} {bp : Option Addr} {bl bc : Nat} {full : Bt} {st : St} {D : List ByteArray} (s : RdS h g gm bp bl bc full st D) (k : Ext h h') : RdS h' g gm bp bl bc full st D := by
  obtain ⟨at_, no, b, ha, m, hg, n⟩ := s
  exact ⟨at_, no, b.keep k (by simp), ha, m.keep k (by simp), hg, n.keep k (by simp)⟩
theorem RdS.lt {h : Hp} {g gm : Nat} {bp : Option Addr} {bl bc : Nat} {full : Bt} {st : St} {D : List ByteArray} (s : RdS h g gm bp bl bc full st D) : g < h.size ∧ gm < h.size := by
  obtain ⟨at_, no, b, ha, m, hg, n⟩ := s
  exact ⟨b.lt, m.lt⟩
/-- What a step of a reader does: where it reads, as the plain reader; where it has refused, nothing. -/
def Stp {α : Type} (f : Bt → Rd α) (st : St) (x : α) (st' : St) : Prop :=
  match st with
  | .error e => st' = .error e
  | .ok r => match f r with
    | .ok q => x = q.1 ∧ st' = .ok q.2
    | .error e => st' = .error e
theorem Stp.off {α : Type} (f : Bt → Rd α) (e : Nat × Nat) (x : α) : Stp f (.error e) x (.error e) := rfl
theorem Stp.and {α β : Type} {f : Bt → Rd α} {k : α → Bt → Rd β} {st st1 st2 : St} {x : α} {y : β} (h1 : Stp f st x st1) (h2 : Stp (k x) st1 y st2) : Stp (fun r => andR (f r) k) st y st2 := by
  cases st with
  | error e =>
    have h1 : st1 = .error e := h1
    rw [h1] at h2
    exact h2
  | ok r =>
    unfold Stp at h1 ⊢
    simp only at h1 ⊢
    cases hf : f r with
    | error e =>
      rw [hf] at h1
      have h1 : st1 = .error e := h1
      rw [h1] at h2
      exact h2
    | ok q =>
      rw [hf] at h1
      obtain ⟨rfl, h1⟩ := h1
      rw [h1] at h2
      exact h2
theorem Stp.ret {α : Type} (x : α) (st : St) : Stp (fun r => .ok (x, r)) st x st := by
  cases st with
  | error e => rfl
  | ok r => exact ⟨rfl, rfl⟩
def refS (full : Bt) (at_ why : Nat) : St → St
  | .ok _ => .error (full.length - at_, why)
  | .error e => .error e
theorem refuse_hc {h : Hp} {g gm : Nat} {bp : Option Addr} {bl bc : Nat} {full : Bt} {st : St} {D : List ByteArray} (s : RdS h g gm bp bl bc full st D) {i why : Nat} (hi : i ≤ full.length) :
    HC Tryz.prog 49 #[.pointer (some ⟨g, 0, none⟩), .int .i64 i, .int .i64 why] h fun v h' => v = .tuple #[] ∧ RdS h' g gm bp bl bc full (refS full i why st) D ∧ Ch [g] h h' := by
  refine hcr_of (args := [.pointer (some ⟨g, 0, none⟩), .int .i64 i, .int .i64 why]) mixed Tryz.func49 (by kernel_rfl) (t_object_reader__refuse_eq (some ⟨g, 0, none⟩) i why) ?_
  unfold t_object_reader__refuse
  obtain ⟨at_, no, b, ha, m, hg, n⟩ := id s
  refine osome_mk rfl ?_
  rw [add_box]
  refine loads_box b (no, ()) rfl ?_
  dsimp only [flat, unc, unc1, List.nil_append, List.cons_append]
  cases st with
  | ok r =>
    obtain ⟨rfl, hr⟩ := n
    refine cond_t rfl ?_
    refine newB ?_
    intro h1 b1 e1 z1
    refine osome_mk rfl ?_
    rw [add_box]
    refine stores_of (b.keep e1 (by simp)) rfl (by simp) ?_
    intro h2 b2 k2 z2
    have hgl := b.lt
    have hml := m.lt
    refine ⟨rfl, ⟨at_, some ⟨h.size, 0, none⟩, b2, ha, (m.keep e1 (by simp)).keep k2 (by simp; omega), hg, ?_⟩, (e1.mono (by simp)).trans k2 (by simp)⟩
    refine ⟨by simp, h.size, rfl, ?_, by omega, by omega⟩
    have := b1.keep k2 (by simp; omega)
    rw [show full.length - (full.length - i) = i by omega]
    exact this
  | error e =>
    obtain ⟨h1, a, rfl, h3, h4, h5⟩ := id n
    refine cond_f rfl ?_
    exact ⟨rfl, s, Ch.refl _ _⟩
theorem rNumber_hc {h0 h : Hp} (e0 : Ext h0 h) {g gm : Nat} {bp : Option Addr} {bl bc : Nat} {full : Bt} {st : St} {D : List ByteArray} (s : RdS h g gm bp bl bc full st D) (v : VwB h0 bp bl full) (hl : full.length ≤ 2 ^ 60) {w : Nat} (hw : w = 1 ∨ w = 2 ∨ w = 4) :
    HC Tryz.prog 81 #[.pointer (some ⟨g, 0, none⟩), .int .i64 w] h fun u h' => ∃ (n : Nat) (st' : St), u = .int .u32 n ∧ n < 256 ^ w ∧ RdS h' g gm bp bl bc full st' D ∧ Stp (numR w) st n st' ∧ Ch [g] h h' := by
  refine hcr_of (args := [.pointer (some ⟨g, 0, none⟩), .int .i64 w]) mixed Tryz.func81 (by kernel_rfl) (t_object_reader__number_eq (some ⟨g, 0, none⟩) w) ?_
  unfold t_object_reader__number
  have hll := v.len
  obtain ⟨at_, no, b, ha, m, hg, n⟩ := id s
  have hp0 : 0 < 256 ^ w := Nat.pow_pos (by omega)
  refine osome_mk rfl ?_
  rw [add_box]
  refine loads_box b (no, ()) rfl ?_
  dsimp only [flat, unc, unc1, List.nil_append, List.cons_append]
  cases st with
  | error e =>
    obtain ⟨h1, a, rfl, h3, h4, h5⟩ := id n
    refine cond_t rfl ?_
    exact ⟨0, .error e, rfl, hp0, s, rfl, Ch.refl _ _⟩
  | ok r =>
    obtain ⟨rfl, hr⟩ := n
    refine cond_f rfl ?_
    refine osome_mk rfl ?_
    refine loads_box b ((bp, bl, bc), ()) rfl ?_
    dsimp only [flat, unc, unc1, List.nil_append, List.cons_append]
    refine osome_mk rfl ?_
    rw [add_box]
    refine loads_box b ((at_ : Int), ()) rfl ?_
    dsimp only [flat, unc, unc1, List.nil_append, List.cons_append]
    have hgt := get_hc (c := bc) (v.keep e0) hw ha hl
    have hrl : r.length = full.length - at_ := by rw [← hr, List.length_drop]
    by_cases hb : w ≤ full.length - at_
    · rw [if_pos hb, hr] at hgt
      have hlt := numB_lt (r.take w)
      rw [List.length_take, Nat.min_eq_left (by omega)] at hlt
      refine call_ii hgt ?_
      refine cond_f rfl ?_
      refine osome_mk rfl ?_
      refine loads_box b ((at_ : Int), ()) rfl ?_
      dsimp only [flat, unc, unc1, List.nil_append, List.cons_append]
      refine osome_mk rfl ?_
      rw [wrap_i64 (by omega) (by omega)]
      refine stores_of b rfl (by simp) ?_
      intro h2 b2 k2 z2
      refine ⟨numB (r.take w), .ok (r.drop w), rfl, hlt, ⟨at_ + w, none, b2, by omega, m.keep k2 (by simp; omega), hg, rfl, by rw [← hr, List.drop_drop]⟩, ?_, k2⟩
      unfold Stp numR
      simp only
      rw [if_pos (by omega)]
      exact ⟨rfl, rfl⟩
    · rw [if_neg hb] at hgt
      refine call_ii hgt ?_
      refine cond_t rfl ?_
      refine osome_mk rfl ?_
      refine loads_box b ((bp, bl, bc), ()) rfl ?_
      dsimp only [flat, unc, unc1, List.nil_append, List.cons_append]
      subst hll
      refine call_of (refuse_hc s (i := full.length) (why := 10) (Nat.le_refl _)) ?_
      rintro _ h2 ⟨rfl, s2, k2⟩
      refine ⟨(), rfl, ?_⟩
      refine ⟨0, _, rfl, hp0, s2, ?_, k2⟩
      unfold Stp numR refS
      simp only
      rw [if_neg (by omega), Nat.sub_self]
theorem rText_hc {h0 h : Hp} (e0 : Ext h0 h) {g gm : Nat} {bp : Option Addr} {bl bc : Nat} {full : Bt} {st : St} {D : List ByteArray} (s : RdS h g gm bp bl bc full st D) (v : VwB h0 bp bl full) (hc : bl ≤ bc) (hl : full.length ≤ 2 ^ 60) :
    HC Tryz.prog 58 #[.pointer (some ⟨g, 0, none⟩)] h fun u h' => ∃ (t : ByteArray) (st' : St), u = .string t ∧ t.size < 65536 ∧ RdS h' g gm bp bl bc full st' D ∧ Stp textR st t st' ∧ Ch [g] h h' := by
  refine hcr_of (args := [.pointer (some ⟨g, 0, none⟩)]) mixed Tryz.func58 (by kernel_rfl) (t_object_reader__text_eq (some ⟨g, 0, none⟩)) ?_
  unfold t_object_reader__text
  have hll := v.len
  obtain ⟨at_, no, b, ha, m, hg, n⟩ := id s
  refine osome_mk rfl ?_
  rw [add_box]
  refine loads_box b (no, ()) rfl ?_
  dsimp only [flat, unc, unc1, List.nil_append, List.cons_append]
  cases st with
  | error e =>
    obtain ⟨h1, a, rfl, h3, h4, h5⟩ := id n
    refine cond_t rfl ?_
    exact ⟨⟨#[]⟩, .error e, rfl, by decide, s, rfl, Ch.refl _ _⟩
  | ok r =>
    obtain ⟨rfl, hr⟩ := n
    refine cond_f rfl ?_
    refine osome_mk rfl ?_
    refine loads_box b ((bp, bl, bc), ()) rfl ?_
    dsimp only [flat, unc, unc1, List.nil_append, List.cons_append]
    refine osome_mk rfl ?_
    rw [add_box]
    refine loads_box b ((at_ : Int), ()) rfl ?_
    dsimp only [flat, unc, unc1, List.nil_append, List.cons_append]
    have hgt := getText_hc (v.keep e0) hc ha hl
    have hrl : r.length = full.length - at_ := by rw [← hr, List.length_drop]
    rw [hr] at hgt
    cases ht : textR r with
    | ok q =>
      rw [ht] at hgt
      obtain ⟨t, r'⟩ := q
      obtain ⟨hq1, hq2⟩ := textR_ok ht
      have hr'l : r'.length ≤ r.length := by rw [hq1, List.length_append]; omega
      refine call_p hgt (t, ((full.length - r'.length : Nat) : Int), (0 : Int), ()) rfl ?_
      dsimp only [flat, unc, unc1, List.nil_append, List.cons_append]
      refine cond_f rfl ?_
      refine osome_mk rfl ?_
      refine stores_of b rfl (by simp) ?_
      intro h2 b2 k2 z2
      refine ⟨t, .ok r', rfl, hq2, ⟨full.length - r'.length, none, b2, by omega, m.keep k2 (by simp; omega), hg, rfl, ?_⟩, ?_, k2⟩
      · have h5 : full = full.take at_ ++ (wText t ++ r') := by rw [← hq1, ← hr, List.take_append_drop]
        have h6 : full.length - r'.length = (full.take at_ ++ wText t).length := by
          have := congrArg List.length h5
          simp only [List.length_append] at this ⊢
          omega
        rw [h6]
        conv => lhs; arg 2; rw [h5, ← List.append_assoc]
        rw [List.drop_left]
      · unfold Stp
        simp only
        rw [ht]
        exact ⟨rfl, rfl⟩
    | error e =>
      rw [ht] at hgt
      refine call_p hgt ((⟨#[]⟩ : ByteArray), (0 : Int), (10 : Int), ()) rfl ?_
      dsimp only [flat, unc, unc1, List.nil_append, List.cons_append]
      refine cond_t rfl ?_
      refine osome_mk rfl ?_
      refine loads_box b ((bp, bl, bc), ()) rfl ?_
      dsimp only [flat, unc, unc1, List.nil_append, List.cons_append]
      subst hll
      refine call_of (refuse_hc s (i := full.length) (why := 10) (Nat.le_refl _)) ?_
      rintro _ h2 ⟨rfl, s2, k2⟩
      refine ⟨(), rfl, ?_⟩
      refine ⟨⟨#[]⟩, _, rfl, by decide, s2, ?_, k2⟩
      have he : e = (0, 10) := by
        unfold textR numR at ht
        split at ht
        · rw [andR_okk] at ht
          split at ht
          · cases ht
          · cases ht; rfl
        · cases ht; rfl
      unfold Stp refS
      simp only
      rw [ht, Nat.sub_self, he]
end Go.Sx.Ob

set_option linter.unusedVariables false
set_option linter.unusedSimpArgs false
set_option maxRecDepth 100000
namespace Go.Sx.Ob
open Go.Proofs
theorem noAt.keepT {ws : List Nat} {h h' : Hp} {g gm : Nat} {full : Bt} {at_ : Nat} {no : Option Addr} {st : St} (n : noAt h g gm full at_ no st) (k : Ch ws h h') (hw : ∀ i, i ∈ ws → i < h.size → ∃ e xs, Box h i e xs ∧ e ≠ 59) : noAt h' g gm full at_ no st := by
  cases st with
  | ok r => exact n
  | error e =>
    obtain ⟨h1, a, h2, h3, h4, h5⟩ := n
    refine ⟨h1, a, h2, h3.keep k (fun hi => ?_), h4, h5⟩
    obtain ⟨e, xs, b, he⟩ := hw a hi h3.lt
    unfold Box at b h3
    rw [h3] at b
    simp only [Option.some.injEq, Obj.cells.injEq] at b
    exact he b.2.1.symm
theorem RdS.keepT {ws : List Nat} {h h' : Hp} {g gm : Nat} {bp : Option Addr} {bl bc : Nat} {full : Bt} {st : St} {D : List ByteArray} (s : RdS h g gm bp bl bc full st D) (k : Ch ws h h') (hg : g ∉ ws) (hm : gm ∉ ws) (hw : ∀ i, i ∈ ws → i < h.size → ∃ e xs, Box h i e xs ∧ e ≠ 59) : RdS h' g gm bp bl bc full st D := by
  obtain ⟨at_, no, b, ha, m, hgm, n⟩ := s
  exact ⟨at_, no, b.keep k hg, ha, m.keep k hm, hgm, n.keepT k hw⟩
theorem RdS.keep1 {i : Nat} {e : TypeId} {xs : List Value} {h h' : Hp} {g gm : Nat} {bp : Option Addr} {bl bc : Nat} {full : Bt} {st : St} {D : List ByteArray} (s : RdS h g gm bp bl bc full st D) (b : Box h i e xs) (he : e ≠ 59) (k : Ch [i] h h') (hg : g ≠ i) (hm : gm ≠ i) : RdS h' g gm bp bl bc full st D :=
  s.keepT k (by simpa using hg) (by simpa using hm) (fun j hj _ => by
    rw [List.mem_singleton] at hj
    subst hj
    exact ⟨e, xs, b, he⟩)
theorem SL.boxT {h : Hp} {b : Nat} {e : TypeId} {sz : Nat} {p : Option Addr} {l c : Nat} {xs : List (List Value)} (s : SL h b e sz p l c xs) (he : e ≠ 59) : ∀ i, i ∈ blkOf p → i < h.size → ∃ e xs, Box h i e xs ∧ e ≠ 59 := by
  intro i hi _
  cases p with
  | none => simp [blkOf] at hi
  | some a =>
    obtain ⟨g, pre, rest, rfl, hb, _, hbox, _⟩ := s.2.2
    simp [blkOf] at hi
    subst hi
    exact ⟨e, _, hbox, he⟩
def termsP (r : Bt) : Rd Tms := andR (numR 2 r) termsR
theorem linR_eq : linR = fun r => andR (termsP r) fun ts r => andR (numR 4 r) fun c r => .ok (⟨ts, c⟩, r) := by
  funext r
  unfold linR termsP
  cases numR 2 r with
  | error e => rfl
  | ok q => rfl
theorem Stp.terms {n : Nat} {st st1 st2 st3 : St} {s : ByteArray} {c : Nat} {ts : Tms} (h1 : Stp textR st s st1) (h2 : Stp (numR 4) st1 c st2) (h3 : Stp (termsR n) st2 ts st3) : Stp (termsR (n + 1)) st ((s, c) :: ts) st3 :=
  Stp.and (f := textR) h1 (Stp.and (f := numR 4) h2 (Stp.and (f := termsR n) h3 (Stp.ret _ _)))
theorem und53 : Tryz.prog.underlying 73 = some (.slice 104) := by kernel_rfl
/-- Sums that were read. -/
structure LinRd (x : Lin) : Prop where
  many : x.terms.length ≤ 65535
  terms : ∀ u, u ∈ x.terms → u.1.size < 65536 ∧ u.2 < 4294967296
  num : x.num < 4294967296
theorem rLin_hc {h0 h : Hp} (e0 : Ext h0 h) {g gm : Nat} (hg0 : h0.size ≤ g) {bp : Option Addr} {bl bc : Nat} {full : Bt} {st : St} {D : List ByteArray} (s : RdS h g gm bp bl bc full st D) (v : VwB h0 bp bl full) (hc : bl ≤ bc) (hl : full.length ≤ 2 ^ 60) :
    HC Tryz.prog 82 #[.pointer (some ⟨g, 0, none⟩)] h fun u h' => ∃ (x : Lin) (st' : St) (p : Option Addr) (l c : Nat), u = linV p l c x ∧ RdS h' g gm bp bl bc full st' D ∧ Stp linR st x st' ∧ SL h' h.size 104 2 p l c (x.terms.map encT) ∧ LinRd x ∧ Ch [g] h h' := by
  refine hcr_of (args := [.pointer (some ⟨g, 0, none⟩)]) mixed Tryz.func82 (by kernel_rfl) (t_object_reader__lin_eq (some ⟨g, 0, none⟩)) ?_
  unfold t_object_reader__lin
  obtain ⟨hgl, hml⟩ := s.lt
  refine newB ?_
  intro h1 b1 e1 z1
  refine newB ?_
  intro h2 b2 e2 z2
  have b1 := b1.keep e2 (by simp)
  have e12 := e1.trans e2
  have s2 := s.keep e12
  refine call_of (rNumber_hc (e0.trans e12) s2 v hl (w := 2) (by omega)) ?_
  rintro _ h3 ⟨n, st3, rfl, hn, s3, p3, k3⟩
  refine ⟨((n : Int), ()), rfl, ?_⟩
  dsimp only [flat, unc, unc1, List.nil_append, List.cons_append]
  have b1 := b1.keep k3 (by simp; omega)
  have b2 := b2.keep k3 (by simp; omega)
  have k03 : Ch [g] h h3 := (e12.mono (by simp)).trans k3 (fun i hi _ => hi)
  have hP : ∀ ts' st', Stp (termsR n) st3 ts' st' → Stp termsP st ([] ++ ts') st' := fun ts' st' ht => Stp.and (f := numR 2) p3 ht
  refine loop_of (cs := [(false, [.int .u32])]) (fun y m h' => ∃ (k : Nat) (ts : Tms) (st1 : St) (p : Option Addr) (l c : Nat), y.1 = (k : Int) ∧ m = k ∧ ts.length + k ≤ 65535 ∧ RdS h' g gm bp bl bc full st1 D ∧ Ch [g] h h' ∧ h2.size ≤ h'.size ∧ Box h' h.size 75 [.slice none 0 0, .int .u32 (0 : Int)] ∧ Box h' h1.size 75 [.slice p l c, .int .u32 (0 : Int)] ∧ SL h' h2.size 104 2 p l c (ts.map encT) ∧ (∀ u, u ∈ ts → u.1.size < 65536 ∧ u.2 < 4294967296) ∧ ∀ ts' st', Stp (termsR k) st1 ts' st' → Stp termsP st (ts ++ ts') st') ((n : Int), ()) n rfl
    ⟨n, [], st3, none, 0, 0, rfl, rfl, by simp; omega, s3, k03, k3.size, b1, b2, SL.nil _ _ _ _, by simp, hP⟩ ?_
  clear hP p3 s3 k3 k03 b1 b2 s2 s
  rintro ⟨n4, ⟨⟩⟩ m h4 ⟨k, ts, st1, p, l, c, hk, rfl, hts, s4, k4, z4, b1, b2, sl, hu, hP⟩
  simp only at hk
  subst hk
  dsimp only [flat, unc, unc1, List.nil_append, List.cons_append]
  have e4 : Ext h0 h4 := Ch.trans e0 k4 (fun i hi hl => by simp at hi; omega)
  have hgl4 := s4.lt
  have htail : (∃ st', Stp termsP st ts st' ∧ st' = st1) → (T.call Tryz.prog 81 [.pointer (some ⟨g, 0, none⟩), .int .i64 (4 : Int)] false [(false, [.int .u32])] <| fun (n5 : Int) =>
      T.stores ((⟨h1.size, 0, none⟩ : Addr).add 1) [.int .u32 n5] <|
      T.loads ⟨h1.size, 0, none⟩ [.slice 104, .int .u32] <| fun (p6 : Option Addr) (l7 : Nat) (l8 : Nat) (n9 : Int) =>
      T.stores ⟨h.size, 0, none⟩ [.slice p6 l7 l8, .int .u32 n9] <|
      T.loads ⟨h.size, 0, none⟩ [.slice 104, .int .u32] <| fun (p10 : Option Addr) (l11 : Nat) (l12 : Nat) (n13 : Int) =>
      T.ret (.agg #[.slice p10 l11 l12, .int .u32 n13])) [Jl (cs := [(false, [.int .u32])]) (fun y m h' => ∃ (k : Nat) (ts : Tms) (st1 : St) (p : Option Addr) (l c : Nat), y.1 = (k : Int) ∧ m = k ∧ ts.length + k ≤ 65535 ∧ RdS h' g gm bp bl bc full st1 D ∧ Ch [g] h h' ∧ h2.size ≤ h'.size ∧ Box h' h.size 75 [.slice none 0 0, .int .u32 (0 : Int)] ∧ Box h' h1.size 75 [.slice p l c, .int .u32 (0 : Int)] ∧ SL h' h2.size 104 2 p l c (ts.map encT) ∧ (∀ u, u ∈ ts → u.1.size < 65536 ∧ u.2 < 4294967296) ∧ ∀ ts' st', Stp (termsR k) st1 ts' st' → Stp termsP st (ts ++ ts') st') m] (fun u h' => ∃ (x : Lin) (st' : St) (p : Option Addr) (l c : Nat), u = linV p l c x ∧ RdS h' g gm bp bl bc full st' D ∧ Stp linR st x st' ∧ SL h' h.size 104 2 p l c (x.terms.map encT) ∧ LinRd x ∧ Ch [g] h h') h4 := by
    rintro ⟨_, hS, rfl⟩
    refine call_of (rNumber_hc e4 s4 v hl (w := 4) (by omega)) ?_
    rintro _ h5 ⟨q, st5, rfl, hq, s5, p5, k5⟩
    refine ⟨((q : Int), ()), rfl, ?_⟩
    dsimp only [flat, unc, unc1, List.nil_append, List.cons_append]
    have b1 := b1.keep k5 (by simp; omega)
    have b2 := b2.keep k5 (by simp; omega)
    have hbk := Ob.SL.blk sl
    have sl5 := sl.keep k5 (fun a ha hi => by have := (hbk a.block (by rw [ha]; simp [blkOf])).1; simp at hi; omega)
    rw [add_box]
    refine stores_of b2 rfl (by simp) ?_
    intro h6 b6 k6 z6
    have b6 : Box h6 h1.size 75 [.slice p l c, .int .u32 (q : Int)] := b6
    refine loads_box b6 ((p, l, c), (q : Int), ()) rfl ?_
    dsimp only [flat, unc, unc1, List.nil_append, List.cons_append]
    refine stores_of (b1.keep k6 (by simp; omega)) rfl (by simp) ?_
    intro h7 b7 k7 z7
    have b7 : Box h7 h.size 75 [.slice p l c, .int .u32 (q : Int)] := b7
    refine loads_box b7 ((p, l, c), (q : Int), ()) rfl ?_
    have hb5 := Ob.SL.blk sl5
    have sl7 := (sl5.keep k6 (fun a ha hi => by have := (hb5 a.block (by rw [ha]; simp [blkOf])).1; simp at hi; omega)).keep k7 (fun a ha hi => by have := (hb5 a.block (by rw [ha]; simp [blkOf])).1; simp at hi; omega)
    have s6 := s5.keep1 b2 (by decide) k6 (by omega) (by omega)
    have s7 := s6.keep1 (b1.keep k6 (by simp; omega)) (by decide) k7 (by omega) (by omega)
    refine ⟨⟨ts, q⟩, st5, p, l, c, rfl, s7, ?_, ?_, ⟨by show ts.length ≤ 65535; omega, hu, by show q < 4294967296; omega⟩, ?_⟩
    · rw [linR_eq]
      exact Stp.and (f := termsP) hS (Stp.and (f := numR 4) p5 (Stp.ret _ _))
    · exact ⟨sl7.1, sl7.2.1, by
        have := sl7.2.2
        cases p with
        | none => exact this
        | some a =>
          obtain ⟨g', pre, rest, q1, q2, q3⟩ := this
          exact ⟨g', pre, rest, q1, by omega, q3⟩⟩
    · exact ((k4.trans k5 (fun i hi _ => hi)).trans k6 (fun i hi hl => by simp at hi; omega)).trans k7 (fun i hi hl => by simp at hi; omega)
  refine cond_mk (fun r => ?_) (fun r => ?_)
  · have r := of_decide_eq_true r
    obtain ⟨at_, no, b, ha, mm, hgm, nn⟩ := id s4
    refine osome_mk rfl ?_
    rw [add_box]
    refine loads_box b (no, ()) rfl ?_
    dsimp only [flat, unc, unc1, List.nil_append, List.cons_append]
    cases st1 with
    | error e =>
      obtain ⟨_, a, rfl, _⟩ := nn
      refine cond_f rfl ?_
      refine htail ⟨.error e, ?_, rfl⟩
      have := hP [] (.error e) (Stp.off _ _ _)
      rw [List.append_nil] at this
      exact this
    | ok rr =>
      obtain ⟨rfl, _⟩ := nn
      refine cond_t rfl ?_
      clear htail
      refine call_of (rText_hc e4 s4 v hc hl) ?_
      rintro _ h5 ⟨t, st5, rfl, ht, s5, p5, k5⟩
      refine ⟨(t, ()), rfl, ?_⟩
      dsimp only [flat, unc, unc1, List.nil_append, List.cons_append]
      have hbk := Ob.SL.blk sl
      have b15 := b1.keep k5 (by simp; omega)
      have b25 := b2.keep k5 (by simp; omega)
      have sl5 := sl.keep k5 (fun a ha hi => by have := (hbk a.block (by rw [ha]; simp [blkOf])).1; simp at hi; omega)
      have k45 : Ch [g] h h5 := k4.trans k5 (fun i hi _ => hi)
      have e5 : Ext h0 h5 := Ch.trans e0 k45 (fun i hi hl => by simp at hi; omega)
      refine loads_box b25 ((p, l, c), ()) rfl ?_
      dsimp only [flat, unc, unc1, List.nil_append, List.cons_append]
      refine call_of (rNumber_hc e5 s5 v hl (w := 4) (by omega)) ?_
      rintro _ h6 ⟨q, st6, rfl, hq, s6, p6, k6⟩
      refine ⟨((q : Int), ()), rfl, ?_⟩
      dsimp only [flat, unc, unc1, List.nil_append, List.cons_append]
      have b16 := b15.keep k6 (by simp; omega)
      have b26 := b25.keep k6 (by simp; omega)
      have sl6 := sl5.keep k6 (fun a ha hi => by have := (hbk a.block (by rw [ha]; simp [blkOf])).1; simp at hi; omega)
      have k46 : Ch [g] h h6 := k45.trans k6 (fun i hi _ => hi)
      have hll : l = ts.length := by rw [sl6.1, List.length_map]
      refine ⟨⟨b26.cells _ rfl, trivial⟩, ?_⟩
      have z6 : h2.size ≤ h6.size := by have := k5.size; have := k6.size; omega
      refine push_st (z := .agg #[.string ⟨#[]⟩, .int .u32 0]) (vs := encT (t, q)) und53 termZ rfl (by omega) (by omega) (by kernel_rfl) rfl rfl sl6 z6 (by omega) (by omega) (fun h' ee => ⟨(b26.keep ee (by simp)).cells _ rfl, trivial⟩) ?_
      intro p7 c7 h7 sl7 k7 hp7
      have hb6 := Ob.SL.blk sl6
      have hn1 : h1.size ∉ blkOf p := fun hh => by have := (hb6 _ hh).1; omega
      have hn0 : h.size ∉ blkOf p := fun hh => by have := (hb6 _ hh).1; omega
      have hng : g ∉ blkOf p := fun hh => by have := (hb6 _ hh).1; omega
      have hnm : gm ∉ blkOf p := fun hh => by have := (hb6 _ hh).1; omega
      have s7 := s6.keepT k7 hng hnm (Ob.SL.boxT sl6 (by decide))
      have b27 := b26.keep k7 hn1
      refine stores_of b27 rfl (by simp) ?_
      intro h8 b8 k8 z8
      have s8 := s7.keep1 b27 (by decide) k8 (by omega) (by omega)
      have hb7 := Ob.SL.blk sl7
      rw [wrap_u32, show u32 ((m : Int) - 1) = m - 1 by unfold u32; omega]
      refine again_mk (cs := [(false, [.int .u32])]) (((m - 1 : Nat) : Int), ()) (m - 1) rfl (by omega) rfl ?_
      refine ⟨m - 1, ts ++ [(t, q)], st6, p7, l + 1, c7, rfl, rfl, by simp; omega, s8, ?_, ?_, (b16.keep k7 hn0).keep k8 (by simp; omega), b8, ?_, ?_, ?_⟩
      · exact (k46.trans k7 (fun i hi hl => by have := (hb6 _ hi).1; omega)).trans k8 (fun i hi hl => by simp at hi; omega)
      · have := k7.size; omega
      · rw [List.map_append]
        exact sl7.keep k8 (fun a ha hi => by have := (hb7 a.block (by rw [ha]; simp [blkOf])).1; simp at hi; omega)
      · intro u hu'
        rcases List.mem_append.1 hu' with hu' | hu'
        · exact hu u hu'
        · rw [List.mem_singleton.1 hu']
          exact ⟨ht, by show q < 4294967296; omega⟩
      · intro ts' st' hst
        rw [List.append_assoc]
        refine hP _ _ ?_
        have := Stp.terms p5 p6 hst
        rw [show m - 1 + 1 = m by omega] at this
        exact this
  · have r := of_decide_eq_false r
    have : m = 0 := by omega
    subst this
    refine htail ⟨st1, ?_, rfl⟩
    have := hP [] st1 (Stp.ret _ _)
    rw [List.append_nil] at this
    exact this
end Go.Sx.Ob

set_option linter.unusedVariables false
set_option linter.unusedSimpArgs false
set_option maxRecDepth 100000
namespace Go.Sx.Ob
open Go.Proofs
theorem Stp.bad {α : Type} {f : Bt → Rd α} {st st1 : St} {x : α} {ok : α → Bool} {why i : Nat} {full : Bt} (h : Stp f st x st1) (hb : ok x = false) (hat : ∀ r, st = .ok r → full.length - i = r.length) : Stp (fun r => at_ r why ok (f r)) st x (refS full i why st1) := by
  cases st with
  | error e =>
    have h : st1 = .error e := h
    rw [h]
    rfl
  | ok r =>
    unfold Stp at h ⊢
    simp only at h ⊢
    unfold at_
    cases hf : f r with
    | error e =>
      rw [hf] at h
      have h : st1 = .error e := h
      rw [h]
      rfl
    | ok q =>
      rw [hf] at h
      obtain ⟨rfl, h⟩ := h
      rw [h, andR_okk, if_neg (by rw [hb]; simp)]
      show refS full i why (.ok q.2) = .error (r.length, why)
      unfold refS
      simp only
      rw [hat r rfl]
theorem Stp.good {α : Type} {f : Bt → Rd α} {st st1 : St} {x : α} {ok : α → Bool} {why : Nat} (h : Stp f st x st1) (hb : ok x = true) : Stp (fun r => at_ r why ok (f r)) st x st1 := by
  cases st with
  | error e => exact h
  | ok r =>
    unfold Stp at h ⊢
    simp only at h ⊢
    unfold at_
    cases hf : f r with
    | error e =>
      rw [hf] at h
      exact h
    | ok q =>
      rw [hf] at h
      obtain ⟨rfl, h⟩ := h
      rw [andR_okk, if_pos hb]
      exact ⟨rfl, h⟩
theorem at_at {α : Type} {r : Bt} {why : Nat} {ok1 ok2 : α → Bool} (a : Rd α) (h : ∀ x, ok1 x = true → ok2 x = true) : at_ r why ok1 (at_ r why ok2 a) = at_ r why ok1 a := by
  cases a with
  | error e => rfl
  | ok q =>
    obtain ⟨x, r'⟩ := q
    unfold at_
    rw [andR_okk, andR_okk]
    by_cases h2 : ok2 x = true
    · rw [if_pos h2, andR_okk]
    · rw [if_neg h2, andR_err, if_neg (fun h1 => h2 (h x h1))]
theorem signed_hc (h : Hp) {n : Nat} (hn : n < 65536) : HCp Tryz.prog 83 [.int .u32 n, .int .i64 2] h (.int .i32 (s16 n)) := by
  refine hcp_of mixed Tryz.func83 (by kernel_rfl) (t_octet_Signed_eq n 2) ?_
  unfold t_octet_Signed
  refine call_bool (legal63_hc h (w := 2) (by omega)) ?_
  refine cond_f rfl ?_
  refine need_of (by decide) (need_of (by decide) ?_)
  refine ⟨?_, rfl⟩
  have h1 : min (IntKind.i64.wrap (32 - IntKind.i64.wrap (8 * 2))).toNat IntKind.u32.bits = 16 := by decide
  have h2 : min (IntKind.i64.wrap (32 - IntKind.i64.wrap (8 * 2))).toNat IntKind.i32.bits = 16 := by decide
  rw [h1, h2, wrap_u32, show u32 ((n : Int) * 2 ^ 16) = n * 65536 by unfold u32; omega]
  congr 1
  have h3 : IntKind.wrap .i32 ((n * 65536 : Nat) : Int) = if n < 32768 then ((n * 65536 : Nat) : Int) else ((n * 65536 : Nat) : Int) - 4294967296 := by
    simp only [IntKind.wrap, IntKind.bits, IntKind.signed, Bool.true_and]
    split <;> rename_i hh
    · have := of_decide_eq_true hh
      rw [if_neg (by omega)]
      omega
    · have : ¬ _ := fun h => hh (decide_eq_true h)
      rw [if_pos (by omega)]
      omega
  rw [h3]
  unfold s16
  rw [Int.fdiv_eq_ediv_of_nonneg _ (by omega)]
  split <;> omega
end Go.Sx.Ob
