/- Contracts over heaps, and plain laws, for the functions that the laws of chapter 10 call, part 3: Writers over heaps: sections. Write over heaps. Readers over heaps: Get, GetText, refuse, numbers, texts. Readers over heaps: refuse, numbers, texts. Readers over heaps: sums of names. Readers over heaps: refusals at the place where a thing begins; signed numbers. Readers over heaps: an item. Readers over heaps: an equ; lists that were read. Condition: as each statement says. -/
import Derived.Test.YtnjohginlglonaaGreatDoorP2
import Derived.Test.YtnjohginlglonaaGreatDoorZobjW
set_option linter.unusedVariables false
set_option linter.unusedSimpArgs false
set_option maxRecDepth 100000
namespace Go.Sx.Ob
open Go.Proofs
def bigL (x : Lin) : Bool := decide (65535 < x.terms.length)
def bigI (x : Itm) : Bool := (decide (x.kind = 2) && wnt x.inst.op || decide (x.kind = 6)) && bigL x.e
theorem fill3 (a b c : Int) : Instr.fill (fun j => some (j * 1, 1)) ((Array.range (3 * 1)).map ((Value.int .u8 0).cells[· % (Value.int .u8 0).cells.size]!)) [(0, .int .u8 a), (1, .int .u8 b), (2, .int .u8 c)] = some ([.int .u8 a, .int .u8 b, .int .u8 c] : List Value).toArray := by kernel_rfl
theorem wInt1 (n : Int) : wInt n 1 = [UInt8.ofNat (u32 n)] := rfl
theorem wrap_u8_32 (n : Int) : IntKind.wrap .u8 n = (((UInt8.ofNat (u32 n)).toNat : Nat) : Int) := by
  rw [wrap_u8_mod]
  unfold u32
  simp
  omega
theorem wItems0_hc {h0 h : Hp} (t : Tab h0) (e0 : Ext h0 h) {g : Nat} {p : Option Addr} {bs : Bt} {many : Bool} (hn : ∀ n : Nat, HC Tryz.prog 39 #[.pointer (some ⟨g, 0, none⟩), .int .u32 n, .int .i64 2] h fun v h' => v = .tuple #[] ∧ ∃ p', WrS h' h0.size g p' (bs ++ bytB n 2) many ∧ Wst g h p h' p') (he : ∀ h' p', Wst g h p h' p' → Ext h0 h') {q : Option Addr} {l c : Nat} {us : List Itm} (v : VwI h0 q l us) (hl : bs.length + (wCnt wItm us).length ≤ 2 ^ 40) :
    HC Tryz.prog 38 #[.pointer (some ⟨g, 0, none⟩), .slice q l c] h fun v h' => v = .tuple #[] ∧ ∃ p', WrS h' h0.size g p' (bs ++ wCnt wItm us) (many || us.any bigI) ∧ Wst g h p h' p' := by
  refine hcr_of (args := [.pointer (some ⟨g, 0, none⟩), .slice q l c]) mixed Tryz.func38 (by kernel_rfl) (t_object_writer__items_eq (some ⟨g, 0, none⟩) q l c) ?_
  unfold t_object_writer__items
  have hwl : (wCnt wItm us).length = 2 + (us.flatMap wItm).length := by unfold wCnt; rw [List.length_append, bytB_length]
  have hll := v.len
  have hmm := v.many
  have hz0 := e0.size
  rw [wrap_u32]
  refine call_of (hn (u32 l)) ?_
  rintro _ h1 ⟨rfl, p1, w1, s1⟩
  refine ⟨(), rfl, ?_⟩
  dsimp only [flat, unc, unc1, List.nil_append, List.cons_append]
  rw [bytB_u32] at w1
  have e1 := he _ _ s1
  have hbs : bs ++ wCnt wItm us = (bs ++ bytB l 2) ++ (us.drop 0).flatMap wItm := by
    unfold wCnt
    rw [hll, List.drop_zero, List.append_assoc]
  refine loop_of (cs := [(false, [.int .i64])]) (fun y m h' => ∃ (i : Nat) (p' : Option Addr) (cs : Bt) (mm : Bool), y.1 = (i : Int) ∧ i ≤ us.length ∧ m = us.length - i ∧ WrS h' h0.size g p' cs mm ∧ Wst g h p h' p' ∧ Ext h0 h' ∧ bs ++ wCnt wItm us = cs ++ (us.drop i).flatMap wItm ∧ (many || us.any bigI) = (mm || (us.drop i).any bigI)) ((0 : Int), ()) us.length rfl
    ⟨0, p1, bs ++ bytB l 2, many, rfl, by omega, by omega, w1, s1, e1, hbs, rfl⟩ ?_
  clear hbs w1 s1 e1
  rintro ⟨n12, ⟨⟩⟩ m h2 ⟨i, p2, cs, mm, hi, hik, rfl, w2, s2, e2, hbs, hmy⟩
  simp only at hi
  subst hi
  dsimp only [flat, unc, unc1, List.nil_append, List.cons_append]
  have hlen := congrArg List.length hbs
  simp only [List.length_append] at hlen
  have hz2 := e2.size
  refine cond_mk (fun r => ?_) (fun r => ?_)
  · have r := of_decide_eq_true r
    have hil : i < us.length := by omega
    obtain ⟨a, qq, ll, cc, rfl, hc, va⟩ := v.cells i hil
    have hc := cellsAt_keep e2 (by simp) _ _ hc
    rw [List.drop_eq_getElem_cons hil, List.flatMap_cons] at hbs hlen
    rw [List.drop_eq_getElem_cons hil, List.any_cons] at hmy
    generalize us[i] = x at hc hbs hlen hmy va
    refine need_of ⟨by omega, by omega⟩ (osome_mk rfl ?_)
    rw [show Int.toNat (i : Int) = i by omega]
    refine loads_of (x.kind, x.name, x.inst.op, x.inst.a, x.inst.b, x.inst.n, x.inst.form, (qq, ll, cc), (x.e.num : Int), x.n, ()) hc ?_
    dsimp only [flat, unc, unc1, List.nil_append, List.cons_append]
    refine newB ?_
    intro h3 b3 e3 z3
    refine stores_of b3 rfl (by simp) ?_
    intro h4 b4 k4' z4
    have b4 : Box h4 h2.size 102 (encI qq ll cc x) := b4
    have e24 : Ext h2 h4 := e3.st k4' (Nat.le_refl _)
    have w4 := w2.keep e24
    have s4 : Wst g h p h4 p2 := s2.trans (Wst.of e24 p2)
    have k4 : h2.size ∉ g :: blkOf p2 := fun hh => absurd (w2.blk _ hh).2 (by omega)
    have e4 := e2.trans e24
    have hz4 := e4.size
    clear hc b3 e3 z3 k4' z4 e24 w2 s2 e2
    simp only [add_box]
    refine loads_box b4 (x.kind, ()) rfl ?_
    dsimp only [flat, unc, unc1, List.nil_append, List.cons_append]
    have hag : ∀ (h' : Hp) (p' : Option Addr) (cs' : Bt) (mm' : Bool), WrS h' h0.size g p' cs' mm' → Wst g h p h' p' → Ext h0 h' → cs' = cs ++ wItm x → mm' = (mm || bigI x) →
        T.again 0 [.int .i64 (IntKind.wrap .i64 ((i : Int) + 1))] [Jl (cs := [(false, [.int .i64])]) (fun y m h' => ∃ (i : Nat) (p' : Option Addr) (cs : Bt) (mm : Bool), y.1 = (i : Int) ∧ i ≤ us.length ∧ m = us.length - i ∧ WrS h' h0.size g p' cs mm ∧ Wst g h p h' p' ∧ Ext h0 h' ∧ bs ++ wCnt wItm us = cs ++ (us.drop i).flatMap wItm ∧ (many || us.any bigI) = (mm || (us.drop i).any bigI)) (us.length - i)] (fun v h' => v = .tuple #[] ∧ ∃ p', WrS h' h0.size g p' (bs ++ wCnt wItm us) (many || us.any bigI) ∧ Wst g h p h' p') h' := by
      rintro h' p' _ _ w' s' e' rfl rfl
      refine again_mk (cs := [(false, [.int .i64])]) (((i + 1 : Nat) : Int), ()) (us.length - (i + 1)) rfl (by omega) (by rw [wrap_i64 (by omega) (by omega)]; rfl) ?_
      exact ⟨i + 1, p', _, _, rfl, by omega, rfl, w', s', e', by rw [hbs, List.append_assoc], by rw [hmy, Bool.or_assoc]⟩
    have hln : cs.length + (wItm x).length ≤ 2 ^ 40 := by
      rw [List.length_append] at hlen
      omega
    clear hbs hlen hmy hwl hl
    unfold wItm at hag hln
    simp only [List.length_append] at hln
    have hk1 : (wInt x.kind 1).length = 1 := rfl
    rw [wrap_u32]
    refine call_of (wNumber_hc w4 (u32 (x.kind)) 1 e4.size (by omega)) ?_
    rintro _ h5 ⟨rfl, p5, w5, t5⟩
    refine ⟨(), rfl, ?_⟩
    dsimp only [flat, unc, unc1, List.nil_append, List.cons_append]
    obtain ⟨b5, k5⟩ := t5.box b4 k4
    have e5 := w4.ext e4 t5
    have s5 := s4.trans t5
    have w5 : WrS h5 h0.size g p5 (cs ++ wInt x.kind 1) mm := w5
    refine loads_box b5 (x.kind, ()) rfl ?_
    dsimp only [flat, unc, unc1, List.nil_append, List.cons_append]
    have hcl : (cs ++ wInt x.kind 1).length = cs.length + 1 := by rw [List.length_append]; rfl
    refine cond_mk (fun q1 => ?_) (fun q1 => ?_)
    · have q1 : x.kind = 1 := by simpa using q1
      rw [if_pos q1] at hag hln
      refine loads_box b5 (x.name, ()) rfl ?_
      dsimp only [flat, unc, unc1, List.nil_append, List.cons_append]
      refine call_of (wText_hc w5 x.name e5.size (by omega)) ?_
      rintro _ h6 ⟨rfl, p6, w6, t6⟩
      refine ⟨(), rfl, ?_⟩
      dsimp only [flat, unc, unc1, List.nil_append, List.cons_append]
      exact hag h6 p6 _ _ w6 (s5.trans t6) (w5.ext e5 t6) (by rw [List.append_assoc]) (by unfold bigI; rw [q1]; simp)
    have q1 : x.kind ≠ 1 := by simpa using q1
    rw [if_neg q1] at hag hln
    refine cond_mk (fun q2 => ?_) (fun q2 => ?_)
    · have q2 : x.kind = 2 := by simpa using q2
      rw [if_pos q2] at hag hln
      simp only [List.length_append] at hln
      have hi1 : (wInt x.inst.op 1).length = 1 := rfl
      have hi2 : (wInt x.inst.a 1).length = 1 := rfl
      have hi3 : (wInt x.inst.b 1).length = 1 := rfl
      have hi4 : (wInt x.inst.n 4).length = 4 := rfl
      obtain ⟨l5, c5, bb, ss, hg, hbg⟩ := id w5
      have hl5 : l5 = cs.length + 1 := by rw [ss.1, byC_length, hcl]
      refine osome_mk rfl ?_
      refine loads_box bb ((p5, l5, c5), ()) rfl ?_
      dsimp only [flat, unc, unc1, List.nil_append, List.cons_append]
      refine loads_box b5 (x.inst.op, ()) rfl ?_
      dsimp only [flat, unc, unc1, List.nil_append, List.cons_append]
      refine loads_box b5 (x.inst.a, ()) rfl ?_
      dsimp only [flat, unc, unc1, List.nil_append, List.cons_append]
      refine loads_box b5 (x.inst.b, ()) rfl ?_
      dsimp only [flat, unc, unc1, List.nil_append, List.cons_append]
      refine lit_of und22 byZ (by omega) (by omega) (fill3 _ _ _) ?_
      intro h6 b6 e6 z6
      have hst : ∀ (h' : Hp), Box h' h2.size 102 (encI qq ll cc x) → T.stab h' [(⟨h2.size, 0 + 2 + 2, none⟩, [.int .i64 x.inst.b]), (⟨h2.size, 0 + 2 + 1, none⟩, [.int .i64 x.inst.a]), (⟨h2.size, 0 + 2, none⟩, [.int .i64 x.inst.op])] :=
        fun h' b => ⟨b.cells _ rfl, b.cells _ rfl, b.cells _ rfl, trivial⟩
      have b56 := b5.keep e6 (by simp)
      refine ⟨⟨(hst _ b56).1, (hst _ b56).2.1, (hst _ b56).2.2.1, (bb.keep e6 (by simp)).cells _ rfl, trivial⟩, ?_⟩
      obtain ⟨inf, hin, hz, hsz, hby⟩ := inf_of byZ
      have ss6 := ss.keep e6 (by simp)
      rw [wrap_u8_32, wrap_u8_32, wrap_u8_32] at b6
      refine sem_slice (append_of (ys := byC [UInt8.ofNat (u32 x.inst.op), UInt8.ofNat (u32 x.inst.a), UInt8.ofNat (u32 x.inst.b)]) (m := 3) und22 hin hz (by rw [hsz]; rfl) (by rw [hsz]; exact ss6) rfl (by rw [hsz]; exact byC_len _) (b6.cells _ rfl) (byC_plain _) (by rw [hby]; omega) (by omega) (by have := e5.size; have := e6.size; omega) ?_)
      intro p7 c7 h7 ss7 kk7 hp7
      rw [hsz, ← byC_append] at ss7
      have b57 : Box h7 h2.size 102 (encI qq ll cc x) := b56.keep kk7 (fun hh => k5 (List.mem_cons_of_mem _ hh))
      refine ⟨p7, _, c7, rfl, ⟨hst _ b57, ?_⟩⟩
      refine osome_mk rfl ?_
      have bb6 := bb.keep e6 (by simp)
      refine stores_of (bb6.keep kk7 hg) rfl (by simp) ?_
      intro h8 b8' kk8 z8
      obtain ⟨w8, t8'⟩ := (w5.keep e6).put ss7 kk7 hp7 b8' kk8
      have t8 : Wst g h5 p5 h8 p7 := (Wst.of e6 p5).trans t8'
      obtain ⟨b8, k8⟩ := t8.box b5 k5
      have e8 := w5.ext e5 t8
      have s8 := s5.trans t8
      have hc8 : (cs ++ wInt x.kind 1 ++ [UInt8.ofNat (u32 x.inst.op), UInt8.ofNat (u32 x.inst.a), UInt8.ofNat (u32 x.inst.b)]).length = cs.length + 4 := by rw [List.length_append, hcl]; rfl
      refine loads_box b8 (x.inst.n, ()) rfl ?_
      dsimp only [flat, unc, unc1, List.nil_append, List.cons_append]
      rw [wrap_u32]
      refine call_of (wNumber_hc w8 (u32 x.inst.n) 4 e8.size (by omega)) ?_
      rintro _ h9 ⟨rfl, p9, w9, t9⟩
      refine ⟨(), rfl, ?_⟩
      dsimp only [flat, unc, unc1, List.nil_append, List.cons_append]
      obtain ⟨b9, k9⟩ := t9.box b8 k8
      have e9 := w8.ext e8 t9
      have s9 := s8.trans t9
      refine loads_box b9 (x.inst.op, ()) rfl ?_
      dsimp only [flat, unc, unc1, List.nil_append, List.cons_append]
      refine call_of (wants_hc (t.keep e9 (by simp)) x.inst.op va.op.1 va.op.2) ?_
      rintro _ h10 ⟨rfl, e10'⟩
      refine ⟨(wnt x.inst.op, ()), rfl, ?_⟩
      dsimp only [flat, unc, unc1, List.nil_append, List.cons_append]
      have b10 := b9.keep e10' (by simp)
      have e10 := e9.trans e10'
      have w10 := w9.keep e10'
      have s10 := s9.trans (Wst.of e10' p9)
      have hc9 : (cs ++ wInt x.kind 1 ++ [UInt8.ofNat (u32 x.inst.op), UInt8.ofNat (u32 x.inst.a), UInt8.ofNat (u32 x.inst.b)] ++ bytB (u32 x.inst.n) 4).length = cs.length + 8 := by rw [List.length_append, hc8, bytB_length]
      refine cond_mk (fun q3 => ?_) (fun q3 => ?_)
      · rw [if_pos q3] at hag hln
        refine loads_box b10 ((qq, ll, cc), (x.e.num : Int), ()) rfl ?_
        dsimp only [flat, unc, unc1, List.nil_append, List.cons_append]
        refine call_of (wLin_hc e10 w10 va.lin (by omega)) ?_
        rintro _ h11 ⟨rfl, p11, w11, t11⟩
        refine ⟨(), rfl, ?_⟩
        dsimp only [flat, unc, unc1, List.nil_append, List.cons_append]
        exact hag h11 p11 _ _ w11 (s10.trans t11) (w10.ext e10 t11) (by simp only [wInt1, List.append_assoc]; rfl) (by unfold bigI bigL; rw [q2, q3]; simp)
      · rw [if_neg (by rw [q3]; simp)] at hag hln
        exact hag h10 p9 _ _ w10 s10 e10 (by simp only [wInt1, List.append_assoc, List.append_nil]; rfl) (by unfold bigI; rw [q2, q3]; simp)
    have q2 : x.kind ≠ 2 := by simpa using q2
    rw [if_neg q2] at hag hln
    refine cond_mk (fun q3 => ?_) (fun q3 => ?_)
    · have q3 : x.kind = 3 := by simpa using q3
      refine cond_t (by simpa using q3) ?_
      rw [if_pos (.inl q3)] at hag hln
      have hi1 : (wInt x.n 2).length = 2 := rfl
      refine loads_box b5 (x.n, ()) rfl ?_
      dsimp only [flat, unc, unc1, List.nil_append, List.cons_append]
      rw [wrap_u32]
      refine call_of (wNumber_hc w5 (u32 x.n) 2 e5.size (by omega)) ?_
      rintro _ h6 ⟨rfl, p6, w6, t6⟩
      refine ⟨(), rfl, ?_⟩
      dsimp only [flat, unc, unc1, List.nil_append, List.cons_append]
      exact hag h6 p6 _ _ w6 (s5.trans t6) (w5.ext e5 t6) (by rw [List.append_assoc]; rfl) (by unfold bigI; rw [decide_eq_false q2, decide_eq_false (show ¬ x.kind = 6 by omega)]; simp)
    have q3 : x.kind ≠ 3 := by simpa using q3
    refine cond_mk (fun q5 => ?_) (fun q5 => ?_)
    · have q5 : x.kind = 5 := by simpa using q5
      rw [if_pos (.inr q5)] at hag hln
      have hi1 : (wInt x.n 2).length = 2 := rfl
      refine loads_box b5 (x.n, ()) rfl ?_
      dsimp only [flat, unc, unc1, List.nil_append, List.cons_append]
      rw [wrap_u32]
      refine call_of (wNumber_hc w5 (u32 x.n) 2 e5.size (by omega)) ?_
      rintro _ h6 ⟨rfl, p6, w6, t6⟩
      refine ⟨(), rfl, ?_⟩
      dsimp only [flat, unc, unc1, List.nil_append, List.cons_append]
      exact hag h6 p6 _ _ w6 (s5.trans t6) (w5.ext e5 t6) (by rw [List.append_assoc]; rfl) (by unfold bigI; rw [decide_eq_false q2, decide_eq_false (show ¬ x.kind = 6 by omega)]; simp)
    have q5 : x.kind ≠ 5 := by simpa using q5
    rw [if_neg (by omega)] at hag hln
    refine cond_mk (fun q6 => ?_) (fun q6 => ?_)
    · have q6 : x.kind = 6 := by simpa using q6
      rw [if_pos q6] at hag hln
      refine loads_box b5 ((qq, ll, cc), (x.e.num : Int), ()) rfl ?_
      dsimp only [flat, unc, unc1, List.nil_append, List.cons_append]
      refine call_of (wLin_hc e5 w5 va.lin (by omega)) ?_
      rintro _ h6 ⟨rfl, p6, w6, t6⟩
      refine ⟨(), rfl, ?_⟩
      dsimp only [flat, unc, unc1, List.nil_append, List.cons_append]
      exact hag h6 p6 _ _ w6 (s5.trans t6) (w5.ext e5 t6) (by rw [List.append_assoc]) (by unfold bigI bigL; rw [q6]; simp)
    have q6 : x.kind ≠ 6 := by simpa using q6
    rw [if_neg q6] at hag hln
    refine cond_mk (fun q7 => ?_) (fun q7 => ?_)
    · have q7 : x.kind = 7 := by simpa using q7
      rw [if_pos q7] at hag hln
      have hi1 : (wInt x.n 4).length = 4 := rfl
      refine loads_box b5 (x.n, ()) rfl ?_
      dsimp only [flat, unc, unc1, List.nil_append, List.cons_append]
      rw [wrap_u32]
      refine call_of (wNumber_hc w5 (u32 x.n) 4 e5.size (by omega)) ?_
      rintro _ h6 ⟨rfl, p6, w6, t6⟩
      refine ⟨(), rfl, ?_⟩
      dsimp only [flat, unc, unc1, List.nil_append, List.cons_append]
      exact hag h6 p6 _ _ w6 (s5.trans t6) (w5.ext e5 t6) (by rw [List.append_assoc]; rfl) (by unfold bigI; rw [decide_eq_false q2, decide_eq_false (show ¬ x.kind = 6 by omega)]; simp)
    have q7 : x.kind ≠ 7 := by simpa using q7
    rw [if_neg q7] at hag hln
    exact hag h5 p5 _ _ w5 s5 e5 (by rw [List.append_nil]) (by unfold bigI; rw [decide_eq_false q2, decide_eq_false q6]; simp)
  · have r := of_decide_eq_false r
    have hil : i = us.length := by omega
    subst hil
    rw [List.drop_length, List.flatMap_nil, List.append_nil] at hbs
    rw [List.drop_length, List.any_nil, Bool.or_false] at hmy
    refine ⟨rfl, p2, ?_, s2⟩
    rw [hbs, hmy]
    exact w2
theorem wItems_hc {h0 h : Hp} (t : Tab h0) (e0 : Ext h0 h) {g : Nat} {p : Option Addr} {bs : Bt} {many : Bool} (w : WrS h h0.size g p bs many) {q : Option Addr} {l c : Nat} {us : List Itm} (v : VwI h0 q l us) (hl : bs.length + (wCnt wItm us).length ≤ 2 ^ 40) :
    HC Tryz.prog 38 #[.pointer (some ⟨g, 0, none⟩), .slice q l c] h fun v h' => v = .tuple #[] ∧ ∃ p', WrS h' h0.size g p' (bs ++ wCnt wItm us) (many || us.any bigI) ∧ Wst g h p h' p' := by
  have hwl : (wCnt wItm us).length = 2 + (us.flatMap wItm).length := by unfold wCnt; rw [List.length_append, bytB_length]
  exact wItems0_hc t e0 (fun n => wNumber_hc w n 2 e0.size (by omega)) (fun h' p' s => w.ext e0 s) v hl
theorem wItemsF_hc {h0 h : Hp} (t : Tab h0) (e0 : Ext h0 h) {g g0 : Nat} {bs : Bt} {many : Bool} (w : WrF h h0.size g g0 bs many) {q : Option Addr} {l c : Nat} {us : List Itm} (v : VwI h0 q l us) (hl : bs.length + (wCnt wItm us).length ≤ 2 ^ 40) :
    HC Tryz.prog 38 #[.pointer (some ⟨g, 0, none⟩), .slice q l c] h fun v h' => v = .tuple #[] ∧ ∃ p', WrS h' h0.size g p' (bs ++ wCnt wItm us) (many || us.any bigI) ∧ Wst g h (some ⟨g0, 0, none⟩) h' p' := by
  have hwl : (wCnt wItm us).length = 2 + (us.flatMap wItm).length := by unfold wCnt; rw [List.length_append, bytB_length]
  refine wItems0_hc t e0 (fun n => wNumF_hc w n 2 (by omega) e0.size (by omega)) (fun h' p' s => ?_) v hl
  obtain ⟨b, hc, hg0, hgg, hb1, hb2⟩ := w
  exact Ch.trans e0 s.1 (fun i hi hl => by simp [blkOf] at hi; omega)
end Go.Sx.Ob

set_option linter.unusedVariables false
set_option linter.unusedSimpArgs false
set_option maxRecDepth 100000
namespace Go.Sx.Ob
open Go.Proofs
theorem fill5 : Instr.fill (fun j => some (j * 1, 1)) ((Array.range (5 * 1)).map ((Value.int .u8 0).cells[· % (Value.int .u8 0).cells.size]!)) [(0, .int .u8 83), (1, .int .u8 80), (2, .int .u8 65), (3, .int .u8 78), (4, .int .u8 1)] = some ((byC headL).flatten : List Value).toArray := by kernel_rfl
def bigU (u : Unt) : Bool := u.text.any bigI || (u.data.any bigI || u.equs.any fun e => bigL e.2)
def wrE (u : Unt) : Nat := if untR u ≠ 0 then 31 else if bigU u then 4 else if 1048576 < (wUnt u).length then 3 else 0
theorem write_hc {h : Hp} (t : Tab h) {a b c d : Sli} {u : Unt} (v : UntAt h a b c d u) (hl : (wUnt u).length ≤ 2 ^ 40) :
    HC Tryz.prog 14 #[untV a b c d] h fun w h' => ∃ s : Sli, w = .tuple #[s.v, .int .i64 (wrE u : Nat)] ∧ (wrE u ≠ 0 → s = ⟨none, 0, 0⟩) ∧ (wrE u = 0 → SL h' h.size 5 1 s.p s.l s.c (byC (wUnt u))) ∧ Ext h h' := by
  refine hcr_of (args := [untV a b c d]) mixed Tryz.func14 (by kernel_rfl) (t_object_Write_eq a.p a.l a.c b.p b.l b.c c.p c.l c.c d.p d.l d.c) ?_
  unfold t_object_Write
  have n3 := v.equs.len
  have n4 := v.globs.len
  have m3 := v.equs.many
  have m4 := v.globs.many
  refine newB ?_
  intro g1 b1 e1 z1
  have b1 : Box g1 h.size 28 [a.v, b.v, c.v, d.v] := b1
  simp only [add_box]
  refine loads_box b1 ((a.p, a.l, a.c), (b.p, b.l, b.c), (c.p, c.l, c.c), (d.p, d.l, d.c), ()) rfl ?_
  dsimp only [flat, unc, unc1, List.nil_append, List.cons_append]
  refine call_of (unitRight_hc (a := a) (b := b) (c := c) (d := d) (t.keep e1 (by simp)) (v.keep e1)) ?_
  rintro _ g2 ⟨rfl, e2⟩
  refine ⟨(((untR u : Nat) : Int), ()), rfl, ?_⟩
  dsimp only [flat, unc, unc1, List.nil_append, List.cons_append]
  have e02 := e1.trans e2
  refine cond_mk (fun q => ?_) (fun q => ?_)
  · have q : untR u ≠ 0 := by
      intro h0
      rw [h0] at q
      simp at q
    have hw : wrE u = 31 := by unfold wrE; rw [if_pos q]
    exact ⟨⟨none, 0, 0⟩, by rw [hw]; rfl, fun _ => rfl, fun h0 => (by rw [hw] at h0; cases h0), e02⟩
  have q : untR u = 0 := by simpa using q
  have b1 := b1.keep e2 (by simp)
  have hw : wrE u = if bigU u then 4 else if 1048576 < (wUnt u).length then 3 else 0 := by unfold wrE; rw [if_neg (by omega)]
  have t2 := t.keep e02 (by simp)
  have v2 := v.keep e02
  have s0 := e02.size
  clear t v
  refine lit_of und22 byZ (by omega) (by omega) fill5 ?_
  intro g3 b3 e3 z3
  refine sem_slice (conv_of (b3 : Box g3 g2.size 5 (byC headL).flatten) ?_)
  intro g4 c4 k4 z4
  refine ⟨_, _, _, rfl, ?_⟩
  refine newB ?_
  intro g5 b5 e5 z5
  have e24 : Ext g2 g4 := e3.st k4 (Nat.le_refl _)
  have e25 := e24.trans e5
  have b1 := b1.keep e25 (by simp)
  have hz3 := e3.size
  have wF : WrF g5 g2.size g4.size g2.size headL false := ⟨b5, cellsAt_keep e5 (by simp) _ _ c4, by omega, by omega, by omega, Nat.le_refl _⟩
  have hb0 := b1.lt
  have hlen := hl
  have h1z : h.size < g2.size := by have := e2.size; omega
  have hb1k : h.size ∉ g4.size :: blkOf (some (⟨g2.size, 0, none⟩ : Addr)) := by simp [blkOf]; omega
  obtain ⟨g, hg⟩ : ∃ g, g = g4.size := ⟨_, rfl⟩
  obtain ⟨pS, hpS⟩ : ∃ pS, pS = some (⟨g2.size, 0, none⟩ : Addr) := ⟨_, rfl⟩
  rw [← hg] at wF hb1k ⊢
  rw [← hpS] at hb1k
  have hun : wUnt u = headL ++ wCnt wItm u.text ++ (wCnt wItm u.data ++ (wCnt wEqu u.equs ++ wCnt wText u.globs)) := by unfold wUnt; simp only [List.append_assoc]
  rw [hun] at hlen
  simp only [List.length_append] at hlen
  refine loads_box b1 ((a.p, a.l, a.c), ()) rfl ?_
  dsimp only [flat, unc, unc1, List.nil_append, List.cons_append]
  refine call_of (wItemsF_hc t2 e25 wF v2.text (by omega)) ?_
  rintro _ g6 ⟨rfl, p6, w6, s6⟩
  refine ⟨(), rfl, ?_⟩
  dsimp only [flat, unc, unc1, List.nil_append, List.cons_append]
  rw [← hpS] at s6
  obtain ⟨b6, k6⟩ := s6.box b1 hb1k
  have e6 : Ext g2 g6 := Ch.trans e25 s6.1 (fun i hi hl => by rw [hpS] at hi; simp [blkOf] at hi; omega)
  rw [Bool.false_or] at w6
  refine loads_box b6 ((b.p, b.l, b.c), ()) rfl ?_
  dsimp only [flat, unc, unc1, List.nil_append, List.cons_append]
  refine call_of (wItems_hc t2 e6 w6 v2.data (by rw [List.length_append]; omega)) ?_
  rintro _ g7 ⟨rfl, p7, w7, s7⟩
  refine ⟨(), rfl, ?_⟩
  dsimp only [flat, unc, unc1, List.nil_append, List.cons_append]
  obtain ⟨b7, k7⟩ := s7.box b6 k6
  have e7 := w6.ext e6 s7
  have s7 := s6.trans s7
  refine loads_box b7 ((c.p, c.l, c.c), ()) rfl ?_
  dsimp only [flat, unc, unc1, List.nil_append, List.cons_append]
  rw [wrap_u32]
  have hwe : (wCnt wEqu u.equs).length = 2 + (u.equs.flatMap wEqu).length := by unfold wCnt; rw [List.length_append, bytB_length]
  have hwg : (wCnt wText u.globs).length = 2 + (u.globs.flatMap wText).length := by unfold wCnt; rw [List.length_append, bytB_length]
  refine call_of (wNumber_hc w7 (u32 c.l) 2 e7.size (by simp only [List.length_append]; omega)) ?_
  rintro _ g8 ⟨rfl, p8, w8, s8⟩
  refine ⟨(), rfl, ?_⟩
  dsimp only [flat, unc, unc1, List.nil_append, List.cons_append]
  rw [bytB_u32, n3] at w8
  obtain ⟨b8, k8⟩ := s8.box b7 k7
  have e8 := w7.ext e7 s8
  have s8 := s7.trans s8
  refine loads_box b8 ((c.p, c.l, c.c), ()) rfl ?_
  dsimp only [flat, unc, unc1, List.nil_append, List.cons_append]
  refine loop_of (cs := [(false, [.int .i64])]) (fun y m h' => ∃ (i : Nat) (p' : Option Addr) (cs : Bt) (mm : Bool), y.1 = (i : Int) ∧ i ≤ u.equs.length ∧ m = u.equs.length - i ∧ WrS h' g2.size g p' cs mm ∧ Wst g g5 pS h' p' ∧ Ext g2 h' ∧ Box h' h.size 28 [a.v, b.v, c.v, d.v] ∧ h.size ∉ g :: blkOf p' ∧ wUnt u = cs ++ ((u.equs.drop i).flatMap wEqu ++ wCnt wText u.globs) ∧ bigU u = (mm || (u.equs.drop i).any fun e => bigL e.2)) ((0 : Int), ()) u.equs.length rfl
    ⟨0, p8, _, _, rfl, by omega, by omega, w8, s8, e8, b8, k8, by rw [hun, List.drop_zero]; unfold wCnt; simp only [List.append_assoc], by rw [List.drop_zero]; unfold bigU; rw [Bool.or_assoc]⟩ ?_
  clear w6 w7 w8 s6 s7 s8 e6 e7 e8 b6 b7 b8 k6 k7 k8 b1 hb1k wF
  rintro ⟨n12, ⟨⟩⟩ m g9 ⟨i, p9, cs, mm, hi, hik, rfl, w9, s9, e9, b9, k9, hbs, hmy⟩
  simp only at hi
  subst hi
  dsimp only [flat, unc, unc1, List.nil_append, List.cons_append]
  have hlb := congrArg List.length hbs
  simp only [List.length_append] at hlb
  have hz9 := e9.size
  refine cond_mk (fun r => ?_) (fun r => ?_)
  · have r := of_decide_eq_true r
    have hil : i < u.equs.length := by omega
    obtain ⟨aa, qq, ll, cc, rfl', hc, va, vn⟩ := v2.equs.cells i hil
    have hc := cellsAt_keep e9 (by simp) _ _ hc
    rw [List.drop_eq_getElem_cons hil, List.flatMap_cons] at hbs hlb
    rw [List.drop_eq_getElem_cons hil, List.any_cons] at hmy
    generalize u.equs[i] = x at hc hbs hlb hmy va vn
    refine need_of ⟨by omega, by omega⟩ (osome_mk rfl' ?_)
    rw [show Int.toNat (i : Int) = i by omega]
    refine loads_of (x.1, (qq, ll, cc), (x.2.num : Int), ()) hc ?_
    dsimp only [flat, unc, unc1, List.nil_append, List.cons_append]
    refine newB ?_
    intro h3 b3 e3 z3
    refine stores_of b3 rfl (by simp) ?_
    intro h4 b4 k4' z4
    have b4 : Box h4 g9.size 78 (encE qq ll cc x) := b4
    have e24 : Ext g9 h4 := e3.st k4' (Nat.le_refl _)
    have w4 := w9.keep e24
    have s4 := s9.trans (Wst.of e24 p9)
    have k4 : g9.size ∉ g :: blkOf p9 := fun hh => absurd (w9.blk _ hh).2 (by omega)
    have e4 := e9.trans e24
    have b10 := b9.keep e24 (by simp)
    simp only [List.length_append, wEqu] at hlb
    refine loads_box b4 (x.1, ()) rfl ?_
    dsimp only [flat, unc, unc1, List.nil_append, List.cons_append]
    refine call_of (wText_hc w4 x.1 e4.size (by omega)) ?_
    rintro _ h5 ⟨rfl, p5, w5, t5⟩
    refine ⟨(), rfl, ?_⟩
    dsimp only [flat, unc, unc1, List.nil_append, List.cons_append]
    obtain ⟨b5, k5⟩ := t5.box b4 k4
    obtain ⟨b11, k11⟩ := t5.box b10 k9
    have e5 := w4.ext e4 t5
    rw [add_box]
    refine loads_box b5 ((qq, ll, cc), (x.2.num : Int), ()) rfl ?_
    dsimp only [flat, unc, unc1, List.nil_append, List.cons_append]
    refine call_of (wLin_hc e5 w5 (va : LinAt g2 qq ll x.2) (by rw [List.length_append]; omega)) ?_
    rintro _ h6 ⟨rfl, p6, w6, t6⟩
    refine ⟨(), rfl, ?_⟩
    dsimp only [flat, unc, unc1, List.nil_append, List.cons_append]
    obtain ⟨b12, k12⟩ := t6.box b11 k11
    refine again_mk (cs := [(false, [.int .i64])]) (((i + 1 : Nat) : Int), ()) (u.equs.length - (i + 1)) rfl (by omega) (by rw [wrap_i64 (by omega) (by omega)]; rfl) ?_
    exact ⟨i + 1, p6, _, _, rfl, by omega, rfl, w6, (s4.trans t5).trans t6, w5.ext e5 t6, b12, k12, by rw [hbs]; simp only [wEqu, List.append_assoc], by rw [hmy]; unfold bigL; rw [Bool.or_assoc]⟩
  have r := of_decide_eq_false r
  have hil : i = u.equs.length := by omega
  subst hil
  rw [List.drop_length, List.flatMap_nil, List.nil_append] at hbs
  rw [List.drop_length, List.flatMap_nil, List.length_nil, Nat.zero_add] at hlb
  rw [List.drop_length, List.any_nil, Bool.or_false] at hmy
  refine loads_box b9 ((d.p, d.l, d.c), ()) rfl ?_
  dsimp only [flat, unc, unc1, List.nil_append, List.cons_append]
  rw [wrap_u32]
  refine call_of (wNumber_hc w9 (u32 d.l) 2 hz9 (by omega)) ?_
  rintro _ g8 ⟨rfl, p8, w8, t8⟩
  refine ⟨(), rfl, ?_⟩
  dsimp only [flat, unc, unc1, List.nil_append, List.cons_append]
  rw [bytB_u32, n4] at w8
  obtain ⟨b8, k8⟩ := t8.box b9 k9
  have e8 := w9.ext e9 t8
  have s8 := s9.trans t8
  refine loads_box b8 ((d.p, d.l, d.c), ()) rfl ?_
  dsimp only [flat, unc, unc1, List.nil_append, List.cons_append]
  refine loop_of (cs := [(false, [.int .i64])]) (fun y m h' => ∃ (i : Nat) (p' : Option Addr) (cs : Bt) (mm : Bool), y.1 = (i : Int) ∧ i ≤ u.globs.length ∧ m = u.globs.length - i ∧ WrS h' g2.size g p' cs mm ∧ Wst g g5 pS h' p' ∧ Ext g2 h' ∧ Box h' h.size 28 [a.v, b.v, c.v, d.v] ∧ h.size ∉ g :: blkOf p' ∧ wUnt u = cs ++ ((u.globs.drop i).flatMap wText ) ∧ bigU u = (mm || false)) ((0 : Int), ()) u.globs.length rfl
    ⟨0, p8, _, _, rfl, by omega, by omega, w8, s8, e8, b8, k8, by rw [hbs, List.drop_zero]; unfold wCnt; simp only [List.append_assoc], by rw [hmy, Bool.or_false]⟩ ?_
  clear w8 w9 s8 s9 e8 e9 b8 b9 k8 k9 hbs hmy hlb hz9 t8
  rintro ⟨n12, ⟨⟩⟩ m g9 ⟨i, p9, cs, mm, hi, hik, rfl, w9, s9, e9, b9, k9, hbs, hmy⟩
  simp only at hi
  subst hi
  dsimp only [flat, unc, unc1, List.nil_append, List.cons_append]
  have hlb := congrArg List.length hbs
  simp only [List.length_append] at hlb
  have hz9 := e9.size
  refine cond_mk (fun r => ?_) (fun r => ?_)
  · have r := of_decide_eq_true r
    have hil : i < u.globs.length := by omega
    obtain ⟨aa, rfl', hc, vn⟩ := v2.globs.cells i hil
    have hc := cellsAt_keep e9 (by simp) _ _ hc
    rw [List.drop_eq_getElem_cons hil, List.flatMap_cons] at hbs hlb
    generalize u.globs[i] = x at hc hbs hlb vn
    simp only [List.length_append] at hlb
    refine need_of ⟨by omega, by omega⟩ (osome_mk rfl' ?_)
    rw [show Int.toNat (i : Int) = i by omega]
    refine loads_of (x, ()) hc ?_
    dsimp only [flat, unc, unc1, List.nil_append, List.cons_append]
    refine call_of (wText_hc w9 x hz9 (by omega)) ?_
    rintro _ h5 ⟨rfl, p5, w5, t5⟩
    refine ⟨(), rfl, ?_⟩
    dsimp only [flat, unc, unc1, List.nil_append, List.cons_append]
    obtain ⟨b5, k5⟩ := t5.box b9 k9
    refine again_mk (cs := [(false, [.int .i64])]) (((i + 1 : Nat) : Int), ()) (u.globs.length - (i + 1)) rfl (by omega) (by rw [wrap_i64 (by omega) (by omega)]; rfl) ?_
    exact ⟨i + 1, p5, _, _, rfl, by omega, rfl, w5, s9.trans t5, w9.ext e9 t5, b5, k5, by rw [hbs]; simp only [List.append_assoc], hmy⟩
  have r := of_decide_eq_false r
  have hil : i = u.globs.length := by omega
  subst hil
  rw [List.drop_length, List.flatMap_nil, List.append_nil] at hbs
  rw [Bool.or_false] at hmy
  subst hbs hmy
  have e09 : Ext h g9 := e02.trans e9
  obtain ⟨l, cc, bb, ss, hgg, hbg⟩ := id w9
  have hll : l = (wUnt u).length := by rw [ss.1, byC_length]
  refine loads_box bb (bigU u, ()) rfl ?_
  dsimp only [flat, unc, unc1, List.nil_append, List.cons_append]
  refine cond_mk (fun r => ?_) (fun r => ?_)
  · have hw : wrE u = 4 := by rw [hw, if_pos r]
    exact ⟨⟨none, 0, 0⟩, by rw [hw]; rfl, fun _ => rfl, fun h0 => (by rw [hw] at h0; cases h0), e09⟩
  rw [if_neg (by rw [r]; simp)] at hw
  refine loads_box bb ((p9, l, cc), ()) rfl ?_
  dsimp only [flat, unc, unc1, List.nil_append, List.cons_append]
  refine cond_mk (fun r => ?_) (fun r => ?_)
  · have r := of_decide_eq_true r
    have hw : wrE u = 3 := by rw [hw, if_pos (by omega)]
    exact ⟨⟨none, 0, 0⟩, by rw [hw]; rfl, fun _ => rfl, fun h0 => (by rw [hw] at h0; cases h0), e09⟩
  · have r := of_decide_eq_false r
    have hw : wrE u = 0 := by rw [hw, if_neg (by omega)]
    refine loads_box bb ((p9, l, cc), ()) rfl ?_
    dsimp only [flat, unc, unc1, List.nil_append, List.cons_append]
    refine ⟨⟨p9, l, cc⟩, by rw [hw]; rfl, fun h0 => absurd hw h0, fun _ => ?_, e09⟩
    exact ⟨ss.1, ss.2.1, by
      have := ss.2.2
      cases p9 with
      | none => exact this
      | some a9 =>
        obtain ⟨g', pre, rest, h1, h2, h3⟩ := this
        exact ⟨g', pre, rest, h1, by omega, h3⟩⟩
end Go.Sx.Ob

set_option linter.unusedVariables false
set_option linter.unusedSimpArgs false
set_option maxRecDepth 100000
namespace Go.Sx.Ob
open Go.Proofs
structure VwB (h : Hp) (p : Option Addr) (l : Nat) (us : Bt) : Prop where
  len : l = us.length
  cells : ∀ i, (hi : i < us.length) → ∃ a, p = some a ∧ cellsAt h (a.add (i * 1)) 0 [.int .u8 (us[i].toNat : Int)]
theorem VwB.keep {h h' : Hp} {p : Option Addr} {l : Nat} {us : Bt} (v : VwB h p l us) (k : Ext h h') : VwB h' p l us :=
  ⟨v.len, fun i hi => by
    obtain ⟨a, ha, hc⟩ := v.cells i hi
    exact ⟨a, ha, cellsAt_keep k (by simp) _ _ hc⟩⟩
theorem legal63_hc (h : Hp) {w : Nat} (hw : w = 1 ∨ w = 2 ∨ w = 4) : HCp Tryz.prog 97 [.int .i64 w] h (.bool true) := by
  refine hcp_of mixed Tryz.func97 (by kernel_rfl) (t_octet_legal_eq w) ?_
  unfold t_octet_legal
  rcases hw with rfl | rfl | rfl
  · exact cond_t rfl ⟨rfl, rfl⟩
  · exact cond_f rfl (cond_t rfl ⟨rfl, rfl⟩)
  · exact cond_f rfl (cond_f rfl ⟨rfl, rfl⟩)
theorem shl_or {n b : Nat} (hn : n < 16777216) (hb : b < 256) :
    (IntKind.wrap .u32 (((BitVec.toNat ((BitVec.ofInt 32 (IntKind.wrap .u32 ((n : Int) * (256 : Int)))) ||| (BitVec.ofInt 32 (IntKind.wrap .u32 (b : Int))))) : Nat) : Int)) = ((b + 256 * n : Nat) : Int) := by
  have h1 : IntKind.wrap .u32 ((n : Int) * 256) = ((256 * n : Nat) : Int) := by rw [Go.Sx.wrap_u32 (by omega) (by omega)]; omega
  have h2 : IntKind.wrap .u32 (b : Int) = ((b : Nat) : Int) := by rw [Go.Sx.wrap_u32 (by omega) (by omega)]
  rw [h1, h2, BitVec.ofInt_natCast, BitVec.ofInt_natCast, BitVec.toNat_or, BitVec.toNat_ofNat, BitVec.toNat_ofNat, Nat.mod_eq_of_lt (by omega), Nat.mod_eq_of_lt (by omega)]
  have h3 : 256 * n ||| b = b + 256 * n := by
    have h4 : 256 * n + b = 256 * n ||| b := Nat.two_pow_add_eq_or_of_lt (i := 8) (b := b) (by omega) n
    rw [← h4, Nat.add_comm]
  rw [h3, Go.Sx.wrap_u32 (by omega) (by omega)]
theorem get_hc {h : Hp} {p : Option Addr} {l c : Nat} {us : Bt} (v : VwB h p l us) {i w : Nat} (hw : w = 1 ∨ w = 2 ∨ w = 4) (hi : i ≤ us.length) (hl : us.length ≤ 2 ^ 60) :
    HCp Tryz.prog 96 [.slice p l c, .int .i64 i, .int .i64 w] h (if w ≤ us.length - i then .tuple #[.int .u32 (numB ((us.drop i).take w) : Nat), .int .i64 0] else .tuple #[.int .u32 0, .int .i64 10]) := by
  refine hcp_of mixed Tryz.func96 (by kernel_rfl) (t_octet_Get_eq p l c i w) ?_
  unfold t_octet_Get
  have hll := v.len
  refine call_bool (legal63_hc h hw) ?_
  refine cond_f rfl ?_
  refine cond_f (by simp) ?_
  refine cond_f (by simp; omega) ?_
  rw [wrap_i64 (by omega) (by omega)]
  refine cond_mk (fun q => ?_) (fun q => ?_)
  · have q := of_decide_eq_true q
    exact ⟨by rw [if_neg (by omega)], rfl⟩
  have q := of_decide_eq_false q
  rw [if_pos (by omega), wrap_i64 (by omega) (by omega)]
  refine loop_of (cs := [(false, [.int .u32]), (false, [.int .i64])]) (fun y m h' => ∃ k : Nat, k ≤ w ∧ m = k ∧ y.2.1 = (k : Int) - 1 ∧ y.1 = ((numB ((us.drop (i + k)).take (w - k)) : Nat) : Int) ∧ h' = h) ((0 : Int), (w : Int) - 1, ()) w rfl
    ⟨w, Nat.le_refl _, rfl, rfl, by rw [Nat.sub_self, List.take_zero]; rfl, rfl⟩ ?_
  rintro ⟨n4, n5, ⟨⟩⟩ m h1 ⟨k, hk, rfl, h5, h4, rfl⟩
  simp only at h4 h5
  subst h4 h5
  dsimp only [flat, unc, unc1, List.nil_append, List.cons_append]
  refine cond_mk (fun r => ?_) (fun r => ?_)
  · have r := of_decide_eq_true r
    rw [wrap_i64 (by omega) (by omega)]
    refine need_of (by omega) (need_of ⟨by omega, by omega⟩ ?_)
    have hik : i + (m - 1) < us.length := by omega
    obtain ⟨a, rfl, hc⟩ := v.cells (i + (m - 1)) hik
    refine osome_mk rfl ?_
    have hix : ∀ z : Int, z = (i : Int) + ((m : Int) - 1) → z.toNat = i + (m - 1) := fun z hz => by omega
    have hc' : cellsAt h1 (a.add (Int.toNat ((i : Int) + ((m : Int) - 1)) * 1)) 0 [.int .u8 (us[i + (m - 1)].toNat : Int)] := by
      rw [hix _ rfl]
      exact hc
    refine loads_of ((us[i + (m - 1)].toNat : Int), ()) hc' ?_
    dsimp only [flat, unc, unc1, List.nil_append, List.cons_append]
    have hlt := numB_lt ((us.drop (i + m)).take (w - m))
    have hle : ((us.drop (i + m)).take (w - m)).length ≤ 3 := by rw [List.length_take]; omega
    have hp3 : 256 ^ ((us.drop (i + m)).take (w - m)).length ≤ 256 ^ 3 := Nat.pow_le_pow_right (by omega) hle
    have hbb := us[i + (m - 1)].toNat_lt
    rw [shl_or (by omega) (by omega), wrap_i64 (by omega) (by omega)]
    refine again_mk (cs := [(false, [.int .u32]), (false, [.int .i64])]) (_, (m : Int) - 1 - 1, ()) (m - 1) rfl (by omega) rfl ?_
    have hm1 : (m : Int) - 1 - 1 = ((m - 1 : Nat) : Int) - 1 := by omega
    refine ⟨m - 1, by omega, rfl, hm1, ?_, rfl⟩
    rw [show w - (m - 1) = (w - m) + 1 by omega, List.drop_eq_getElem_cons hik, List.take_succ_cons, numB, show i + (m - 1) + 1 = i + m by omega]
  · have r := of_decide_eq_false r
    have : m = 0 := by omega
    subst this
    exact ⟨rfl, rfl⟩
theorem bytesBack {P : Program} {h : Hp} (a : Addr) (l : List UInt8) (cap : Nat) (K : Value → Hp → Prop) (hc : cellsAt h a 0 (l.map byteV)) (hk : K (.string ⟨l.toArray⟩) h) : semW P (Conv.bytesToString (.slice (some a) l.length cap)) h K := by
  unfold Conv.bytesToString
  simp only
  rw [semW_bind']
  refine semW_loadCells (by simp) hc _ ?_
  rw [semW_bind', ← Array.forIn_toList]
  have key : ∀ (l : List UInt8) (s : ByteArray) (K' : ByteArray → Hp → Prop), K' ⟨s.data ++ l.toArray⟩ h → semW P (forIn (l.map byteV) s fun c r => match c with
      | .int .u8 n => (pure (ForInStep.yield (r.push (UInt8.ofNat n.toNat))) : Sem (ForInStep ByteArray))
      | _ => stuck "bytesToString: byte expected") h K' := by
    intro l
    induction l with
    | nil =>
      intro s K' hk
      have e : (⟨s.data ++ ([] : List UInt8).toArray⟩ : ByteArray) = s := by simp
      rw [e] at hk
      exact hk
    | cons c l ih =>
      intro s K' hk
      rw [List.map_cons, List.forIn_cons]
      rw [semW_bind']
      show semW P (forIn (List.map byteV l) (s.push (UInt8.ofNat ((c.toNat : Nat) : Int).toNat)) _) h K'
      have e1 : UInt8.ofNat ((c.toNat : Nat) : Int).toNat = c := by simp
      rw [e1]
      refine ih (s.push c) K' ?_
      have : (⟨(s.push c).data ++ l.toArray⟩ : ByteArray) = ⟨s.data ++ (c :: l).toArray⟩ := by
        congr 1
        apply Array.toList_inj.1
        simp
      rw [this]; exact hk
  refine key l ByteArray.empty _ ?_
  have e : (⟨ByteArray.empty.data ++ l.toArray⟩ : ByteArray) = ⟨l.toArray⟩ := by
    congr 1
    apply Array.toList_inj.1
    simp
  rw [e]
  exact hk
theorem VwB.from {h : Hp} {a : Addr} {l : Nat} {us : Bt} (v : VwB h (some a) l us) : ∀ (n i : Nat), i + n ≤ us.length → cellsAt h (a.add (i * 1)) 0 (((us.drop i).take n).map byteV) := by
  have key : ∀ (n i k : Nat), i + k + n ≤ us.length → cellsAt h (a.add (i * 1)) k (((us.drop (i + k)).take n).map byteV) := by
    intro n
    induction n with
    | zero => intro i k _; trivial
    | succ n ih =>
      intro i k hk
      rw [List.drop_eq_getElem_cons (by omega), List.take_succ_cons, List.map_cons]
      obtain ⟨b, hb, hc⟩ := v.cells (i + k) (by omega)
      cases hb
      refine ⟨?_, ?_⟩
      · have := hc.1
        rw [show (a.add ((i + k) * 1)).add 0 = (a.add (i * 1)).add k by rw [Go.Sx.add_add, Go.Sx.add_add]; congr 1; omega] at this
        exact this
      · have := ih i (k + 1) (by omega)
        rw [← Nat.add_assoc] at this
        exact this
  intro n i hi
  exact key n i 0 (by omega)
theorem conv22_9 {h : Hp} {K : Value → Hp → Prop} (x : Value) (hx : semW Tryz.prog (Conv.bytesToString x) h K) (hs : ∃ a l c, x = .slice a l c) : semW Tryz.prog (convert 22 9 x) h K := by
  have he : Tryz.prog.underlying 5 = some (.int .u8) := by kernel_rfl
  obtain ⟨a, l, c, rfl⟩ := hs
  simp [convert, semW_bind', semW_underlying und22, semW_underlying und9, semW_underlying he]
  exact hx
theorem getText_hc {h : Hp} {p : Option Addr} {l c : Nat} {us : Bt} (v : VwB h p l us) (hc : l ≤ c) {i : Nat} (hi : i ≤ us.length) (hl : us.length ≤ 2 ^ 60) :
    HCp Tryz.prog 84 [.slice p l c, .int .i64 i, .int .i64 65535] h (match textR (us.drop i) with | .ok q => .tuple #[.string q.1, .int .i64 ((us.length - q.2.length : Nat) : Int), .int .i64 0] | .error _ => .tuple #[.string ⟨#[]⟩, .int .i64 0, .int .i64 10]) := by
  refine hcp_of mixed Tryz.func84 (by kernel_rfl) (t_octet_GetText_eq p l c i 65535) ?_
  unfold t_octet_GetText
  have hll := v.len
  have hg := get_hc (c := c) v (w := 2) (by omega) hi hl
  unfold textR numR
  rw [List.length_drop]
  by_cases h2 : 2 ≤ us.length - i
  · rw [if_pos h2] at hg ⊢
    rw [andR_okk]
    have hnlt := numB_lt ((us.drop i).take 2)
    rw [show ((us.drop i).take 2).length = 2 by rw [List.length_take, List.length_drop]; omega] at hnlt
    generalize numB ((us.drop i).take 2) = n at hg hnlt
    refine call_ii hg ?_
    refine cond_f rfl ?_
    rw [wrap_i64 (x := (n : Int)) (by omega) (by omega), wrap_i64 (x := (i : Int) + 2) (by omega) (by omega), wrap_i64 (x := (l : Int) - ((i : Int) + 2)) (by omega) (by omega), wrap_i64 (x := (i : Int) + 2 + (n : Int)) (by omega) (by omega)]
    refine cond_f (by simp; omega) ?_
    rw [List.drop_drop, List.length_drop]
    refine cond_mk (fun q => ?_) (fun q => ?_)
    · have q := of_decide_eq_true q
      rw [if_neg (show ¬ n ≤ us.length - (i + 2) by omega)]
      exact ⟨rfl, rfl⟩
    have q := of_decide_eq_false q
    rw [if_pos (show n ≤ us.length - (i + 2) by omega)]
    refine need_of ⟨by omega, by omega, by omega⟩ ?_
    obtain ⟨a, rfl, _⟩ := v.cells 0 (by omega)
    have e1 : Int.toNat ((i : Int) + 2) = i + 2 := by omega
    have e2 : Int.toNat ((i : Int) + 2 + (n : Int)) = i + 2 + n := by omega
    rw [e1, e2, show i + 2 + n - (i + 2) = n by omega]
    have hbs : (((us.drop (i + 2)).take n)).length = n := by rw [List.length_take, List.length_drop]; omega
    have hcell := v.from n (i + 2) (by omega)
    have hfin : (T.ret (.tuple #[.string ⟨((us.drop (i + 2)).take n).toArray⟩, .int .i64 ((i : Int) + 2 + (n : Int)), .int .i64 0])) [] (fun v' h' => v' = (.tuple #[.string ⟨((us.drop (i + 2)).take n).toArray⟩, .int .i64 ((us.length - ((us.drop (i + 2)).drop n).length : Nat) : Int), .int .i64 0] : Value) ∧ h' = h) h := by
      refine ⟨?_, rfl⟩
      rw [List.drop_drop, List.length_drop]
      have : ((us.length - (us.length - (i + 2 + n)) : Nat) : Int) = (i : Int) + 2 + n := by omega
      rw [this]
    refine conv22_9 _ ?_ ⟨_, _, _, rfl⟩
    by_cases hcc : c = i + 2
    · rw [if_pos hcc]
      have hn0 : n = 0 := by omega
      subst hn0
      exact bytesBack a [] _ _ trivial ⟨((⟨((us.drop (i + 2)).take 0).toArray⟩ : ByteArray), ()), rfl, hfin⟩
    · rw [if_neg hcc]
      have := fun K hk => bytesBack (P := Tryz.prog) (a.add ((i + 2) * 1)) ((us.drop (i + 2)).take n) (c - (i + 2)) K hcell hk
      rw [hbs] at this
      exact this _ ⟨((⟨((us.drop (i + 2)).take n).toArray⟩ : ByteArray), ()), rfl, hfin⟩
  · rw [if_neg h2] at hg ⊢
    refine call_ii hg ?_
    exact cond_t rfl ⟨rfl, rfl⟩
end Go.Sx.Ob

set_option linter.unusedVariables false
set_option linter.unusedSimpArgs false
set_option maxRecDepth 100000
namespace Go.Sx.Ob
open Go.Proofs
/-- A reader reads, or has refused. -/
abbrev St := Except (Nat × Nat) Bt
def noAt (h : Hp) (g gm : Nat) (full : Bt) (at_ : Nat) (no : Option Addr) : St → Prop
  | .ok r => no = none ∧ full.drop at_ = r
  | .error e => e.1 ≤ full.length ∧ ∃ a, no = some ⟨a, 0, none⟩ ∧ Box h a 59 [.int .i64 ((full.length - e.1 : Nat) : Int), .int .i64 (e.2 : Nat)] ∧ a ≠ g ∧ a ≠ gm
def RdS (h : Hp) (g gm : Nat) (bp : Option Addr) (bl bc : Nat) (full : Bt) (st : St) (D : List ByteArray) : Prop :=
  ∃ (at_ : Nat) (no : Option Addr), Box h g 63 [.slice bp bl bc, .int .i64 at_, .pointer no, .map (some gm)] ∧ at_ ≤ full.length ∧ SetB h gm D ∧ g ≠ gm ∧ noAt h g gm full at_ no st
theorem noAt.keep {ws : List Nat} {h h' : Hp} {g gm : Nat} {full : Bt} {at_ : Nat} {no : Option Addr} {st : St} (n : noAt h g gm full at_ no st) (k : Ch ws h h') (hw : ∀ i, i ∈ ws → i < h.size → i = g ∨ i = gm) : noAt h' g gm full at_ no st := by
  cases st with
  | ok r => exact n
  | error e =>
    obtain ⟨h1, a, h2, h3, h4, h5⟩ := n
    exact ⟨h1, a, h2, h3.keep k (fun hi => (hw a hi h3.lt).elim (fun e => h4 e) (fun e => h5 e)), h4, h5⟩
theorem RdS.keep {h h' : Hp} {g gm : Nat} {bp : Option Addr} {bl bc : Nat} {full : Bt} {st : St} {D : List ByteArray} (s : RdS h g gm bp bl bc full st D) (k : Ext h h') : RdS h' g gm bp bl bc full st D := by
  obtain ⟨at_, no, b, ha, m, hg, n⟩ := s
  exact ⟨at_, no, b.keep k (by simp), ha, m.keep k (by simp), hg, n.keep k (by simp)⟩
theorem RdS.lt {h : Hp} {g gm : Nat} {bp : Option Addr} {bl bc : Nat} {full : Bt} {st : St} {D : List ByteArray} (s : RdS h g gm bp bl bc full st D) : g < h.size ∧ gm < h.size := by
  obtain ⟨at_, no, b, ha, m, hg, n⟩ := s
  exact ⟨b.lt, m.lt⟩
/-- What a step of a reader does: where it reads, as the plain reader; where it has refused, nothing. -/
def Stp {α : Type} (f : Bt → Rd α) (st : St) (x : α) (st' : St) : Prop :=
  match st with
  | .error e => st' = .error e
  | .ok r => match f r with
    | .ok q => x = q.1 ∧ st' = .ok q.2
    | .error e => st' = .error e
theorem Stp.off {α : Type} (f : Bt → Rd α) (e : Nat × Nat) (x : α) : Stp f (.error e) x (.error e) := rfl
theorem Stp.and {α β : Type} {f : Bt → Rd α} {k : α → Bt → Rd β} {st st1 st2 : St} {x : α} {y : β} (h1 : Stp f st x st1) (h2 : Stp (k x) st1 y st2) : Stp (fun r => andR (f r) k) st y st2 := by
  cases st with
  | error e =>
    have h1 : st1 = .error e := h1
    rw [h1] at h2
    exact h2
  | ok r =>
    unfold Stp at h1 ⊢
    simp only at h1 ⊢
    cases hf : f r with
    | error e =>
      rw [hf] at h1
      have h1 : st1 = .error e := h1
      rw [h1] at h2
      exact h2
    | ok q =>
      rw [hf] at h1
      obtain ⟨rfl, h1⟩ := h1
      rw [h1] at h2
      exact h2
theorem Stp.ret {α : Type} (x : α) (st : St) : Stp (fun r => .ok (x, r)) st x st := by
  cases st with
  | error e => rfl
  | ok r => exact ⟨rfl, rfl⟩
def refS (full : Bt) (at_ why : Nat) : St → St
  | .ok _ => .error (full.length - at_, why)
  | .error e => .error e
theorem refuse_hc {h : Hp} {g gm : Nat} {bp : Option Addr} {bl bc : Nat} {full : Bt} {st : St} {D : List ByteArray} (s : RdS h g gm bp bl bc full st D) {i why : Nat} (hi : i ≤ full.length) :
    HC Tryz.prog 49 #[.pointer (some ⟨g, 0, none⟩), .int .i64 i, .int .i64 why] h fun v h' => v = .tuple #[] ∧ RdS h' g gm bp bl bc full (refS full i why st) D ∧ Ch [g] h h' := by
  refine hcr_of (args := [.pointer (some ⟨g, 0, none⟩), .int .i64 i, .int .i64 why]) mixed Tryz.func49 (by kernel_rfl) (t_object_reader__refuse_eq (some ⟨g, 0, none⟩) i why) ?_
  unfold t_object_reader__refuse
  obtain ⟨at_, no, b, ha, m, hg, n⟩ := id s
  refine osome_mk rfl ?_
  rw [add_box]
  refine loads_box b (no, ()) rfl ?_
  dsimp only [flat, unc, unc1, List.nil_append, List.cons_append]
  cases st with
  | ok r =>
    obtain ⟨rfl, hr⟩ := n
    refine cond_t rfl ?_
    refine newB ?_
    intro h1 b1 e1 z1
    refine osome_mk rfl ?_
    rw [add_box]
    refine stores_of (b.keep e1 (by simp)) rfl (by simp) ?_
    intro h2 b2 k2 z2
    have hgl := b.lt
    have hml := m.lt
    refine ⟨rfl, ⟨at_, some ⟨h.size, 0, none⟩, b2, ha, (m.keep e1 (by simp)).keep k2 (by simp; omega), hg, ?_⟩, (e1.mono (by simp)).trans k2 (by simp)⟩
    refine ⟨by simp, h.size, rfl, ?_, by omega, by omega⟩
    have := b1.keep k2 (by simp; omega)
    rw [show full.length - (full.length - i) = i by omega]
    exact this
  | error e =>
    obtain ⟨h1, a, rfl, h3, h4, h5⟩ := id n
    refine cond_f rfl ?_
    exact ⟨rfl, s, Ch.refl _ _⟩
theorem rNumber_hc {h0 h : Hp} (e0 : Ext h0 h) {g gm : Nat} {bp : Option Addr} {bl bc : Nat} {full : Bt} {st : St} {D : List ByteArray} (s : RdS h g gm bp bl bc full st D) (v : VwB h0 bp bl full) (hl : full.length ≤ 2 ^ 60) {w : Nat} (hw : w = 1 ∨ w = 2 ∨ w = 4) :
    HC Tryz.prog 81 #[.pointer (some ⟨g, 0, none⟩), .int .i64 w] h fun u h' => ∃ (n : Nat) (st' : St), u = .int .u32 n ∧ n < 256 ^ w ∧ RdS h' g gm bp bl bc full st' D ∧ Stp (numR w) st n st' ∧ Ch [g] h h' := by
  refine hcr_of (args := [.pointer (some ⟨g, 0, none⟩), .int .i64 w]) mixed Tryz.func81 (by kernel_rfl) (t_object_reader__number_eq (some ⟨g, 0, none⟩) w) ?_
  unfold t_object_reader__number
  have hll := v.len
  obtain ⟨at_, no, b, ha, m, hg, n⟩ := id s
  have hp0 : 0 < 256 ^ w := Nat.pow_pos (by omega)
  refine osome_mk rfl ?_
  rw [add_box]
  refine loads_box b (no, ()) rfl ?_
  dsimp only [flat, unc, unc1, List.nil_append, List.cons_append]
  cases st with
  | error e =>
    obtain ⟨h1, a, rfl, h3, h4, h5⟩ := id n
    refine cond_t rfl ?_
    exact ⟨0, .error e, rfl, hp0, s, rfl, Ch.refl _ _⟩
  | ok r =>
    obtain ⟨rfl, hr⟩ := n
    refine cond_f rfl ?_
    refine osome_mk rfl ?_
    refine loads_box b ((bp, bl, bc), ()) rfl ?_
    dsimp only [flat, unc, unc1, List.nil_append, List.cons_append]
    refine osome_mk rfl ?_
    rw [add_box]
    refine loads_box b ((at_ : Int), ()) rfl ?_
    dsimp only [flat, unc, unc1, List.nil_append, List.cons_append]
    have hgt := get_hc (c := bc) (v.keep e0) hw ha hl
    have hrl : r.length = full.length - at_ := by rw [← hr, List.length_drop]
    by_cases hb : w ≤ full.length - at_
    · rw [if_pos hb, hr] at hgt
      have hlt := numB_lt (r.take w)
      rw [List.length_take, Nat.min_eq_left (by omega)] at hlt
      refine call_ii hgt ?_
      refine cond_f rfl ?_
      refine osome_mk rfl ?_
      refine loads_box b ((at_ : Int), ()) rfl ?_
      dsimp only [flat, unc, unc1, List.nil_append, List.cons_append]
      refine osome_mk rfl ?_
      rw [wrap_i64 (by omega) (by omega)]
      refine stores_of b rfl (by simp) ?_
      intro h2 b2 k2 z2
      refine ⟨numB (r.take w), .ok (r.drop w), rfl, hlt, ⟨at_ + w, none, b2, by omega, m.keep k2 (by simp; omega), hg, rfl, by rw [← hr, List.drop_drop]⟩, ?_, k2⟩
      unfold Stp numR
      simp only
      rw [if_pos (by omega)]
      exact ⟨rfl, rfl⟩
    · rw [if_neg hb] at hgt
      refine call_ii hgt ?_
      refine cond_t rfl ?_
      refine osome_mk rfl ?_
      refine loads_box b ((bp, bl, bc), ()) rfl ?_
      dsimp only [flat, unc, unc1, List.nil_append, List.cons_append]
      subst hll
      refine call_of (refuse_hc s (i := full.length) (why := 10) (Nat.le_refl _)) ?_
      rintro _ h2 ⟨rfl, s2, k2⟩
      refine ⟨(), rfl, ?_⟩
      refine ⟨0, _, rfl, hp0, s2, ?_, k2⟩
      unfold Stp numR refS
      simp only
      rw [if_neg (by omega), Nat.sub_self]
theorem rText_hc {h0 h : Hp} (e0 : Ext h0 h) {g gm : Nat} {bp : Option Addr} {bl bc : Nat} {full : Bt} {st : St} {D : List ByteArray} (s : RdS h g gm bp bl bc full st D) (v : VwB h0 bp bl full) (hc : bl ≤ bc) (hl : full.length ≤ 2 ^ 60) :
    HC Tryz.prog 58 #[.pointer (some ⟨g, 0, none⟩)] h fun u h' => ∃ (t : ByteArray) (st' : St), u = .string t ∧ t.size < 65536 ∧ RdS h' g gm bp bl bc full st' D ∧ Stp textR st t st' ∧ Ch [g] h h' := by
  refine hcr_of (args := [.pointer (some ⟨g, 0, none⟩)]) mixed Tryz.func58 (by kernel_rfl) (t_object_reader__text_eq (some ⟨g, 0, none⟩)) ?_
  unfold t_object_reader__text
  have hll := v.len
  obtain ⟨at_, no, b, ha, m, hg, n⟩ := id s
  refine osome_mk rfl ?_
  rw [add_box]
  refine loads_box b (no, ()) rfl ?_
  dsimp only [flat, unc, unc1, List.nil_append, List.cons_append]
  cases st with
  | error e =>
    obtain ⟨h1, a, rfl, h3, h4, h5⟩ := id n
    refine cond_t rfl ?_
    exact ⟨⟨#[]⟩, .error e, rfl, by decide, s, rfl, Ch.refl _ _⟩
  | ok r =>
    obtain ⟨rfl, hr⟩ := n
    refine cond_f rfl ?_
    refine osome_mk rfl ?_
    refine loads_box b ((bp, bl, bc), ()) rfl ?_
    dsimp only [flat, unc, unc1, List.nil_append, List.cons_append]
    refine osome_mk rfl ?_
    rw [add_box]
    refine loads_box b ((at_ : Int), ()) rfl ?_
    dsimp only [flat, unc, unc1, List.nil_append, List.cons_append]
    have hgt := getText_hc (v.keep e0) hc ha hl
    have hrl : r.length = full.length - at_ := by rw [← hr, List.length_drop]
    rw [hr] at hgt
    cases ht : textR r with
    | ok q =>
      rw [ht] at hgt
      obtain ⟨t, r'⟩ := q
      obtain ⟨hq1, hq2⟩ := textR_ok ht
      have hr'l : r'.length ≤ r.length := by rw [hq1, List.length_append]; omega
      refine call_p hgt (t, ((full.length - r'.length : Nat) : Int), (0 : Int), ()) rfl ?_
      dsimp only [flat, unc, unc1, List.nil_append, List.cons_append]
      refine cond_f rfl ?_
      refine osome_mk rfl ?_
      refine stores_of b rfl (by simp) ?_
      intro h2 b2 k2 z2
      refine ⟨t, .ok r', rfl, hq2, ⟨full.length - r'.length, none, b2, by omega, m.keep k2 (by simp; omega), hg, rfl, ?_⟩, ?_, k2⟩
      · have h5 : full = full.take at_ ++ (wText t ++ r') := by rw [← hq1, ← hr, List.take_append_drop]
        have h6 : full.length - r'.length = (full.take at_ ++ wText t).length := by
          have := congrArg List.length h5
          simp only [List.length_append] at this ⊢
          omega
        rw [h6]
        conv => lhs; arg 2; rw [h5, ← List.append_assoc]
        rw [List.drop_left]
      · unfold Stp
        simp only
        rw [ht]
        exact ⟨rfl, rfl⟩
    | error e =>
      rw [ht] at hgt
      refine call_p hgt ((⟨#[]⟩ : ByteArray), (0 : Int), (10 : Int), ()) rfl ?_
      dsimp only [flat, unc, unc1, List.nil_append, List.cons_append]
      refine cond_t rfl ?_
      refine osome_mk rfl ?_
      refine loads_box b ((bp, bl, bc), ()) rfl ?_
      dsimp only [flat, unc, unc1, List.nil_append, List.cons_append]
      subst hll
      refine call_of (refuse_hc s (i := full.length) (why := 10) (Nat.le_refl _)) ?_
      rintro _ h2 ⟨rfl, s2, k2⟩
      refine ⟨(), rfl, ?_⟩
      refine ⟨⟨#[]⟩, _, rfl, by decide, s2, ?_, k2⟩
      have he : e = (0, 10) := by
        unfold textR numR at ht
        split at ht
        · rw [andR_okk] at ht
          split at ht
          · cases ht
          · cases ht; rfl
        · cases ht; rfl
      unfold Stp refS
      simp only
      rw [ht, Nat.sub_self, he]
end Go.Sx.Ob

set_option linter.unusedVariables false
set_option linter.unusedSimpArgs false
set_option maxRecDepth 100000
namespace Go.Sx.Ob
open Go.Proofs
theorem noAt.keepT {ws : List Nat} {h h' : Hp} {g gm : Nat} {full : Bt} {at_ : Nat} {no : Option Addr} {st : St} (n : noAt h g gm full at_ no st) (k : Ch ws h h') (hw : ∀ i, i ∈ ws → i < h.size → ∃ e xs, Box h i e xs ∧ e ≠ 59) : noAt h' g gm full at_ no st := by
  cases st with
  | ok r => exact n
  | error e =>
    obtain ⟨h1, a, h2, h3, h4, h5⟩ := n
    refine ⟨h1, a, h2, h3.keep k (fun hi => ?_), h4, h5⟩
    obtain ⟨e, xs, b, he⟩ := hw a hi h3.lt
    unfold Box at b h3
    rw [h3] at b
    simp only [Option.some.injEq, Obj.cells.injEq] at b
    exact he b.2.1.symm
theorem RdS.keepT {ws : List Nat} {h h' : Hp} {g gm : Nat} {bp : Option Addr} {bl bc : Nat} {full : Bt} {st : St} {D : List ByteArray} (s : RdS h g gm bp bl bc full st D) (k : Ch ws h h') (hg : g ∉ ws) (hm : gm ∉ ws) (hw : ∀ i, i ∈ ws → i < h.size → ∃ e xs, Box h i e xs ∧ e ≠ 59) : RdS h' g gm bp bl bc full st D := by
  obtain ⟨at_, no, b, ha, m, hgm, n⟩ := s
  exact ⟨at_, no, b.keep k hg, ha, m.keep k hm, hgm, n.keepT k hw⟩
theorem RdS.keep1 {i : Nat} {e : TypeId} {xs : List Value} {h h' : Hp} {g gm : Nat} {bp : Option Addr} {bl bc : Nat} {full : Bt} {st : St} {D : List ByteArray} (s : RdS h g gm bp bl bc full st D) (b : Box h i e xs) (he : e ≠ 59) (k : Ch [i] h h') (hg : g ≠ i) (hm : gm ≠ i) : RdS h' g gm bp bl bc full st D :=
  s.keepT k (by simpa using hg) (by simpa using hm) (fun j hj _ => by
    rw [List.mem_singleton] at hj
    subst hj
    exact ⟨e, xs, b, he⟩)
theorem SL.boxT {h : Hp} {b : Nat} {e : TypeId} {sz : Nat} {p : Option Addr} {l c : Nat} {xs : List (List Value)} (s : SL h b e sz p l c xs) (he : e ≠ 59) : ∀ i, i ∈ blkOf p → i < h.size → ∃ e xs, Box h i e xs ∧ e ≠ 59 := by
  intro i hi _
  cases p with
  | none => simp [blkOf] at hi
  | some a =>
    obtain ⟨g, pre, rest, rfl, hb, _, hbox, _⟩ := s.2.2
    simp [blkOf] at hi
    subst hi
    exact ⟨e, _, hbox, he⟩
def termsP (r : Bt) : Rd Tms := andR (numR 2 r) termsR
theorem linR_eq : linR = fun r => andR (termsP r) fun ts r => andR (numR 4 r) fun c r => .ok (⟨ts, c⟩, r) := by
  funext r
  unfold linR termsP
  cases numR 2 r with
  | error e => rfl
  | ok q => rfl
theorem Stp.terms {n : Nat} {st st1 st2 st3 : St} {s : ByteArray} {c : Nat} {ts : Tms} (h1 : Stp textR st s st1) (h2 : Stp (numR 4) st1 c st2) (h3 : Stp (termsR n) st2 ts st3) : Stp (termsR (n + 1)) st ((s, c) :: ts) st3 :=
  Stp.and (f := textR) h1 (Stp.and (f := numR 4) h2 (Stp.and (f := termsR n) h3 (Stp.ret _ _)))
theorem und53 : Tryz.prog.underlying 73 = some (.slice 104) := by kernel_rfl
/-- Sums that were read. -/
structure LinRd (x : Lin) : Prop where
  many : x.terms.length ≤ 65535
  terms : ∀ u, u ∈ x.terms → u.1.size < 65536 ∧ u.2 < 4294967296
  num : x.num < 4294967296
theorem rLin_hc {h0 h : Hp} (e0 : Ext h0 h) {g gm : Nat} (hg0 : h0.size ≤ g) {bp : Option Addr} {bl bc : Nat} {full : Bt} {st : St} {D : List ByteArray} (s : RdS h g gm bp bl bc full st D) (v : VwB h0 bp bl full) (hc : bl ≤ bc) (hl : full.length ≤ 2 ^ 60) :
    HC Tryz.prog 82 #[.pointer (some ⟨g, 0, none⟩)] h fun u h' => ∃ (x : Lin) (st' : St) (p : Option Addr) (l c : Nat), u = linV p l c x ∧ RdS h' g gm bp bl bc full st' D ∧ Stp linR st x st' ∧ SL h' h.size 104 2 p l c (x.terms.map encT) ∧ LinRd x ∧ Ch [g] h h' := by
  refine hcr_of (args := [.pointer (some ⟨g, 0, none⟩)]) mixed Tryz.func82 (by kernel_rfl) (t_object_reader__lin_eq (some ⟨g, 0, none⟩)) ?_
  unfold t_object_reader__lin
  obtain ⟨hgl, hml⟩ := s.lt
  refine newB ?_
  intro h1 b1 e1 z1
  refine newB ?_
  intro h2 b2 e2 z2
  have b1 := b1.keep e2 (by simp)
  have e12 := e1.trans e2
  have s2 := s.keep e12
  refine call_of (rNumber_hc (e0.trans e12) s2 v hl (w := 2) (by omega)) ?_
  rintro _ h3 ⟨n, st3, rfl, hn, s3, p3, k3⟩
  refine ⟨((n : Int), ()), rfl, ?_⟩
  dsimp only [flat, unc, unc1, List.nil_append, List.cons_append]
  have b1 := b1.keep k3 (by simp; omega)
  have b2 := b2.keep k3 (by simp; omega)
  have k03 : Ch [g] h h3 := (e12.mono (by simp)).trans k3 (fun i hi _ => hi)
  have hP : ∀ ts' st', Stp (termsR n) st3 ts' st' → Stp termsP st ([] ++ ts') st' := fun ts' st' ht => Stp.and (f := numR 2) p3 ht
  refine loop_of (cs := [(false, [.int .u32])]) (fun y m h' => ∃ (k : Nat) (ts : Tms) (st1 : St) (p : Option Addr) (l c : Nat), y.1 = (k : Int) ∧ m = k ∧ ts.length + k ≤ 65535 ∧ RdS h' g gm bp bl bc full st1 D ∧ Ch [g] h h' ∧ h2.size ≤ h'.size ∧ Box h' h.size 75 [.slice none 0 0, .int .u32 (0 : Int)] ∧ Box h' h1.size 75 [.slice p l c, .int .u32 (0 : Int)] ∧ SL h' h2.size 104 2 p l c (ts.map encT) ∧ (∀ u, u ∈ ts → u.1.size < 65536 ∧ u.2 < 4294967296) ∧ ∀ ts' st', Stp (termsR k) st1 ts' st' → Stp termsP st (ts ++ ts') st') ((n : Int), ()) n rfl
    ⟨n, [], st3, none, 0, 0, rfl, rfl, by simp; omega, s3, k03, k3.size, b1, b2, SL.nil _ _ _ _, by simp, hP⟩ ?_
  clear hP p3 s3 k3 k03 b1 b2 s2 s
  rintro ⟨n4, ⟨⟩⟩ m h4 ⟨k, ts, st1, p, l, c, hk, rfl, hts, s4, k4, z4, b1, b2, sl, hu, hP⟩
  simp only at hk
  subst hk
  dsimp only [flat, unc, unc1, List.nil_append, List.cons_append]
  have e4 : Ext h0 h4 := Ch.trans e0 k4 (fun i hi hl => by simp at hi; omega)
  have hgl4 := s4.lt
  have htail : (∃ st', Stp termsP st ts st' ∧ st' = st1) → (T.call Tryz.prog 81 [.pointer (some ⟨g, 0, none⟩), .int .i64 (4 : Int)] false [(false, [.int .u32])] <| fun (n5 : Int) =>
      T.stores ((⟨h1.size, 0, none⟩ : Addr).add 1) [.int .u32 n5] <|
      T.loads ⟨h1.size, 0, none⟩ [.slice 104, .int .u32] <| fun (p6 : Option Addr) (l7 : Nat) (l8 : Nat) (n9 : Int) =>
      T.stores ⟨h.size, 0, none⟩ [.slice p6 l7 l8, .int .u32 n9] <|
      T.loads ⟨h.size, 0, none⟩ [.slice 104, .int .u32] <| fun (p10 : Option Addr) (l11 : Nat) (l12 : Nat) (n13 : Int) =>
      T.ret (.agg #[.slice p10 l11 l12, .int .u32 n13])) [Jl (cs := [(false, [.int .u32])]) (fun y m h' => ∃ (k : Nat) (ts : Tms) (st1 : St) (p : Option Addr) (l c : Nat), y.1 = (k : Int) ∧ m = k ∧ ts.length + k ≤ 65535 ∧ RdS h' g gm bp bl bc full st1 D ∧ Ch [g] h h' ∧ h2.size ≤ h'.size ∧ Box h' h.size 75 [.slice none 0 0, .int .u32 (0 : Int)] ∧ Box h' h1.size 75 [.slice p l c, .int .u32 (0 : Int)] ∧ SL h' h2.size 104 2 p l c (ts.map encT) ∧ (∀ u, u ∈ ts → u.1.size < 65536 ∧ u.2 < 4294967296) ∧ ∀ ts' st', Stp (termsR k) st1 ts' st' → Stp termsP st (ts ++ ts') st') m] (fun u h' => ∃ (x : Lin) (st' : St) (p : Option Addr) (l c : Nat), u = linV p l c x ∧ RdS h' g gm bp bl bc full st' D ∧ Stp linR st x st' ∧ SL h' h.size 104 2 p l c (x.terms.map encT) ∧ LinRd x ∧ Ch [g] h h') h4 := by
    rintro ⟨_, hS, rfl⟩
    refine call_of (rNumber_hc e4 s4 v hl (w := 4) (by omega)) ?_
    rintro _ h5 ⟨q, st5, rfl, hq, s5, p5, k5⟩
    refine ⟨((q : Int), ()), rfl, ?_⟩
    dsimp only [flat, unc, unc1, List.nil_append, List.cons_append]
    have b1 := b1.keep k5 (by simp; omega)
    have b2 := b2.keep k5 (by simp; omega)
    have hbk := Ob.SL.blk sl
    have sl5 := sl.keep k5 (fun a ha hi => by have := (hbk a.block (by rw [ha]; simp [blkOf])).1; simp at hi; omega)
    rw [add_box]
    refine stores_of b2 rfl (by simp) ?_
    intro h6 b6 k6 z6
    have b6 : Box h6 h1.size 75 [.slice p l c, .int .u32 (q : Int)] := b6
    refine loads_box b6 ((p, l, c), (q : Int), ()) rfl ?_
    dsimp only [flat, unc, unc1, List.nil_append, List.cons_append]
    refine stores_of (b1.keep k6 (by simp; omega)) rfl (by simp) ?_
    intro h7 b7 k7 z7
    have b7 : Box h7 h.size 75 [.slice p l c, .int .u32 (q : Int)] := b7
    refine loads_box b7 ((p, l, c), (q : Int), ()) rfl ?_
    have hb5 := Ob.SL.blk sl5
    have sl7 := (sl5.keep k6 (fun a ha hi => by have := (hb5 a.block (by rw [ha]; simp [blkOf])).1; simp at hi; omega)).keep k7 (fun a ha hi => by have := (hb5 a.block (by rw [ha]; simp [blkOf])).1; simp at hi; omega)
    have s6 := s5.keep1 b2 (by decide) k6 (by omega) (by omega)
    have s7 := s6.keep1 (b1.keep k6 (by simp; omega)) (by decide) k7 (by omega) (by omega)
    refine ⟨⟨ts, q⟩, st5, p, l, c, rfl, s7, ?_, ?_, ⟨by show ts.length ≤ 65535; omega, hu, by show q < 4294967296; omega⟩, ?_⟩
    · rw [linR_eq]
      exact Stp.and (f := termsP) hS (Stp.and (f := numR 4) p5 (Stp.ret _ _))
    · exact ⟨sl7.1, sl7.2.1, by
        have := sl7.2.2
        cases p with
        | none => exact this
        | some a =>
          obtain ⟨g', pre, rest, q1, q2, q3⟩ := this
          exact ⟨g', pre, rest, q1, by omega, q3⟩⟩
    · exact ((k4.trans k5 (fun i hi _ => hi)).trans k6 (fun i hi hl => by simp at hi; omega)).trans k7 (fun i hi hl => by simp at hi; omega)
  refine cond_mk (fun r => ?_) (fun r => ?_)
  · have r := of_decide_eq_true r
    obtain ⟨at_, no, b, ha, mm, hgm, nn⟩ := id s4
    refine osome_mk rfl ?_
    rw [add_box]
    refine loads_box b (no, ()) rfl ?_
    dsimp only [flat, unc, unc1, List.nil_append, List.cons_append]
    cases st1 with
    | error e =>
      obtain ⟨_, a, rfl, _⟩ := nn
      refine cond_f rfl ?_
      refine htail ⟨.error e, ?_, rfl⟩
      have := hP [] (.error e) (Stp.off _ _ _)
      rw [List.append_nil] at this
      exact this
    | ok rr =>
      obtain ⟨rfl, _⟩ := nn
      refine cond_t rfl ?_
      clear htail
      refine call_of (rText_hc e4 s4 v hc hl) ?_
      rintro _ h5 ⟨t, st5, rfl, ht, s5, p5, k5⟩
      refine ⟨(t, ()), rfl, ?_⟩
      dsimp only [flat, unc, unc1, List.nil_append, List.cons_append]
      have hbk := Ob.SL.blk sl
      have b15 := b1.keep k5 (by simp; omega)
      have b25 := b2.keep k5 (by simp; omega)
      have sl5 := sl.keep k5 (fun a ha hi => by have := (hbk a.block (by rw [ha]; simp [blkOf])).1; simp at hi; omega)
      have k45 : Ch [g] h h5 := k4.trans k5 (fun i hi _ => hi)
      have e5 : Ext h0 h5 := Ch.trans e0 k45 (fun i hi hl => by simp at hi; omega)
      refine loads_box b25 ((p, l, c), ()) rfl ?_
      dsimp only [flat, unc, unc1, List.nil_append, List.cons_append]
      refine call_of (rNumber_hc e5 s5 v hl (w := 4) (by omega)) ?_
      rintro _ h6 ⟨q, st6, rfl, hq, s6, p6, k6⟩
      refine ⟨((q : Int), ()), rfl, ?_⟩
      dsimp only [flat, unc, unc1, List.nil_append, List.cons_append]
      have b16 := b15.keep k6 (by simp; omega)
      have b26 := b25.keep k6 (by simp; omega)
      have sl6 := sl5.keep k6 (fun a ha hi => by have := (hbk a.block (by rw [ha]; simp [blkOf])).1; simp at hi; omega)
      have k46 : Ch [g] h h6 := k45.trans k6 (fun i hi _ => hi)
      have hll : l = ts.length := by rw [sl6.1, List.length_map]
      refine ⟨⟨b26.cells _ rfl, trivial⟩, ?_⟩
      have z6 : h2.size ≤ h6.size := by have := k5.size; have := k6.size; omega
      refine push_st (z := .agg #[.string ⟨#[]⟩, .int .u32 0]) (vs := encT (t, q)) und53 termZ rfl (by omega) (by omega) (by kernel_rfl) rfl rfl sl6 z6 (by omega) (by omega) (fun h' ee => ⟨(b26.keep ee (by simp)).cells _ rfl, trivial⟩) ?_
      intro p7 c7 h7 sl7 k7 hp7
      have hb6 := Ob.SL.blk sl6
      have hn1 : h1.size ∉ blkOf p := fun hh => by have := (hb6 _ hh).1; omega
      have hn0 : h.size ∉ blkOf p := fun hh => by have := (hb6 _ hh).1; omega
      have hng : g ∉ blkOf p := fun hh => by have := (hb6 _ hh).1; omega
      have hnm : gm ∉ blkOf p := fun hh => by have := (hb6 _ hh).1; omega
      have s7 := s6.keepT k7 hng hnm (Ob.SL.boxT sl6 (by decide))
      have b27 := b26.keep k7 hn1
      refine stores_of b27 rfl (by simp) ?_
      intro h8 b8 k8 z8
      have s8 := s7.keep1 b27 (by decide) k8 (by omega) (by omega)
      have hb7 := Ob.SL.blk sl7
      rw [wrap_u32, show u32 ((m : Int) - 1) = m - 1 by unfold u32; omega]
      refine again_mk (cs := [(false, [.int .u32])]) (((m - 1 : Nat) : Int), ()) (m - 1) rfl (by omega) rfl ?_
      refine ⟨m - 1, ts ++ [(t, q)], st6, p7, l + 1, c7, rfl, rfl, by simp; omega, s8, ?_, ?_, (b16.keep k7 hn0).keep k8 (by simp; omega), b8, ?_, ?_, ?_⟩
      · exact (k46.trans k7 (fun i hi hl => by have := (hb6 _ hi).1; omega)).trans k8 (fun i hi hl => by simp at hi; omega)
      · have := k7.size; omega
      · rw [List.map_append]
        exact sl7.keep k8 (fun a ha hi => by have := (hb7 a.block (by rw [ha]; simp [blkOf])).1; simp at hi; omega)
      · intro u hu'
        rcases List.mem_append.1 hu' with hu' | hu'
        · exact hu u hu'
        · rw [List.mem_singleton.1 hu']
          exact ⟨ht, by show q < 4294967296; omega⟩
      · intro ts' st' hst
        rw [List.append_assoc]
        refine hP _ _ ?_
        have := Stp.terms p5 p6 hst
        rw [show m - 1 + 1 = m by omega] at this
        exact this
  · have r := of_decide_eq_false r
    have : m = 0 := by omega
    subst this
    refine htail ⟨st1, ?_, rfl⟩
    have := hP [] st1 (Stp.ret _ _)
    rw [List.append_nil] at this
    exact this
end Go.Sx.Ob

set_option linter.unusedVariables false
set_option linter.unusedSimpArgs false
set_option maxRecDepth 100000
namespace Go.Sx.Ob
open Go.Proofs
theorem Stp.bad {α : Type} {f : Bt → Rd α} {st st1 : St} {x : α} {ok : α → Bool} {why i : Nat} {full : Bt} (h : Stp f st x st1) (hb : ok x = false) (hat : ∀ r, st = .ok r → full.length - i = r.length) : Stp (fun r => at_ r why ok (f r)) st x (refS full i why st1) := by
  cases st with
  | error e =>
    have h : st1 = .error e := h
    rw [h]
    rfl
  | ok r =>
    unfold Stp at h ⊢
    simp only at h ⊢
    unfold at_
    cases hf : f r with
    | error e =>
      rw [hf] at h
      have h : st1 = .error e := h
      rw [h]
      rfl
    | ok q =>
      rw [hf] at h
      obtain ⟨rfl, h⟩ := h
      rw [h, andR_okk, if_neg (by rw [hb]; simp)]
      show refS full i why (.ok q.2) = .error (r.length, why)
      unfold refS
      simp only
      rw [hat r rfl]
theorem Stp.good {α : Type} {f : Bt → Rd α} {st st1 : St} {x : α} {ok : α → Bool} {why : Nat} (h : Stp f st x st1) (hb : ok x = true) : Stp (fun r => at_ r why ok (f r)) st x st1 := by
  cases st with
  | error e => exact h
  | ok r =>
    unfold Stp at h ⊢
    simp only at h ⊢
    unfold at_
    cases hf : f r with
    | error e =>
      rw [hf] at h
      exact h
    | ok q =>
      rw [hf] at h
      obtain ⟨rfl, h⟩ := h
      rw [andR_okk, if_pos hb]
      exact ⟨rfl, h⟩
theorem at_at {α : Type} {r : Bt} {why : Nat} {ok1 ok2 : α → Bool} (a : Rd α) (h : ∀ x, ok1 x = true → ok2 x = true) : at_ r why ok1 (at_ r why ok2 a) = at_ r why ok1 a := by
  cases a with
  | error e => rfl
  | ok q =>
    obtain ⟨x, r'⟩ := q
    unfold at_
    rw [andR_okk, andR_okk]
    by_cases h2 : ok2 x = true
    · rw [if_pos h2, andR_okk]
    · rw [if_neg h2, andR_err, if_neg (fun h1 => h2 (h x h1))]
theorem signed_hc (h : Hp) {n : Nat} (hn : n < 65536) : HCp Tryz.prog 83 [.int .u32 n, .int .i64 2] h (.int .i32 (s16 n)) := by
  refine hcp_of mixed Tryz.func83 (by kernel_rfl) (t_octet_Signed_eq n 2) ?_
  unfold t_octet_Signed
  refine call_bool (legal63_hc h (w := 2) (by omega)) ?_
  refine cond_f rfl ?_
  refine need_of (by decide) (need_of (by decide) ?_)
  refine ⟨?_, rfl⟩
  have h1 : min (IntKind.i64.wrap (32 - IntKind.i64.wrap (8 * 2))).toNat IntKind.u32.bits = 16 := by decide
  have h2 : min (IntKind.i64.wrap (32 - IntKind.i64.wrap (8 * 2))).toNat IntKind.i32.bits = 16 := by decide
  rw [h1, h2, wrap_u32, show u32 ((n : Int) * 2 ^ 16) = n * 65536 by unfold u32; omega]
  congr 1
  have h3 : IntKind.wrap .i32 ((n * 65536 : Nat) : Int) = if n < 32768 then ((n * 65536 : Nat) : Int) else ((n * 65536 : Nat) : Int) - 4294967296 := by
    simp only [IntKind.wrap, IntKind.bits, IntKind.signed, Bool.true_and]
    split <;> rename_i hh
    · have := of_decide_eq_true hh
      rw [if_neg (by omega)]
      omega
    · have : ¬ _ := fun h => hh (decide_eq_true h)
      rw [if_pos (by omega)]
      omega
  rw [h3]
  unfold s16
  rw [Int.fdiv_eq_ediv_of_nonneg _ (by omega)]
  split <;> omega
end Go.Sx.Ob

set_option linter.unusedVariables false
set_option linter.unusedSimpArgs false
set_option maxRecDepth 100000
namespace Go.Sx.Ob
open Go.Proofs
def okK (x : Itm) : Bool := decide (1 ≤ x.kind) && decide (x.kind ≤ 7)
theorem itmR_okK {x : Itm} {sec : Nat} (h : itmR x sec = true) : okK x = true := by
  unfold itmR at h
  unfold okK
  repeat' split at h
  all_goals first | (cases h; done) | (rw [Bool.and_eq_true, decide_eq_true_eq, decide_eq_true_eq]; omega)
theorem neK {k c : Nat} (h : k ≠ c) : (((k : Nat) : Int) == (c : Int)) = false := by
  simp only [beq_eq_false_iff_ne, ne_eq]
  omega
theorem wrap_i32_u {n : Nat} (h : n < 4294967296) : IntKind.wrap .i32 (n : Int) = s32 n := by
  unfold s32
  simp only [IntKind.wrap, IntKind.bits, IntKind.signed, Bool.true_and]
  split <;> rename_i hh
  · have := of_decide_eq_true hh
    rw [if_neg (by omega)]
    omega
  · have : ¬ _ := fun h => hh (decide_eq_true h)
    rw [if_pos (by omega)]
    omega
theorem itmB1 : itmB 1 = fun r => andR (textR r) fun s r => .ok ({ itm 1 with name := s }, r) := rfl
theorem itmB3 : itmB 3 = fun r => andR (numR 2 r) fun n r => .ok ({ itm 3 with n := n }, r) := rfl
theorem itmB4 : itmB 4 = fun r => .ok (itm 4, r) := rfl
theorem itmB5 : itmB 5 = fun r => andR (numR 2 r) fun n r => .ok ({ itm 5 with n := s16 n }, r) := rfl
theorem itmB6 : itmB 6 = fun r => andR (linR r) fun e r => .ok ({ itm 6 with e := e }, r) := rfl
theorem itmB7 : itmB 7 = fun r => andR (numR 4 r) fun n r => .ok ({ itm 7 with n := n }, r) := rfl
def insK (op a b n : Nat) (r : Bt) : Rd Itm := if wnt (op : Int) then andR (linR r) fun e r => .ok ({ itm 2 with inst := ⟨op, a, b, s32 n, 0⟩, e := e }, r) else .ok ({ itm 2 with inst := ⟨op, a, b, s32 n, 0⟩ }, r)
theorem Stp.ins {st st1 st2 st3 st4 st5 : St} {op a b n : Nat} {x : Itm} (p1 : Stp (numR 1) st op st1) (p2 : Stp (numR 1) st1 a st2) (p3 : Stp (numR 1) st2 b st3) (p4 : Stp (numR 4) st3 n st4) (h : Stp (insK op a b n) st4 x st5) : Stp (itmB 2) st x st5 :=
  Stp.and (f := numR 1) (k := fun op r => andR (numR 1 r) fun a r => andR (numR 1 r) fun b r => andR (numR 4 r) fun n r => insK op a b n r) p1
    (Stp.and (f := numR 1) (k := fun a r => andR (numR 1 r) fun b r => andR (numR 4 r) fun n r => insK op a b n r) p2
      (Stp.and (f := numR 1) (k := fun b r => andR (numR 4 r) fun n r => insK op a b n r) p3
        (Stp.and (f := numR 4) (k := fun n r => insK op a b n r) p4 h)))
theorem itmBo {k : Nat} (h : k = 0 ∨ 8 ≤ k ∨ k = 4) : itmB k = fun r => .ok (itm k, r) := by
  funext r
  unfold itmB
  rw [if_neg (by omega), if_neg (by omega), if_neg (by omega), if_neg (by omega), if_neg (by omega), if_neg (by omega)]
/-- Items that were read. -/
structure ItmRd (x : Itm) : Prop where
  lin : LinRd x.e
  name : x.name.size < 65536
  op : Sm x.inst.op
theorem LinRd.zero : LinRd lin0 := ⟨by decide, by simp [lin0], by decide⟩
theorem LinRd.at {h : Hp} {b : Nat} {e : TypeId} {p : Option Addr} {l c : Nat} {x : Lin} (r : LinRd x) (s : SL h b e 2 p l c (x.terms.map encT)) : LinAt h p l x :=
  ⟨Sx.SL.vwT s, by have := r.many; omega, fun t ht => by have := (r.terms t ht).1; unfold maxLen; omega⟩
theorem ItmRd.at {h : Hp} {b : Nat} {e : TypeId} {p : Option Addr} {l c : Nat} {x : Itm} (r : ItmRd x) (s : SL h b e 2 p l c (x.e.terms.map encT)) : ItmAt h p l x :=
  ⟨r.lin.at s, by have := r.name; unfold maxLen; omega, r.op⟩
theorem nm0 : nam0.size < 65536 := by decide
theorem Sm0 : Sm 0 := ⟨by decide, by decide⟩
def iz : List Value := [.int .i64 (0 : Int), .string ⟨#[]⟩, .int .i64 (0 : Int), .int .i64 (0 : Int), .int .i64 (0 : Int), .int .i32 (0 : Int), .int .i64 (0 : Int), .slice none 0 0, .int .u32 (0 : Int), .int .i64 (0 : Int)]
def itmJ (h : Hp) (g gm : Nat) (bp : Option Addr) (bl bc : Nat) (full : Bt) (D : List ByteArray) (f : Bt → Rd Itm) (st : St) (h' : Hp) (g6 : Nat) : Prop :=
  ∃ (x : Itm) (st1 : St) (p : Option Addr) (l c : Nat), Box h' g6 102 (encI p l c x) ∧ RdS h' g gm bp bl bc full st1 D ∧ Stp f st x st1 ∧ SL h' (g6 + 1) 104 2 p l c (x.e.terms.map encT) ∧ ItmRd x ∧ Ch [g] h h' ∧ Box h' h.size 102 iz
theorem rItem_hc {h0 h : Hp} (e0 : Ext h0 h) (t0 : Tab h0) {g gm : Nat} (hg0 : h0.size ≤ g) {bp : Option Addr} {bl bc : Nat} {full : Bt} {st : St} {D : List ByteArray} (s : RdS h g gm bp bl bc full st D) (v : VwB h0 bp bl full) (hc : bl ≤ bc) (hl : full.length ≤ 2 ^ 60) {sec : Nat} (hsec : sec < 2) :
    HC Tryz.prog 52 #[.pointer (some ⟨g, 0, none⟩), .int .i64 sec] h fun u h' => ∃ (x : Itm) (st' : St) (p : Option Addr) (l c : Nat), u = itmV p l c x ∧ RdS h' g gm bp bl bc full st' (addN D x) ∧ Stp (itemR sec D) st x st' ∧ SL h' h.size 104 2 p l c (x.e.terms.map encT) ∧ ItmRd x ∧ Ch [g, gm] h h' := by
  refine hcr_of (args := [.pointer (some ⟨g, 0, none⟩), .int .i64 sec]) mixed Tryz.func52 (by kernel_rfl) (t_object_reader__item_eq (some ⟨g, 0, none⟩) sec) ?_
  unfold t_object_reader__item
  obtain ⟨hgl, hml⟩ := s.lt
  refine newB ?_
  intro h1 b1 e1 z1
  have s1 := s.keep e1
  obtain ⟨fr, no, b, hfr, m, hgm, n⟩ := id s1
  refine osome_mk rfl ?_
  rw [add_box]
  refine loads_box b ((fr : Int), ()) rfl ?_
  dsimp only [flat, unc, unc1, List.nil_append, List.cons_append]
  have hat : ∀ r, st = .ok r → full.length - fr = r.length := by
    intro r hr
    subst hr
    rw [← n.2, List.length_drop]
  clear b m n no
  refine call_of (rNumber_hc (e0.trans e1) s1 v hl (w := 1) (by omega)) ?_
  rintro _ h2 ⟨k, st2, rfl, hk, s2, p2, k2⟩
  refine ⟨((k : Int), ()), rfl, ?_⟩
  dsimp only [flat, unc, unc1, List.nil_append, List.cons_append]
  have b1 := b1.keep k2 (by simp; omega)
  have hz12 := k2.size
  have k2 : Ch [g] h h2 := (e1.mono (by simp)).trans k2 (fun i hi _ => hi)
  have hz2 := k2.size
  refine newB ?_
  intro h3 b3 e3 z3
  have b1 := b1.keep e3 (by simp)
  have s3 := s2.keep e3
  have k3 : Ch [g] h h3 := k2.trans e3 (by simp)
  rw [wrap_i64 (by omega) (by omega)]
  refine stores_of b3 rfl (by simp) ?_
  intro h4 b4 k4 z4
  have b4 : Box h4 h2.size 102 (encI none 0 0 (itm (k : Int))) := b4
  have b1l := b1.lt
  have hg2 := s2.lt
  have s4 := s3.keep1 b3 (by decide) k4 (by omega) (by omega)
  have b1 := b1.keep k4 (by simp; omega)
  have k4 : Ch [g] h h4 := k3.trans k4 (fun i hi hl => by simp at hi; omega)
  have e4 : Ext h0 h4 := Ch.trans e0 k4 (fun i hi hl => by simp at hi; omega)
  have hg6 : g ≠ h2.size := by omega
  have fin : ∀ (h5 h6 : Hp) (x : Itm) (st5 : St) (p : Option Addr) (l c : Nat) (xs : List Value), RdS h5 g gm bp bl bc full st5 D → Ch [g] h4 h5 → Box h5 h2.size 102 xs → Ch [h2.size] h5 h6 → Box h6 h2.size 102 (encI p l c x) →
      Stp (itmB k) st2 x st5 → okK x = true → SL h5 (h2.size + 1) 104 2 p l c (x.e.terms.map encT) → ItmRd x → itmJ h g gm bp bl bc full D (fun r => at_ r 31 okK (andR (numR 1 r) itmB)) st h6 h2.size := by
    intro h5 h6 x st5 p l c xs s5 k5 b5 k6 b6 hs ho sl hr
    have hb := Ob.SL.blk sl
    refine ⟨x, st5, p, l, c, b6, s5.keep1 b5 (by decide) k6 (by omega) (by omega), Stp.good (Stp.and p2 hs) ho, sl.keep k6 (fun a ha hi => by have := (hb a.block (by rw [ha]; simp [blkOf])).1; simp at hi; omega), hr, ?_, (b1.keep k5 (by simp; omega)).keep k6 (by simp; omega)⟩
    exact (k4.trans k5 (fun i hi _ => hi)).trans k6 (fun i hi hl => by simp at hi; omega)
  have fin' : ∀ (h5 h6 : Hp) (x : Itm) (st5 : St) (p : Option Addr) (l c : Nat) (xs : List Value), RdS h5 g gm bp bl bc full st5 D → Ch [g, h2.size] h4 h5 → Box h5 h2.size 102 xs → Ch [h2.size] h5 h6 → Box h6 h2.size 102 (encI p l c x) →
      Stp (itmB k) st2 x st5 → okK x = true → SL h5 (h2.size + 1) 104 2 p l c (x.e.terms.map encT) → ItmRd x → itmJ h g gm bp bl bc full D (fun r => at_ r 31 okK (andR (numR 1 r) itmB)) st h6 h2.size := by
    intro h5 h6 x st5 p l c xs s5 k5 b5 k6 b6 hs ho sl hr
    have hb := Ob.SL.blk sl
    refine ⟨x, st5, p, l, c, b6, s5.keep1 b5 (by decide) k6 (by omega) (by omega), Stp.good (Stp.and p2 hs) ho, sl.keep k6 (fun a ha hi => by have := (hb a.block (by rw [ha]; simp [blkOf])).1; simp at hi; omega), hr, ?_, (b1.keep k5 (by simp; omega)).keep k6 (by simp; omega)⟩
    exact (k4.trans k5 (fun i hi hl => by simp at hi; rcases hi with hi | hi; · simp [hi]
                                          · omega)).trans k6 (fun i hi hl => by simp at hi; omega)
  refine join_of (cs := []) (fun _ h' => itmJ h g gm bp bl bc full D (fun r => at_ r 31 okK (andR (numR 1 r) itmB)) st h' h2.size) ?_ ?_
  · refine loads_box b4 (((k : Nat) : Int), ()) rfl ?_
    dsimp only [flat, unc, unc1, List.nil_append, List.cons_append]
    by_cases q1 : k = 1
    · subst q1
      refine cond_t rfl ?_
      refine call_of (rText_hc e4 s4 v hc hl) ?_
      rintro _ h5 ⟨t, st5, rfl, ht, s5, p5, k5⟩
      refine ⟨(t, ()), rfl, ?_⟩
      dsimp only [flat, unc, unc1, List.nil_append, List.cons_append]
      have b5 := b4.keep k5 (by simp; omega)
      rw [add_box]
      refine stores_of b5 rfl (by simp [encI]) ?_
      intro h6 b6 k6 z6
      exact meet_mk (cs := []) () rfl rfl (fin h5 h6 { itm 1 with name := t } st5 none 0 0 _ s5 k5 b5 k6 b6 (by rw [itmB1]; exact Stp.and p5 (Stp.ret _ _)) rfl (SL.nil _ _ _ _) ⟨LinRd.zero, ht, Sm0⟩)
    refine cond_f (neK q1) ?_
    by_cases q2 : k = 2
    · subst q2
      refine cond_t rfl ?_
      refine call_of (rNumber_hc e4 s4 v hl (w := 1) (by omega)) ?_
      rintro _ h5 ⟨op, st5, rfl, hop, s5, p5, k5⟩
      refine ⟨((op : Int), ()), rfl, ?_⟩
      dsimp only [flat, unc, unc1, List.nil_append, List.cons_append]
      have b5 := b4.keep k5 (by simp; omega)
      have hz5 := k5.size
      rw [add_box, wrap_i64 (by omega) (by omega)]
      refine stores_of b5 rfl (by simp [encI]) ?_
      intro h6 b6 k6 z6
      have s6 := s5.keep1 b5 (by decide) k6 (by omega) (by omega)
      have k46 : Ch [g, h2.size] h4 h6 := (k5.mono (by simp)).trans k6 (by simp)
      have e6 : Ext h0 h6 := Ch.trans e4 k46 (fun i hi hl => by simp at hi; omega)
      refine call_of (rNumber_hc e6 s6 v hl (w := 1) (by omega)) ?_
      rintro _ h7 ⟨a, st7, rfl, ha, s7, p7, k7⟩
      refine ⟨((a : Int), ()), rfl, ?_⟩
      dsimp only [flat, unc, unc1, List.nil_append, List.cons_append]
      have hz7 := k7.size
      have k47 : Ch [g, h2.size] h4 h7 := k46.trans k7 (by simp)
      have e7 : Ext h0 h7 := Ch.trans e4 k47 (fun i hi hl => by simp at hi; omega)
      refine call_of (rNumber_hc e7 s7 v hl (w := 1) (by omega)) ?_
      rintro _ h8 ⟨bb, st8, rfl, hbb, s8, p8, k8⟩
      refine ⟨((bb : Int), ()), rfl, ?_⟩
      dsimp only [flat, unc, unc1, List.nil_append, List.cons_append]
      have hz8 := k8.size
      have k48 : Ch [g, h2.size] h4 h8 := k47.trans k8 (by simp)
      have b8 := (b6.keep k7 (by simp; omega)).keep k8 (by simp; omega)
      rw [add_box, wrap_i64 (by omega) (by omega)]
      refine stores_of b8 rfl (by simp [encI, setL]) ?_
      intro h9 b9 k9 z9
      have s9 := s8.keep1 b8 (by decide) k9 (by omega) (by omega)
      have k49 : Ch [g, h2.size] h4 h9 := k48.trans k9 (by simp)
      rw [add_box, wrap_i64 (by omega) (by omega)]
      refine stores_of b9 rfl (by simp [encI, setL]) ?_
      intro h10 b10 k10 z10
      have s10 := s9.keep1 b9 (by decide) k10 (by omega) (by omega)
      have k410 : Ch [g, h2.size] h4 h10 := k49.trans k10 (by simp)
      have e10 : Ext h0 h10 := Ch.trans e4 k410 (fun i hi hl => by simp at hi; omega)
      refine call_of (rNumber_hc e10 s10 v hl (w := 4) (by omega)) ?_
      rintro _ h11 ⟨n, st11, rfl, hn, s11, p11, k11⟩
      refine ⟨((n : Int), ()), rfl, ?_⟩
      dsimp only [flat, unc, unc1, List.nil_append, List.cons_append]
      have hz11 := k11.size
      have k411 : Ch [g, h2.size] h4 h11 := k410.trans k11 (by simp)
      have b11 := b10.keep k11 (by simp; omega)
      rw [add_box, wrap_i32_u hn]
      refine stores_of b11 rfl (by simp [encI, setL]) ?_
      intro h12 b12 k12 z12
      have s12 := s11.keep1 b11 (by decide) k12 (by omega) (by omega)
      have k412 : Ch [g, h2.size] h4 h12 := k411.trans k12 (by simp)
      have e12 : Ext h0 h12 := Ch.trans e4 k412 (fun i hi hl => by simp at hi; omega)
      have b12 : Box h12 h2.size 102 (encI none 0 0 { itm 2 with inst := ⟨op, a, bb, s32 n, 0⟩ }) := b12
      refine loads_box b12 (((op : Nat) : Int), ()) rfl ?_
      dsimp only [flat, unc, unc1, List.nil_append, List.cons_append]
      refine call_boolx (wants_hc (t0.keep e12 (by simp)) (op : Int) (by omega) (by omega)) ?_
      intro h13 e13
      have b13 := b12.keep e13 (by simp)
      have s13 := s12.keep e13
      have k413 : Ch [g, h2.size] h4 h13 := k412.trans e13 (by simp)
      have hz13 := e13.size
      refine cond_mk (fun q => ?_) (fun q => ?_)
      · have e13 : Ext h0 h13 := Ch.trans e4 k413 (fun i hi hl => by simp at hi; omega)
        refine call_of (rLin_hc e13 hg0 s13 v hc hl) ?_
        rintro _ h14 ⟨y, st14, p, l, c, rfl, s14, p14, sl, hr, k14⟩
        refine ⟨((p, l, c), (y.num : Int), ()), rfl, ?_⟩
        dsimp only [flat, unc, unc1, List.nil_append, List.cons_append]
        have b14 := b13.keep k14 (by simp; omega)
        rw [add_box]
        refine stores_of b14 rfl (by simp [encI, setL]) ?_
        intro h15 b15 k15 z15
        refine meet_mk (cs := []) () rfl rfl (fin' h14 h15 { itm 2 with inst := ⟨op, a, bb, s32 n, 0⟩, e := y } st14 p l c _ s14 (k413.trans k14 (by simp)) b14 k15 b15 (Stp.ins p5 p7 p8 p11 ?_) rfl (sl.mono (by omega)) ⟨hr, nm0, by show Sm (op : Int); exact ⟨by omega, by omega⟩⟩)
        have : insK op a bb n = fun r => andR (linR r) fun e r => .ok ({ itm 2 with inst := ⟨op, a, bb, s32 n, 0⟩, e := e }, r) := by
          funext r
          unfold insK
          rw [if_pos q]
        rw [this]
        exact Stp.and p14 (Stp.ret _ _)
      · refine meet_mk (cs := []) () rfl rfl (fin' h12 h13 { itm 2 with inst := ⟨op, a, bb, s32 n, 0⟩ } st11 none 0 0 _ s12 k412 b12 (e13.mono (by simp)) b13 (Stp.ins p5 p7 p8 p11 ?_) rfl (SL.nil _ _ _ _) ⟨LinRd.zero, nm0, by show Sm (op : Int); exact ⟨by omega, by omega⟩⟩)
        have : insK op a bb n = fun r => .ok ({ itm 2 with inst := ⟨op, a, bb, s32 n, 0⟩ }, r) := by
          funext r
          unfold insK
          rw [if_neg (by rw [q]; decide)]
        rw [this]
        exact Stp.ret _ _
    refine cond_f (neK q2) ?_
    by_cases q3 : k = 3
    · subst q3
      refine cond_t rfl ?_
      refine call_of (rNumber_hc e4 s4 v hl (w := 2) (by omega)) ?_
      rintro _ h5 ⟨n, st5, rfl, hn, s5, p5, k5⟩
      refine ⟨((n : Int), ()), rfl, ?_⟩
      dsimp only [flat, unc, unc1, List.nil_append, List.cons_append]
      have b5 := b4.keep k5 (by simp; omega)
      rw [add_box, wrap_i64 (by omega) (by omega)]
      refine stores_of b5 rfl (by simp [encI]) ?_
      intro h6 b6 k6 z6
      exact meet_mk (cs := []) () rfl rfl (fin h5 h6 { itm 3 with n := n } st5 none 0 0 _ s5 k5 b5 k6 b6 (by rw [itmB3]; exact Stp.and p5 (Stp.ret _ _)) rfl (SL.nil _ _ _ _) ⟨LinRd.zero, nm0, Sm0⟩)
    refine cond_f (neK q3) ?_
    by_cases q5 : k = 5
    · subst q5
      refine cond_t rfl ?_
      refine call_of (rNumber_hc e4 s4 v hl (w := 2) (by omega)) ?_
      rintro _ h5 ⟨n, st5, rfl, hn, s5, p5, k5⟩
      refine ⟨((n : Int), ()), rfl, ?_⟩
      dsimp only [flat, unc, unc1, List.nil_append, List.cons_append]
      refine call_int (signed_hc h5 (by omega)) ?_
      have b5 := b4.keep k5 (by simp; omega)
      rw [add_box, wrap_i64 (by unfold s16; split <;> omega) (by unfold s16; split <;> omega)]
      refine stores_of b5 rfl (by simp [encI]) ?_
      intro h6 b6 k6 z6
      exact meet_mk (cs := []) () rfl rfl (fin h5 h6 { itm 5 with n := s16 n } st5 none 0 0 _ s5 k5 b5 k6 b6 (by rw [itmB5]; exact Stp.and p5 (Stp.ret _ _)) rfl (SL.nil _ _ _ _) ⟨LinRd.zero, nm0, Sm0⟩)
    refine cond_f (neK q5) ?_
    by_cases q6 : k = 6
    · subst q6
      refine cond_t rfl ?_
      refine call_of (rLin_hc e4 hg0 s4 v hc hl) ?_
      rintro _ h5 ⟨y, st5, p, l, c, rfl, s5, p5, sl, hr, k5⟩
      refine ⟨((p, l, c), (y.num : Int), ()), rfl, ?_⟩
      dsimp only [flat, unc, unc1, List.nil_append, List.cons_append]
      have b5 := b4.keep k5 (by simp; omega)
      rw [add_box]
      refine stores_of b5 rfl (by simp [encI]) ?_
      intro h6 b6 k6 z6
      exact meet_mk (cs := []) () rfl rfl (fin h5 h6 { itm 6 with e := y } st5 p l c _ s5 k5 b5 k6 b6 (by rw [itmB6]; exact Stp.and p5 (Stp.ret _ _)) rfl (sl.mono (by omega)) ⟨hr, nm0, Sm0⟩)
    refine cond_f (neK q6) ?_
    by_cases q7 : k = 7
    · subst q7
      refine cond_t rfl ?_
      refine call_of (rNumber_hc e4 s4 v hl (w := 4) (by omega)) ?_
      rintro _ h5 ⟨n, st5, rfl, hn, s5, p5, k5⟩
      refine ⟨((n : Int), ()), rfl, ?_⟩
      dsimp only [flat, unc, unc1, List.nil_append, List.cons_append]
      have b5 := b4.keep k5 (by simp; omega)
      rw [add_box, wrap_i64 (by omega) (by omega)]
      refine stores_of b5 rfl (by simp [encI]) ?_
      intro h6 b6 k6 z6
      exact meet_mk (cs := []) () rfl rfl (fin h5 h6 { itm 7 with n := n } st5 none 0 0 _ s5 k5 b5 k6 b6 (by rw [itmB7]; exact Stp.and p5 (Stp.ret _ _)) rfl (SL.nil _ _ _ _) ⟨LinRd.zero, nm0, Sm0⟩)
    refine cond_f (neK q7) ?_
    by_cases q4 : k = 4
    · subst q4
      refine cond_t rfl ?_
      exact meet_mk (cs := []) () rfl rfl (fin h4 h4 (itm 4) st2 none 0 0 _ s4 (Ch.refl _ _) b4 (Ch.refl _ _) b4 (by rw [itmB4]; exact Stp.ret _ _) rfl (SL.nil _ _ _ _) ⟨LinRd.zero, nm0, Sm0⟩)
    refine cond_f (neK q4) ?_
    refine call_of (refuse_hc s4 (i := fr) (why := 31) hfr) ?_
    rintro _ h5 ⟨rfl, s5, k5⟩
    refine ⟨(), rfl, ?_⟩
    dsimp only [flat, unc, unc1, List.nil_append, List.cons_append]
    refine meet_mk (cs := []) () rfl rfl ⟨itm k, _, none, 0, 0, b4.keep k5 (by simp; omega), s5, ?_, SL.nil _ _ _ _, ⟨LinRd.zero, nm0, Sm0⟩, k4.trans k5 (fun i hi _ => hi), b1.keep k5 (by simp; omega)⟩
    refine Stp.bad (f := fun r => andR (numR 1 r) itmB) (Stp.and p2 ?_) ?_ hat
    · rw [itmBo (by omega)]
      exact Stp.ret _ _
    · unfold okK itm
      simp only [Bool.and_eq_false_iff, decide_eq_false_iff_not]
      omega
  rintro _ h5 ⟨x, st1, p, l, c, b5, s5, q5, sl5, hr5, k5, b15⟩
  dsimp only [flat, unc, unc1, List.nil_append, List.cons_append]
  clear fin fin' s4 s3 s2 s1 b4 b3 b1 k4 k3 k2 e4 p2
  have e5 : Ext h0 h5 := Ch.trans e0 k5 (fun i hi hl => by simp at hi; omega)
  have hz5 := b5.lt
  have hg5 := s5.lt
  have hatat : (fun r => at_ r 31 (itmOk sec D) (at_ r 31 okK (andR (numR 1 r) itmB))) = itemR sec D := by
    funext r
    exact at_at _ (fun x h => by
      unfold itmOk at h
      rw [Bool.and_eq_true] at h
      exact itmR_okK h.1)
  have bad : itmOk sec D x = false → Stp (itemR sec D) st x (refS full fr 31 st1) := fun hb => by
    have := Stp.bad (f := fun r => at_ r 31 okK (andR (numR 1 r) itmB)) (ok := itmOk sec D) (why := 31) q5 hb hat
    rw [hatat] at this
    exact this
  have good : itmOk sec D x = true → Stp (itemR sec D) st x st1 := fun hb => by
    have := Stp.good (f := fun r => at_ r 31 okK (andR (numR 1 r) itmB)) (ok := itmOk sec D) (why := 31) q5 hb
    rw [hatat] at this
    exact this
  have mk : ∀ h6 st6, Ch [g] h5 h6 → RdS h6 g gm bp bl bc full st6 D → Stp (itemR sec D) st x st6 → Box h6 h2.size 102 (encI p l c x) ∧ RdS h6 g gm bp bl bc full st6 D ∧ Stp (itemR sec D) st x st6 ∧ SL h6 (h2.size + 1) 104 2 p l c (x.e.terms.map encT) ∧ Ch [g] h h6 ∧ Box h6 h.size 102 iz := by
    intro h6 st6 k6 s6 q6
    have hb := Ob.SL.blk sl5
    exact ⟨b5.keep k6 (by simp; omega), s6, q6, sl5.keep k6 (fun a ha hi => by have := (hb a.block (by rw [ha]; simp [blkOf])).1; simp at hi; omega), k5.trans k6 (fun i hi _ => hi), b15.keep k6 (by simp; omega)⟩
  refine join_of (cs := []) (fun _ h' => ∃ st', Box h' h2.size 102 (encI p l c x) ∧ RdS h' g gm bp bl bc full st' D ∧ Stp (itemR sec D) st x st' ∧ SL h' (h2.size + 1) 104 2 p l c (x.e.terms.map encT) ∧ Ch [g] h h' ∧ Box h' h.size 102 iz) ?_ ?_
  · refine loads_box b5 (x.kind, x.name, x.inst.op, x.inst.a, x.inst.b, x.inst.n, x.inst.form, (p, l, c), (x.e.num : Int), x.n, ()) rfl ?_
    dsimp only [flat, unc, unc1, List.nil_append, List.cons_append]
    refine call_of (item_hc (t0.keep e5 (by simp)) (hr5.at sl5) hsec (c := c)) ?_
    rintro _ h6 ⟨rfl, e6⟩
    refine ⟨((if itmR x sec then (0 : Int) else (31 : Int)), ()), rfl, ?_⟩
    dsimp only [flat, unc, unc1, List.nil_append, List.cons_append]
    have s6 := s5.keep e6
    have b6 := b5.keep e6 (by simp)
    refine cond_mk (fun q => ?_) (fun q => ?_)
    · have q : itmR x sec = false := by
        cases hh : itmR x sec
        · rfl
        · rw [hh] at q; simp at q
      refine call_of (refuse_hc s6 (i := fr) (why := 31) hfr) ?_
      rintro _ h7 ⟨rfl, s7, k7⟩
      refine ⟨(), rfl, ?_⟩
      dsimp only [flat, unc, unc1, List.nil_append, List.cons_append]
      exact meet_mk (cs := []) () rfl rfl ⟨_, mk h7 _ ((e6.mono (by simp)).trans k7 (fun i hi _ => hi)) s7 (bad (by unfold itmOk; rw [q]; rfl))⟩
    have q : itmR x sec = true := by
      cases hh : itmR x sec
      · rw [hh] at q; simp at q
      · rfl
    refine loads_box b6 (x.kind, ()) rfl ?_
    dsimp only [flat, unc, unc1, List.nil_append, List.cons_append]
    have ok : itmOk sec D x = !(decide (x.kind = 1) && inN D x.name) := by unfold itmOk; rw [q, Bool.true_and]
    refine cond_mk (fun r => ?_) (fun r => ?_)
    · have r : x.kind = 1 := by simpa using r
      obtain ⟨fr', no, b, hfr', m, hgm', n⟩ := id s6
      refine osome_mk rfl ?_
      rw [add_box]
      refine loads_box b (some gm, ()) rfl ?_
      dsimp only [flat, unc, unc1, List.nil_append, List.cons_append]
      rw [add_box]
      refine loads_box b6 (x.name, ()) rfl ?_
      dsimp only [flat, unc, unc1, List.nil_append, List.cons_append]
      refine lookS m x.name ?_
      refine ⟨⟨b6.cells _ rfl, b6.cells _ rfl, trivial⟩, ?_⟩
      rw [decide_eq_true r, Bool.true_and] at ok
      refine cond_mk (fun w => ?_) (fun w => ?_)
      · refine call_of (refuse_hc s6 (i := fr) (why := 31) hfr) ?_
        rintro _ h7 ⟨rfl, s7, k7⟩
        refine ⟨(), rfl, ?_⟩
        dsimp only [flat, unc, unc1, List.nil_append, List.cons_append]
        exact meet_mk (cs := []) () rfl rfl ⟨_, mk h7 _ ((e6.mono (by simp)).trans k7 (fun i hi _ => hi)) s7 (bad (by rw [ok, w]; rfl))⟩
      · exact meet_mk (cs := []) () rfl rfl ⟨_, mk h6 _ (e6.mono (by simp)) s6 (good (by rw [ok, w]; rfl))⟩
    · have r : ¬ x.kind = 1 := by simpa using r
      exact meet_mk (cs := []) () rfl rfl ⟨_, mk h6 _ (e6.mono (by simp)) s6 (good (by rw [ok, decide_eq_false r]; rfl))⟩
  rintro _ h6 ⟨st6, b6, s6, q6, sl6, k6, b16⟩
  dsimp only [flat, unc, unc1, List.nil_append, List.cons_append]
  have hb := Ob.SL.blk sl6
  have hz6 := k6.size
  refine loads_box b6 (x.kind, ()) rfl ?_
  dsimp only [flat, unc, unc1, List.nil_append, List.cons_append]
  have fin : ∀ h7 D', (RdS h7 g gm bp bl bc full st6 D' ∧ Ch [gm] h6 h7 ∧ D' = addN D x) → (T.loads ⟨h2.size, 0, none⟩ [.int .i64, .string, .int .i64, .int .i64, .int .i64, .int .i32, .int .i64, .slice 104, .int .u32, .int .i64] <| fun (n8 : Int) (s9 : ByteArray) (n10 : Int) (n11 : Int) (n12 : Int) (n13 : Int) (n14 : Int) (p15 : Option Addr) (l16 : Nat) (l17 : Nat) (n18 : Int) (n19 : Int) =>
  T.stores ⟨h.size, 0, none⟩ [.int .i64 n8, .string s9, .int .i64 n10, .int .i64 n11, .int .i64 n12, .int .i32 n13, .int .i64 n14, .slice p15 l16 l17, .int .u32 n18, .int .i64 n19] <|
  T.loads ⟨h.size, 0, none⟩ [.int .i64, .string, .int .i64, .int .i64, .int .i64, .int .i32, .int .i64, .slice 104, .int .u32, .int .i64] <| fun (n20 : Int) (s21 : ByteArray) (n22 : Int) (n23 : Int) (n24 : Int) (n25 : Int) (n26 : Int) (p27 : Option Addr) (l28 : Nat) (l29 : Nat) (n30 : Int) (n31 : Int) =>
  T.ret (.agg #[.int .i64 n20, .string s21, .int .i64 n22, .int .i64 n23, .int .i64 n24, .int .i32 n25, .int .i64 n26, .slice p27 l28 l29, .int .u32 n30, .int .i64 n31])) [] (fun u h' => ∃ (x : Itm) (st' : St) (p : Option Addr) (l c : Nat), u = itmV p l c x ∧ RdS h' g gm bp bl bc full st' (addN D x) ∧ Stp (itemR sec D) st x st' ∧ SL h' h.size 104 2 p l c (x.e.terms.map encT) ∧ ItmRd x ∧ Ch [g, gm] h h') h7 := by
    rintro h7 D' ⟨s7, k7, rfl⟩
    have b7 := b6.keep k7 (by simp; omega)
    have b17 := b16.keep k7 (by simp; omega)
    refine loads_box b7 (x.kind, x.name, x.inst.op, x.inst.a, x.inst.b, x.inst.n, x.inst.form, (p, l, c), (x.e.num : Int), x.n, ()) rfl ?_
    dsimp only [flat, unc, unc1, List.nil_append, List.cons_append]
    refine stores_of b17 rfl (by simp [iz]) ?_
    intro h8 b8 k8 z8
    have b8 : Box h8 h.size 102 (encI p l c x) := b8
    refine loads_box b8 (x.kind, x.name, x.inst.op, x.inst.a, x.inst.b, x.inst.n, x.inst.form, (p, l, c), (x.e.num : Int), x.n, ()) rfl ?_
    have sl8 := (sl6.keep k7 (fun a ha hi => by have := (hb a.block (by rw [ha]; simp [blkOf])).1; simp at hi; omega)).keep k8 (fun a ha hi => by have := (hb a.block (by rw [ha]; simp [blkOf])).1; simp at hi; omega)
    refine ⟨x, st6, p, l, c, rfl, s7.keep1 b17 (by decide) k8 (by omega) (by omega), q6, sl8.mono (by omega), hr5, ?_⟩
    exact ((k6.mono (by simp)).trans k7 (by simp)).trans k8 (fun i hi hl => by simp at hi; omega)
  refine cond_mk (fun r => ?_) (fun r => ?_)
  · have r : x.kind = 1 := by simpa using r
    obtain ⟨fr', no, b, hfr', m, hgm', n⟩ := id s6
    refine osome_mk rfl ?_
    rw [add_box]
    refine loads_box b (some gm, ()) rfl ?_
    dsimp only [flat, unc, unc1, List.nil_append, List.cons_append]
    rw [add_box]
    refine loads_box b6 (x.name, ()) rfl ?_
    dsimp only [flat, unc, unc1, List.nil_append, List.cons_append]
    refine putS m (by have := hr5.name; unfold maxLen; omega) ?_
    intro h7 m7 k7 z7
    exact fin h7 (x.name :: D) ⟨⟨fr', no, b.keep k7 (by simpa using hgm'), hfr', m7, hgm', n.keep k7 (by simp)⟩, k7, by unfold addN; rw [if_pos r]⟩
  · have r : ¬ x.kind = 1 := by simpa using r
    exact fin h6 D ⟨s6, Ch.refl _ _, by unfold addN; rw [if_neg r]⟩
end Go.Sx.Ob

set_option linter.unusedVariables false
set_option linter.unusedSimpArgs false
set_option maxRecDepth 100000
namespace Go.Sx.Ob
open Go.Proofs
theorem callv_any {P : Program} {L : Lp} {K : Value → Hp → Prop} {h : Hp} {f : FuncId} {first args cap all : List Value} {tup : Bool} {cs : List Comp} {k : Cur (flat cs) T} {R : Value → Hp → Prop} (hb : hasBody P f = true) (ha : all = first ++ args ++ cap) (hc : HC P f all.toArray h R)
    (hk : ∀ v h', R v h' → ∃ x, v = rv tup cs (hvs _ x) ∧ unc _ k x L K h') : T.callv P (.func (.func f) first.toArray cap.toArray) args tup cs k L K h := by
  subst ha
  refine ⟨f, first.toArray, cap.toArray, rfl, by simpa using call_of hc hk, ?_⟩
  unfold hasBody at hb
  cases hf : P.funcs[f]? with
  | none => rw [hf] at hb; cases hb
  | some fn =>
    rw [hf] at hb
    exact ⟨fn, rfl, by simp_all, by simp_all⟩
theorem RdS.put {h h' : Hp} {g gm : Nat} {bp : Option Addr} {bl bc : Nat} {full : Bt} {st : St} {D : List ByteArray} {n : ByteArray} (s : RdS h g gm bp bl bc full st D) (m : SetB h' gm (n :: D)) (k : Ch [gm] h h') : RdS h' g gm bp bl bc full st (n :: D) := by
  obtain ⟨at_, no, b, ha, m0, hgm, nn⟩ := s
  exact ⟨at_, no, b.keep k (by simpa using hgm), ha, m, hgm, nn.keep k (by simp)⟩
theorem equ_hc {h0 h : Hp} (e0 : Ext h0 h) {g gm : Nat} (hg0 : h0.size ≤ g) {bp : Option Addr} {bl bc : Nat} {full : Bt} {st : St} {D : List ByteArray} (s : RdS h g gm bp bl bc full st D) (v : VwB h0 bp bl full) (hc : bl ≤ bc) (hl : full.length ≤ 2 ^ 60) :
    HC Tryz.prog 55 #[.pointer (some ⟨g, 0, none⟩)] h fun u h' => ∃ (x : Eqn) (st' : St) (p : Option Addr) (l c : Nat), u = .agg (encE p l c x).toArray ∧ RdS h' g gm bp bl bc full st' (x.1 :: D) ∧ Stp (equR D) st x st' ∧ SL h' h.size 104 2 p l c (x.2.terms.map encT) ∧ LinRd x.2 ∧ x.1.size < 65536 ∧ Ch [g, gm] h h' := by
  refine hcr_of (args := [.pointer (some ⟨g, 0, none⟩)]) mixed Tryz.func55 (by kernel_rfl) (t_object_reader__equ_eq (some ⟨g, 0, none⟩)) ?_
  unfold t_object_reader__equ
  obtain ⟨hgl, hml⟩ := s.lt
  refine newB ?_
  intro h1 b1 e1 z1
  have s1 := s.keep e1
  obtain ⟨fr, no, b, hfr, m, hgm, n⟩ := id s1
  refine osome_mk rfl ?_
  rw [add_box]
  refine loads_box b ((fr : Int), ()) rfl ?_
  dsimp only [flat, unc, unc1, List.nil_append, List.cons_append]
  have hat : ∀ r, st = .ok r → full.length - fr = r.length := by
    intro r hr
    subst hr
    rw [← n.2, List.length_drop]
  clear b m n no
  refine call_of (rText_hc (e0.trans e1) s1 v hc hl) ?_
  rintro _ h2 ⟨t, st2, rfl, ht, s2, p2, k2⟩
  refine ⟨(t, ()), rfl, ?_⟩
  dsimp only [flat, unc, unc1, List.nil_append, List.cons_append]
  have b1 := b1.keep k2 (by simp; omega)
  have hz12 := k2.size
  have k2 : Ch [g] h h2 := (e1.mono (by simp)).trans k2 (fun i hi _ => hi)
  have hg2 := s2.lt
  refine newB ?_
  intro h3 b3 e3 z3
  have b1 := b1.keep e3 (by simp)
  have s3 := s2.keep e3
  have k3 : Ch [g] h h3 := k2.trans e3 (by simp)
  refine stores_of b3 rfl (by simp) ?_
  intro h4 b4 k4 z4
  have b4 : Box h4 h2.size 78 [.string t, .slice none 0 0, .int .u32 (0 : Int)] := b4
  have s4 := s3.keep1 b3 (by decide) k4 (by omega) (by omega)
  have b1 := b1.keep k4 (by simp; omega)
  have k4 : Ch [g] h h4 := k3.trans k4 (fun i hi hl => by simp at hi; omega)
  have e4 : Ext h0 h4 := Ch.trans e0 k4 (fun i hi hl => by simp at hi; omega)
  refine call_of (rLin_hc e4 hg0 s4 v hc hl) ?_
  rintro _ h5 ⟨y, st5, p, l, c, rfl, s5, p5, sl, hr, k5⟩
  refine ⟨((p, l, c), (y.num : Int), ()), rfl, ?_⟩
  dsimp only [flat, unc, unc1, List.nil_append, List.cons_append]
  have b5 := b4.keep k5 (by simp; omega)
  have b15 := b1.keep k5 (by simp; omega)
  have hz5 := k5.size
  have hg5 := s5.lt
  rw [add_box]
  refine stores_of b5 rfl (by simp) ?_
  intro h6 b6 k6 z6
  have b6 : Box h6 h2.size 78 (encE p l c (t, y)) := b6
  have s6 := s5.keep1 b5 (by decide) k6 (by omega) (by omega)
  have hb := Ob.SL.blk sl
  have sl6 := sl.keep k6 (fun a ha hi => by have := (hb a.block (by rw [ha]; simp [blkOf])).1; simp at hi; omega)
  have b16 := b15.keep k6 (by simp; omega)
  have k6 : Ch [g] h h6 := (k4.trans k5 (fun i hi _ => hi)).trans k6 (fun i hi hl => by simp at hi; omega)
  have e6 : Ext h0 h6 := Ch.trans e0 k6 (fun i hi hl => by simp at hi; omega)
  clear s5 s4 s3 s2 s1 b5 b4 b3 b1 k4 k3 k2 e4 b15 sl k5
  have pB : Stp equB st (t, y) st5 := Stp.and (f := textR) p2 (Stp.and (f := linR) p5 (Stp.ret _ _))
  have bad : equOk D (t, y) = false → Stp (equR D) st (t, y) (refS full fr 31 st5) := fun hb => Stp.bad (f := equB) (ok := equOk D) (why := 31) pB hb hat
  have good : equOk D (t, y) = true → Stp (equR D) st (t, y) st5 := fun hb => Stp.good (f := equB) (ok := equOk D) (why := 31) pB hb
  have fin : ∀ (h7 : Hp) (st7 : St), RdS h7 g gm bp bl bc full st7 D → Ch [g] h6 h7 → Stp (equR D) st (t, y) st7 →
     (T.osome (some ⟨g, 0, none⟩) <| fun (a14 : Addr) =>
  T.loads (a14.add 3) [.map 9 4] <| fun (r15 : Option Nat) =>
  T.loads ⟨h2.size, 0, none⟩ [.string] <| fun (s16 : ByteArray) =>
  T.semU Tryz.prog (Instr.mapUpdate 61 (.map r15) (.string s16) (.bool true)) <|
  T.loads ⟨h2.size, 0, none⟩ [.string, .slice 104, .int .u32] <| fun (s17 : ByteArray) (p18 : Option Addr) (l19 : Nat) (l20 : Nat) (n21 : Int) =>
  T.stores ⟨h.size, 0, none⟩ [.string s17, .slice p18 l19 l20, .int .u32 n21] <|
  T.loads ⟨h.size, 0, none⟩ [.string, .slice 104, .int .u32] <| fun (s22 : ByteArray) (p23 : Option Addr) (l24 : Nat) (l25 : Nat) (n26 : Int) =>
  T.ret (.agg #[.string s22, .slice p23 l24 l25, .int .u32 n26])) [] (fun u h' => ∃ (x : Eqn) (st' : St) (p : Option Addr) (l c : Nat), u = .agg (encE p l c x).toArray ∧ RdS h' g gm bp bl bc full st' (x.1 :: D) ∧ Stp (equR D) st x st' ∧ SL h' h.size 104 2 p l c (x.2.terms.map encT) ∧ LinRd x.2 ∧ x.1.size < 65536 ∧ Ch [g, gm] h h') h7 := by
    intro h7 st7 s7 k7 q7
    have b7 := b6.keep k7 (by simp; omega)
    have b17 := b16.keep k7 (by simp; omega)
    have sl7 := sl6.keep k7 (fun a ha hi => by have := (hb a.block (by rw [ha]; simp [blkOf])).1; simp at hi; omega)
    obtain ⟨fr', no, b, hfr', m, hgm', n⟩ := id s7
    refine osome_mk rfl ?_
    rw [add_box]
    refine loads_box b (some gm, ()) rfl ?_
    dsimp only [flat, unc, unc1, List.nil_append, List.cons_append]
    refine loads_box b7 (t, ()) rfl ?_
    dsimp only [flat, unc, unc1, List.nil_append, List.cons_append]
    refine putS m (by unfold maxLen; omega) ?_
    intro h8 m8 k8 z8
    have s8 := s7.put m8 k8
    have b8 := b7.keep k8 (by simp; omega)
    have b18 := b17.keep k8 (by simp; omega)
    refine loads_box b8 (t, (p, l, c), (y.num : Int), ()) rfl ?_
    dsimp only [flat, unc, unc1, List.nil_append, List.cons_append]
    refine stores_of b18 rfl (by simp) ?_
    intro h9 b9 k9 z9
    have b9 : Box h9 h.size 78 (encE p l c (t, y)) := b9
    refine loads_box b9 (t, (p, l, c), (y.num : Int), ()) rfl ?_
    have sl9 := (sl7.keep k8 (fun a ha hi => by have := (hb a.block (by rw [ha]; simp [blkOf])).1; simp at hi; omega)).keep k9 (fun a ha hi => by have := (hb a.block (by rw [ha]; simp [blkOf])).1; simp at hi; omega)
    refine ⟨(t, y), st7, p, l, c, rfl, s8.keep1 b18 (by decide) k9 (by omega) (by omega), q7, sl9.mono (by omega), hr, ht, ?_⟩
    exact ((((k6.trans k7 (fun i hi _ => hi)).mono (by simp)).trans k8 (by simp))).trans k9 (fun i hi hl => by simp at hi; omega)
  obtain ⟨fr', no, b, hfr', m, hgm', n⟩ := id s6
  refine osome_mk rfl ?_
  rw [add_box]
  refine loads_box b (some gm, ()) rfl ?_
  dsimp only [flat, unc, unc1, List.nil_append, List.cons_append]
  refine loads_box b6 (t, ()) rfl ?_
  dsimp only [flat, unc, unc1, List.nil_append, List.cons_append]
  refine lookS m t ?_
  have ok : equOk D (t, y) = (!(inN D t) && legalL t.data.toList && rtR none y.terms) := rfl
  refine cond_mk (fun w => ?_) (fun w => ?_)
  · refine call_of (refuse_hc s6 (i := fr) (why := 31) hfr) ?_
    rintro _ h7 ⟨rfl, s7, k7⟩
    refine ⟨(), rfl, ?_⟩
    exact fin h7 _ s7 k7 (bad (by rw [ok, w]; rfl))
  refine loads_box b6 (t, ()) rfl ?_
  dsimp only [flat, unc, unc1, List.nil_append, List.cons_append]
  refine call_bool (legal_hc t h6 (by omega)) ?_
  refine ⟨⟨b6.cells _ rfl, b.cells _ rfl, trivial⟩, ?_⟩
  refine cond_mk (fun q => ?_) (fun q => ?_)
  · refine call_of (refuse_hc s6 (i := fr) (why := 31) hfr) ?_
    rintro _ h7 ⟨rfl, s7, k7⟩
    refine ⟨(), rfl, ?_⟩
    exact fin h7 _ s7 k7 (bad (by rw [ok, w, show legalL t.data.toList = false by simpa using q]; rfl))
  have q : legalL t.data.toList = true := by simpa using q
  refine loads_box b6 ((p, l, c), (y.num : Int), ()) rfl ?_
  dsimp only [flat, unc, unc1, List.nil_append, List.cons_append]
  have la := hr.at sl6
  refine call_of (right63_hc (c := c) la.vw (by have := la.many; omega) la.names) ?_
  rintro _ h7 ⟨rfl, e7⟩
  refine ⟨(rtR none y.terms, ()), rfl, ?_⟩
  dsimp only [flat, unc, unc1, List.nil_append, List.cons_append]
  have b67 := b6.keep e7 (by simp)
  refine ⟨⟨b67.cells _ rfl, b67.cells _ rfl, (b.keep e7 (by simp)).cells _ rfl, trivial⟩, ?_⟩
  have s7 := s6.keep e7
  refine cond_mk (fun u => ?_) (fun u => ?_)
  · refine call_of (refuse_hc s7 (i := fr) (why := 31) hfr) ?_
    rintro _ h8 ⟨rfl, s8, k8⟩
    refine ⟨(), rfl, ?_⟩
    exact fin h8 _ s8 ((e7.mono (by simp)).trans k8 (fun i hi _ => hi)) (bad (by rw [ok, w, q, show rtR none y.terms = false by simpa using u]; rfl))
  · exact fin h7 _ s7 (e7.mono (by simp)) (good (by rw [ok, w, q, show rtR none y.terms = true by simpa using u]; rfl))
end Go.Sx.Ob
