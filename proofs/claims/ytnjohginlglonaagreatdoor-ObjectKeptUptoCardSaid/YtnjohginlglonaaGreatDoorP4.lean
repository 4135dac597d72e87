/- Contracts over heaps, and plain laws, for the functions that the laws of chapter 10 call, part 4: Readers over heaps: an item. Readers over heaps: an equ; lists that were read. Readers over heaps: rows of things. Readers over heaps: rows of items, of equs, of names. Readers over heaps: a unit. Copies of units, over heaps: sums, items. Condition: as each statement says. -/
import Derived.Test.YtnjohginlglonaaGreatDoorP3
import Derived.Test.YtnjohginlglonaaGreatDoorZobjW
import Derived.Test.YtnjohginlglonaaGreatDoorP2
import Derived.Test.YtnjohginlglonaaGreatDoorZrV
set_option linter.unusedVariables false
set_option linter.unusedSimpArgs false
set_option maxRecDepth 100000
namespace Go.Sx.Ob
open Go.Proofs
def okK (x : Itm) : Bool := decide (1 ≤ x.kind) && decide (x.kind ≤ 7)
theorem itmR_okK {x : Itm} {sec : Nat} (h : itmR x sec = true) : okK x = true := by
  unfold itmR at h
  unfold okK
  repeat' split at h
  all_goals first | (cases h; done) | (rw [Bool.and_eq_true, decide_eq_true_eq, decide_eq_true_eq]; omega)
theorem neK {k c : Nat} (h : k ≠ c) : (((k : Nat) : Int) == (c : Int)) = false := by
  simp only [beq_eq_false_iff_ne, ne_eq]
  omega
theorem wrap_i32_u {n : Nat} (h : n < 4294967296) : IntKind.wrap .i32 (n : Int) = s32 n := by
  unfold s32
  simp only [IntKind.wrap, IntKind.bits, IntKind.signed, Bool.true_and]
  split <;> rename_i hh
  · have := of_decide_eq_true hh
    rw [if_neg (by omega)]
    omega
  · have : ¬ _ := fun h => hh (decide_eq_true h)
    rw [if_pos (by omega)]
    omega
theorem itmB1 : itmB 1 = fun r => andR (textR r) fun s r => .ok ({ itm 1 with name := s }, r) := rfl
theorem itmB3 : itmB 3 = fun r => andR (numR 2 r) fun n r => .ok ({ itm 3 with n := n }, r) := rfl
theorem itmB4 : itmB 4 = fun r => .ok (itm 4, r) := rfl
theorem itmB5 : itmB 5 = fun r => andR (numR 2 r) fun n r => .ok ({ itm 5 with n := s16 n }, r) := rfl
theorem itmB6 : itmB 6 = fun r => andR (linR r) fun e r => .ok ({ itm 6 with e := e }, r) := rfl
theorem itmB7 : itmB 7 = fun r => andR (numR 4 r) fun n r => .ok ({ itm 7 with n := n }, r) := rfl
def insK (op a b n : Nat) (r : Bt) : Rd Itm := if wnt (op : Int) then andR (linR r) fun e r => .ok ({ itm 2 with inst := ⟨op, a, b, s32 n, 0⟩, e := e }, r) else .ok ({ itm 2 with inst := ⟨op, a, b, s32 n, 0⟩ }, r)
theorem Stp.ins {st st1 st2 st3 st4 st5 : St} {op a b n : Nat} {x : Itm} (p1 : Stp (numR 1) st op st1) (p2 : Stp (numR 1) st1 a st2) (p3 : Stp (numR 1) st2 b st3) (p4 : Stp (numR 4) st3 n st4) (h : Stp (insK op a b n) st4 x st5) : Stp (itmB 2) st x st5 :=
  Stp.and (f := numR 1) (k := fun op r => andR (numR 1 r) fun a r => andR (numR 1 r) fun b r => andR (numR 4 r) fun n r => insK op a b n r) p1
    (Stp.and (f := numR 1) (k := fun a r => andR (numR 1 r) fun b r => andR (numR 4 r) fun n r => insK op a b n r) p2
      (Stp.and (f := numR 1) (k := fun b r => andR (numR 4 r) fun n r => insK op a b n r) p3
        (Stp.and (f := numR 4) (k := fun n r => insK op a b n r) p4 h)))
theorem itmBo {k : Nat} (h : k = 0 ∨ 8 ≤ k ∨ k = 4) : itmB k = fun r => .ok (itm k, r) := by
  funext r
  unfold itmB
  rw [if_neg (by omega), if_neg (by omega), if_neg (by omega), if_neg (by omega), if_neg (by omega), if_neg (by omega)]
/-- Items that were read. -/
structure ItmRd (x : Itm) : Prop where
  lin : LinRd x.e
  name : x.name.size < 65536
  op : Sm x.inst.op
theorem LinRd.zero : LinRd lin0 := ⟨by decide, by simp [lin0], by decide⟩
theorem LinRd.at {h : Hp} {b : Nat} {e : TypeId} {p : Option Addr} {l c : Nat} {x : Lin} (r : LinRd x) (s : SL h b e 2 p l c (x.terms.map encT)) : LinAt h p l x :=
  ⟨Sx.SL.vwT s, by have := r.many; omega, fun t ht => by have := (r.terms t ht).1; unfold maxLen; omega⟩
theorem ItmRd.at {h : Hp} {b : Nat} {e : TypeId} {p : Option Addr} {l c : Nat} {x : Itm} (r : ItmRd x) (s : SL h b e 2 p l c (x.e.terms.map encT)) : ItmAt h p l x :=
  ⟨r.lin.at s, by have := r.name; unfold maxLen; omega, r.op⟩
theorem nm0 : nam0.size < 65536 := by decide
theorem Sm0 : Sm 0 := ⟨by decide, by decide⟩
def iz : List Value := [.int .i64 (0 : Int), .string ⟨#[]⟩, .int .i64 (0 : Int), .int .i64 (0 : Int), .int .i64 (0 : Int), .int .i32 (0 : Int), .int .i64 (0 : Int), .slice none 0 0, .int .u32 (0 : Int), .int .i64 (0 : Int)]
def itmJ (h : Hp) (g gm : Nat) (bp : Option Addr) (bl bc : Nat) (full : Bt) (D : List ByteArray) (f : Bt → Rd Itm) (st : St) (h' : Hp) (g6 : Nat) : Prop :=
  ∃ (x : Itm) (st1 : St) (p : Option Addr) (l c : Nat), Box h' g6 102 (encI p l c x) ∧ RdS h' g gm bp bl bc full st1 D ∧ Stp f st x st1 ∧ SL h' (g6 + 1) 104 2 p l c (x.e.terms.map encT) ∧ ItmRd x ∧ Ch [g] h h' ∧ Box h' h.size 102 iz
theorem rItem_hc {h0 h : Hp} (e0 : Ext h0 h) (t0 : Tab h0) {g gm : Nat} (hg0 : h0.size ≤ g) {bp : Option Addr} {bl bc : Nat} {full : Bt} {st : St} {D : List ByteArray} (s : RdS h g gm bp bl bc full st D) (v : VwB h0 bp bl full) (hc : bl ≤ bc) (hl : full.length ≤ 2 ^ 60) {sec : Nat} (hsec : sec < 2) :
    HC Tryz.prog 52 #[.pointer (some ⟨g, 0, none⟩), .int .i64 sec] h fun u h' => ∃ (x : Itm) (st' : St) (p : Option Addr) (l c : Nat), u = itmV p l c x ∧ RdS h' g gm bp bl bc full st' (addN D x) ∧ Stp (itemR sec D) st x st' ∧ SL h' h.size 104 2 p l c (x.e.terms.map encT) ∧ ItmRd x ∧ Ch [g, gm] h h' := by
  refine hcr_of (args := [.pointer (some ⟨g, 0, none⟩), .int .i64 sec]) mixed Tryz.func52 (by kernel_rfl) (t_object_reader__item_eq (some ⟨g, 0, none⟩) sec) ?_
  unfold t_object_reader__item
  obtain ⟨hgl, hml⟩ := s.lt
  refine newB ?_
  intro h1 b1 e1 z1
  have s1 := s.keep e1
  obtain ⟨fr, no, b, hfr, m, hgm, n⟩ := id s1
  refine osome_mk rfl ?_
  rw [add_box]
  refine loads_box b ((fr : Int), ()) rfl ?_
  dsimp only [flat, unc, unc1, List.nil_append, List.cons_append]
  have hat : ∀ r, st = .ok r → full.length - fr = r.length := by
    intro r hr
    subst hr
    rw [← n.2, List.length_drop]
  clear b m n no
  refine call_of (rNumber_hc (e0.trans e1) s1 v hl (w := 1) (by omega)) ?_
  rintro _ h2 ⟨k, st2, rfl, hk, s2, p2, k2⟩
  refine ⟨((k : Int), ()), rfl, ?_⟩
  dsimp only [flat, unc, unc1, List.nil_append, List.cons_append]
  have b1 := b1.keep k2 (by simp; omega)
  have hz12 := k2.size
  have k2 : Ch [g] h h2 := (e1.mono (by simp)).trans k2 (fun i hi _ => hi)
  have hz2 := k2.size
  refine newB ?_
  intro h3 b3 e3 z3
  have b1 := b1.keep e3 (by simp)
  have s3 := s2.keep e3
  have k3 : Ch [g] h h3 := k2.trans e3 (by simp)
  rw [wrap_i64 (by omega) (by omega)]
  refine stores_of b3 rfl (by simp) ?_
  intro h4 b4 k4 z4
  have b4 : Box h4 h2.size 102 (encI none 0 0 (itm (k : Int))) := b4
  have b1l := b1.lt
  have hg2 := s2.lt
  have s4 := s3.keep1 b3 (by decide) k4 (by omega) (by omega)
  have b1 := b1.keep k4 (by simp; omega)
  have k4 : Ch [g] h h4 := k3.trans k4 (fun i hi hl => by simp at hi; omega)
  have e4 : Ext h0 h4 := Ch.trans e0 k4 (fun i hi hl => by simp at hi; omega)
  have hg6 : g ≠ h2.size := by omega
  have fin : ∀ (h5 h6 : Hp) (x : Itm) (st5 : St) (p : Option Addr) (l c : Nat) (xs : List Value), RdS h5 g gm bp bl bc full st5 D → Ch [g] h4 h5 → Box h5 h2.size 102 xs → Ch [h2.size] h5 h6 → Box h6 h2.size 102 (encI p l c x) →
      Stp (itmB k) st2 x st5 → okK x = true → SL h5 (h2.size + 1) 104 2 p l c (x.e.terms.map encT) → ItmRd x → itmJ h g gm bp bl bc full D (fun r => at_ r 31 okK (andR (numR 1 r) itmB)) st h6 h2.size := by
    intro h5 h6 x st5 p l c xs s5 k5 b5 k6 b6 hs ho sl hr
    have hb := Ob.SL.blk sl
    refine ⟨x, st5, p, l, c, b6, s5.keep1 b5 (by decide) k6 (by omega) (by omega), Stp.good (Stp.and p2 hs) ho, sl.keep k6 (fun a ha hi => by have := (hb a.block (by rw [ha]; simp [blkOf])).1; simp at hi; omega), hr, ?_, (b1.keep k5 (by simp; omega)).keep k6 (by simp; omega)⟩
    exact (k4.trans k5 (fun i hi _ => hi)).trans k6 (fun i hi hl => by simp at hi; omega)
  have fin' : ∀ (h5 h6 : Hp) (x : Itm) (st5 : St) (p : Option Addr) (l c : Nat) (xs : List Value), RdS h5 g gm bp bl bc full st5 D → Ch [g, h2.size] h4 h5 → Box h5 h2.size 102 xs → Ch [h2.size] h5 h6 → Box h6 h2.size 102 (encI p l c x) →
      Stp (itmB k) st2 x st5 → okK x = true → SL h5 (h2.size + 1) 104 2 p l c (x.e.terms.map encT) → ItmRd x → itmJ h g gm bp bl bc full D (fun r => at_ r 31 okK (andR (numR 1 r) itmB)) st h6 h2.size := by
    intro h5 h6 x st5 p l c xs s5 k5 b5 k6 b6 hs ho sl hr
    have hb := Ob.SL.blk sl
    refine ⟨x, st5, p, l, c, b6, s5.keep1 b5 (by decide) k6 (by omega) (by omega), Stp.good (Stp.and p2 hs) ho, sl.keep k6 (fun a ha hi => by have := (hb a.block (by rw [ha]; simp [blkOf])).1; simp at hi; omega), hr, ?_, (b1.keep k5 (by simp; omega)).keep k6 (by simp; omega)⟩
    exact (k4.trans k5 (fun i hi hl => by simp at hi; rcases hi with hi | hi; · simp [hi]
                                          · omega)).trans k6 (fun i hi hl => by simp at hi; omega)
  refine join_of (cs := []) (fun _ h' => itmJ h g gm bp bl bc full D (fun r => at_ r 31 okK (andR (numR 1 r) itmB)) st h' h2.size) ?_ ?_
  · refine loads_box b4 (((k : Nat) : Int), ()) rfl ?_
    dsimp only [flat, unc, unc1, List.nil_append, List.cons_append]
    by_cases q1 : k = 1
    · subst q1
      refine cond_t rfl ?_
      refine call_of (rText_hc e4 s4 v hc hl) ?_
      rintro _ h5 ⟨t, st5, rfl, ht, s5, p5, k5⟩
      refine ⟨(t, ()), rfl, ?_⟩
      dsimp only [flat, unc, unc1, List.nil_append, List.cons_append]
      have b5 := b4.keep k5 (by simp; omega)
      rw [add_box]
      refine stores_of b5 rfl (by simp [encI]) ?_
      intro h6 b6 k6 z6
      exact meet_mk (cs := []) () rfl rfl (fin h5 h6 { itm 1 with name := t } st5 none 0 0 _ s5 k5 b5 k6 b6 (by rw [itmB1]; exact Stp.and p5 (Stp.ret _ _)) rfl (SL.nil _ _ _ _) ⟨LinRd.zero, ht, Sm0⟩)
    refine cond_f (neK q1) ?_
    by_cases q2 : k = 2
    · subst q2
      refine cond_t rfl ?_
      refine call_of (rNumber_hc e4 s4 v hl (w := 1) (by omega)) ?_
      rintro _ h5 ⟨op, st5, rfl, hop, s5, p5, k5⟩
      refine ⟨((op : Int), ()), rfl, ?_⟩
      dsimp only [flat, unc, unc1, List.nil_append, List.cons_append]
      have b5 := b4.keep k5 (by simp; omega)
      have hz5 := k5.size
      rw [add_box, wrap_i64 (by omega) (by omega)]
      refine stores_of b5 rfl (by simp [encI]) ?_
      intro h6 b6 k6 z6
      have s6 := s5.keep1 b5 (by decide) k6 (by omega) (by omega)
      have k46 : Ch [g, h2.size] h4 h6 := (k5.mono (by simp)).trans k6 (by simp)
      have e6 : Ext h0 h6 := Ch.trans e4 k46 (fun i hi hl => by simp at hi; omega)
      refine call_of (rNumber_hc e6 s6 v hl (w := 1) (by omega)) ?_
      rintro _ h7 ⟨a, st7, rfl, ha, s7, p7, k7⟩
      refine ⟨((a : Int), ()), rfl, ?_⟩
      dsimp only [flat, unc, unc1, List.nil_append, List.cons_append]
      have hz7 := k7.size
      have k47 : Ch [g, h2.size] h4 h7 := k46.trans k7 (by simp)
      have e7 : Ext h0 h7 := Ch.trans e4 k47 (fun i hi hl => by simp at hi; omega)
      refine call_of (rNumber_hc e7 s7 v hl (w := 1) (by omega)) ?_
      rintro _ h8 ⟨bb, st8, rfl, hbb, s8, p8, k8⟩
      refine ⟨((bb : Int), ()), rfl, ?_⟩
      dsimp only [flat, unc, unc1, List.nil_append, List.cons_append]
      have hz8 := k8.size
      have k48 : Ch [g, h2.size] h4 h8 := k47.trans k8 (by simp)
      have b8 := (b6.keep k7 (by simp; omega)).keep k8 (by simp; omega)
      rw [add_box, wrap_i64 (by omega) (by omega)]
      refine stores_of b8 rfl (by simp [encI, setL]) ?_
      intro h9 b9 k9 z9
      have s9 := s8.keep1 b8 (by decide) k9 (by omega) (by omega)
      have k49 : Ch [g, h2.size] h4 h9 := k48.trans k9 (by simp)
      rw [add_box, wrap_i64 (by omega) (by omega)]
      refine stores_of b9 rfl (by simp [encI, setL]) ?_
      intro h10 b10 k10 z10
      have s10 := s9.keep1 b9 (by decide) k10 (by omega) (by omega)
      have k410 : Ch [g, h2.size] h4 h10 := k49.trans k10 (by simp)
      have e10 : Ext h0 h10 := Ch.trans e4 k410 (fun i hi hl => by simp at hi; omega)
      refine call_of (rNumber_hc e10 s10 v hl (w := 4) (by omega)) ?_
      rintro _ h11 ⟨n, st11, rfl, hn, s11, p11, k11⟩
      refine ⟨((n : Int), ()), rfl, ?_⟩
      dsimp only [flat, unc, unc1, List.nil_append, List.cons_append]
      have hz11 := k11.size
      have k411 : Ch [g, h2.size] h4 h11 := k410.trans k11 (by simp)
      have b11 := b10.keep k11 (by simp; omega)
      rw [add_box, wrap_i32_u hn]
      refine stores_of b11 rfl (by simp [encI, setL]) ?_
      intro h12 b12 k12 z12
      have s12 := s11.keep1 b11 (by decide) k12 (by omega) (by omega)
      have k412 : Ch [g, h2.size] h4 h12 := k411.trans k12 (by simp)
      have e12 : Ext h0 h12 := Ch.trans e4 k412 (fun i hi hl => by simp at hi; omega)
      have b12 : Box h12 h2.size 102 (encI none 0 0 { itm 2 with inst := ⟨op, a, bb, s32 n, 0⟩ }) := b12
      refine loads_box b12 (((op : Nat) : Int), ()) rfl ?_
      dsimp only [flat, unc, unc1, List.nil_append, List.cons_append]
      refine call_boolx (wants_hc (t0.keep e12 (by simp)) (op : Int) (by omega) (by omega)) ?_
      intro h13 e13
      have b13 := b12.keep e13 (by simp)
      have s13 := s12.keep e13
      have k413 : Ch [g, h2.size] h4 h13 := k412.trans e13 (by simp)
      have hz13 := e13.size
      refine cond_mk (fun q => ?_) (fun q => ?_)
      · have e13 : Ext h0 h13 := Ch.trans e4 k413 (fun i hi hl => by simp at hi; omega)
        refine call_of (rLin_hc e13 hg0 s13 v hc hl) ?_
        rintro _ h14 ⟨y, st14, p, l, c, rfl, s14, p14, sl, hr, k14⟩
        refine ⟨((p, l, c), (y.num : Int), ()), rfl, ?_⟩
        dsimp only [flat, unc, unc1, List.nil_append, List.cons_append]
        have b14 := b13.keep k14 (by simp; omega)
        rw [add_box]
        refine stores_of b14 rfl (by simp [encI, setL]) ?_
        intro h15 b15 k15 z15
        refine meet_mk (cs := []) () rfl rfl (fin' h14 h15 { itm 2 with inst := ⟨op, a, bb, s32 n, 0⟩, e := y } st14 p l c _ s14 (k413.trans k14 (by simp)) b14 k15 b15 (Stp.ins p5 p7 p8 p11 ?_) rfl (sl.mono (by omega)) ⟨hr, nm0, by show Sm (op : Int); exact ⟨by omega, by omega⟩⟩)
        have : insK op a bb n = fun r => andR (linR r) fun e r => .ok ({ itm 2 with inst := ⟨op, a, bb, s32 n, 0⟩, e := e }, r) := by
          funext r
          unfold insK
          rw [if_pos q]
        rw [this]
        exact Stp.and p14 (Stp.ret _ _)
      · refine meet_mk (cs := []) () rfl rfl (fin' h12 h13 { itm 2 with inst := ⟨op, a, bb, s32 n, 0⟩ } st11 none 0 0 _ s12 k412 b12 (e13.mono (by simp)) b13 (Stp.ins p5 p7 p8 p11 ?_) rfl (SL.nil _ _ _ _) ⟨LinRd.zero, nm0, by show Sm (op : Int); exact ⟨by omega, by omega⟩⟩)
        have : insK op a bb n = fun r => .ok ({ itm 2 with inst := ⟨op, a, bb, s32 n, 0⟩ }, r) := by
          funext r
          unfold insK
          rw [if_neg (by rw [q]; decide)]
        rw [this]
        exact Stp.ret _ _
    refine cond_f (neK q2) ?_
    by_cases q3 : k = 3
    · subst q3
      refine cond_t rfl ?_
      refine call_of (rNumber_hc e4 s4 v hl (w := 2) (by omega)) ?_
      rintro _ h5 ⟨n, st5, rfl, hn, s5, p5, k5⟩
      refine ⟨((n : Int), ()), rfl, ?_⟩
      dsimp only [flat, unc, unc1, List.nil_append, List.cons_append]
      have b5 := b4.keep k5 (by simp; omega)
      rw [add_box, wrap_i64 (by omega) (by omega)]
      refine stores_of b5 rfl (by simp [encI]) ?_
      intro h6 b6 k6 z6
      exact meet_mk (cs := []) () rfl rfl (fin h5 h6 { itm 3 with n := n } st5 none 0 0 _ s5 k5 b5 k6 b6 (by rw [itmB3]; exact Stp.and p5 (Stp.ret _ _)) rfl (SL.nil _ _ _ _) ⟨LinRd.zero, nm0, Sm0⟩)
    refine cond_f (neK q3) ?_
    by_cases q5 : k = 5
    · subst q5
      refine cond_t rfl ?_
      refine call_of (rNumber_hc e4 s4 v hl (w := 2) (by omega)) ?_
      rintro _ h5 ⟨n, st5, rfl, hn, s5, p5, k5⟩
      refine ⟨((n : Int), ()), rfl, ?_⟩
      dsimp only [flat, unc, unc1, List.nil_append, List.cons_append]
      refine call_int (signed_hc h5 (by omega)) ?_
      have b5 := b4.keep k5 (by simp; omega)
      rw [add_box, wrap_i64 (by unfold s16; split <;> omega) (by unfold s16; split <;> omega)]
      refine stores_of b5 rfl (by simp [encI]) ?_
      intro h6 b6 k6 z6
      exact meet_mk (cs := []) () rfl rfl (fin h5 h6 { itm 5 with n := s16 n } st5 none 0 0 _ s5 k5 b5 k6 b6 (by rw [itmB5]; exact Stp.and p5 (Stp.ret _ _)) rfl (SL.nil _ _ _ _) ⟨LinRd.zero, nm0, Sm0⟩)
    refine cond_f (neK q5) ?_
    by_cases q6 : k = 6
    · subst q6
      refine cond_t rfl ?_
      refine call_of (rLin_hc e4 hg0 s4 v hc hl) ?_
      rintro _ h5 ⟨y, st5, p, l, c, rfl, s5, p5, sl, hr, k5⟩
      refine ⟨((p, l, c), (y.num : Int), ()), rfl, ?_⟩
      dsimp only [flat, unc, unc1, List.nil_append, List.cons_append]
      have b5 := b4.keep k5 (by simp; omega)
      rw [add_box]
      refine stores_of b5 rfl (by simp [encI]) ?_
      intro h6 b6 k6 z6
      exact meet_mk (cs := []) () rfl rfl (fin h5 h6 { itm 6 with e := y } st5 p l c _ s5 k5 b5 k6 b6 (by rw [itmB6]; exact Stp.and p5 (Stp.ret _ _)) rfl (sl.mono (by omega)) ⟨hr, nm0, Sm0⟩)
    refine cond_f (neK q6) ?_
    by_cases q7 : k = 7
    · subst q7
      refine cond_t rfl ?_
      refine call_of (rNumber_hc e4 s4 v hl (w := 4) (by omega)) ?_
      rintro _ h5 ⟨n, st5, rfl, hn, s5, p5, k5⟩
      refine ⟨((n : Int), ()), rfl, ?_⟩
      dsimp only [flat, unc, unc1, List.nil_append, List.cons_append]
      have b5 := b4.keep k5 (by simp; omega)
      rw [add_box, wrap_i64 (by omega) (by omega)]
      refine stores_of b5 rfl (by simp [encI]) ?_
      intro h6 b6 k6 z6
      exact meet_mk (cs := []) () rfl rfl (fin h5 h6 { itm 7 with n := n } st5 none 0 0 _ s5 k5 b5 k6 b6 (by rw [itmB7]; exact Stp.and p5 (Stp.ret _ _)) rfl (SL.nil _ _ _ _) ⟨LinRd.zero, nm0, Sm0⟩)
    refine cond_f (neK q7) ?_
    by_cases q4 : k = 4
    · subst q4
      refine cond_t rfl ?_
      exact meet_mk (cs := []) () rfl rfl (fin h4 h4 (itm 4) st2 none 0 0 _ s4 (Ch.refl _ _) b4 (Ch.refl _ _) b4 (by rw [itmB4]; exact Stp.ret _ _) rfl (SL.nil _ _ _ _) ⟨LinRd.zero, nm0, Sm0⟩)
    refine cond_f (neK q4) ?_
    refine call_of (refuse_hc s4 (i := fr) (why := 31) hfr) ?_
    rintro _ h5 ⟨rfl, s5, k5⟩
    refine ⟨(), rfl, ?_⟩
    dsimp only [flat, unc, unc1, List.nil_append, List.cons_append]
    refine meet_mk (cs := []) () rfl rfl ⟨itm k, _, none, 0, 0, b4.keep k5 (by simp; omega), s5, ?_, SL.nil _ _ _ _, ⟨LinRd.zero, nm0, Sm0⟩, k4.trans k5 (fun i hi _ => hi), b1.keep k5 (by simp; omega)⟩
    refine Stp.bad (f := fun r => andR (numR 1 r) itmB) (Stp.and p2 ?_) ?_ hat
    · rw [itmBo (by omega)]
      exact Stp.ret _ _
    · unfold okK itm
      simp only [Bool.and_eq_false_iff, decide_eq_false_iff_not]
      omega
  rintro _ h5 ⟨x, st1, p, l, c, b5, s5, q5, sl5, hr5, k5, b15⟩
  dsimp only [flat, unc, unc1, List.nil_append, List.cons_append]
  clear fin fin' s4 s3 s2 s1 b4 b3 b1 k4 k3 k2 e4 p2
  have e5 : Ext h0 h5 := Ch.trans e0 k5 (fun i hi hl => by simp at hi; omega)
  have hz5 := b5.lt
  have hg5 := s5.lt
  have hatat : (fun r => at_ r 31 (itmOk sec D) (at_ r 31 okK (andR (numR 1 r) itmB))) = itemR sec D := by
    funext r
    exact at_at _ (fun x h => by
      unfold itmOk at h
      rw [Bool.and_eq_true] at h
      exact itmR_okK h.1)
  have bad : itmOk sec D x = false → Stp (itemR sec D) st x (refS full fr 31 st1) := fun hb => by
    have := Stp.bad (f := fun r => at_ r 31 okK (andR (numR 1 r) itmB)) (ok := itmOk sec D) (why := 31) q5 hb hat
    rw [hatat] at this
    exact this
  have good : itmOk sec D x = true → Stp (itemR sec D) st x st1 := fun hb => by
    have := Stp.good (f := fun r => at_ r 31 okK (andR (numR 1 r) itmB)) (ok := itmOk sec D) (why := 31) q5 hb
    rw [hatat] at this
    exact this
  have mk : ∀ h6 st6, Ch [g] h5 h6 → RdS h6 g gm bp bl bc full st6 D → Stp (itemR sec D) st x st6 → Box h6 h2.size 102 (encI p l c x) ∧ RdS h6 g gm bp bl bc full st6 D ∧ Stp (itemR sec D) st x st6 ∧ SL h6 (h2.size + 1) 104 2 p l c (x.e.terms.map encT) ∧ Ch [g] h h6 ∧ Box h6 h.size 102 iz := by
    intro h6 st6 k6 s6 q6
    have hb := Ob.SL.blk sl5
    exact ⟨b5.keep k6 (by simp; omega), s6, q6, sl5.keep k6 (fun a ha hi => by have := (hb a.block (by rw [ha]; simp [blkOf])).1; simp at hi; omega), k5.trans k6 (fun i hi _ => hi), b15.keep k6 (by simp; omega)⟩
  refine join_of (cs := []) (fun _ h' => ∃ st', Box h' h2.size 102 (encI p l c x) ∧ RdS h' g gm bp bl bc full st' D ∧ Stp (itemR sec D) st x st' ∧ SL h' (h2.size + 1) 104 2 p l c (x.e.terms.map encT) ∧ Ch [g] h h' ∧ Box h' h.size 102 iz) ?_ ?_
  · refine loads_box b5 (x.kind, x.name, x.inst.op, x.inst.a, x.inst.b, x.inst.n, x.inst.form, (p, l, c), (x.e.num : Int), x.n, ()) rfl ?_
    dsimp only [flat, unc, unc1, List.nil_append, List.cons_append]
    refine call_of (item_hc (t0.keep e5 (by simp)) (hr5.at sl5) hsec (c := c)) ?_
    rintro _ h6 ⟨rfl, e6⟩
    refine ⟨((if itmR x sec then (0 : Int) else (31 : Int)), ()), rfl, ?_⟩
    dsimp only [flat, unc, unc1, List.nil_append, List.cons_append]
    have s6 := s5.keep e6
    have b6 := b5.keep e6 (by simp)
    refine cond_mk (fun q => ?_) (fun q => ?_)
    · have q : itmR x sec = false := by
        cases hh : itmR x sec
        · rfl
        · rw [hh] at q; simp at q
      refine call_of (refuse_hc s6 (i := fr) (why := 31) hfr) ?_
      rintro _ h7 ⟨rfl, s7, k7⟩
      refine ⟨(), rfl, ?_⟩
      dsimp only [flat, unc, unc1, List.nil_append, List.cons_append]
      exact meet_mk (cs := []) () rfl rfl ⟨_, mk h7 _ ((e6.mono (by simp)).trans k7 (fun i hi _ => hi)) s7 (bad (by unfold itmOk; rw [q]; rfl))⟩
    have q : itmR x sec = true := by
      cases hh : itmR x sec
      · rw [hh] at q; simp at q
      · rfl
    refine loads_box b6 (x.kind, ()) rfl ?_
    dsimp only [flat, unc, unc1, List.nil_append, List.cons_append]
    have ok : itmOk sec D x = !(decide (x.kind = 1) && inN D x.name) := by unfold itmOk; rw [q, Bool.true_and]
    refine cond_mk (fun r => ?_) (fun r => ?_)
    · have r : x.kind = 1 := by simpa using r
      obtain ⟨fr', no, b, hfr', m, hgm', n⟩ := id s6
      refine osome_mk rfl ?_
      rw [add_box]
      refine loads_box b (some gm, ()) rfl ?_
      dsimp only [flat, unc, unc1, List.nil_append, List.cons_append]
      rw [add_box]
      refine loads_box b6 (x.name, ()) rfl ?_
      dsimp only [flat, unc, unc1, List.nil_append, List.cons_append]
      refine lookS m x.name ?_
      refine ⟨⟨b6.cells _ rfl, b6.cells _ rfl, trivial⟩, ?_⟩
      rw [decide_eq_true r, Bool.true_and] at ok
      refine cond_mk (fun w => ?_) (fun w => ?_)
      · refine call_of (refuse_hc s6 (i := fr) (why := 31) hfr) ?_
        rintro _ h7 ⟨rfl, s7, k7⟩
        refine ⟨(), rfl, ?_⟩
        dsimp only [flat, unc, unc1, List.nil_append, List.cons_append]
        exact meet_mk (cs := []) () rfl rfl ⟨_, mk h7 _ ((e6.mono (by simp)).trans k7 (fun i hi _ => hi)) s7 (bad (by rw [ok, w]; rfl))⟩
      · exact meet_mk (cs := []) () rfl rfl ⟨_, mk h6 _ (e6.mono (by simp)) s6 (good (by rw [ok, w]; rfl))⟩
    · have r : ¬ x.kind = 1 := by simpa using r
      exact meet_mk (cs := []) () rfl rfl ⟨_, mk h6 _ (e6.mono (by simp)) s6 (good (by rw [ok, decide_eq_false r]; rfl))⟩
  rintro _ h6 ⟨st6, b6, s6, q6, sl6, k6, b16⟩
  dsimp only [flat, unc, unc1, List.nil_append, List.cons_append]
  have hb := Ob.SL.blk sl6
  have hz6 := k6.size
  refine loads_box b6 (x.kind, ()) rfl ?_
  dsimp only [flat, unc, unc1, List.nil_append, List.cons_append]
  have fin : ∀ h7 D', (RdS h7 g gm bp bl bc full st6 D' ∧ Ch [gm] h6 h7 ∧ D' = addN D x) → (T.loads ⟨h2.size, 0, none⟩ [.int .i64, .string, .int .i64, .int .i64, .int .i64, .int .i32, .int .i64, .slice 104, .int .u32, .int .i64] <| fun (n8 : Int) (s9 : ByteArray) (n10 : Int) (n11 : Int) (n12 : Int) (n13 : Int) (n14 : Int) (p15 : Option Addr) (l16 : Nat) (l17 : Nat) (n18 : Int) (n19 : Int) =>
  T.stores ⟨h.size, 0, none⟩ [.int .i64 n8, .string s9, .int .i64 n10, .int .i64 n11, .int .i64 n12, .int .i32 n13, .int .i64 n14, .slice p15 l16 l17, .int .u32 n18, .int .i64 n19] <|
  T.loads ⟨h.size, 0, none⟩ [.int .i64, .string, .int .i64, .int .i64, .int .i64, .int .i32, .int .i64, .slice 104, .int .u32, .int .i64] <| fun (n20 : Int) (s21 : ByteArray) (n22 : Int) (n23 : Int) (n24 : Int) (n25 : Int) (n26 : Int) (p27 : Option Addr) (l28 : Nat) (l29 : Nat) (n30 : Int) (n31 : Int) =>
  T.ret (.agg #[.int .i64 n20, .string s21, .int .i64 n22, .int .i64 n23, .int .i64 n24, .int .i32 n25, .int .i64 n26, .slice p27 l28 l29, .int .u32 n30, .int .i64 n31])) [] (fun u h' => ∃ (x : Itm) (st' : St) (p : Option Addr) (l c : Nat), u = itmV p l c x ∧ RdS h' g gm bp bl bc full st' (addN D x) ∧ Stp (itemR sec D) st x st' ∧ SL h' h.size 104 2 p l c (x.e.terms.map encT) ∧ ItmRd x ∧ Ch [g, gm] h h') h7 := by
    rintro h7 D' ⟨s7, k7, rfl⟩
    have b7 := b6.keep k7 (by simp; omega)
    have b17 := b16.keep k7 (by simp; omega)
    refine loads_box b7 (x.kind, x.name, x.inst.op, x.inst.a, x.inst.b, x.inst.n, x.inst.form, (p, l, c), (x.e.num : Int), x.n, ()) rfl ?_
    dsimp only [flat, unc, unc1, List.nil_append, List.cons_append]
    refine stores_of b17 rfl (by simp [iz]) ?_
    intro h8 b8 k8 z8
    have b8 : Box h8 h.size 102 (encI p l c x) := b8
    refine loads_box b8 (x.kind, x.name, x.inst.op, x.inst.a, x.inst.b, x.inst.n, x.inst.form, (p, l, c), (x.e.num : Int), x.n, ()) rfl ?_
    have sl8 := (sl6.keep k7 (fun a ha hi => by have := (hb a.block (by rw [ha]; simp [blkOf])).1; simp at hi; omega)).keep k8 (fun a ha hi => by have := (hb a.block (by rw [ha]; simp [blkOf])).1; simp at hi; omega)
    refine ⟨x, st6, p, l, c, rfl, s7.keep1 b17 (by decide) k8 (by omega) (by omega), q6, sl8.mono (by omega), hr5, ?_⟩
    exact ((k6.mono (by simp)).trans k7 (by simp)).trans k8 (fun i hi hl => by simp at hi; omega)
  refine cond_mk (fun r => ?_) (fun r => ?_)
  · have r : x.kind = 1 := by simpa using r
    obtain ⟨fr', no, b, hfr', m, hgm', n⟩ := id s6
    refine osome_mk rfl ?_
    rw [add_box]
    refine loads_box b (some gm, ()) rfl ?_
    dsimp only [flat, unc, unc1, List.nil_append, List.cons_append]
    rw [add_box]
    refine loads_box b6 (x.name, ()) rfl ?_
    dsimp only [flat, unc, unc1, List.nil_append, List.cons_append]
    refine putS m (by have := hr5.name; unfold maxLen; omega) ?_
    intro h7 m7 k7 z7
    exact fin h7 (x.name :: D) ⟨⟨fr', no, b.keep k7 (by simpa using hgm'), hfr', m7, hgm', n.keep k7 (by simp)⟩, k7, by unfold addN; rw [if_pos r]⟩
  · have r : ¬ x.kind = 1 := by simpa using r
    exact fin h6 D ⟨s6, Ch.refl _ _, by unfold addN; rw [if_neg r]⟩
end Go.Sx.Ob

set_option linter.unusedVariables false
set_option linter.unusedSimpArgs false
set_option maxRecDepth 100000
namespace Go.Sx.Ob
open Go.Proofs
theorem callv_any {P : Program} {L : Lp} {K : Value → Hp → Prop} {h : Hp} {f : FuncId} {first args cap all : List Value} {tup : Bool} {cs : List Comp} {k : Cur (flat cs) T} {R : Value → Hp → Prop} (hb : hasBody P f = true) (ha : all = first ++ args ++ cap) (hc : HC P f all.toArray h R)
    (hk : ∀ v h', R v h' → ∃ x, v = rv tup cs (hvs _ x) ∧ unc _ k x L K h') : T.callv P (.func (.func f) first.toArray cap.toArray) args tup cs k L K h := by
  subst ha
  refine ⟨f, first.toArray, cap.toArray, rfl, by simpa using call_of hc hk, ?_⟩
  unfold hasBody at hb
  cases hf : P.funcs[f]? with
  | none => rw [hf] at hb; cases hb
  | some fn =>
    rw [hf] at hb
    exact ⟨fn, rfl, by simp_all, by simp_all⟩
theorem RdS.put {h h' : Hp} {g gm : Nat} {bp : Option Addr} {bl bc : Nat} {full : Bt} {st : St} {D : List ByteArray} {n : ByteArray} (s : RdS h g gm bp bl bc full st D) (m : SetB h' gm (n :: D)) (k : Ch [gm] h h') : RdS h' g gm bp bl bc full st (n :: D) := by
  obtain ⟨at_, no, b, ha, m0, hgm, nn⟩ := s
  exact ⟨at_, no, b.keep k (by simpa using hgm), ha, m, hgm, nn.keep k (by simp)⟩
theorem equ_hc {h0 h : Hp} (e0 : Ext h0 h) {g gm : Nat} (hg0 : h0.size ≤ g) {bp : Option Addr} {bl bc : Nat} {full : Bt} {st : St} {D : List ByteArray} (s : RdS h g gm bp bl bc full st D) (v : VwB h0 bp bl full) (hc : bl ≤ bc) (hl : full.length ≤ 2 ^ 60) :
    HC Tryz.prog 55 #[.pointer (some ⟨g, 0, none⟩)] h fun u h' => ∃ (x : Eqn) (st' : St) (p : Option Addr) (l c : Nat), u = .agg (encE p l c x).toArray ∧ RdS h' g gm bp bl bc full st' (x.1 :: D) ∧ Stp (equR D) st x st' ∧ SL h' h.size 104 2 p l c (x.2.terms.map encT) ∧ LinRd x.2 ∧ x.1.size < 65536 ∧ Ch [g, gm] h h' := by
  refine hcr_of (args := [.pointer (some ⟨g, 0, none⟩)]) mixed Tryz.func55 (by kernel_rfl) (t_object_reader__equ_eq (some ⟨g, 0, none⟩)) ?_
  unfold t_object_reader__equ
  obtain ⟨hgl, hml⟩ := s.lt
  refine newB ?_
  intro h1 b1 e1 z1
  have s1 := s.keep e1
  obtain ⟨fr, no, b, hfr, m, hgm, n⟩ := id s1
  refine osome_mk rfl ?_
  rw [add_box]
  refine loads_box b ((fr : Int), ()) rfl ?_
  dsimp only [flat, unc, unc1, List.nil_append, List.cons_append]
  have hat : ∀ r, st = .ok r → full.length - fr = r.length := by
    intro r hr
    subst hr
    rw [← n.2, List.length_drop]
  clear b m n no
  refine call_of (rText_hc (e0.trans e1) s1 v hc hl) ?_
  rintro _ h2 ⟨t, st2, rfl, ht, s2, p2, k2⟩
  refine ⟨(t, ()), rfl, ?_⟩
  dsimp only [flat, unc, unc1, List.nil_append, List.cons_append]
  have b1 := b1.keep k2 (by simp; omega)
  have hz12 := k2.size
  have k2 : Ch [g] h h2 := (e1.mono (by simp)).trans k2 (fun i hi _ => hi)
  have hg2 := s2.lt
  refine newB ?_
  intro h3 b3 e3 z3
  have b1 := b1.keep e3 (by simp)
  have s3 := s2.keep e3
  have k3 : Ch [g] h h3 := k2.trans e3 (by simp)
  refine stores_of b3 rfl (by simp) ?_
  intro h4 b4 k4 z4
  have b4 : Box h4 h2.size 78 [.string t, .slice none 0 0, .int .u32 (0 : Int)] := b4
  have s4 := s3.keep1 b3 (by decide) k4 (by omega) (by omega)
  have b1 := b1.keep k4 (by simp; omega)
  have k4 : Ch [g] h h4 := k3.trans k4 (fun i hi hl => by simp at hi; omega)
  have e4 : Ext h0 h4 := Ch.trans e0 k4 (fun i hi hl => by simp at hi; omega)
  refine call_of (rLin_hc e4 hg0 s4 v hc hl) ?_
  rintro _ h5 ⟨y, st5, p, l, c, rfl, s5, p5, sl, hr, k5⟩
  refine ⟨((p, l, c), (y.num : Int), ()), rfl, ?_⟩
  dsimp only [flat, unc, unc1, List.nil_append, List.cons_append]
  have b5 := b4.keep k5 (by simp; omega)
  have b15 := b1.keep k5 (by simp; omega)
  have hz5 := k5.size
  have hg5 := s5.lt
  rw [add_box]
  refine stores_of b5 rfl (by simp) ?_
  intro h6 b6 k6 z6
  have b6 : Box h6 h2.size 78 (encE p l c (t, y)) := b6
  have s6 := s5.keep1 b5 (by decide) k6 (by omega) (by omega)
  have hb := Ob.SL.blk sl
  have sl6 := sl.keep k6 (fun a ha hi => by have := (hb a.block (by rw [ha]; simp [blkOf])).1; simp at hi; omega)
  have b16 := b15.keep k6 (by simp; omega)
  have k6 : Ch [g] h h6 := (k4.trans k5 (fun i hi _ => hi)).trans k6 (fun i hi hl => by simp at hi; omega)
  have e6 : Ext h0 h6 := Ch.trans e0 k6 (fun i hi hl => by simp at hi; omega)
  clear s5 s4 s3 s2 s1 b5 b4 b3 b1 k4 k3 k2 e4 b15 sl k5
  have pB : Stp equB st (t, y) st5 := Stp.and (f := textR) p2 (Stp.and (f := linR) p5 (Stp.ret _ _))
  have bad : equOk D (t, y) = false → Stp (equR D) st (t, y) (refS full fr 31 st5) := fun hb => Stp.bad (f := equB) (ok := equOk D) (why := 31) pB hb hat
  have good : equOk D (t, y) = true → Stp (equR D) st (t, y) st5 := fun hb => Stp.good (f := equB) (ok := equOk D) (why := 31) pB hb
  have fin : ∀ (h7 : Hp) (st7 : St), RdS h7 g gm bp bl bc full st7 D → Ch [g] h6 h7 → Stp (equR D) st (t, y) st7 →
     (T.osome (some ⟨g, 0, none⟩) <| fun (a14 : Addr) =>
  T.loads (a14.add 3) [.map 9 4] <| fun (r15 : Option Nat) =>
  T.loads ⟨h2.size, 0, none⟩ [.string] <| fun (s16 : ByteArray) =>
  T.semU Tryz.prog (Instr.mapUpdate 61 (.map r15) (.string s16) (.bool true)) <|
  T.loads ⟨h2.size, 0, none⟩ [.string, .slice 104, .int .u32] <| fun (s17 : ByteArray) (p18 : Option Addr) (l19 : Nat) (l20 : Nat) (n21 : Int) =>
  T.stores ⟨h.size, 0, none⟩ [.string s17, .slice p18 l19 l20, .int .u32 n21] <|
  T.loads ⟨h.size, 0, none⟩ [.string, .slice 104, .int .u32] <| fun (s22 : ByteArray) (p23 : Option Addr) (l24 : Nat) (l25 : Nat) (n26 : Int) =>
  T.ret (.agg #[.string s22, .slice p23 l24 l25, .int .u32 n26])) [] (fun u h' => ∃ (x : Eqn) (st' : St) (p : Option Addr) (l c : Nat), u = .agg (encE p l c x).toArray ∧ RdS h' g gm bp bl bc full st' (x.1 :: D) ∧ Stp (equR D) st x st' ∧ SL h' h.size 104 2 p l c (x.2.terms.map encT) ∧ LinRd x.2 ∧ x.1.size < 65536 ∧ Ch [g, gm] h h') h7 := by
    intro h7 st7 s7 k7 q7
    have b7 := b6.keep k7 (by simp; omega)
    have b17 := b16.keep k7 (by simp; omega)
    have sl7 := sl6.keep k7 (fun a ha hi => by have := (hb a.block (by rw [ha]; simp [blkOf])).1; simp at hi; omega)
    obtain ⟨fr', no, b, hfr', m, hgm', n⟩ := id s7
    refine osome_mk rfl ?_
    rw [add_box]
    refine loads_box b (some gm, ()) rfl ?_
    dsimp only [flat, unc, unc1, List.nil_append, List.cons_append]
    refine loads_box b7 (t, ()) rfl ?_
    dsimp only [flat, unc, unc1, List.nil_append, List.cons_append]
    refine putS m (by unfold maxLen; omega) ?_
    intro h8 m8 k8 z8
    have s8 := s7.put m8 k8
    have b8 := b7.keep k8 (by simp; omega)
    have b18 := b17.keep k8 (by simp; omega)
    refine loads_box b8 (t, (p, l, c), (y.num : Int), ()) rfl ?_
    dsimp only [flat, unc, unc1, List.nil_append, List.cons_append]
    refine stores_of b18 rfl (by simp) ?_
    intro h9 b9 k9 z9
    have b9 : Box h9 h.size 78 (encE p l c (t, y)) := b9
    refine loads_box b9 (t, (p, l, c), (y.num : Int), ()) rfl ?_
    have sl9 := (sl7.keep k8 (fun a ha hi => by have := (hb a.block (by rw [ha]; simp [blkOf])).1; simp at hi; omega)).keep k9 (fun a ha hi => by have := (hb a.block (by rw [ha]; simp [blkOf])).1; simp at hi; omega)
    refine ⟨(t, y), st7, p, l, c, rfl, s8.keep1 b18 (by decide) k9 (by omega) (by omega), q7, sl9.mono (by omega), hr, ht, ?_⟩
    exact ((((k6.trans k7 (fun i hi _ => hi)).mono (by simp)).trans k8 (by simp))).trans k9 (fun i hi hl => by simp at hi; omega)
  obtain ⟨fr', no, b, hfr', m, hgm', n⟩ := id s6
  refine osome_mk rfl ?_
  rw [add_box]
  refine loads_box b (some gm, ()) rfl ?_
  dsimp only [flat, unc, unc1, List.nil_append, List.cons_append]
  refine loads_box b6 (t, ()) rfl ?_
  dsimp only [flat, unc, unc1, List.nil_append, List.cons_append]
  refine lookS m t ?_
  have ok : equOk D (t, y) = (!(inN D t) && legalL t.data.toList && rtR none y.terms) := rfl
  refine cond_mk (fun w => ?_) (fun w => ?_)
  · refine call_of (refuse_hc s6 (i := fr) (why := 31) hfr) ?_
    rintro _ h7 ⟨rfl, s7, k7⟩
    refine ⟨(), rfl, ?_⟩
    exact fin h7 _ s7 k7 (bad (by rw [ok, w]; rfl))
  refine loads_box b6 (t, ()) rfl ?_
  dsimp only [flat, unc, unc1, List.nil_append, List.cons_append]
  refine call_bool (legal_hc t h6 (by omega)) ?_
  refine ⟨⟨b6.cells _ rfl, b.cells _ rfl, trivial⟩, ?_⟩
  refine cond_mk (fun q => ?_) (fun q => ?_)
  · refine call_of (refuse_hc s6 (i := fr) (why := 31) hfr) ?_
    rintro _ h7 ⟨rfl, s7, k7⟩
    refine ⟨(), rfl, ?_⟩
    exact fin h7 _ s7 k7 (bad (by rw [ok, w, show legalL t.data.toList = false by simpa using q]; rfl))
  have q : legalL t.data.toList = true := by simpa using q
  refine loads_box b6 ((p, l, c), (y.num : Int), ()) rfl ?_
  dsimp only [flat, unc, unc1, List.nil_append, List.cons_append]
  have la := hr.at sl6
  refine call_of (right63_hc (c := c) la.vw (by have := la.many; omega) la.names) ?_
  rintro _ h7 ⟨rfl, e7⟩
  refine ⟨(rtR none y.terms, ()), rfl, ?_⟩
  dsimp only [flat, unc, unc1, List.nil_append, List.cons_append]
  have b67 := b6.keep e7 (by simp)
  refine ⟨⟨b67.cells _ rfl, b67.cells _ rfl, (b.keep e7 (by simp)).cells _ rfl, trivial⟩, ?_⟩
  have s7 := s6.keep e7
  refine cond_mk (fun u => ?_) (fun u => ?_)
  · refine call_of (refuse_hc s7 (i := fr) (why := 31) hfr) ?_
    rintro _ h8 ⟨rfl, s8, k8⟩
    refine ⟨(), rfl, ?_⟩
    exact fin h8 _ s8 ((e7.mono (by simp)).trans k8 (fun i hi _ => hi)) (bad (by rw [ok, w, q, show rtR none y.terms = false by simpa using u]; rfl))
  · exact fin h7 _ s7 (e7.mono (by simp)) (good (by rw [ok, w, q, show rtR none y.terms = true by simpa using u]; rfl))
end Go.Sx.Ob

set_option linter.unusedVariables false
set_option linter.unusedSimpArgs false
set_option maxRecDepth 100000
namespace Go.Sx.Ob
open Go.Proofs
/-- So many things, one behind the other; what was read is kept in mind. -/
def manyR {α σ : Type} (one : σ → Bt → Rd α) (nx : σ → α → σ) : Nat → σ → Bt → Rd (List α)
  | 0, _, r => .ok ([], r)
  | n + 1, d, r => andR (one d r) fun x r => andR (manyR one nx n (nx d x) r) fun l r => .ok (x :: l, r)
theorem itemsR_many (sec : Nat) : ∀ (n : Nat) (D : List ByteArray), itemsR sec n D = manyR (itemR sec) addN n D
  | 0, D => rfl
  | n + 1, D => by
    funext r
    unfold itemsR manyR
    congr 1
    funext x r
    rw [itemsR_many sec n]
theorem equsR_many : ∀ (n : Nat) (D : List ByteArray), equsR n D = manyR equR (fun D x => x.1 :: D) n D
  | 0, D => rfl
  | n + 1, D => by
    funext r
    unfold equsR manyR
    congr 1
    funext x r
    rw [equsR_many n]
theorem globsR_many (D : List ByteArray) : ∀ (n : Nat) (o : ByteArray), globsR D n o = manyR (globR D) (fun _ x => x) n o
  | 0, D => rfl
  | n + 1, D => by
    funext r
    unfold globsR manyR
    congr 1
    funext x r
    rw [globsR_many _ n]
/-- A list in memory of its own, whose things have terms in memory of their own. -/
structure Ls {α : Type} (e : TypeId) (sz : Nat) (enc : Sli → α → List Value) (tm : α → Tms) (ok : α → Prop) (h : Hp) (b : Nat) (p : Option Addr) (l c : Nat) (us : List (Sli × α)) : Prop where
  sl : SL h b e sz p l c (us.map fun u => enc u.1 u.2)
  own : ∀ u, u ∈ us → SL h b 104 2 u.1.p u.1.l u.1.c ((tm u.2).map encT)
  ok : ∀ u, u ∈ us → ok u.2
section
variable {α : Type} {e : TypeId} {sz : Nat} {enc : Sli → α → List Value} {tm : α → Tms} {ok : α → Prop} {h h' : Hp} {b b' : Nat} {p : Option Addr} {l c : Nat} {us : List (Sli × α)}
theorem Ls.nil (h : Hp) (b : Nat) : Ls e sz enc tm ok h b none 0 0 [] := ⟨SL.nil _ _ _ _, by simp, by simp⟩
theorem SL.keepN {ws : List Nat} {h h' : Hp} {b : Nat} {e : TypeId} {sz : Nat} {p : Option Addr} {l c : Nat} {xs : List (List Value)} (s : SL h b e sz p l c xs) (k : Ch ws h h') (hw : ∀ i, i ∈ ws → i < h.size → i < b) : SL h' b e sz p l c xs :=
  Sx.SL.keep' s k (fun i hi hm => by have := Sx.SL.blk s hi; have := hw i hm this.2; omega)
theorem Ls.keep {ws : List Nat} (s : Ls e sz enc tm ok h b p l c us) (k : Ch ws h h') (hw : ∀ i, i ∈ ws → i < h.size → i < b) : Ls e sz enc tm ok h' b p l c us :=
  ⟨SL.keepN s.sl k hw, fun u hu => SL.keepN (s.own u hu) k hw, s.ok⟩
theorem Ls.mono (s : Ls e sz enc tm ok h b p l c us) (hb : b' ≤ b) : Ls e sz enc tm ok h b' p l c us :=
  ⟨Sx.SL.mono s.sl hb, fun u hu => Sx.SL.mono (s.own u hu) hb, s.ok⟩
theorem Ls.len (s : Ls e sz enc tm ok h b p l c us) : l = us.length := by rw [s.sl.1, List.length_map]
end
def rowsT (g : Nat) (most : Int) (loop : Int → T) : T :=
 T.osome (some ⟨g, 0, none⟩) <| fun (a3 : Addr) =>
 T.loads (a3.add 1) [.int .i64] <| fun (n4 : Int) =>
 T.call Tryz.prog 81 [.pointer (some ⟨g, 0, none⟩), .int .i64 (2 : Int)] false [(false, [.int .u32])] <| fun (n5 : Int) =>
 cond (decide (most ≥ (0 : Int)))
  (cond (decide ((IntKind.wrap .i64 n5) > most))
   (T.call Tryz.prog 49 [.pointer (some ⟨g, 0, none⟩), .int .i64 n4, .int .i64 (4 : Int)] true [] <| loop (IntKind.wrap .i64 n5))
   (loop (IntKind.wrap .i64 n5)))
  (loop (IntKind.wrap .i64 n5))
def rowsL (g : Nat) (one : Option Addr → Nat → Nat → (Option Addr → Nat → Nat → T) → T) (n : Int) : T :=
 T.loop [(false, [.int .i64]), (false, [.slice 0])] [.int .i64 n, .slice none 0 0] <| fun (n6 : Int) (p7 : Option Addr) (l8 : Nat) (l9 : Nat) =>
   cond (decide (n6 > (0 : Int)))
    (T.osome (some ⟨g, 0, none⟩) <| fun (a10 : Addr) =>
    T.loads (a10.add 2) [.pointer 59] <| fun (p11 : Option Addr) =>
    cond (match p11 with
    | some val => false
    | none => true)
     (one p7 l8 l9 fun p l c => T.again 0 [.int .i64 (IntKind.wrap .i64 (n6 - (1 : Int))), .slice p l c])
     (T.ret (.slice p7 l8 l9)))
    (T.ret (.slice p7 l8 l9))
def mostI : Option Nat → Int
  | none => -1
  | some m => m
theorem rowsL_of {α σ : Type} (o : σ → Bt → Rd α) (nx : σ → α → σ) {h0 h : Hp} {g gm : Nat} {bp : Option Addr} {bl bc : Nat} {full : Bt} (Inv : Hp → σ → St → Prop) (nm : σ → List ByteArray) (hInv : ∀ h d st, Inv h d st → RdS h g gm bp bl bc full st (nm d))
    {e : TypeId} {sz : Nat} {enc : Sli → α → List Value} {tm : α → Tms} {ok : α → Prop} {ws : List Nat} (hws : ∀ i, i ∈ ws → i < h.size)
    {one : Option Addr → Nat → Nat → (Option Addr → Nat → Nat → T) → T} {K : Value → Hp → Prop}
    (hone : ∀ {L : Lp} {h1 : Hp} {d : σ} {st : St} {p : Option Addr} {l c : Nat} {us : List (Sli × α)} {k : Option Addr → Nat → Nat → T}, Inv h1 d st → Ls e sz enc tm ok h1 h.size p l c us → us.length < 65535 → Ch ws h h1 →
      (∀ h2 x st2 s p' l' c', Inv h2 (nx d x) st2 → Stp (o d) st x st2 → Ls e sz enc tm ok h2 h.size p' l' c' (us ++ [(s, x)]) → Ch ws h h2 → k p' l' c' L K h2) → one p l c k L K h1)
    {d0 : σ} {st0 : St} {n : Nat} (hn : n ≤ 65535) (i0 : Inv h d0 st0) {L : Lp} (hL : L = [])
    (hk : ∀ h' us st' p l c, Ls e sz enc tm ok h' h.size p l c us → us.length ≤ n → Inv h' ((us.map (·.2)).foldl nx d0) st' → Stp (manyR o nx n d0) st0 (us.map (·.2)) st' → Ch ws h h' → K (.slice p l c) h') :
    rowsL g one n L K h := by
  subst hL
  unfold rowsL
  have hP0 : ∀ ts' st', Stp (manyR o nx n d0) st0 ts' st' → Stp (manyR o nx n d0) st0 ([] ++ ts') st' := fun ts' st' ht => ht
  refine loop_of (cs := [(false, [.int .i64]), (false, [.slice 0])]) (fun y m h' => ∃ (k : Nat) (us : List (Sli × α)) (st1 : St) (p : Option Addr) (l c : Nat), y = ((k : Int), (p, l, c), ()) ∧ m = k ∧ us.length + k = n ∧ Inv h' ((us.map (·.2)).foldl nx d0) st1 ∧ Ch ws h h' ∧ Ls e sz enc tm ok h' h.size p l c us ∧ ∀ ts' st', Stp (manyR o nx k ((us.map (·.2)).foldl nx d0)) st1 ts' st' → Stp (manyR o nx n d0) st0 (us.map (·.2) ++ ts') st') ((n : Int), (none, 0, 0), ()) n rfl
    ⟨n, [], st0, none, 0, 0, rfl, rfl, by simp, i0, Ch.refl _ _, Ls.nil _ _, hP0⟩ ?_
  clear hP0 i0
  rintro ⟨n6, ⟨p7, l8, l9⟩, ⟨⟩⟩ m h1 ⟨k, us, st1, p, l, c, hy, rfl, hus, i1, k1, ls, hP⟩
  cases hy
  dsimp only [flat, unc, unc1, List.nil_append, List.cons_append]
  have s1 := hInv _ _ _ i1
  refine cond_mk (fun q => ?_) (fun q => ?_)
  · have q := of_decide_eq_true q
    obtain ⟨at_, no, b, ha, mm, hgm, nn⟩ := id s1
    refine osome_mk rfl ?_
    rw [add_box]
    refine loads_box b (no, ()) rfl ?_
    dsimp only [flat, unc, unc1, List.nil_append, List.cons_append]
    cases st1 with
    | error er =>
      obtain ⟨_, a, rfl, _⟩ := nn
      refine cond_f rfl ?_
      have := hP [] (.error er) (Stp.off _ _ _)
      rw [List.append_nil] at this
      exact hk h1 us _ _ _ _ ls (by omega) i1 this k1
    | ok rr =>
      obtain ⟨rfl, _⟩ := nn
      refine cond_t rfl ?_
      refine hone i1 ls (by omega) k1 ?_
      intro h2 x st2 s p' l' c' i2 q2 ls2 k2
      rw [wrap_i64 (by omega) (by omega)]
      have hfold : ((us ++ [(s, x)]).map (·.2)).foldl nx d0 = nx ((us.map (·.2)).foldl nx d0) x := by
        rw [List.map_append, List.foldl_append]
        rfl
      refine again_mk (cs := [(false, [.int .i64]), (false, [.slice 0])]) (((m - 1 : Nat) : Int), (p', l', c'), ()) (m - 1) rfl (by omega) ?_ ?_
      · show [Value.int .i64 ((m : Int) - 1), Value.slice p' l' c'] = [Value.int .i64 ((m - 1 : Nat) : Int), Value.slice p' l' c']
        rw [show ((m - 1 : Nat) : Int) = (m : Int) - 1 by omega]
      · refine ⟨m - 1, us ++ [(s, x)], st2, p', l', c', rfl, rfl, by simp; omega, by rw [hfold]; exact i2, k2, ls2, ?_⟩
        intro ts' st' hst
        rw [hfold] at hst
        have := hP (x :: ts') st' (by
          obtain ⟨j, rfl⟩ : ∃ j, m = j + 1 := ⟨m - 1, by omega⟩
          exact Stp.and (f := o _) q2 (Stp.and (f := manyR o nx j _) hst (Stp.ret _ _)))
        rw [List.map_append, List.append_assoc]
        exact this
  · have q := of_decide_eq_false q
    have : m = 0 := by omega
    subst this
    have := hP [] st1 (Stp.ret _ _)
    rw [List.append_nil] at this
    exact hk h1 us _ _ _ _ ls (by omega) i1 this k1
theorem refS_err (full : Bt) (i why : Nat) (st : St) : ∃ e, refS full i why st = .error e := by
  cases st with
  | ok r => exact ⟨_, rfl⟩
  | error e => exact ⟨e, rfl⟩
theorem Stp.cnt {α : Type} {most : Option Nat} {f : Nat → Bt → Rd α} {st st1 st2 : St} {n : Nat} {x : α} (p : Stp (numR 2) st n st1) (ho : over most n = false) (h : Stp (f n) st1 x st2) : Stp (cntR most f) st x st2 := by
  cases st with
  | error e =>
    have p : st1 = .error e := p
    rw [p] at h
    exact h
  | ok r =>
    unfold Stp at p ⊢
    simp only at p ⊢
    unfold cntR
    cases hf : numR 2 r with
    | error e =>
      rw [hf] at p
      have p : st1 = .error e := p
      rw [p] at h
      exact h
    | ok q =>
      rw [hf] at p
      obtain ⟨rfl, p⟩ := p
      rw [p] at h
      obtain ⟨q1, q2⟩ := q
      rw [andR_okk, if_neg (by rw [show over most q1 = false from ho]; simp)]
      exact h
theorem Stp.many {α : Type} {most : Option Nat} {f : Nat → Bt → Rd α} {full : Bt} {fr : Nat} {st st1 : St} {n : Nat} (p : Stp (numR 2) st n st1) (ho : over most n = true) (hat : ∀ r, st = .ok r → full.length - fr = r.length) (x : α) : Stp (cntR most f) st x (refS full fr 4 st1) := by
  cases st with
  | error e =>
    have p : st1 = .error e := p
    rw [p]
    rfl
  | ok r =>
    unfold Stp at p ⊢
    simp only at p ⊢
    unfold cntR
    cases hf : numR 2 r with
    | error e =>
      rw [hf] at p
      have p : st1 = .error e := p
      rw [p]
      rfl
    | ok q =>
      rw [hf] at p
      obtain ⟨rfl, p⟩ := p
      obtain ⟨q1, q2⟩ := q
      rw [andR_okk, if_pos (show over most q1 = true from ho), p]
      show refS full fr 4 (.ok q2) = .error (r.length, 4)
      unfold refS
      simp only
      rw [hat r rfl]
theorem rowsT_of {α σ : Type} (o : σ → Bt → Rd α) (nx : σ → α → σ) {h0 h : Hp} (e0 : Ext h0 h) {g gm : Nat} (hg0 : h0.size ≤ g) {bp : Option Addr} {bl bc : Nat} {full : Bt} (v : VwB h0 bp bl full) (hl : full.length ≤ 2 ^ 60) (Inv : Hp → σ → St → Prop) (nm : σ → List ByteArray) (hInv : ∀ h d st, Inv h d st → RdS h g gm bp bl bc full st (nm d))
    (hmv : ∀ h h' d st st', Inv h d st → RdS h' g gm bp bl bc full st' (nm d) → Ch [g] h h' → Inv h' d st')
    {e : TypeId} {sz : Nat} {enc : Sli → α → List Value} {tm : α → Tms} {ok : α → Prop} {ws : List Nat} (hws : ∀ i, i ∈ ws → i < h.size) (hgw : g ∈ ws)
    {one : Option Addr → Nat → Nat → (Option Addr → Nat → Nat → T) → T} {K : Value → Hp → Prop}
    (hone : ∀ {L : Lp} {h3 h1 : Hp} {d : σ} {st : St} {p : Option Addr} {l c : Nat} {us : List (Sli × α)} {k : Option Addr → Nat → Nat → T}, Ch ws h h3 → Inv h1 d st → Ls e sz enc tm ok h1 h3.size p l c us → us.length < 65535 → Ch ws h3 h1 →
      (∀ h2 x st2 s p' l' c', Inv h2 (nx d x) st2 → Stp (o d) st x st2 → Ls e sz enc tm ok h2 h3.size p' l' c' (us ++ [(s, x)]) → Ch ws h3 h2 → k p' l' c' L K h2) → one p l c k L K h1)
    {d0 : σ} {st0 : St} {most : Option Nat} (i0 : Inv h d0 st0)
    (hk : ∀ h' us st' p l c, Ls e sz enc tm ok h' h.size p l c us → us.length ≤ 65535 → Inv h' ((us.map (·.2)).foldl nx d0) st' → Stp (cntR most fun n => manyR o nx n d0) st0 (us.map (·.2)) st' → Ch ws h h' → K (.slice p l c) h') :
    rowsT g (mostI most) (rowsL g one) [] K h := by
  unfold rowsT
  have s0 := hInv _ _ _ i0
  obtain ⟨fr, no, b, hfr, m, hgm, n⟩ := id s0
  refine osome_mk rfl ?_
  rw [add_box]
  refine loads_box b ((fr : Int), ()) rfl ?_
  dsimp only [flat, unc, unc1, List.nil_append, List.cons_append]
  have hat : ∀ r, st0 = .ok r → full.length - fr = r.length := by
    intro r hr
    subst hr
    rw [← n.2, List.length_drop]
  clear b m n no
  refine call_of (rNumber_hc e0 s0 v hl (w := 2) (by omega)) ?_
  rintro _ h2 ⟨k, st2, rfl, hk2, s2, p2, k2⟩
  refine ⟨((k : Int), ()), rfl, ?_⟩
  dsimp only [flat, unc, unc1, List.nil_append, List.cons_append]
  have i2 := hmv _ _ _ _ st2 i0 s2 k2
  have k2' : Ch ws h h2 := k2.mono (fun i hi _ => by simp at hi; subst hi; exact hgw)
  have hk2 : k ≤ 65535 := by omega
  rw [wrap_i64 (by omega) (by omega)]
  have go : over most k = false → rowsL g one (k : Int) [] K h2 := by
    intro ho
    refine rowsL_of o nx (h0 := h0) Inv nm hInv (fun i hi => by have := hws i hi; have := k2.size; omega) (fun {L h1 d st p l c us k} i1 ls hus k1 hh => hone k2' i1 ls hus k1 hh) hk2 i2 rfl ?_
    intro h' us st' p l c ls hu i' q' k'
    refine hk h' us st' p l c (ls.mono k2.size) (by omega) i' ?_ (k2'.trans k' (fun i hi _ => hi))
    exact Stp.cnt p2 ho q'
  cases most with
  | none =>
    refine cond_f rfl ?_
    exact go rfl
  | some mx =>
    refine cond_t (by show decide (((mx : Nat) : Int) ≥ 0) = true; rw [decide_eq_true_eq]; omega) ?_
    refine cond_mk (fun q => ?_) (fun q => ?_)
    · have q := of_decide_eq_true q
      have ho : over (some mx) k = true := by
        unfold over
        have : ((k : Nat) : Int) > ((mx : Nat) : Int) := q
        rw [decide_eq_true_eq]
        omega
      refine call_of (refuse_hc s2 (i := fr) (why := 4) hfr) ?_
      rintro _ h3 ⟨rfl, s3, k3⟩
      refine ⟨(), rfl, ?_⟩
      dsimp only [flat, unc, unc1, List.nil_append, List.cons_append]
      have i3 := hmv _ _ _ _ _ i2 s3 k3
      have k3' : Ch ws h h3 := k2'.trans k3 (fun i hi _ => by simp at hi; subst hi; exact hgw)
      refine rowsL_of o nx (h0 := h0) Inv nm hInv (fun i hi => by have := hws i hi; have := k3'.size; omega) (fun {L h1 d st p l c us k} i1 ls hus k1 hh => hone k3' i1 ls hus k1 hh) hk2 i3 rfl ?_
      intro h' us st' p l c ls hu i' q' k'
      obtain ⟨er, her⟩ := refS_err full fr 4 st2
      have hst : st' = refS full fr 4 st2 := by
        rw [her] at q'
        rw [her]
        exact q'
      refine hk h' us st' p l c (ls.mono k3'.size) (by omega) i' ?_ (k3'.trans k' (fun i hi _ => hi))
      rw [hst]
      exact Stp.many p2 ho hat _
    · have q := of_decide_eq_false q
      refine go ?_
      unfold over
      have : ¬ ((k : Nat) : Int) > ((mx : Nat) : Int) := q
      rw [decide_eq_false_iff_not]
      omega
end Go.Sx.Ob

set_option linter.unusedVariables false
set_option linter.unusedSimpArgs false
set_option maxRecDepth 100000
namespace Go.Sx.Ob
open Go.Proofs
abbrev ptr (g : Nat) : Value := .pointer (some ⟨g, 0, none⟩)
theorem hb33 : hasBody Tryz.prog 51 = true := by kernel_rfl
theorem hb35 : hasBody Tryz.prog 53 = true := by kernel_rfl
theorem hb37 : hasBody Tryz.prog 55 = true := by kernel_rfl
theorem hb39 : hasBody Tryz.prog 57 = true := by kernel_rfl
theorem und26 : Tryz.prog.underlying 24 = some (.slice 102) := by kernel_rfl
theorem und27 : Tryz.prog.underlying 25 = some (.slice 78) := by kernel_rfl
theorem und28 : Tryz.prog.underlying 26 = some (.slice 9) := by kernel_rfl
theorem itmZ : (Tryz.prog.info? 102).map (fun i => (i.zero, i.size, i.bytes)) = some (some (.agg iz.toArray), 10, 104) := by kernel_rfl
theorem equZ : (Tryz.prog.info? 78).map (fun i => (i.zero, i.size, i.bytes)) = some (some (.agg #[.string ⟨#[]⟩, .slice none 0 0, .int .u32 (0 : Int)]), 3, 48) := by kernel_rfl
theorem strZ : (Tryz.prog.info? 9).map (fun i => (i.zero, i.size, i.bytes)) = some (some (.string ⟨#[]⟩), 1, 16) := by kernel_rfl
theorem SL.boxU {h : Hp} {b : Nat} {e : TypeId} {sz : Nat} {p : Option Addr} {l c : Nat} {xs : List (List Value)} (s : SL h b e sz p l c xs) : ∀ i, i ∈ blkOf p → ∃ xs, Box h i e xs := by
  intro i hi
  cases p with
  | none => simp [blkOf] at hi
  | some a =>
    obtain ⟨g, pre, rest, rfl, hb, _, hbox, _⟩ := s.2.2
    simp [blkOf] at hi
    subst hi
    exact ⟨_, hbox⟩
theorem SL.keepU {ws : List Nat} {h h' : Hp} {b : Nat} {e e' : TypeId} {sz : Nat} {p : Option Addr} {l c : Nat} {xs : List (List Value)} (s : SL h b e sz p l c xs) (k : Ch ws h h') (hw : ∀ i, i ∈ ws → ∃ ys, Box h i e' ys) (he : e ≠ e') : SL h' b e sz p l c xs := by
  refine Sx.SL.keep' s k (fun i hi hm => ?_)
  obtain ⟨ys, b1⟩ := SL.boxU s i hi
  obtain ⟨zs, b2⟩ := hw i hm
  unfold Box at b1 b2
  rw [b1] at b2
  simp only [Option.some.injEq, Obj.cells.injEq] at b2
  exact he b2.2.1
section
variable {h0 h : Hp} {g gm : Nat} {bp : Option Addr} {bl bc : Nat} {full : Bt} {st : St} {D : List ByteArray}
theorem clos_hc {f : FuncId} {fn : Func} {sec : Nat} (hsec : sec < 2) (hf : Tryz.prog.funcs[f]? = some fn) (hl1 : Nat.ble 1 fn.ntmps = true) (ht : ∀ a : Addr, xfun Tryz.prog [] fn [.pointer (some a)] =
 T.new iz 102 (fun (a1 : Addr) =>
 T.loads a [.pointer 63] <| fun (p2 : Option Addr) =>
 T.call Tryz.prog 52 [.pointer p2, .int .i64 (sec : Int)] false [(true, [.int .i64, .string, .int .i64, .int .i64, .int .i64, .int .i32, .int .i64, .slice 104, .int .u32, .int .i64])] <| fun (n3 : Int) (s4 : ByteArray) (n5 : Int) (n6 : Int) (n7 : Int) (n8 : Int) (n9 : Int) (p10 : Option Addr) (l11 : Nat) (l12 : Nat) (n13 : Int) (n14 : Int) =>
 T.stores a1 [.int .i64 n3, .string s4, .int .i64 n5, .int .i64 n6, .int .i64 n7, .int .i32 n8, .int .i64 n9, .slice p10 l11 l12, .int .u32 n13, .int .i64 n14] <|
 T.loads a1 [.int .i64, .string, .int .i64, .int .i64, .int .i64, .int .i32, .int .i64, .slice 104, .int .u32, .int .i64] <| fun (n15 : Int) (s16 : ByteArray) (n17 : Int) (n18 : Int) (n19 : Int) (n20 : Int) (n21 : Int) (p22 : Option Addr) (l23 : Nat) (l24 : Nat) (n25 : Int) (n26 : Int) =>
 T.ret (.agg #[.int .i64 n15, .string s16, .int .i64 n17, .int .i64 n18, .int .i64 n19, .int .i32 n20, .int .i64 n21, .slice p22 l23 l24, .int .u32 n25, .int .i64 n26])))
    (e0 : Ext h0 h) (t0 : Tab h0) (hg0 : h0.size ≤ g) (s : RdS h g gm bp bl bc full st D) (v : VwB h0 bp bl full) (hc : bl ≤ bc) (hl : full.length ≤ 2 ^ 60) {a : Nat} (ba : Box h a 60 [ptr g]) :
    HC Tryz.prog f #[ptr a] h fun u h' => ∃ (x : Itm) (st' : St) (p : Option Addr) (l c : Nat), u = itmV p l c x ∧ RdS h' g gm bp bl bc full st' (addN D x) ∧ Stp (itemR sec D) st x st' ∧ SL h' h.size 104 2 p l c (x.e.terms.map encT) ∧ ItmRd x ∧ Ch [g, gm] h h' := by
  refine hcr_of (args := [ptr a]) mixed hf hl1 (ht ⟨a, 0, none⟩) ?_
  obtain ⟨hgl, hml⟩ := s.lt
  refine newB ?_
  intro h1 b1 e1 z1
  have s1 := s.keep e1
  refine loads_box (ba.keep e1 (by simp)) (some ⟨g, 0, none⟩, ()) rfl ?_
  dsimp only [flat, unc, unc1, List.nil_append, List.cons_append]
  refine call_of (rItem_hc (e0.trans e1) t0 hg0 s1 v hc hl hsec) ?_
  rintro _ h2 ⟨x, st2, p, l, c, rfl, s2, q2, sl, hr, k2⟩
  refine ⟨(x.kind, x.name, x.inst.op, x.inst.a, x.inst.b, x.inst.n, x.inst.form, (p, l, c), (x.e.num : Int), x.n, ()), rfl, ?_⟩
  dsimp only [flat, unc, unc1, List.nil_append, List.cons_append]
  have b12 := b1.keep k2 (by simp; omega)
  refine stores_of b12 rfl (by simp [iz]) ?_
  intro h3 b3 k3 z3
  have b3 : Box h3 h.size 102 (encI p l c x) := b3
  refine loads_box b3 (x.kind, x.name, x.inst.op, x.inst.a, x.inst.b, x.inst.n, x.inst.form, (p, l, c), (x.e.num : Int), x.n, ()) rfl ?_
  have hb := Ob.SL.blk sl
  have sl3 := sl.keep k3 (fun a ha hi => by have := (hb a.block (by rw [ha]; simp [blkOf])).1; simp at hi; omega)
  refine ⟨x, st2, p, l, c, rfl, s2.keep1 b12 (by decide) k3 (by omega) (by omega), q2, sl3.mono (by omega), hr, ?_⟩
  exact ((e1.mono (by simp)).trans k2 (by simp)).trans k3 (fun i hi hl => by simp at hi; omega)
abbrev LsI := Ls 102 10 (fun s x => encI s.p s.l s.c x) (fun x => x.e.terms) ItmRd
abbrev LsE := Ls 78 3 (fun s (x : Eqn) => encE s.p s.l s.c x) (fun x => x.2.terms) (fun x => LinRd x.2 ∧ x.1.size < 65536)
abbrev LsS := Ls 9 1 (fun _ (x : ByteArray) => [.string x]) (fun _ => []) (fun x => x.size < 65536)
def oneI (v2 : Value) (p7 : Option Addr) (l8 l9 : Nat) (k : Option Addr → Nat → Nat → T) : T :=
 T.callv Tryz.prog v2 [] false [(true, [.int .i64, .string, .int .i64, .int .i64, .int .i64, .int .i32, .int .i64, .slice 104, .int .u32, .int .i64])] <| fun (n12 : Int) (s13 : ByteArray) (n14 : Int) (n15 : Int) (n16 : Int) (n17 : Int) (n18 : Int) (p19 : Option Addr) (l20 : Nat) (l21 : Nat) (n22 : Int) (n23 : Int) =>
     T.sem Tryz.prog (Instr.buildSlice 24 1 #[(0, .agg #[.int .i64 n12, .string s13, .int .i64 n14, .int .i64 n15, .int .i64 n16, .int .i32 n17, .int .i64 n18, .slice p19 l20 l21, .int .u32 n22, .int .i64 n23])]) false [(false, [.slice 0])] <| fun (p24 : Option Addr) (l25 : Nat) (l26 : Nat) =>
     T.sem Tryz.prog (Builtin.append_ #[24, 24] 24 #[.slice p7 l8 l9, .slice p24 l25 l26]) false [(false, [.slice 0])] k
theorem rowsI_hc {f : FuncId} (hb : hasBody Tryz.prog f = true) {sec : Nat} {a : Nat} (hga : a ≠ g) (hma : a ≠ gm)
    (hcl : ∀ {h : Hp} {st : St} {D : List ByteArray}, Ext h0 h → RdS h g gm bp bl bc full st D → Box h a 60 [ptr g] → HC Tryz.prog f #[ptr a] h fun u h' => ∃ (x : Itm) (st' : St) (p : Option Addr) (l c : Nat), u = itmV p l c x ∧ RdS h' g gm bp bl bc full st' (addN D x) ∧ Stp (itemR sec D) st x st' ∧ SL h' h.size 104 2 p l c (x.e.terms.map encT) ∧ ItmRd x ∧ Ch [g, gm] h h')
    (e0 : Ext h0 h) (hg0 : h0.size ≤ g) (hm0 : h0.size ≤ gm) (v : VwB h0 bp bl full) (hl : full.length ≤ 2 ^ 60) (s : RdS h g gm bp bl bc full st D) (ba : Box h a 60 [ptr g]) (most : Option Nat) :
    HC Tryz.prog 50 #[ptr g, .int .i64 (mostI most), .func (.func f) #[] #[ptr a]] h fun u h' => ∃ (us : List (Sli × Itm)) (st' : St) (p : Option Addr) (l c : Nat), u = .slice p l c ∧ LsI h' h.size p l c us ∧ us.length ≤ 65535 ∧ RdS h' g gm bp bl bc full st' (namesI D (us.map (·.2))) ∧ Stp (cntR most fun n => itemsR sec n D) st (us.map (·.2)) st' ∧ Ch [g, gm] h h' := by
  refine hcr_of (args := [ptr g, .int .i64 (mostI most), .func (.func f) #[] #[ptr a]]) mixed Tryz.func50 (by kernel_rfl) (t_object_rows_api_Item__eq (some ⟨g, 0, none⟩) (mostI most) (.func (.func f) #[] #[ptr a])) ?_
  obtain ⟨hgl, hml⟩ := s.lt
  have hal := ba.lt
  show rowsT g (mostI most) (rowsL g (oneI (.func (.func f) #[] #[ptr a]))) [] _ h
  refine rowsT_of (itemR sec) addN e0 hg0 v hl (fun h D st => RdS h g gm bp bl bc full st D ∧ Box h a 60 [ptr g]) (fun D => D) (fun _ _ _ i => i.1) (fun h h' d st st' i s' k => ⟨s', i.2.keep k (by simpa using hga)⟩)
    (e := 102) (sz := 10) (enc := fun s x => encI s.p s.l s.c x) (tm := fun x => x.e.terms) (ok := ItmRd) (ws := [g, gm]) (fun i hi => by simp at hi; omega) (by simp) ?_ ⟨s, ba⟩ ?_
  · intro L h3 h1 d st p l c us k k3 i1 ls hus k1 hh
    have e1 : Ext h0 h1 := Ch.trans e0 (k3.trans k1 (fun i hi _ => hi)) (fun i hi hl => by simp at hi; omega)
    unfold oneI
    refine callv_any (first := []) (cap := [ptr a]) hb rfl (hcl e1 i1.1 i1.2) ?_
    rintro _ h2 ⟨x, st2, q, m, cc, rfl, s2, q2, sl, hr, k2⟩
    refine ⟨(x.kind, x.name, x.inst.op, x.inst.a, x.inst.b, x.inst.n, x.inst.form, (q, m, cc), (x.e.num : Int), x.n, ()), rfl, ?_⟩
    dsimp only [flat, unc, unc1, List.nil_append, List.cons_append]
    have hz3 := k3.size
    have hz1 := k1.size
    have hz2 := k2.size
    have ls2 := ls.keep k2 (fun i hi _ => by simp at hi; omega)
    have hlen := ls.len
    refine push_of (vs := encI q m cc x) und26 itmZ rfl (by omega) (by omega) (by kernel_rfl) rfl rfl ls2.sl (by omega) (by omega) (by omega) ?_
    intro p' c' h4 sl4 k4 hp'
    have hblk := Ob.SL.blk ls2.sl
    have s4 := s2.keepT k4 (fun hi => by have := (hblk _ hi).1; omega) (fun hi => by have := (hblk _ hi).1; omega) (Ob.SL.boxT ls2.sl (by decide))
    have ba4 := (i1.2.keep k2 (by simp; omega)).keep k4 (fun hi => by have := (hblk _ hi).1; omega)
    refine hh h4 x st2 ⟨q, m, cc⟩ p' (l + 1) c' ⟨s4, ba4⟩ q2 ⟨by rw [List.map_append]; exact sl4, ?_, ?_⟩ ((k1.trans k2 (fun i hi _ => hi)).trans k4 (fun i hi hl => by have := (hblk _ hi).1; omega))
    · intro u hu
      rcases List.mem_append.1 hu with hu | hu
      · exact SL.keepU (ls2.own u hu) k4 (Ob.SL.boxU ls2.sl) (by decide)
      · rw [List.mem_singleton.1 hu]
        exact SL.keepU (Sx.SL.mono sl (by omega)) k4 (Ob.SL.boxU ls2.sl) (by decide)
    · intro u hu
      rcases List.mem_append.1 hu with hu | hu
      · exact ls2.ok u hu
      · rw [List.mem_singleton.1 hu]
        exact hr
  · intro h' us st' p l c ls hu i' q' k'
    exact ⟨us, st', p, l, c, rfl, ls, hu, i'.1, by rw [show (fun n => itemsR sec n D) = fun n => manyR (itemR sec) addN n D from funext fun n => itemsR_many sec n D]; exact q', k'⟩
def oneE (v2 : Value) (p7 : Option Addr) (l8 l9 : Nat) (k : Option Addr → Nat → Nat → T) : T :=
 T.callv Tryz.prog v2 [] false [(true, [.string, .slice 104, .int .u32])] <| fun (s12 : ByteArray) (p13 : Option Addr) (l14 : Nat) (l15 : Nat) (n16 : Int) =>
     T.sem Tryz.prog (Instr.buildSlice 25 1 #[(0, .agg #[.string s12, .slice p13 l14 l15, .int .u32 n16])]) false [(false, [.slice 0])] <| fun (p17 : Option Addr) (l18 : Nat) (l19 : Nat) =>
     T.sem Tryz.prog (Builtin.append_ #[25, 25] 25 #[.slice p7 l8 l9, .slice p17 l18 l19]) false [(false, [.slice 0])] k
theorem rowsE_hc (e0 : Ext h0 h) (hg0 : h0.size ≤ g) (hm0 : h0.size ≤ gm) (v : VwB h0 bp bl full) (hc : bl ≤ bc) (hl : full.length ≤ 2 ^ 60) (s : RdS h g gm bp bl bc full st D) (most : Option Nat) :
    HC Tryz.prog 54 #[ptr g, .int .i64 (mostI most), .func (.func 55) #[ptr g] #[]] h fun u h' => ∃ (us : List (Sli × Eqn)) (st' : St) (p : Option Addr) (l c : Nat), u = .slice p l c ∧ LsE h' h.size p l c us ∧ us.length ≤ 65535 ∧ RdS h' g gm bp bl bc full st' (namesE D (us.map (·.2))) ∧ Stp (cntR most fun n => equsR n D) st (us.map (·.2)) st' ∧ Ch [g, gm] h h' := by
  refine hcr_of (args := [ptr g, .int .i64 (mostI most), .func (.func 55) #[ptr g] #[]]) mixed Tryz.func54 (by kernel_rfl) (t_object_rows_api_Equ__eq (some ⟨g, 0, none⟩) (mostI most) (.func (.func 55) #[ptr g] #[])) ?_
  obtain ⟨hgl, hml⟩ := s.lt
  show rowsT g (mostI most) (rowsL g (oneE (.func (.func 55) #[ptr g] #[]))) [] _ h
  refine rowsT_of equR (fun D x => x.1 :: D) e0 hg0 v hl (fun h D st => RdS h g gm bp bl bc full st D) (fun D => D) (fun _ _ _ i => i) (fun h h' d st st' i s' k => s')
    (e := 78) (sz := 3) (enc := fun s (x : Eqn) => encE s.p s.l s.c x) (tm := fun x => x.2.terms) (ok := fun x => LinRd x.2 ∧ x.1.size < 65536) (ws := [g, gm]) (fun i hi => by simp at hi; omega) (by simp) ?_ s ?_
  · intro L h3 h1 d st p l c us k k3 i1 ls hus k1 hh
    have e1 : Ext h0 h1 := Ch.trans e0 (k3.trans k1 (fun i hi _ => hi)) (fun i hi hl => by simp at hi; omega)
    unfold oneE
    refine callv_any (first := [ptr g]) (cap := []) hb37 rfl (equ_hc e1 hg0 i1 v hc hl) ?_
    rintro _ h2 ⟨x, st2, q, m, cc, rfl, s2, q2, sl, hr, hr2, k2⟩
    refine ⟨(x.1, (q, m, cc), (x.2.num : Int), ()), rfl, ?_⟩
    dsimp only [flat, unc, unc1, List.nil_append, List.cons_append]
    have hz3 := k3.size
    have hz1 := k1.size
    have hz2 := k2.size
    have ls2 := ls.keep k2 (fun i hi _ => by simp at hi; omega)
    have hlen := ls.len
    refine push_of (vs := encE q m cc x) und27 equZ rfl (by omega) (by omega) (by kernel_rfl) rfl rfl ls2.sl (by omega) (by omega) (by omega) ?_
    intro p' c' h4 sl4 k4 hp'
    have hblk := Ob.SL.blk ls2.sl
    have s4 := s2.keepT k4 (fun hi => by have := (hblk _ hi).1; omega) (fun hi => by have := (hblk _ hi).1; omega) (Ob.SL.boxT ls2.sl (by decide))
    refine hh h4 x st2 ⟨q, m, cc⟩ p' (l + 1) c' s4 q2 ⟨by rw [List.map_append]; exact sl4, ?_, ?_⟩ ((k1.trans k2 (fun i hi _ => hi)).trans k4 (fun i hi hl => by have := (hblk _ hi).1; omega))
    · intro u hu
      rcases List.mem_append.1 hu with hu | hu
      · exact SL.keepU (ls2.own u hu) k4 (Ob.SL.boxU ls2.sl) (by decide)
      · rw [List.mem_singleton.1 hu]
        exact SL.keepU (Sx.SL.mono sl (by omega)) k4 (Ob.SL.boxU ls2.sl) (by decide)
    · intro u hu
      rcases List.mem_append.1 hu with hu | hu
      · exact ls2.ok u hu
      · rw [List.mem_singleton.1 hu]
        exact ⟨hr, hr2⟩
  · intro h' us st' p l c ls hu i' q' k'
    exact ⟨us, st', p, l, c, rfl, ls, hu, i', by rw [show (fun n => equsR n D) = fun n => manyR equR (fun D x => x.1 :: D) n D from funext fun n => equsR_many n D]; exact q', k'⟩
def oneS (v2 : Value) (p7 : Option Addr) (l8 l9 : Nat) (k : Option Addr → Nat → Nat → T) : T :=
 T.callv Tryz.prog v2 [] false [(false, [.string])] <| fun (s12 : ByteArray) =>
     T.sem Tryz.prog (Instr.buildSlice 26 1 #[(0, .string s12)]) false [(false, [.slice 0])] <| fun (p13 : Option Addr) (l14 : Nat) (l15 : Nat) =>
     T.sem Tryz.prog (Builtin.append_ #[26, 26] 26 #[.slice p7 l8 l9, .slice p13 l14 l15]) false [(false, [.slice 0])] k
theorem glob_hc {o : ByteArray} (e0 : Ext h0 h) (s : RdS h g gm bp bl bc full st D) (v : VwB h0 bp bl full) (hc : bl ≤ bc) (hl : full.length ≤ 2 ^ 60) {a b : Nat} (ba : Box h a 60 [ptr g]) (bb : Box h b 9 [.string o]) (hga : a ≠ g) (hgb : b ≠ g) (hmb : b ≠ gm) :
    HC Tryz.prog 57 #[ptr a, ptr b] h fun u h' => ∃ (x : ByteArray) (st' : St), u = .string x ∧ RdS h' g gm bp bl bc full st' D ∧ Stp (globR D o) st x st' ∧ x.size < 65536 ∧ Box h' b 9 [.string x] ∧ Ch [g, b] h h' := by
  refine hcr_of (args := [ptr a, ptr b]) mixed Tryz.func57 (by kernel_rfl) (t_object_reader__unit_3_u3_eq ⟨a, 0, none⟩ ⟨b, 0, none⟩) ?_
  unfold t_object_reader__unit_3_u3
  obtain ⟨hgl, hml⟩ := s.lt
  have hab : a ≠ b := by
    intro e
    subst e
    unfold Box at ba bb
    rw [ba] at bb
    simp at bb
  refine loads_box ba (some ⟨g, 0, none⟩, ()) rfl ?_
  dsimp only [flat, unc, unc1, List.nil_append, List.cons_append]
  obtain ⟨fr, no, bx, hfr, m, hgm, n⟩ := id s
  refine osome_mk rfl ?_
  rw [add_box]
  refine loads_box bx ((fr : Int), ()) rfl ?_
  dsimp only [flat, unc, unc1, List.nil_append, List.cons_append]
  have hat : ∀ r, st = .ok r → full.length - fr = r.length := by
    intro r hr
    subst hr
    rw [← n.2, List.length_drop]
  clear bx m n no
  refine loads_box ba (some ⟨g, 0, none⟩, ()) rfl ?_
  dsimp only [flat, unc, unc1, List.nil_append, List.cons_append]
  refine call_of (rText_hc e0 s v hc hl) ?_
  rintro _ h2 ⟨t, st2, rfl, ht, s2, p2, k2⟩
  refine ⟨(t, ()), rfl, ?_⟩
  dsimp only [flat, unc, unc1, List.nil_append, List.cons_append]
  have ba2 := ba.keep k2 (by simpa using hga)
  have bb2 := bb.keep k2 (by simpa using hgb)
  refine loads_box ba2 (some ⟨g, 0, none⟩, ()) rfl ?_
  dsimp only [flat, unc, unc1, List.nil_append, List.cons_append]
  obtain ⟨fr', no, bx, hfr', m, hgm', n⟩ := id s2
  refine osome_mk rfl ?_
  rw [add_box]
  refine loads_box bx (some gm, ()) rfl ?_
  dsimp only [flat, unc, unc1, List.nil_append, List.cons_append]
  refine lookS m t ?_
  have bad : gOk D o t = false → Stp (globR D o) st t (refS full fr 31 st2) := fun hb => Stp.bad (f := textR) (ok := gOk D o) (why := 31) p2 hb hat
  have good : gOk D o t = true → Stp (globR D o) st t st2 := fun hb => Stp.good (f := textR) (ok := gOk D o) (why := 31) p2 hb
  have fin : ∀ (h3 : Hp) (st3 : St), RdS h3 g gm bp bl bc full st3 D → Ch [g] h2 h3 → Stp (globR D o) st t st3 → (T.stores ⟨b, 0, none⟩ [.string t] <| T.ret (.string t)) [] (fun u h' => ∃ (x : ByteArray) (st' : St), u = .string x ∧ RdS h' g gm bp bl bc full st' D ∧ Stp (globR D o) st x st' ∧ x.size < 65536 ∧ Box h' b 9 [.string x] ∧ Ch [g, b] h h') h3 := by
    intro h3 st3 s3 k3 q3
    have bb3 := bb2.keep k3 (by simpa using hgb)
    refine stores_of bb3 rfl (by simp) ?_
    intro h4 b4 k4 z4
    exact ⟨t, st3, rfl, s3.keep1 bb3 (by decide) k4 (fun e => hgb e.symm) (fun e => hmb e.symm), q3, ht, b4, ((k2.trans k3 (fun i hi _ => hi)).mono (by simp)).trans k4 (by simp)⟩
  refine cond_mk (fun w => ?_) (fun w => ?_)
  · refine loads_box ba2 (some ⟨g, 0, none⟩, ()) rfl ?_
    dsimp only [flat, unc, unc1, List.nil_append, List.cons_append]
    refine call_of (refuse_hc s2 (i := fr) (why := 31) hfr) ?_
    rintro _ h3 ⟨rfl, s3, k3⟩
    refine ⟨(), rfl, ?_⟩
    exact fin h3 _ s3 k3 (bad (by unfold gOk; rw [show inN D t = false by simpa using w]; rfl))
  have w : inN D t = true := by simpa using w
  refine loads_box bb2 (o, ()) rfl ?_
  dsimp only [flat, unc, unc1, List.nil_append, List.cons_append]
  refine cond_mk (fun u => ?_) (fun u => ?_)
  · refine loads_box ba2 (some ⟨g, 0, none⟩, ()) rfl ?_
    dsimp only [flat, unc, unc1, List.nil_append, List.cons_append]
    refine call_of (refuse_hc s2 (i := fr) (why := 31) hfr) ?_
    rintro _ h3 ⟨rfl, s3, k3⟩
    refine ⟨(), rfl, ?_⟩
    exact fin h3 _ s3 k3 (bad (by
      unfold gOk
      rw [leB] at u
      rw [show decide (ltN o t) = false by simpa using u, Bool.and_false]))
  · exact fin h2 _ s2 (Ch.refl _ _) (good (by
      unfold gOk
      rw [leB] at u
      rw [show decide (ltN o t) = true by simpa using u, w]
      rfl))
theorem rowsS_hc {a b : Nat} (hga : a ≠ g) (hma : a ≠ gm) (hgb : b ≠ g) (hmb : b ≠ gm) {o : ByteArray} (e0 : Ext h0 h) (hg0 : h0.size ≤ g) (hm0 : h0.size ≤ gm) (hb0 : h0.size ≤ b) (v : VwB h0 bp bl full) (hc : bl ≤ bc) (hl : full.length ≤ 2 ^ 60) (s : RdS h g gm bp bl bc full st D) (ba : Box h a 60 [ptr g]) (bb : Box h b 9 [.string o]) (most : Option Nat) :
    HC Tryz.prog 56 #[ptr g, .int .i64 (mostI most), .func (.func 57) #[] #[ptr a, ptr b]] h fun u h' => ∃ (us : List (Sli × ByteArray)) (st' : St) (p : Option Addr) (l c : Nat), u = .slice p l c ∧ LsS h' h.size p l c us ∧ us.length ≤ 65535 ∧ RdS h' g gm bp bl bc full st' D ∧ Stp (cntR most fun n => globsR D n o) st (us.map (·.2)) st' ∧ Ch [g, b] h h' := by
  refine hcr_of (args := [ptr g, .int .i64 (mostI most), .func (.func 57) #[] #[ptr a, ptr b]]) mixed Tryz.func56 (by kernel_rfl) (t_object_rows_string__eq (some ⟨g, 0, none⟩) (mostI most) (.func (.func 57) #[] #[ptr a, ptr b])) ?_
  obtain ⟨hgl, hml⟩ := s.lt
  have hal := ba.lt
  have hbl := bb.lt
  have hab : a ≠ b := by
    intro e
    subst e
    unfold Box at ba bb
    rw [ba] at bb
    simp at bb
  show rowsT g (mostI most) (rowsL g (oneS (.func (.func 57) #[] #[ptr a, ptr b]))) [] _ h
  refine rowsT_of (globR D) (fun _ x => x) e0 hg0 v hl (fun h d st => RdS h g gm bp bl bc full st D ∧ Box h a 60 [ptr g] ∧ Box h b 9 [.string d]) (fun _ => D) (fun _ _ _ i => i.1) (fun h h' d st st' i s' k => ⟨s', i.2.1.keep k (by simpa using hga), i.2.2.keep k (by simpa using hgb)⟩)
    (e := 9) (sz := 1) (enc := fun _ (x : ByteArray) => [.string x]) (tm := fun _ => []) (ok := fun x => x.size < 65536) (ws := [g, b]) (fun i hi => by simp at hi; omega) (by simp) ?_ ⟨s, ba, bb⟩ ?_
  · intro L h3 h1 d st p l c us k k3 i1 ls hus k1 hh
    have e1 : Ext h0 h1 := Ch.trans e0 (k3.trans k1 (fun i hi _ => hi)) (fun i hi hl => by simp at hi; omega)
    unfold oneS
    refine callv_any (first := []) (cap := [ptr a, ptr b]) hb39 rfl (glob_hc e1 i1.1 v hc hl i1.2.1 i1.2.2 hga hgb hmb) ?_
    rintro _ h2 ⟨x, st2, rfl, s2, q2, hr, b2, k2⟩
    refine ⟨(x, ()), rfl, ?_⟩
    dsimp only [flat, unc, unc1, List.nil_append, List.cons_append]
    have hz3 := k3.size
    have hz1 := k1.size
    have hz2 := k2.size
    have ls2 := ls.keep k2 (fun i hi _ => by simp at hi; omega)
    have hlen := ls.len
    refine push_of (vs := [.string x]) und28 strZ rfl (by omega) (by omega) (by kernel_rfl) rfl rfl ls2.sl (by omega) (by omega) (by omega) ?_
    intro p' c' h4 sl4 k4 hp'
    have hblk := Ob.SL.blk ls2.sl
    have s4 := s2.keepT k4 (fun hi => by have := (hblk _ hi).1; omega) (fun hi => by have := (hblk _ hi).1; omega) (Ob.SL.boxT ls2.sl (by decide))
    have ba4 := (i1.2.1.keep k2 (by simp; omega)).keep k4 (fun hi => by have := (hblk _ hi).1; omega)
    have bb4 := b2.keep k4 (fun hi => by have := (hblk _ hi).1; omega)
    refine hh h4 x st2 ⟨none, 0, 0⟩ p' (l + 1) c' ⟨s4, ba4, bb4⟩ q2 ⟨by rw [List.map_append]; exact sl4, ?_, ?_⟩ ((k1.trans k2 (fun i hi _ => hi)).trans k4 (fun i hi hl => by have := (hblk _ hi).1; omega))
    · intro u hu
      rcases List.mem_append.1 hu with hu | hu
      · exact SL.keepU (ls2.own u hu) k4 (Ob.SL.boxU ls2.sl) (by decide)
      · rw [List.mem_singleton.1 hu]
        exact SL.nil _ _ _ _
    · intro u hu
      rcases List.mem_append.1 hu with hu | hu
      · exact ls2.ok u hu
      · rw [List.mem_singleton.1 hu]
        exact hr
  · intro h' us st' p l c ls hu i' q' k'
    exact ⟨us, st', p, l, c, rfl, ls, hu, i'.1, by rw [show (fun n => globsR D n o) = fun n => manyR (globR D) (fun _ x => x) n o from funext fun n => globsR_many D n o]; exact q', k'⟩
end
end Go.Sx.Ob

set_option linter.unusedVariables false
set_option linter.unusedSimpArgs false
set_option maxRecDepth 100000
namespace Go.Sx.Ob
open Go.Proofs
theorem max0_of {P : Program} {L : Lp} {K : Value → Hp → Prop} {h : Hp} {k : Int → T} {a : Int} (hk : k (max a 0) L K h) :
    T.sem P (Builtin.max_ #[3, 3] 3 #[.int .i64 a, .int .i64 0]) false [(false, [.int .i64])] k L K h := by
  show semW P (Builtin.max2 (.int .i64 a) (.int .i64 0) >>= fun x => pure x) h _
  refine ⟨((max a (0 : Int) : Int), ()), ?_, hk⟩
  show Value.int .i64 (if 0 > a then 0 else a) = Value.int .i64 (max a 0)
  congr 1
  split <;> omega
/-- Two lists share no block. -/
def Apt (a b : Sli) : Prop := ∀ i, i ∈ blkOf a.p → i ∉ blkOf b.p
theorem Apt.zero : Apt ⟨none, 0, 0⟩ ⟨none, 0, 0⟩ := fun i hi => by simp [blkOf] at hi
/-- A unit that was read: all its lists are in memory of their own. -/
structure UntOwn (h : Hp) (b0 : Nat) (a b c d : Sli) (u : Unt) : Prop where
  text : ∃ us, us.map (·.2) = u.text ∧ us.length ≤ 65535 ∧ LsI h b0 a.p a.l a.c us
  data : ∃ us, us.map (·.2) = u.data ∧ us.length ≤ 65535 ∧ LsI h b0 b.p b.l b.c us
  equs : ∃ us, us.map (·.2) = u.equs ∧ us.length ≤ 65535 ∧ LsE h b0 c.p c.l c.c us
  globs : ∃ us, us.map (·.2) = u.globs ∧ us.length ≤ 65535 ∧ LsS h b0 d.p d.l d.c us
def sl0 : Sli := ⟨none, 0, 0⟩
theorem UntOwn.zero (h : Hp) (b0 : Nat) : UntOwn h b0 sl0 sl0 sl0 sl0 unt0 :=
  ⟨⟨[], rfl, by simp, Ls.nil _ _⟩, ⟨[], rfl, by simp, Ls.nil _ _⟩, ⟨[], rfl, by simp, Ls.nil _ _⟩, ⟨[], rfl, by simp, Ls.nil _ _⟩⟩
theorem UntOwn.keep {ws : List Nat} {h h' : Hp} {b0 : Nat} {a b c d : Sli} {u : Unt} (o : UntOwn h b0 a b c d u) (k : Ch ws h h') (hw : ∀ i, i ∈ ws → i < h.size → i < b0) : UntOwn h' b0 a b c d u := by
  obtain ⟨⟨u1, a1, c1, d1⟩, ⟨u2, a2, c2, d2⟩, ⟨u3, a3, c3, d3⟩, ⟨u4, a4, c4, d4⟩⟩ := o
  exact ⟨⟨u1, a1, c1, d1.keep k hw⟩, ⟨u2, a2, c2, d2.keep k hw⟩, ⟨u3, a3, c3, d3.keep k hw⟩, ⟨u4, a4, c4, d4.keep k hw⟩⟩
theorem UntOwn.mono {h : Hp} {b0 b1 : Nat} {a b c d : Sli} {u : Unt} (o : UntOwn h b0 a b c d u) (hb : b1 ≤ b0) : UntOwn h b1 a b c d u := by
  obtain ⟨⟨u1, a1, c1, d1⟩, ⟨u2, a2, c2, d2⟩, ⟨u3, a3, c3, d3⟩, ⟨u4, a4, c4, d4⟩⟩ := o
  exact ⟨⟨u1, a1, c1, d1.mono hb⟩, ⟨u2, a2, c2, d2.mono hb⟩, ⟨u3, a3, c3, d3.mono hb⟩, ⟨u4, a4, c4, d4.mono hb⟩⟩
theorem SL.at_ {h : Hp} {b : Nat} {e : TypeId} {sz : Nat} {p : Option Addr} {l c : Nat} {xs : List (List Value)} (s : SL h b e sz p l c xs) {i : Nat} (hi : i < xs.length) : ∃ a, p = some a ∧ cellsAt h (a.add (i * sz)) 0 xs[i] := Sx.SL.cells s hi
theorem LsI.at {h : Hp} {b : Nat} {p : Option Addr} {l c : Nat} {us : List (Sli × Itm)} (s : LsI h b p l c us) (hn : us.length ≤ 65535) : VwI h p l (us.map (·.2)) := by
  refine ⟨by rw [s.len, List.length_map], by rw [List.length_map]; omega, fun i hi => ?_⟩
  rw [List.length_map] at hi
  obtain ⟨a, ha, hc⟩ := SL.at_ s.sl (i := i) (by rw [List.length_map]; exact hi)
  rw [List.getElem_map] at hc ⊢
  exact ⟨a, _, _, _, ha, hc, (s.ok _ (List.getElem_mem hi)).at (s.own _ (List.getElem_mem hi))⟩
theorem LsE.at {h : Hp} {b : Nat} {p : Option Addr} {l c : Nat} {us : List (Sli × Eqn)} (s : LsE h b p l c us) (hn : us.length ≤ 65535) : VwE h p l (us.map (·.2)) := by
  refine ⟨by rw [s.len, List.length_map], by rw [List.length_map]; omega, fun i hi => ?_⟩
  rw [List.length_map] at hi
  obtain ⟨a, ha, hc⟩ := SL.at_ s.sl (i := i) (by rw [List.length_map]; exact hi)
  rw [List.getElem_map] at hc ⊢
  have ok := s.ok _ (List.getElem_mem hi)
  exact ⟨a, _, _, _, ha, hc, ok.1.at (s.own _ (List.getElem_mem hi)), by have := ok.2; unfold maxLen; omega⟩
theorem LsS.at {h : Hp} {b : Nat} {p : Option Addr} {l c : Nat} {us : List (Sli × ByteArray)} (s : LsS h b p l c us) (hn : us.length ≤ 65535) : VwS h p l (us.map (·.2)) := by
  refine ⟨by rw [s.len, List.length_map], by rw [List.length_map]; omega, fun i hi => ?_⟩
  rw [List.length_map] at hi
  obtain ⟨a, ha, hc⟩ := SL.at_ s.sl (i := i) (by rw [List.length_map]; exact hi)
  rw [List.getElem_map] at hc ⊢
  have ok := s.ok _ (List.getElem_mem hi)
  exact ⟨a, ha, hc, by unfold maxLen; omega⟩
theorem UntOwn.at {h : Hp} {b0 : Nat} {a b c d : Sli} {u : Unt} (o : UntOwn h b0 a b c d u) : UntAt h a b c d u := by
  obtain ⟨⟨u1, a1, c1, d1⟩, ⟨u2, a2, c2, d2⟩, ⟨u3, a3, c3, d3⟩, ⟨u4, a4, c4, d4⟩⟩ := o
  exact ⟨by rw [← a1]; exact LsI.at d1 c1, by rw [← a2]; exact LsI.at d2 c2, by rw [← a3]; exact LsE.at d3 c3, by rw [← a4]; exact LsS.at d4 c4⟩
theorem sbyte5 {i : Nat} (hi : i < 5) : sbyte ⟨#[83, 80, 65, 78, 1]⟩ (i : Int) = ((headL.getD i 0).toNat : Int) := by
  have : i = 0 ∨ i = 1 ∨ i = 2 ∨ i = 3 ∨ i = 4 := by omega
  rcases this with rfl | rfl | rfl | rfl | rfl <;> rfl
def tR4 (t d : List Itm) (e : List Eqn) (g : List ByteArray) (r : Bt) : Rd Unt := .ok (⟨t, d, e, g⟩, r)
def tR3 (t d : List Itm) (e : List Eqn) (r : Bt) : Rd Unt := andR (cntR none (fun n => globsR (namesE (namesI (namesI [] t) d) e) n nam0) r) (tR4 t d e)
def tR2 (t d : List Itm) (r : Bt) : Rd Unt := andR (cntR (some 8192) (fun n => equsR n (namesI (namesI [] t) d)) r) (tR3 t d)
def tR1 (t : List Itm) (r : Bt) : Rd Unt := andR (cntR (some (8192 - t.length)) (fun n => itemsR 1 n (namesI [] t)) r) (tR2 t)
def tailR (r : Bt) : Rd Unt := andR (cntR (some 8192) (fun n => itemsR 0 n []) r) tR1
def endR (u : Unt) (r : Bt) : Rd Unt := if r = [] then .ok (u, []) else .error (r.length, 14)
theorem unitR_eq (r : Bt) : unitR r = andR (headR headL r) fun _ r => andR (tailR r) endR := by
  unfold unitR bodyR
  cases headR headL r with
  | error e => rfl
  | ok q => rfl
theorem Stp.tail {st st1 st2 st3 st4 : St} {t d : List Itm} {e : List Eqn} {g : List ByteArray} (p1 : Stp (cntR (some 8192) (fun n => itemsR 0 n [])) st t st1) (p2 : Stp (cntR (some (8192 - t.length)) (fun n => itemsR 1 n (namesI [] t))) st1 d st2)
    (p3 : Stp (cntR (some 8192) (fun n => equsR n (namesI (namesI [] t) d))) st2 e st3) (p4 : Stp (cntR none (fun n => globsR (namesE (namesI (namesI [] t) d) e) n nam0)) st3 g st4) : Stp tailR st ⟨t, d, e, g⟩ st4 :=
  Stp.and (k := tR1) p1 (Stp.and (k := tR2 t) p2 (Stp.and (k := tR3 t d) p3 (Stp.and (k := tR4 t d e) p4 (Stp.ret _ _))))
/-- How a unit's reading ends. -/
def UnitE (full : Bt) (u : Unt) (st : St) : Prop :=
  match unitR full with
  | .ok q => u = q.1 ∧ st = .ok []
  | .error e => st = .error e
def zU : List Value := [.slice none 0 0, .slice none 0 0, .slice none 0 0, .slice none 0 0]
def retT (a2 a3 : Nat) : T :=
  T.loads ⟨a3, 0, none⟩ [.slice 102, .slice 102, .slice 78, .slice 9] <| fun (p11 : Option Addr) (l12 : Nat) (l13 : Nat) (p14 : Option Addr) (l15 : Nat) (l16 : Nat) (p17 : Option Addr) (l18 : Nat) (l19 : Nat) (p20 : Option Addr) (l21 : Nat) (l22 : Nat) =>
   T.stores ⟨a2, 0, none⟩ [.slice p11 l12 l13, .slice p14 l15 l16, .slice p17 l18 l19, .slice p20 l21 l22] <|
   T.loads ⟨a2, 0, none⟩ [.slice 102, .slice 102, .slice 78, .slice 9] <| fun (p23 : Option Addr) (l24 : Nat) (l25 : Nat) (p26 : Option Addr) (l27 : Nat) (l28 : Nat) (p29 : Option Addr) (l30 : Nat) (l31 : Nat) (p32 : Option Addr) (l33 : Nat) (l34 : Nat) =>
   T.ret (.agg #[.slice p23 l24 l25, .slice p26 l27 l28, .slice p29 l30 l31, .slice p32 l33 l34])
def UntEnd (h : Hp) (g gm : Nat) (bp : Option Addr) (bl bc : Nat) (full : Bt) (w : Value) (h' : Hp) : Prop :=
  ∃ (a b c d : Sli) (u : Unt) (st : St) (D : List ByteArray), w = untV a b c d ∧ (UntOwn h' h.size a b c d u ∧ Apt a b) ∧ RdS h' g gm bp bl bc full st D ∧ UnitE full u st ∧ Ch [g, gm] h h'
theorem retT_of {L : Lp} {h h' : Hp} {a2 a3 : Nat} {xs : List Value} {g gm : Nat} {bp : Option Addr} {bl bc : Nat} {full : Bt} {a b c d : Sli} {u : Unt} {st : St} {D : List ByteArray} (hg : g < h.size) (hm : gm < h.size) (h2 : h.size ≤ a2) (b3 : Box h' a3 28 [a.v, b.v, c.v, d.v]) (b2 : Box h' a2 28 xs) (hx : xs.length = 4) (o : UntOwn h' (a2 + 1) a b c d u) (ap : Apt a b) (s : RdS h' g gm bp bl bc full st D) (e : UnitE full u st) (k : Ch [g, gm] h h') :
    retT a2 a3 L (UntEnd h g gm bp bl bc full) h' := by
  unfold retT
  refine loads_box b3 ((a.p, a.l, a.c), (b.p, b.l, b.c), (c.p, c.l, c.c), (d.p, d.l, d.c), ()) rfl ?_
  dsimp only [flat, unc, unc1, List.nil_append, List.cons_append]
  refine stores_of b2 rfl (by simp [hx]) ?_
  intro h3 b4 k3 z3
  have b4 : Box h3 a2 28 [a.v, b.v, c.v, d.v] := by
    obtain ⟨x1, x2, x3, x4, rfl⟩ : ∃ x1 x2 x3 x4, xs = [x1, x2, x3, x4] := by
      match xs, hx with
      | [x1, x2, x3, x4], _ => exact ⟨x1, x2, x3, x4, rfl⟩
    exact b4
  refine loads_box b4 ((a.p, a.l, a.c), (b.p, b.l, b.c), (c.p, c.l, c.c), (d.p, d.l, d.c), ()) rfl ?_
  exact ⟨a, b, c, d, u, st, D, rfl, ⟨(o.keep k3 (fun i hi hl => by simp at hi; omega)).mono (by omega), ap⟩, s.keep1 b2 (by decide) k3 (by omega) (by omega), e, k.trans k3 (fun i hi hl => by simp at hi; omega)⟩
end Go.Sx.Ob

set_option linter.unusedVariables false
set_option linter.unusedSimpArgs false
set_option maxRecDepth 100000
namespace Go.Sx.Ob
open Go.Proofs
theorem vwT_src {h : Hp} {p : Option Addr} {l : Nat} {us : Tms} (v : VwT h p l us) : (p = none ∧ us.map encT = []) ∨ ∃ a, p = some a ∧ cellsAt h a 0 (us.map encT).flatten := by
  cases p with
  | none =>
    left
    refine ⟨rfl, ?_⟩
    cases us with
    | nil => rfl
    | cons u us =>
      obtain ⟨a, ha, _⟩ := v.cells 0 (by simp)
      cases ha
  | some a => exact .inr ⟨a, rfl, v.flat⟩
theorem encT_len (us : Tms) : ∀ y, y ∈ us.map encT → y.length = 2 := by
  intro y hy
  obtain ⟨u, _, rfl⟩ := List.mem_map.1 hy
  rfl
theorem copyLin_hc {h : Hp} {p : Option Addr} {l c : Nat} {x : Lin} (v : VwT h p l x.terms) (hl : x.terms.length ≤ 2 ^ 40) :
    HC Tryz.prog 36 #[linV p l c x] h fun w h' => (∃ p' l' c', w = linV p' l' c' x ∧ SL h' h.size 104 2 p' l' c' (x.terms.map encT)) ∧ Ext h h' := by
  refine hcr_of (args := [linV p l c x]) mixed Tryz.func36 (by kernel_rfl) (t_spandrelkeep_CopyLin_eq p l c x.num) ?_
  unfold t_spandrelkeep_CopyLin
  have hll := v.len
  refine newB ?_
  intro h1 b1 e1 z1
  refine newB ?_
  intro h2 b2 e2 z2
  have b12 := b1.keep e2 (by simp)
  have e02 := e1.trans e2
  refine loads_box b12 ((p, l, c), ()) rfl ?_
  dsimp only [flat, unc, unc1, List.nil_append, List.cons_append]
  rw [add_box]
  refine loads_box b12 ((x.num : Int), ()) rfl ?_
  dsimp only [flat, unc, unc1, List.nil_append, List.cons_append]
  have v2 := v.keep e02 (by simp)
  refine lit0_of (e := 104) (z := .agg #[.string ⟨#[]⟩, .int .u32 0]) (sz := 2) (by' := 24) und67 termZ ?_
  intro h3 s3 e3
  have b13 := b12.keep e3 (by simp)
  refine ⟨⟨b13.cells _ rfl, b13.cells _ rfl, trivial⟩, ?_⟩
  have hz3 := e3.size
  have fin : ∀ (p' : Option Addr) (c' : Nat) (h' : Hp), SL h' h2.size 104 2 p' l c' (x.terms.map encT) → Ext h2 h' → T.stable [(⟨h.size, 0 + 1, none⟩, [.int .u32 (x.num : Int)])] (T.stores ⟨h1.size, 0, none⟩ [.slice p' l c', .int .u32 (x.num : Int)] (T.loads ⟨h1.size, 0, none⟩ [.slice 104, .int .u32] fun (p13 : Option Addr) (l14 : Nat) (l15 : Nat) (n16 : Int) =>
      T.ret (.agg #[.slice p13 l14 l15, .int .u32 n16]))) [] (fun w h' => (∃ p' l' c', w = linV p' l' c' x ∧ SL h' h.size 104 2 p' l' c' (x.terms.map encT)) ∧ Ext h h') h' := by
    intro p' c' h' s' e'
    have b1' := b12.keep e' (by simp)
    refine ⟨⟨b1'.cells _ rfl, trivial⟩, ?_⟩
    refine stores_of (b2.keep e' (by simp)) rfl (by simp) ?_
    intro h5 b5 k5 z5
    have b5 : Box h5 h1.size 75 [.slice p' l c', .int .u32 (x.num : Int)] := b5
    refine loads_box b5 ((p', l, c'), (x.num : Int), ()) rfl ?_
    exact ⟨⟨p', l, c', rfl, (s'.keep' k5 (fun j hj => by have := (s'.blk hj).1; simp; omega)).mono (by omega)⟩, Ch.trans (e02.trans e') k5 (fun j hj hl => by simp at hj; omega)⟩
  obtain ⟨i, hi, hz, hsz, hby⟩ := inf_of termZ
  rcases vwT_src v2 with ⟨hp, hys⟩ | ⟨a, ha, hc⟩
  · subst hp
    have hl0 : l = 0 := by
      have := congrArg List.length hys
      rw [List.length_map, List.length_nil] at this
      omega
    subst hl0
    refine sem_slice ?_
    simp [Builtin.append_, semW_bind', semW_underlying und67, semW_sizeOf hi, Builtin.lenOf, Builtin.firstCells, storeCells]
    exact ⟨_, _, _, rfl, fin _ _ _ (by rw [hys]; exact s3) e3⟩
  · subst ha
    refine sem_slice ?_
    refine append_of (ys := x.terms.map encT) und67 hi hz (by rw [hsz]; rfl) (by rw [hsz]; exact s3) (by rw [List.length_map]; omega) (fun y hy => by rw [hsz]; exact encT_len _ y hy) (cellsAt_keep e3 (by simp) _ _ hc) (encT_plain _) (by rw [hby]; omega) (by omega) (by omega) ?_
    intro p' c' h4 s4 k4 hp4
    rw [Nat.zero_add, List.nil_append] at *
    rw [hsz] at s4
    exact ⟨p', l, c', rfl, fin p' c' h4 s4 (Ch.trans e3 k4 fun j hj hl => by simp [blkOf] at hj; omega)⟩
abbrev LcI := Ls 102 10 (fun s x => encI s.p s.l s.c x) (fun x : Itm => x.e.terms) (fun _ => True)
abbrev LcE := Ls 78 3 (fun s (x : Eqn) => encE s.p s.l s.c x) (fun x => x.2.terms) (fun _ => True)
theorem und26' : Tryz.prog.underlying 24 = some (.slice 102) := by kernel_rfl
theorem itmZ' : (Tryz.prog.info? 102).map (fun i => (i.zero, i.size, i.bytes)) = some (some (.agg iz.toArray), 10, 104) := by kernel_rfl
theorem encI_len (p : Option Addr) (l c : Nat) (x : Itm) : (encI p l c x).length = 10 := rfl
def enD (u : Sli × Itm) : List Value := encI u.1.p u.1.l u.1.c u.2
theorem enD_flat (us : List (Sli × Itm)) : (us.map enD).flatten.length = us.length * 10 := by
  rw [flatten_length (us.map enD) (sz := 10) (fun y hy => by obtain ⟨u, _, rfl⟩ := List.mem_map.1 hy; rfl), List.length_map]
theorem copyItems_hc {h : Hp} {p : Option Addr} {l c : Nat} {us : List Itm} (v : VwI h p l us) (hn : us.length ≤ 2 ^ 20) (ht : ∀ x, x ∈ us → x.e.terms.length ≤ 2 ^ 40) :
    HC Tryz.prog 35 #[.slice p l c] h fun w h' => (∃ p' c' ws, w = .slice p' l c' ∧ LcI h' h.size p' l c' ws ∧ ws.map (·.2) = us) ∧ Ext h h' := by
  refine hcr_of (args := [.slice p l c]) mixed Tryz.func35 (by kernel_rfl) (t_spandrelkeep_CopyItems_eq p l c) ?_
  unfold t_spandrelkeep_CopyItems
  have hlen := v.len
  obtain ⟨i0, hi0, hz0, hsz, hby⟩ := inf_of itmZ'
  refine sem_slice (makeSlice_of (l := l) (c := l) und26' hi0 hz0 (Nat.le_refl _) (by rw [hby]; omega) (by omega) ?_)
  intro h1 b1 e1 z1
  refine ⟨_, _, _, rfl, ?_⟩
  have hzl : ((List.range (l * i0.size)).map ((Value.agg iz.toArray).cells[· % (Value.agg iz.toArray).cells.size]!)).length = l * 10 := by rw [List.length_map, List.length_range, hsz]
  generalize (List.range (l * i0.size)).map ((Value.agg iz.toArray).cells[· % (Value.agg iz.toArray).cells.size]!) = Z at b1 hzl
  refine loop_of (cs := [(false, [.int .i64])]) (fun y m h' => ∃ (i : Nat) (ws : List (Sli × Itm)) (Z : List Value), y.1 = (i : Int) ∧ i ≤ l ∧ m = l - i ∧ Ext h h' ∧ h1.size ≤ h'.size ∧ ws.map (·.2) = us.take i ∧ ws.length = i ∧ Z.length = (l - i) * 10 ∧ Box h' h.size 102 ((ws.map enD).flatten ++ Z) ∧ ∀ u, u ∈ ws → SL h' h1.size 104 2 u.1.p u.1.l u.1.c (u.2.e.terms.map encT)) ((0 : Int), ()) l rfl
    ⟨0, [], Z, rfl, by omega, by omega, e1, Nat.le_refl _, rfl, rfl, by simpa using hzl, b1, by simp⟩ ?_
  clear b1 hzl
  rintro ⟨n4, ⟨⟩⟩ m h2 ⟨i, ws, Z, hi, hil, rfl, e2, z2, hws, hwl, hZ, b2, own⟩
  simp only at hi
  subst hi
  dsimp only [flat, unc, unc1, List.nil_append, List.cons_append]
  refine cond_mk (fun q => ?_) (fun q => ?_)
  · have q := of_decide_eq_true q
    have hlt : i < us.length := by omega
    obtain ⟨aa, pp, ll, cc, rfl', hc0, va0⟩ := v.cells i hlt
    have htk : us.take (i + 1) = us.take i ++ [us[i]] := List.take_succ_eq_append_getElem hlt
    have htx := ht us[i] (List.getElem_mem hlt)
    generalize us[i] = x at hc0 va0 htk htx
    have hcv : ∀ h', Ext h h' → cellsAt h' (aa.add (i * 10)) 0 (encI pp ll cc x) := fun h' e => cellsAt_keep e (by simp) _ _ hc0
    have hc := hcv h2 e2
    refine need_of ⟨by omega, by omega⟩ (osome_mk rfl' ?_)
    rw [show Int.toNat (i : Int) = i by omega]
    refine loads_of (x.kind, x.name, x.inst.op, x.inst.a, x.inst.b, x.inst.n, x.inst.form, (pp, ll, cc), (x.e.num : Int), x.n, ()) hc ?_
    dsimp only [flat, unc, unc1, List.nil_append, List.cons_append]
    refine need_of ⟨by omega, by omega⟩ (osome_mk rfl ?_)
    rw [add_box]
    have hD := enD_flat ws
    have hZ2 : Z = Z.take 10 ++ Z.drop 10 := (List.take_append_drop 10 Z).symm
    have hZ10 : (Z.take 10).length = 10 := by
      have h1 : 1 ≤ l - i := by omega
      have h2 := Nat.mul_le_mul_right 10 h1
      rw [List.length_take, hZ, Nat.min_eq_left (by omega)]
    have hoff : (0 + i * 10) = ((ws.map enD).flatten).length := by rw [hD, hwl]; omega
    have hZl : (Z.drop 10).length = (l - (i + 1)) * 10 := by rw [List.length_drop, hZ, show l - i = (l - (i + 1)) + 1 by omega, Nat.add_mul]; omega
    refine stores_of (off := 0 + i * 10) b2 rfl (by rw [List.length_append, hD, hZ, hwl]; show 0 + i * 10 + 10 ≤ _; have : i + (l - i) = l := by omega
                                                    rw [← Nat.add_mul, this]; have := Nat.mul_le_mul_right 10 (show i + 1 ≤ l by omega); omega) ?_
    intro h3 b3 k3 z3
    have b3 : Box h3 h.size 102 ((ws.map enD).flatten ++ (encI pp ll cc x ++ Z.drop 10)) := by
      have b3 : Box h3 h.size 102 (setL ((ws.map enD).flatten ++ Z) (0 + i * 10) (encI pp ll cc x)) := b3
      rw [hoff, hZ2, setL_mid (by rw [hZ10]; rfl)] at b3
      simpa using b3
    have e3 : Ext h h3 := e2.st k3 (Nat.le_refl _)
    have hc3 := hcv h3 e3
    refine need_of ⟨by omega, by omega⟩ (osome_mk rfl' ?_)
    refine loads_of ((pp, ll, cc), (x.e.num : Int), ()) ⟨by rw [add_add]; exact hc3.2.2.2.2.2.2.2.1, by rw [add_add]; exact hc3.2.2.2.2.2.2.2.2.1, trivial⟩ ?_
    dsimp only [flat, unc, unc1, List.nil_append, List.cons_append]
    have va3 := va0.keep e3
    refine call_of (copyLin_hc (c := cc) va3.lin.vw htx) ?_
    rintro _ h4 ⟨⟨pc, lc, ccc, rfl, sc⟩, e4⟩
    refine ⟨((pc, lc, ccc), (x.e.num : Int), ()), rfl, ?_⟩
    dsimp only [flat, unc, unc1, List.nil_append, List.cons_append]
    refine need_of ⟨by omega, by omega⟩ (osome_mk rfl ?_)
    rw [add_box]
    have b4 := b3.keep e4 (by simp)
    refine stores_of (off := 0 + i * 10 + 7) b4 rfl ?_ ?_
    · rw [List.length_append, hD, List.length_append, encI_len, hwl]
      show 0 + i * 10 + 7 + 2 ≤ _
      omega
    intro h5 b5 k5 z5
    have b5 : Box h5 h.size 102 (((ws ++ [((⟨pc, lc, ccc⟩ : Sli), x)]).map enD).flatten ++ Z.drop 10) := by
      have b5 : Box h5 h.size 102 (setL ((ws.map enD).flatten ++ (encI pp ll cc x ++ Z.drop 10)) (0 + i * 10 + 7) [.slice pc lc ccc, .int .u32 (x.e.num : Int)]) := b5
      rw [show (ws.map enD).flatten ++ (encI pp ll cc x ++ Z.drop 10) = ((ws.map enD).flatten ++ (encI pp ll cc x).take 7) ++ ([.slice pp ll cc, .int .u32 (x.e.num : Int)] ++ ([.int .i64 x.n] ++ Z.drop 10)) by simp [encI],
        show 0 + i * 10 + 7 = ((ws.map enD).flatten ++ (encI pp ll cc x).take 7).length by rw [List.length_append, hD, hwl]; simp [encI], setL_mid (X := [.slice pp ll cc, .int .u32 (x.e.num : Int)]) (vs := [.slice pc lc ccc, .int .u32 (x.e.num : Int)]) rfl] at b5
      simpa [encI, enD] using b5
    have hz3 := e1.size
    have hz4 := e4.size
    rw [wrap_i64 (by omega) (by omega)]
    refine again_mk (cs := [(false, [.int .i64])]) (((i + 1 : Nat) : Int), ()) (l - (i + 1)) rfl (by omega) rfl ?_
    refine ⟨i + 1, ws ++ [((⟨pc, lc, ccc⟩ : Sli), x)], Z.drop 10, rfl, by omega, rfl, (e3.trans e4).st k5 (Nat.le_refl _), by have := k3.size; have := k5.size; omega, by rw [List.map_append, hws, htk]; rfl, by simp [hwl], hZl, b5, ?_⟩
    intro u hu
    rcases List.mem_append.1 hu with hu | hu
    · have hb := Ob.SL.blk (own u hu)
      exact SL.keepN (SL.keepN (SL.keepN (own u hu) k3 (fun j hj _ => by simp at hj; omega)) e4 (by simp)) k5 (fun j hj _ => by simp at hj; omega)
    · rw [List.mem_singleton.1 hu]
      exact Sx.SL.mono (SL.keepN sc k5 (fun j hj _ => by simp at hj; have := k3.size; omega)) (by have := k3.size; omega)
  · have q := of_decide_eq_false q
    have : i = l := by omega
    subst this
    rw [List.take_of_length_le (by omega)] at hws
    refine ⟨⟨_, _, ws, rfl, ⟨?_, fun u hu => Sx.SL.mono (own u hu) (by have := e1.size; omega), fun _ _ => trivial⟩, hws⟩, e2⟩
    have hZ0 : Z = [] := List.length_eq_zero_iff.1 (by rw [hZ, Nat.sub_self, Nat.zero_mul])
    subst hZ0
    refine ⟨by rw [List.length_map]; exact hwl.symm, fun y hy => by obtain ⟨u, _, rfl⟩ := List.mem_map.1 hy; rfl, h.size, [], [], rfl, Nat.le_refl _, ⟨Nat.le_refl _, by omega⟩, b2, by simp⟩
end Go.Sx.Ob
