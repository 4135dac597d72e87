/- Contracts over heaps, and plain laws, for the functions that the laws of chapter 10 call, part 6: The document's reader over heaps: Get, GetText, refuse, numbers, texts. The document's reader over heaps: sums. The document's reader over heaps: items. The document's reader: growing units, plain and over heaps. The document's reader over heaps: a section. The document's Read over heaps, from its end: the end, the globals. The document's Read over heaps: the globals, the equs, the whole. The document's Read over heaps: the equs, the whole. Condition: as each statement says. -/
import Derived.Test.YtnjohginlglonaaGreatDoorP5
import Derived.Test.YtnjohginlglonaaGreatDoorP3
import Derived.Test.YtnjohginlglonaaGreatDoorZrU
import Derived.Test.YtnjohginlglonaaGreatDoorZrX
import Derived.Test.YtnjohginlglonaaGreatDoorP4
set_option linter.unusedVariables false
set_option linter.unusedSimpArgs false
set_option maxRecDepth 100000
namespace Go.Sx.Ob
open Go.Proofs
def getT1 (pp00 : Option Addr) (ll00 : Nat) (n1 n2 : Int) : T :=
  (cond (decide (n1 < (0 : Int)))
     (T.ret (.tuple #[.int .u32 (0 : Int), .int .i64 (1 : Int)]))
     (cond (decide (n1 > (ll00 : Int)))
      (T.ret (.tuple #[.int .u32 (0 : Int), .int .i64 (1 : Int)]))
      (cond (decide ((IntKind.wrap .i64 ((ll00 : Int) - n1)) < n2))
       (T.ret (.tuple #[.int .u32 (0 : Int), .int .i64 (10 : Int)]))
       (T.loop [(false, [.int .u32]), (false, [.int .i64])] [.int .u32 (0 : Int), .int .i64 (IntKind.wrap .i64 (n2 - (1 : Int)))] <| fun (n3 : Int) (n4 : Int) =>
       cond (decide (n4 ≥ (0 : Int)))
        (T.need (((0 : Int) ≤ (IntKind.wrap .i64 (n1 + n4))) ∧ ((IntKind.wrap .i64 (n1 + n4)) < (ll00 : Int))) <|
        T.osome pp00 <| fun (a5 : Addr) =>
        T.loads (a5.add ((Int.toNat (IntKind.wrap .i64 (n1 + n4))) * 1)) [.int .u8] <| fun (n6 : Int) =>
        T.again 0 [.int .u32 (IntKind.wrap .u32 ((IntKind.wrap .u32 (n3 * (256 : Int))) + (IntKind.wrap .u32 n6))), .int .i64 (IntKind.wrap .i64 (n4 - (1 : Int)))])
        (T.ret (.tuple #[.int .u32 n3, .int .i64 (0 : Int)]))))))
theorem getT1_of {h : Hp} {p : Option Addr} {l c : Nat} {us : Bt} (v : VwB h p l us) {i w : Nat} (hw : w = 1 ∨ w = 2 ∨ w = 4) (hi : i ≤ us.length) (hl : us.length ≤ 2 ^ 60) :
    getT1 p l i w [] (fun u h' => u = (if w ≤ us.length - i then .tuple #[.int .u32 (numB ((us.drop i).take w) : Nat), .int .i64 0] else .tuple #[.int .u32 0, .int .i64 10] : Value) ∧ h' = h) h := by
  unfold getT1
  have hll := v.len
  refine cond_f (by simp) ?_
  refine cond_f (by simp; omega) ?_
  rw [wrap_i64 (by omega) (by omega)]
  refine cond_mk (fun q => ?_) (fun q => ?_)
  · have q := of_decide_eq_true q
    exact ⟨by rw [if_neg (by omega)], rfl⟩
  have q := of_decide_eq_false q
  rw [if_pos (by omega), wrap_i64 (by omega) (by omega)]
  refine loop_of (cs := [(false, [.int .u32]), (false, [.int .i64])]) (fun y m h' => ∃ k : Nat, k ≤ w ∧ m = k ∧ y.2.1 = (k : Int) - 1 ∧ y.1 = ((numB ((us.drop (i + k)).take (w - k)) : Nat) : Int) ∧ h' = h) ((0 : Int), (w : Int) - 1, ()) w rfl
    ⟨w, Nat.le_refl _, rfl, rfl, by rw [Nat.sub_self, List.take_zero]; rfl, rfl⟩ ?_
  rintro ⟨n4, n5, ⟨⟩⟩ m h1 ⟨k, hk, rfl, h5, h4, rfl⟩
  simp only at h4 h5
  subst h4 h5
  dsimp only [flat, unc, unc1, List.nil_append, List.cons_append]
  refine cond_mk (fun r => ?_) (fun r => ?_)
  · have r := of_decide_eq_true r
    rw [wrap_i64 (by omega) (by omega)]
    refine need_of ⟨by omega, by omega⟩ ?_
    have hik : i + (m - 1) < us.length := by omega
    obtain ⟨a, rfl, hc⟩ := v.cells (i + (m - 1)) hik
    refine osome_mk rfl ?_
    have hix : ∀ z : Int, z = (i : Int) + ((m : Int) - 1) → z.toNat = i + (m - 1) := fun z hz => by omega
    have hc' : cellsAt h1 (a.add (Int.toNat ((i : Int) + ((m : Int) - 1)) * 1)) 0 [.int .u8 (us[i + (m - 1)].toNat : Int)] := by
      rw [hix _ rfl]
      exact hc
    refine loads_of ((us[i + (m - 1)].toNat : Int), ()) hc' ?_
    dsimp only [flat, unc, unc1, List.nil_append, List.cons_append]
    have hlt := numB_lt ((us.drop (i + m)).take (w - m))
    have hle : ((us.drop (i + m)).take (w - m)).length ≤ 3 := by rw [List.length_take]; omega
    have hp3 : 256 ^ ((us.drop (i + m)).take (w - m)).length ≤ 256 ^ 3 := Nat.pow_le_pow_right (by omega) hle
    have hbb := us[i + (m - 1)].toNat_lt
    generalize hN : numB ((us.drop (i + m)).take (w - m)) = N at hlt
    rw [Go.Sx.wrap_u32 (x := (N : Int) * 256) (by omega) (by omega), Go.Sx.wrap_u32 (x := (us[i + (m - 1)].toNat : Int)) (by omega) (by omega), Go.Sx.wrap_u32 (by omega) (by omega), wrap_i64 (by omega) (by omega)]
    refine again_mk (cs := [(false, [.int .u32]), (false, [.int .i64])]) (_, (m : Int) - 1 - 1, ()) (m - 1) rfl (by omega) rfl ?_
    have hm1 : (m : Int) - 1 - 1 = ((m - 1 : Nat) : Int) - 1 := by omega
    refine ⟨m - 1, by omega, rfl, hm1, ?_, rfl⟩
    rw [show w - (m - 1) = (w - m) + 1 by omega, List.drop_eq_getElem_cons hik, List.take_succ_cons, numB, show i + (m - 1) + 1 = i + m by omega, hN]
    have e9 : ((N : Int) * 256 + (us[i + (m - 1)].toNat : Int)) = ((us[i + (m - 1)].toNat + 256 * N : Nat) : Int) := by omega
    exact e9
  · have r := of_decide_eq_false r
    have : m = 0 := by omega
    subst this
    exact ⟨rfl, rfl⟩
theorem zget_hc {h : Hp} {p : Option Addr} {l c : Nat} {us : Bt} (v : VwB h p l us) {i w : Nat} (hw : w = 1 ∨ w = 2 ∨ w = 4) (hi : i ≤ us.length) (hl : us.length ≤ 2 ^ 60) :
    HCp Tryz.prog 60 [.slice p l c, .int .i64 i, .int .i64 w] h (if w ≤ us.length - i then .tuple #[.int .u32 (numB ((us.drop i).take w) : Nat), .int .i64 0] else .tuple #[.int .u32 0, .int .i64 10]) := by
  refine hcp_of mixed Tryz.func60 (by kernel_rfl) (t_spandrelref1_Get_eq p l c i w) ?_
  unfold t_spandrelref1_Get
  have hg := getT1_of (c := c) v hw hi hl
  rcases hw with rfl | rfl | rfl
  · exact cond_f rfl hg
  · exact cond_t rfl (cond_f rfl hg)
  · exact cond_t rfl (cond_t rfl (cond_f rfl hg))
theorem zgetText_hc {h : Hp} {p : Option Addr} {l c : Nat} {us : Bt} (v : VwB h p l us) (hc : l ≤ c) {i : Nat} (hi : i ≤ us.length) (hl : us.length ≤ 2 ^ 60) :
    HCp Tryz.prog 61 [.slice p l c, .int .i64 i, .int .i64 65535] h (match textR (us.drop i) with | .ok q => .tuple #[.string q.1, .int .i64 ((us.length - q.2.length : Nat) : Int), .int .i64 0] | .error _ => .tuple #[.string ⟨#[]⟩, .int .i64 0, .int .i64 10]) := by
  refine hcp_of mixed Tryz.func61 (by kernel_rfl) (t_spandrelref1_GetText_eq p l c i 65535) ?_
  unfold t_spandrelref1_GetText
  have hll := v.len
  have hg := zget_hc (c := c) v (w := 2) (by omega) hi hl
  unfold textR numR
  rw [List.length_drop]
  by_cases h2 : 2 ≤ us.length - i
  · rw [if_pos h2] at hg ⊢
    rw [andR_okk]
    have hnlt := numB_lt ((us.drop i).take 2)
    rw [show ((us.drop i).take 2).length = 2 by rw [List.length_take, List.length_drop]; omega] at hnlt
    generalize numB ((us.drop i).take 2) = n at hg hnlt
    refine call_ii hg ?_
    refine cond_f rfl ?_
    rw [wrap_i64 (x := (n : Int)) (by omega) (by omega), wrap_i64 (x := (l : Int) - (i : Int)) (by omega) (by omega), wrap_i64 (x := (l : Int) - (i : Int) - 2) (by omega) (by omega), wrap_i64 (x := (i : Int) + 2) (by omega) (by omega), wrap_i64 (x := (i : Int) + 2 + (n : Int)) (by omega) (by omega)]
    refine cond_f (by simp; omega) ?_
    rw [List.drop_drop, List.length_drop]
    refine cond_mk (fun q => ?_) (fun q => ?_)
    · have q := of_decide_eq_true q
      rw [if_neg (show ¬ n ≤ us.length - (i + 2) by omega)]
      exact ⟨rfl, rfl⟩
    have q := of_decide_eq_false q
    rw [if_pos (show n ≤ us.length - (i + 2) by omega)]
    refine need_of ⟨by omega, by omega, by omega⟩ ?_
    obtain ⟨a, rfl, _⟩ := v.cells 0 (by omega)
    have e1 : Int.toNat ((i : Int) + 2) = i + 2 := by omega
    have e2 : Int.toNat ((i : Int) + 2 + (n : Int)) = i + 2 + n := by omega
    rw [e1, e2, show i + 2 + n - (i + 2) = n by omega]
    have hbs : (((us.drop (i + 2)).take n)).length = n := by rw [List.length_take, List.length_drop]; omega
    have hcell := v.from n (i + 2) (by omega)
    have hfin : (T.ret (.tuple #[.string ⟨((us.drop (i + 2)).take n).toArray⟩, .int .i64 ((i : Int) + 2 + (n : Int)), .int .i64 0])) [] (fun v' h' => v' = (.tuple #[.string ⟨((us.drop (i + 2)).take n).toArray⟩, .int .i64 ((us.length - ((us.drop (i + 2)).drop n).length : Nat) : Int), .int .i64 0] : Value) ∧ h' = h) h := by
      refine ⟨?_, rfl⟩
      rw [List.drop_drop, List.length_drop]
      have : ((us.length - (us.length - (i + 2 + n)) : Nat) : Int) = (i : Int) + 2 + n := by omega
      rw [this]
    refine conv22_9 _ ?_ ⟨_, _, _, rfl⟩
    by_cases hcc : c = i + 2
    · rw [if_pos hcc]
      have hn0 : n = 0 := by omega
      subst hn0
      exact bytesBack a [] _ _ trivial ⟨((⟨((us.drop (i + 2)).take 0).toArray⟩ : ByteArray), ()), rfl, hfin⟩
    · rw [if_neg hcc]
      have := fun K hk => bytesBack (P := Tryz.prog) (a.add ((i + 2) * 1)) ((us.drop (i + 2)).take n) (c - (i + 2)) K hcell hk
      rw [hbs] at this
      exact this _ ⟨((⟨((us.drop (i + 2)).take n).toArray⟩ : ByteArray), ()), rfl, hfin⟩
  · rw [if_neg h2] at hg ⊢
    refine call_ii hg ?_
    exact cond_t rfl ⟨rfl, rfl⟩

/-- The document's reader: it reads, or it has refused. -/
def RdZ (h : Hp) (g : Nat) (bp : Option Addr) (bl bc : Nat) (full : Bt) : St → Prop
  | .ok r => ∃ at_ : Nat, Box h g 67 [.slice bp bl bc, .int .i64 at_, .int .i64 0, .int .i64 0] ∧ at_ ≤ full.length ∧ full.drop at_ = r
  | .error e => ∃ at_ : Nat, Box h g 67 [.slice bp bl bc, .int .i64 at_, .int .i64 ((full.length - e.1 : Nat) : Int), .int .i64 (e.2 : Nat)] ∧ at_ ≤ full.length ∧ e.1 ≤ full.length ∧ e.2 ≠ 0
theorem RdZ.keep {ws : List Nat} {h h' : Hp} {g : Nat} {bp : Option Addr} {bl bc : Nat} {full : Bt} {st : St} (s : RdZ h g bp bl bc full st) (k : Ch ws h h') (hw : g ∉ ws) : RdZ h' g bp bl bc full st := by
  cases st with
  | ok r =>
    obtain ⟨a, b, c⟩ := s
    exact ⟨a, b.keep k hw, c⟩
  | error e =>
    obtain ⟨a, b, c⟩ := s
    exact ⟨a, b.keep k hw, c⟩
theorem RdZ.lt {h : Hp} {g : Nat} {bp : Option Addr} {bl bc : Nat} {full : Bt} {st : St} (s : RdZ h g bp bl bc full st) : g < h.size := by
  cases st with
  | ok r =>
    obtain ⟨a, b, c⟩ := s
    exact b.lt
  | error e =>
    obtain ⟨a, b, c⟩ := s
    exact b.lt
theorem ne0 {n : Nat} (h : n ≠ 0) : ((n : Int) != (0 : Int)) = true := by
  simp
  omega
theorem eq0 {n : Nat} (h : n ≠ 0) : ((n : Int) == (0 : Int)) = false := by
  simp
  omega
section
variable {h0 h : Hp} {g : Nat} {bp : Option Addr} {bl bc : Nat} {full : Bt} {st : St}
theorem zrefuse_hc (s : RdZ h g bp bl bc full st) {i why : Nat} (hi : i ≤ full.length) (hy : why ≠ 0) :
    HC Tryz.prog 23 #[.pointer (some ⟨g, 0, none⟩), .int .i64 i, .int .i64 why] h fun v h' => v = .tuple #[] ∧ RdZ h' g bp bl bc full (refS full i why st) ∧ Ch [g] h h' := by
  refine hcr_of (args := [.pointer (some ⟨g, 0, none⟩), .int .i64 i, .int .i64 why]) mixed Tryz.func23 (by kernel_rfl) (t_spandrelref10_reader__refuse_eq (some ⟨g, 0, none⟩) i why) ?_
  unfold t_spandrelref10_reader__refuse
  refine osome_mk rfl ?_
  simp only [add_box]
  cases st with
  | ok r =>
    obtain ⟨at_, b, ha, hr⟩ := s
    refine loads_box b ((0 : Int), ()) rfl ?_
    dsimp only [flat, unc, unc1, List.nil_append, List.cons_append]
    refine cond_t rfl ?_
    refine osome_mk rfl ?_
    rw [add_box]
    refine stores_of b rfl (by simp) ?_
    intro h2 b2 k2 z2
    refine ⟨rfl, ⟨at_, ?_, ha, by simp, hy⟩, k2⟩
    rw [show full.length - (full.length - i) = i by omega]
    exact b2
  | error e =>
    obtain ⟨at_, b, ha, he, h2⟩ := id s
    refine loads_box b ((e.2 : Int), ()) rfl ?_
    dsimp only [flat, unc, unc1, List.nil_append, List.cons_append]
    refine cond_f (eq0 h2) ?_
    exact ⟨rfl, s, Ch.refl _ _⟩
theorem znumber_hc (e0 : Ext h0 h) (s : RdZ h g bp bl bc full st) (v : VwB h0 bp bl full) (hl : full.length ≤ 2 ^ 60) {w : Nat} (hw : w = 1 ∨ w = 2 ∨ w = 4) :
    HC Tryz.prog 22 #[.pointer (some ⟨g, 0, none⟩), .int .i64 w] h fun u h' => ∃ (n : Nat) (st' : St), u = .int .u32 n ∧ n < 256 ^ w ∧ RdZ h' g bp bl bc full st' ∧ Stp (numR w) st n st' ∧ Ch [g] h h' := by
  refine hcr_of (args := [.pointer (some ⟨g, 0, none⟩), .int .i64 w]) mixed Tryz.func22 (by kernel_rfl) (t_spandrelref10_reader__number_eq (some ⟨g, 0, none⟩) w) ?_
  unfold t_spandrelref10_reader__number
  have hll := v.len
  have hp0 : 0 < 256 ^ w := Nat.pow_pos (by omega)
  refine osome_mk rfl ?_
  simp only [add_box]
  cases st with
  | error e =>
    obtain ⟨at_, b, ha, he, h2⟩ := id s
    refine loads_box b ((e.2 : Int), ()) rfl ?_
    dsimp only [flat, unc, unc1, List.nil_append, List.cons_append]
    refine cond_t (ne0 h2) ?_
    exact ⟨0, .error e, rfl, hp0, s, rfl, Ch.refl _ _⟩
  | ok r =>
    obtain ⟨at_, b, ha, hr⟩ := id s
    refine loads_box b ((0 : Int), ()) rfl ?_
    dsimp only [flat, unc, unc1, List.nil_append, List.cons_append]
    refine cond_f rfl ?_
    refine osome_mk rfl ?_
    refine loads_box b ((bp, bl, bc), ()) rfl ?_
    dsimp only [flat, unc, unc1, List.nil_append, List.cons_append]
    refine osome_mk rfl ?_
    rw [add_box]
    refine loads_box b ((at_ : Int), ()) rfl ?_
    dsimp only [flat, unc, unc1, List.nil_append, List.cons_append]
    have hgt := zget_hc (c := bc) (v.keep e0) hw ha hl
    have hrl : r.length = full.length - at_ := by rw [← hr, List.length_drop]
    by_cases hb : w ≤ full.length - at_
    · rw [if_pos hb, hr] at hgt
      have hlt := numB_lt (r.take w)
      rw [List.length_take, Nat.min_eq_left (by omega)] at hlt
      refine call_ii hgt ?_
      refine cond_f rfl ?_
      refine osome_mk rfl ?_
      refine loads_box b ((at_ : Int), ()) rfl ?_
      dsimp only [flat, unc, unc1, List.nil_append, List.cons_append]
      refine osome_mk rfl ?_
      rw [wrap_i64 (by omega) (by omega)]
      refine stores_of b rfl (by simp) ?_
      intro h2 b2 k2 z2
      refine ⟨numB (r.take w), .ok (r.drop w), rfl, hlt, ⟨at_ + w, b2, by omega, by rw [← hr, List.drop_drop]⟩, ?_, k2⟩
      unfold Stp numR
      simp only
      rw [if_pos (by omega)]
      exact ⟨rfl, rfl⟩
    · rw [if_neg hb] at hgt
      refine call_ii hgt ?_
      refine cond_t rfl ?_
      refine osome_mk rfl ?_
      refine loads_box b ((bp, bl, bc), ()) rfl ?_
      dsimp only [flat, unc, unc1, List.nil_append, List.cons_append]
      subst hll
      refine call_of (zrefuse_hc s (i := full.length) (why := 10) (Nat.le_refl _) (by decide)) ?_
      rintro _ h2 ⟨rfl, s2, k2⟩
      refine ⟨(), rfl, ?_⟩
      refine ⟨0, _, rfl, hp0, s2, ?_, k2⟩
      unfold Stp numR refS
      simp only
      rw [if_neg (by omega), Nat.sub_self]
theorem ztext_hc (e0 : Ext h0 h) (s : RdZ h g bp bl bc full st) (v : VwB h0 bp bl full) (hc : bl ≤ bc) (hl : full.length ≤ 2 ^ 60) :
    HC Tryz.prog 24 #[.pointer (some ⟨g, 0, none⟩)] h fun u h' => ∃ (t : ByteArray) (st' : St), u = .string t ∧ t.size < 65536 ∧ RdZ h' g bp bl bc full st' ∧ Stp textR st t st' ∧ Ch [g] h h' := by
  refine hcr_of (args := [.pointer (some ⟨g, 0, none⟩)]) mixed Tryz.func24 (by kernel_rfl) (t_spandrelref10_reader__text_eq (some ⟨g, 0, none⟩)) ?_
  unfold t_spandrelref10_reader__text
  have hll := v.len
  refine osome_mk rfl ?_
  simp only [add_box]
  cases st with
  | error e =>
    obtain ⟨at_, b, ha, he, h2⟩ := id s
    refine loads_box b ((e.2 : Int), ()) rfl ?_
    dsimp only [flat, unc, unc1, List.nil_append, List.cons_append]
    refine cond_t (ne0 h2) ?_
    exact ⟨⟨#[]⟩, .error e, rfl, by decide, s, rfl, Ch.refl _ _⟩
  | ok r =>
    obtain ⟨at_, b, ha, hr⟩ := id s
    refine loads_box b ((0 : Int), ()) rfl ?_
    dsimp only [flat, unc, unc1, List.nil_append, List.cons_append]
    refine cond_f rfl ?_
    refine osome_mk rfl ?_
    refine loads_box b ((bp, bl, bc), ()) rfl ?_
    dsimp only [flat, unc, unc1, List.nil_append, List.cons_append]
    refine osome_mk rfl ?_
    rw [add_box]
    refine loads_box b ((at_ : Int), ()) rfl ?_
    dsimp only [flat, unc, unc1, List.nil_append, List.cons_append]
    have hgt := zgetText_hc (v.keep e0) hc ha hl
    have hrl : r.length = full.length - at_ := by rw [← hr, List.length_drop]
    rw [hr] at hgt
    cases ht : textR r with
    | ok q =>
      rw [ht] at hgt
      obtain ⟨t, r'⟩ := q
      obtain ⟨hq1, hq2⟩ := textR_ok ht
      have hr'l : r'.length ≤ r.length := by rw [hq1, List.length_append]; omega
      refine call_p hgt (t, ((full.length - r'.length : Nat) : Int), (0 : Int), ()) rfl ?_
      dsimp only [flat, unc, unc1, List.nil_append, List.cons_append]
      refine cond_f rfl ?_
      refine osome_mk rfl ?_
      refine stores_of b rfl (by simp) ?_
      intro h2 b2 k2 z2
      refine ⟨t, .ok r', rfl, hq2, ⟨full.length - r'.length, b2, by omega, ?_⟩, ?_, k2⟩
      · have h5 : full = full.take at_ ++ (wText t ++ r') := by rw [← hq1, ← hr, List.take_append_drop]
        have h6 : full.length - r'.length = (full.take at_ ++ wText t).length := by
          have := congrArg List.length h5
          simp only [List.length_append] at this ⊢
          omega
        rw [h6]
        conv => lhs; arg 2; rw [h5, ← List.append_assoc]
        rw [List.drop_left]
      · unfold Stp
        simp only
        rw [ht]
        exact ⟨rfl, rfl⟩
    | error e =>
      rw [ht] at hgt
      refine call_p hgt ((⟨#[]⟩ : ByteArray), (0 : Int), (10 : Int), ()) rfl ?_
      dsimp only [flat, unc, unc1, List.nil_append, List.cons_append]
      refine cond_t rfl ?_
      refine osome_mk rfl ?_
      refine loads_box b ((bp, bl, bc), ()) rfl ?_
      dsimp only [flat, unc, unc1, List.nil_append, List.cons_append]
      subst hll
      refine call_of (zrefuse_hc s (i := full.length) (why := 10) (Nat.le_refl _) (by decide)) ?_
      rintro _ h2 ⟨rfl, s2, k2⟩
      refine ⟨(), rfl, ?_⟩
      refine ⟨⟨#[]⟩, _, rfl, by decide, s2, ?_, k2⟩
      have he : e = (0, 10) := by
        unfold textR numR at ht
        split at ht
        · rw [andR_okk] at ht
          split at ht
          · cases ht
          · cases ht; rfl
        · cases ht; rfl
      unfold Stp refS
      simp only
      rw [ht, Nat.sub_self, he]
end
end Go.Sx.Ob

set_option linter.unusedVariables false
set_option linter.unusedSimpArgs false
set_option maxRecDepth 100000
namespace Go.Sx.Ob
open Go.Proofs
section
variable {h0 h : Hp} {g : Nat} {bp : Option Addr} {bl bc : Nat} {full : Bt} {st : St}
/-- Why the reader has refused; 0: it has not. -/
def whyS : St → Nat
  | .ok _ => 0
  | .error e => e.2
theorem RdZ.why {L : Lp} {K : Value → Hp → Prop} (s : RdZ h g bp bl bc full st) {k : Int → T} (hk : k (whyS st : Nat) L K h) : T.loads ⟨g, 0 + 2 + 1, none⟩ [.int .i64] k L K h := by
  cases st with
  | ok r =>
    obtain ⟨at_, b, ha, hr⟩ := s
    exact loads_box b ((0 : Int), ()) rfl hk
  | error e =>
    obtain ⟨at_, b, ha, hr⟩ := s
    exact loads_box b ((e.2 : Int), ()) rfl hk
theorem RdZ.err {e : Nat × Nat} (s : RdZ h g bp bl bc full (.error e)) : e.2 ≠ 0 := by
  obtain ⟨at_, b, ha, he, h2⟩ := s
  exact h2
theorem zlin_hc (e0 : Ext h0 h) (hg0 : h0.size ≤ g) (s : RdZ h g bp bl bc full st) (v : VwB h0 bp bl full) (hc : bl ≤ bc) (hl : full.length ≤ 2 ^ 60) :
    HC Tryz.prog 25 #[.pointer (some ⟨g, 0, none⟩)] h fun u h' => ∃ (x : Lin) (st' : St) (p : Option Addr) (l c : Nat), u = linV p l c x ∧ RdZ h' g bp bl bc full st' ∧ Stp linR st x st' ∧ SL h' h.size 104 2 p l c (x.terms.map encT) ∧ LinRd x ∧ Ch [g] h h' := by
  refine hcr_of (args := [.pointer (some ⟨g, 0, none⟩)]) mixed Tryz.func25 (by kernel_rfl) (t_spandrelref10_reader__lin_eq (some ⟨g, 0, none⟩)) ?_
  unfold t_spandrelref10_reader__lin
  have hgl := s.lt
  refine newB ?_
  intro h1 b1 e1 z1
  refine newB ?_
  intro h2 b2 e2 z2
  have b1 := b1.keep e2 (by simp)
  have e12 := e1.trans e2
  have s2 := s.keep e12 (by simp)
  refine call_of (znumber_hc (e0.trans e12) s2 v hl (w := 2) (by omega)) ?_
  rintro _ h3 ⟨n, st3, rfl, hn, s3, p3, k3⟩
  refine ⟨((n : Int), ()), rfl, ?_⟩
  dsimp only [flat, unc, unc1, List.nil_append, List.cons_append]
  have b1 := b1.keep k3 (by simp; omega)
  have b2 := b2.keep k3 (by simp; omega)
  have k03 : Ch [g] h h3 := (e12.mono (by simp)).trans k3 (fun i hi _ => hi)
  have hP : ∀ ts' st', Stp (termsR n) st3 ts' st' → Stp termsP st ([] ++ ts') st' := fun ts' st' ht => Stp.and (f := numR 2) p3 ht
  refine loop_of (cs := [(false, [.int .i64])]) (fun y m h' => ∃ (k : Nat) (ts : Tms) (st1 : St) (p : Option Addr) (l c : Nat), y.1 = ((n - k : Nat) : Int) ∧ k ≤ n ∧ m = k ∧ ts.length + k ≤ 65535 ∧ RdZ h' g bp bl bc full st1 ∧ Ch [g] h h' ∧ h2.size ≤ h'.size ∧ Box h' h.size 75 [.slice none 0 0, .int .u32 (0 : Int)] ∧ Box h' h1.size 75 [.slice p l c, .int .u32 (0 : Int)] ∧ SL h' h2.size 104 2 p l c (ts.map encT) ∧ (∀ u, u ∈ ts → u.1.size < 65536 ∧ u.2 < 4294967296) ∧ ∀ ts' st', Stp (termsR k) st1 ts' st' → Stp termsP st (ts ++ ts') st') ((0 : Int), ()) n rfl
    ⟨n, [], st3, none, 0, 0, by rw [Nat.sub_self]; rfl, Nat.le_refl _, rfl, by simp; omega, s3, k03, k3.size, b1, b2, SL.nil _ _ _ _, by simp, hP⟩ ?_
  clear hP p3 s3 k3 k03 b1 b2 s2 s
  rintro ⟨n4, ⟨⟩⟩ m h4 ⟨k, ts, st1, p, l, c, hk, hkn, rfl, hts, s4, k4, z4, b1, b2, sl, hu, hP⟩
  simp only at hk
  subst hk
  dsimp only [flat, unc, unc1, List.nil_append, List.cons_append]
  have e4 : Ext h0 h4 := Ch.trans e0 k4 (fun i hi hl => by simp at hi; omega)
  have hgl4 := s4.lt
  simp only [add_box]
  have htail : (∃ st', Stp termsP st ts st' ∧ st' = st1) → ∀ L, (T.call Tryz.prog 22 [.pointer (some ⟨g, 0, none⟩), .int .i64 (4 : Int)] false [(false, [.int .u32])] <| fun (n5 : Int) =>
      T.stores (⟨h1.size, 0 + 1, none⟩ : Addr) [.int .u32 n5] <|
      T.loads ⟨h1.size, 0, none⟩ [.slice 104, .int .u32] <| fun (p6 : Option Addr) (l7 : Nat) (l8 : Nat) (n9 : Int) =>
      T.stores ⟨h.size, 0, none⟩ [.slice p6 l7 l8, .int .u32 n9] <|
      T.loads ⟨h.size, 0, none⟩ [.slice 104, .int .u32] <| fun (p10 : Option Addr) (l11 : Nat) (l12 : Nat) (n13 : Int) =>
      T.ret (.agg #[.slice p10 l11 l12, .int .u32 n13])) L (fun u h' => ∃ (x : Lin) (st' : St) (p : Option Addr) (l c : Nat), u = linV p l c x ∧ RdZ h' g bp bl bc full st' ∧ Stp linR st x st' ∧ SL h' h.size 104 2 p l c (x.terms.map encT) ∧ LinRd x ∧ Ch [g] h h') h4 := by
    rintro ⟨_, hS, rfl⟩ L
    refine call_of (znumber_hc e4 s4 v hl (w := 4) (by omega)) ?_
    rintro _ h5 ⟨q, st5, rfl, hq, s5, p5, k5⟩
    refine ⟨((q : Int), ()), rfl, ?_⟩
    dsimp only [flat, unc, unc1, List.nil_append, List.cons_append]
    have b1 := b1.keep k5 (by simp; omega)
    have b2 := b2.keep k5 (by simp; omega)
    have hbk := Ob.SL.blk sl
    have sl5 := sl.keep k5 (fun a ha hi => by have := (hbk a.block (by rw [ha]; simp [blkOf])).1; simp at hi; omega)
    refine stores_of b2 rfl (by simp) ?_
    intro h6 b6 k6 z6
    have b6 : Box h6 h1.size 75 [.slice p l c, .int .u32 (q : Int)] := b6
    refine loads_box b6 ((p, l, c), (q : Int), ()) rfl ?_
    dsimp only [flat, unc, unc1, List.nil_append, List.cons_append]
    refine stores_of (b1.keep k6 (by simp; omega)) rfl (by simp) ?_
    intro h7 b7 k7 z7
    have b7 : Box h7 h.size 75 [.slice p l c, .int .u32 (q : Int)] := b7
    refine loads_box b7 ((p, l, c), (q : Int), ()) rfl ?_
    have hb5 := Ob.SL.blk sl5
    have sl7 := (sl5.keep k6 (fun a ha hi => by have := (hb5 a.block (by rw [ha]; simp [blkOf])).1; simp at hi; omega)).keep k7 (fun a ha hi => by have := (hb5 a.block (by rw [ha]; simp [blkOf])).1; simp at hi; omega)
    have s6 := s5.keep k6 (by simp; omega)
    have s7 := s6.keep k7 (by simp; omega)
    refine ⟨⟨ts, q⟩, st5, p, l, c, rfl, s7, ?_, Sx.SL.mono sl7 (by omega), ⟨by show ts.length ≤ 65535; omega, hu, by show q < 4294967296; omega⟩, ?_⟩
    · rw [linR_eq]
      exact Stp.and (f := termsP) hS (Stp.and (f := numR 4) p5 (Stp.ret _ _))
    · exact ((k4.trans k5 (fun i hi _ => hi)).trans k6 (fun i hi hl => by simp at hi; omega)).trans k7 (fun i hi hl => by simp at hi; omega)
  rw [wrap_i64 (x := (n : Int)) (by omega) (by omega)]
  refine cond_mk (fun r => ?_) (fun r => ?_)
  · have r := of_decide_eq_true r
    refine osome_mk rfl ?_
    simp only [add_box]
    refine s4.why ?_
    cases st1 with
    | error e =>
      refine cond_f (eq0 s4.err) ?_
      refine htail ⟨.error e, ?_, rfl⟩ _
      have := hP [] (.error e) (Stp.off _ _ _)
      rw [List.append_nil] at this
      exact this
    | ok rr =>
      refine cond_t rfl ?_
      clear htail
      refine call_of (ztext_hc e4 s4 v hc hl) ?_
      rintro _ h5 ⟨t, st5, rfl, ht, s5, p5, k5⟩
      refine ⟨(t, ()), rfl, ?_⟩
      dsimp only [flat, unc, unc1, List.nil_append, List.cons_append]
      have hbk := Ob.SL.blk sl
      have b15 := b1.keep k5 (by simp; omega)
      have b25 := b2.keep k5 (by simp; omega)
      have sl5 := sl.keep k5 (fun a ha hi => by have := (hbk a.block (by rw [ha]; simp [blkOf])).1; simp at hi; omega)
      have k45 : Ch [g] h h5 := k4.trans k5 (fun i hi _ => hi)
      have e5 : Ext h0 h5 := Ch.trans e0 k45 (fun i hi hl => by simp at hi; omega)
      refine loads_box b25 ((p, l, c), ()) rfl ?_
      dsimp only [flat, unc, unc1, List.nil_append, List.cons_append]
      refine call_of (znumber_hc e5 s5 v hl (w := 4) (by omega)) ?_
      rintro _ h6 ⟨q, st6, rfl, hq, s6, p6, k6⟩
      refine ⟨((q : Int), ()), rfl, ?_⟩
      dsimp only [flat, unc, unc1, List.nil_append, List.cons_append]
      have b16 := b15.keep k6 (by simp; omega)
      have b26 := b25.keep k6 (by simp; omega)
      have sl6 := sl5.keep k6 (fun a ha hi => by have := (hbk a.block (by rw [ha]; simp [blkOf])).1; simp at hi; omega)
      have k46 : Ch [g] h h6 := k45.trans k6 (fun i hi _ => hi)
      have hll : l = ts.length := by rw [sl6.1, List.length_map]
      refine ⟨⟨b26.cells _ rfl, trivial⟩, ?_⟩
      have z6 : h2.size ≤ h6.size := by have := k5.size; have := k6.size; omega
      refine push_st (z := .agg #[.string ⟨#[]⟩, .int .u32 0]) (vs := encT (t, q)) und53 termZ rfl (by omega) (by omega) (by kernel_rfl) rfl rfl sl6 z6 (by omega) (by omega) (fun h' ee => ⟨(b26.keep ee (by simp)).cells _ rfl, trivial⟩) ?_
      intro p7 c7 h7 sl7 k7 hp7
      have hb6 := Ob.SL.blk sl6
      have hn1 : h1.size ∉ blkOf p := fun hh => by have := (hb6 _ hh).1; omega
      have hn0 : h.size ∉ blkOf p := fun hh => by have := (hb6 _ hh).1; omega
      have hng : g ∉ blkOf p := fun hh => by have := (hb6 _ hh).1; omega
      have s7 := s6.keep k7 hng
      have b27 := b26.keep k7 hn1
      refine stores_of b27 rfl (by simp) ?_
      intro h8 b8 k8 z8
      have s8 := s7.keep k8 (by simp; omega)
      have hb7 := Ob.SL.blk sl7
      rw [wrap_i64 (by omega) (by omega)]
      refine again_mk (cs := [(false, [.int .i64])]) (((n - (m - 1) : Nat) : Int), ()) (m - 1) rfl (by omega) (by rw [show (((n - m : Nat) : Int) + 1) = ((n - (m - 1) : Nat) : Int) by omega]; rfl) ?_
      refine ⟨m - 1, ts ++ [(t, q)], st6, p7, l + 1, c7, rfl, by omega, rfl, by simp; omega, s8, ?_, ?_, (b16.keep k7 hn0).keep k8 (by simp; omega), b8, ?_, ?_, ?_⟩
      · exact (k46.trans k7 (fun i hi hl => by have := (hb6 _ hi).1; omega)).trans k8 (fun i hi hl => by simp at hi; omega)
      · have := k7.size; omega
      · rw [List.map_append]
        exact sl7.keep k8 (fun a ha hi => by have := (hb7 a.block (by rw [ha]; simp [blkOf])).1; simp at hi; omega)
      · intro u hu'
        rcases List.mem_append.1 hu' with hu' | hu'
        · exact hu u hu'
        · rw [List.mem_singleton.1 hu']
          exact ⟨ht, by show q < 4294967296; omega⟩
      · intro ts' st' hst
        rw [List.append_assoc]
        refine hP _ _ ?_
        have := Stp.terms p5 p6 hst
        rw [show m - 1 + 1 = m by omega] at this
        exact this
  · have r := of_decide_eq_false r
    have : m = 0 := by omega
    subst this
    refine htail ⟨st1, ?_, rfl⟩ _
    have := hP [] st1 (Stp.ret _ _)
    rw [List.append_nil] at this
    exact this
end
end Go.Sx.Ob

set_option linter.unusedVariables false
set_option linter.unusedSimpArgs false
set_option maxRecDepth 100000
namespace Go.Sx.Ob
open Go.Proofs
section
variable {h0 h : Hp} {g : Nat} {bp : Option Addr} {bl bc : Nat} {full : Bt} {st : St}
def rawI (r : Bt) : Rd Itm := at_ r 31 okK (andR (numR 1 r) itmB)
def itmZ2 (h : Hp) (g : Nat) (bp : Option Addr) (bl bc : Nat) (full : Bt) (st : St) (u : Value) (h' : Hp) : Prop :=
  ∃ (x : Itm) (st' : St) (p : Option Addr) (l c : Nat), u = itmV p l c x ∧ RdZ h' g bp bl bc full st' ∧ Stp rawI st x st' ∧ SL h' h.size 104 2 p l c (x.e.terms.map encT) ∧ ItmRd x ∧ Ch [g] h h'
def endT (g5 g1 : Nat) : T :=
  T.loads ⟨g5, 0, none⟩ [.int .i64, .string, .int .i64, .int .i64, .int .i64, .int .i32, .int .i64, .slice 104, .int .u32, .int .i64] <| fun (n8 : Int) (s9 : ByteArray) (n10 : Int) (n11 : Int) (n12 : Int) (n13 : Int) (n14 : Int) (p15 : Option Addr) (l16 : Nat) (l17 : Nat) (n18 : Int) (n19 : Int) =>
  T.stores ⟨g1, 0, none⟩ [.int .i64 n8, .string s9, .int .i64 n10, .int .i64 n11, .int .i64 n12, .int .i32 n13, .int .i64 n14, .slice p15 l16 l17, .int .u32 n18, .int .i64 n19] <|
  T.loads ⟨g1, 0, none⟩ [.int .i64, .string, .int .i64, .int .i64, .int .i64, .int .i32, .int .i64, .slice 104, .int .u32, .int .i64] <| fun (n20 : Int) (s21 : ByteArray) (n22 : Int) (n23 : Int) (n24 : Int) (n25 : Int) (n26 : Int) (p27 : Option Addr) (l28 : Nat) (l29 : Nat) (n30 : Int) (n31 : Int) =>
  T.ret (.agg #[.int .i64 n20, .string s21, .int .i64 n22, .int .i64 n23, .int .i64 n24, .int .i32 n25, .int .i64 n26, .slice p27 l28 l29, .int .u32 n30, .int .i64 n31])
theorem endT_of {h6 : Hp} {g5 : Nat} {x : Itm} {st5 : St} {p : Option Addr} {l c : Nat} {L : Lp} (hg1 : g ≠ h.size) (s6 : RdZ h6 g bp bl bc full st5) (b6 : Box h6 g5 102 (encI p l c x)) (b1 : Box h6 h.size 102 iz) (hs : Stp rawI st x st5)
    (sl : SL h6 (h.size + 1) 104 2 p l c (x.e.terms.map encT)) (hr : ItmRd x) (k6 : Ch [g] h h6) : endT g5 h.size L (itmZ2 h g bp bl bc full st) h6 := by
  unfold endT
  refine loads_box b6 (x.kind, x.name, x.inst.op, x.inst.a, x.inst.b, x.inst.n, x.inst.form, (p, l, c), (x.e.num : Int), x.n, ()) rfl ?_
  dsimp only [flat, unc, unc1, List.nil_append, List.cons_append]
  refine stores_of b1 rfl (by simp [iz]) ?_
  intro h7 b7 k7 z7
  have b7 : Box h7 h.size 102 (encI p l c x) := b7
  refine loads_box b7 (x.kind, x.name, x.inst.op, x.inst.a, x.inst.b, x.inst.n, x.inst.form, (p, l, c), (x.e.num : Int), x.n, ()) rfl ?_
  have hb := Ob.SL.blk sl
  exact ⟨x, st5, p, l, c, rfl, s6.keep k7 (by simp; omega), hs, Sx.SL.mono (sl.keep k7 (fun a ha hi => by have := (hb a.block (by rw [ha]; simp [blkOf])).1; simp at hi; omega)) (by omega), hr, k6.trans k7 (fun i hi hl => by simp at hi; omega)⟩
theorem zitem_hc (e0 : Ext h0 h) (hg0 : h0.size ≤ g) (s : RdZ h g bp bl bc full st) (v : VwB h0 bp bl full) (hc : bl ≤ bc) (hl : full.length ≤ 2 ^ 60) :
    HC Tryz.prog 59 #[.pointer (some ⟨g, 0, none⟩)] h (itmZ2 h g bp bl bc full st) := by
  refine hcr_of (args := [.pointer (some ⟨g, 0, none⟩)]) mixed Tryz.func59 (by kernel_rfl) (t_spandrelref10_reader__item_eq (some ⟨g, 0, none⟩)) ?_
  unfold t_spandrelref10_reader__item
  have hgl := s.lt
  refine newB ?_
  intro h1 b1 e1 z1
  have s1 := s.keep e1 (by simp)
  have hfr : ∃ fr : Nat, fr ≤ full.length ∧ (∃ x2 x3, Box h1 g 67 [.slice bp bl bc, .int .i64 fr, x2, x3]) ∧ ∀ r, st = .ok r → full.length - fr = r.length := by
    cases st with
    | ok r =>
      obtain ⟨a, b, hb, hr⟩ := s1
      refine ⟨a, hb, ⟨_, _, b⟩, fun r' hr' => ?_⟩
      cases hr'
      rw [← hr, List.length_drop]
    | error e =>
      obtain ⟨a, b, hb, hr⟩ := s1
      exact ⟨a, hb, ⟨_, _, b⟩, fun r' hr' => nomatch hr'⟩
  obtain ⟨fr, hfr, ⟨x2, x3, bfr⟩, hat⟩ := hfr
  refine osome_mk rfl ?_
  simp only [add_box]
  refine loads_box bfr ((fr : Int), ()) rfl ?_
  dsimp only [flat, unc, unc1, List.nil_append, List.cons_append]
  clear bfr
  refine call_of (znumber_hc (e0.trans e1) s1 v hl (w := 1) (by omega)) ?_
  rintro _ h2 ⟨k, st2, rfl, hk, s2, p2, k2⟩
  refine ⟨((k : Int), ()), rfl, ?_⟩
  dsimp only [flat, unc, unc1, List.nil_append, List.cons_append]
  have b1 := b1.keep k2 (by simp; omega)
  have hz12 := k2.size
  have k2 : Ch [g] h h2 := (e1.mono (by simp)).trans k2 (fun i hi _ => hi)
  have hz2 := k2.size
  refine newB ?_
  intro h3 b3 e3 z3
  have b1 := b1.keep e3 (by simp)
  have s3 := s2.keep e3 (by simp)
  have k3 : Ch [g] h h3 := k2.trans e3 (by simp)
  rw [wrap_i64 (by omega) (by omega)]
  refine stores_of b3 rfl (by simp) ?_
  intro h4 b4 k4 z4
  have b4 : Box h4 h2.size 102 (encI none 0 0 (itm (k : Int))) := b4
  have b1l := b1.lt
  have hg2 := s2.lt
  have s4 := s3.keep k4 (by simp; omega)
  have b1 := b1.keep k4 (by simp; omega)
  have k4 : Ch [g] h h4 := k3.trans k4 (fun i hi hl => by simp at hi; omega)
  have e4 : Ext h0 h4 := Ch.trans e0 k4 (fun i hi hl => by simp at hi; omega)
  have hg6 : g ≠ h2.size := by omega
  have fin : ∀ (h5 h6 : Hp) (x : Itm) (st5 : St) (p : Option Addr) (l c : Nat), RdZ h5 g bp bl bc full st5 → Ch [g, h2.size] h4 h5 → Ch [h2.size] h5 h6 → Box h6 h2.size 102 (encI p l c x) →
      Stp (itmB k) st2 x st5 → okK x = true → SL h5 (h2.size + 1) 104 2 p l c (x.e.terms.map encT) → ItmRd x → ∀ L, endT h2.size h.size L (itmZ2 h g bp bl bc full st) h6 := by
    intro h5 h6 x st5 p l c s5 k5 k6 b6 hs ho sl hr L
    have hb := Ob.SL.blk sl
    refine endT_of (by omega) (s5.keep k6 (by simp; omega)) b6 ((b1.keep k5 (by simp; omega)).keep k6 (by simp; omega)) (Stp.good (Stp.and p2 hs) ho) (Sx.SL.mono (sl.keep k6 (fun a ha hi => by have := (hb a.block (by rw [ha]; simp [blkOf])).1; simp at hi; omega)) (by omega)) hr ?_
    exact (k4.trans k5 (fun i hi hl => by simp at hi; rcases hi with hi | hi; · simp [hi]
                                          · omega)).trans k6 (fun i hi hl => by simp at hi; omega)
  have mono1 : ∀ {a b : Hp}, Ch [g] a b → Ch [g, h2.size] a b := fun k => k.mono (by simp)
  refine loads_box b4 (((k : Nat) : Int), ()) rfl ?_
  dsimp only [flat, unc, unc1, List.nil_append, List.cons_append]
  by_cases q1 : k = 1
  · subst q1
    refine cond_t rfl ?_
    refine call_of (ztext_hc e4 s4 v hc hl) ?_
    rintro _ h5 ⟨t, st5, rfl, ht, s5, p5, k5⟩
    refine ⟨(t, ()), rfl, ?_⟩
    dsimp only [flat, unc, unc1, List.nil_append, List.cons_append]
    have b5 := b4.keep k5 (by simp; omega)
    refine stores_of b5 rfl (by simp [encI]) ?_
    intro h6 b6 k6 z6
    exact fin h5 h6 { itm 1 with name := t } st5 none 0 0 s5 (mono1 k5) k6 b6 (by rw [itmB1]; exact Stp.and p5 (Stp.ret _ _)) rfl (SL.nil _ _ _ _) ⟨LinRd.zero, ht, Sm0⟩ _
  refine cond_f (neK q1) ?_
  by_cases q2 : k = 2
  · subst q2
    refine cond_t rfl ?_
    refine call_of (znumber_hc e4 s4 v hl (w := 1) (by omega)) ?_
    rintro _ h5 ⟨op, st5, rfl, hop, s5, p5, k5⟩
    refine ⟨((op : Int), ()), rfl, ?_⟩
    dsimp only [flat, unc, unc1, List.nil_append, List.cons_append]
    have b5 := b4.keep k5 (by simp; omega)
    have hz5 := k5.size
    simp only [add_box]
    rw [wrap_i64 (by omega) (by omega)]
    refine stores_of b5 rfl (by simp [encI]) ?_
    intro h6 b6 k6 z6
    have s6 := s5.keep k6 (by simp; omega)
    have k46 : Ch [g, h2.size] h4 h6 := (mono1 k5).trans k6 (by simp)
    have e6 : Ext h0 h6 := Ch.trans e4 k46 (fun i hi hl => by simp at hi; omega)
    refine call_of (znumber_hc e6 s6 v hl (w := 1) (by omega)) ?_
    rintro _ h7 ⟨a, st7, rfl, ha, s7, p7, k7⟩
    refine ⟨((a : Int), ()), rfl, ?_⟩
    dsimp only [flat, unc, unc1, List.nil_append, List.cons_append]
    have hz7 := k7.size
    have b7 := b6.keep k7 (by simp; omega)
    rw [wrap_i64 (by omega) (by omega)]
    refine stores_of b7 rfl (by simp [encI, setL]) ?_
    intro h8 b8 k8 z8
    have s8 := s7.keep k8 (by simp; omega)
    have k48 : Ch [g, h2.size] h4 h8 := (k46.trans k7 (by simp)).trans k8 (by simp)
    have e8 : Ext h0 h8 := Ch.trans e4 k48 (fun i hi hl => by simp at hi; omega)
    refine call_of (znumber_hc e8 s8 v hl (w := 1) (by omega)) ?_
    rintro _ h9 ⟨bb, st9, rfl, hbb, s9, p9, k9⟩
    refine ⟨((bb : Int), ()), rfl, ?_⟩
    dsimp only [flat, unc, unc1, List.nil_append, List.cons_append]
    have hz9 := k9.size
    have b9 := b8.keep k9 (by simp; omega)
    rw [wrap_i64 (by omega) (by omega)]
    refine stores_of b9 rfl (by simp [encI, setL]) ?_
    intro h10 b10 k10 z10
    have s10 := s9.keep k10 (by simp; omega)
    have k410 : Ch [g, h2.size] h4 h10 := (k48.trans k9 (by simp)).trans k10 (by simp)
    have e10 : Ext h0 h10 := Ch.trans e4 k410 (fun i hi hl => by simp at hi; omega)
    refine call_of (znumber_hc e10 s10 v hl (w := 4) (by omega)) ?_
    rintro _ h11 ⟨n, st11, rfl, hn, s11, p11, k11⟩
    refine ⟨((n : Int), ()), rfl, ?_⟩
    dsimp only [flat, unc, unc1, List.nil_append, List.cons_append]
    have hz11 := k11.size
    have b11 := b10.keep k11 (by simp; omega)
    rw [wrap_i32_u hn]
    refine stores_of b11 rfl (by simp [encI, setL]) ?_
    intro h12 b12 k12 z12
    have s12 := s11.keep k12 (by simp; omega)
    have k412 : Ch [g, h2.size] h4 h12 := (k410.trans k11 (by simp)).trans k12 (by simp)
    have b12 : Box h12 h2.size 102 (encI none 0 0 { itm 2 with inst := ⟨op, a, bb, s32 n, 0⟩ }) := b12
    refine loads_box b12 (((op : Nat) : Int), ()) rfl ?_
    dsimp only [flat, unc, unc1, List.nil_append, List.cons_append]
    have hsm : Sm (op : Int) := ⟨by omega, by omega⟩
    refine call_boolx (hasE_hc h12 (op : Int) hsm) ?_
    intro h13 e13
    have b13 := b12.keep e13 (by simp)
    have s13 := s12.keep e13 (by simp)
    have k413 : Ch [g, h2.size] h4 h13 := k412.trans e13 (by simp)
    have hz13 := e13.size
    refine cond_mk (fun q => ?_) (fun q => ?_)
    · have e13 : Ext h0 h13 := Ch.trans e4 k413 (fun i hi hl => by simp at hi; omega)
      refine call_of (zlin_hc e13 hg0 s13 v hc hl) ?_
      rintro _ h14 ⟨y, st14, p, l, c, rfl, s14, p14, sl, hr, k14⟩
      refine ⟨((p, l, c), (y.num : Int), ()), rfl, ?_⟩
      dsimp only [flat, unc, unc1, List.nil_append, List.cons_append]
      have b14 := b13.keep k14 (by simp; omega)
      refine stores_of b14 rfl (by simp [encI, setL]) ?_
      intro h15 b15 k15 z15
      refine fin h14 h15 { itm 2 with inst := ⟨op, a, bb, s32 n, 0⟩, e := y } st14 p l c s14 (k413.trans k14 (by simp)) k15 b15 (Stp.ins p5 p7 p9 p11 ?_) rfl (Sx.SL.mono sl (by omega)) ⟨hr, nm0, hsm⟩ _
      have : insK op a bb n = fun r => andR (linR r) fun e r => .ok ({ itm 2 with inst := ⟨op, a, bb, s32 n, 0⟩, e := e }, r) := by
        funext r
        unfold insK
        rw [if_pos q]
      rw [this]
      exact Stp.and p14 (Stp.ret _ _)
    · refine fin h12 h13 { itm 2 with inst := ⟨op, a, bb, s32 n, 0⟩ } st11 none 0 0 s12 k412 (e13.mono (by simp)) b13 (Stp.ins p5 p7 p9 p11 ?_) rfl (SL.nil _ _ _ _) ⟨LinRd.zero, nm0, hsm⟩ _
      have : insK op a bb n = fun r => .ok ({ itm 2 with inst := ⟨op, a, bb, s32 n, 0⟩ }, r) := by
        funext r
        unfold insK
        rw [if_neg (by rw [q]; decide)]
      rw [this]
      exact Stp.ret _ _
  refine cond_f (neK q2) ?_
  by_cases q3 : k = 3
  · subst q3
    refine cond_t rfl ?_
    refine call_of (znumber_hc e4 s4 v hl (w := 2) (by omega)) ?_
    rintro _ h5 ⟨n, st5, rfl, hn, s5, p5, k5⟩
    refine ⟨((n : Int), ()), rfl, ?_⟩
    dsimp only [flat, unc, unc1, List.nil_append, List.cons_append]
    have b5 := b4.keep k5 (by simp; omega)
    simp only [add_box]
    rw [wrap_i64 (by omega) (by omega)]
    refine stores_of b5 rfl (by simp [encI]) ?_
    intro h6 b6 k6 z6
    exact fin h5 h6 { itm 3 with n := n } st5 none 0 0 s5 (mono1 k5) k6 b6 (by rw [itmB3]; exact Stp.and p5 (Stp.ret _ _)) rfl (SL.nil _ _ _ _) ⟨LinRd.zero, nm0, Sm0⟩ _
  refine cond_f (neK q3) ?_
  by_cases q5 : k = 5
  · subst q5
    refine cond_t rfl ?_
    refine call_of (znumber_hc e4 s4 v hl (w := 2) (by omega)) ?_
    rintro _ h5 ⟨n, st5, rfl, hn, s5, p5, k5⟩
    refine ⟨((n : Int), ()), rfl, ?_⟩
    dsimp only [flat, unc, unc1, List.nil_append, List.cons_append]
    have b5 := b4.keep k5 (by simp; omega)
    have h16 : IntKind.wrap .i64 (IntKind.wrap .i16 (n : Int)) = s16 n := by
      have h1 : IntKind.wrap .i16 (n : Int) = s16 n := by
        unfold s16
        have : n < 65536 := by omega
        by_cases hh : n < 32768
        · rw [if_pos hh]
          simp [IntKind.wrap, IntKind.bits, IntKind.signed]
          omega
        · rw [if_neg hh]
          simp [IntKind.wrap, IntKind.bits, IntKind.signed]
          omega
      rw [h1, wrap_i64 (by unfold s16; split <;> omega) (by unfold s16; split <;> omega)]
    simp only [add_box]
    rw [h16]
    refine stores_of b5 rfl (by simp [encI]) ?_
    intro h6 b6 k6 z6
    exact fin h5 h6 { itm 5 with n := s16 n } st5 none 0 0 s5 (mono1 k5) k6 b6 (by rw [itmB5]; exact Stp.and p5 (Stp.ret _ _)) rfl (SL.nil _ _ _ _) ⟨LinRd.zero, nm0, Sm0⟩ _
  refine cond_f (neK q5) ?_
  by_cases q6 : k = 6
  · subst q6
    refine cond_t rfl ?_
    refine call_of (zlin_hc e4 hg0 s4 v hc hl) ?_
    rintro _ h5 ⟨y, st5, p, l, c, rfl, s5, p5, sl, hr, k5⟩
    refine ⟨((p, l, c), (y.num : Int), ()), rfl, ?_⟩
    dsimp only [flat, unc, unc1, List.nil_append, List.cons_append]
    have b5 := b4.keep k5 (by simp; omega)
    refine stores_of b5 rfl (by simp [encI]) ?_
    intro h6 b6 k6 z6
    exact fin h5 h6 { itm 6 with e := y } st5 p l c s5 (mono1 k5) k6 b6 (by rw [itmB6]; exact Stp.and p5 (Stp.ret _ _)) rfl (Sx.SL.mono sl (by omega)) ⟨hr, nm0, Sm0⟩ _
  refine cond_f (neK q6) ?_
  by_cases q7 : k = 7
  · subst q7
    refine cond_t rfl ?_
    refine call_of (znumber_hc e4 s4 v hl (w := 4) (by omega)) ?_
    rintro _ h5 ⟨n, st5, rfl, hn, s5, p5, k5⟩
    refine ⟨((n : Int), ()), rfl, ?_⟩
    dsimp only [flat, unc, unc1, List.nil_append, List.cons_append]
    have b5 := b4.keep k5 (by simp; omega)
    simp only [add_box]
    rw [wrap_i64 (by omega) (by omega)]
    refine stores_of b5 rfl (by simp [encI]) ?_
    intro h6 b6 k6 z6
    exact fin h5 h6 { itm 7 with n := n } st5 none 0 0 s5 (mono1 k5) k6 b6 (by rw [itmB7]; exact Stp.and p5 (Stp.ret _ _)) rfl (SL.nil _ _ _ _) ⟨LinRd.zero, nm0, Sm0⟩ _
  refine cond_f (neK q7) ?_
  by_cases q4 : k = 4
  · subst q4
    refine cond_t rfl ?_
    exact fin h4 h4 (itm 4) st2 none 0 0 s4 (Ch.refl _ _) (Ch.refl _ _) b4 (by rw [itmB4]; exact Stp.ret _ _) rfl (SL.nil _ _ _ _) ⟨LinRd.zero, nm0, Sm0⟩ _
  refine cond_f (neK q4) ?_
  refine call_of (zrefuse_hc s4 (i := fr) (why := 31) hfr (by decide)) ?_
  rintro _ h5 ⟨rfl, s5, k5⟩
  refine ⟨(), rfl, ?_⟩
  dsimp only [flat, unc, unc1, List.nil_append, List.cons_append]
  refine endT_of (x := itm k) (by omega) s5 (b4.keep k5 (by simp; omega)) (b1.keep k5 (by simp; omega)) ?_ (SL.nil _ _ _ _) ⟨LinRd.zero, nm0, Sm0⟩ (k4.trans k5 (fun i hi _ => hi))
  refine Stp.bad (f := fun r => andR (numR 1 r) itmB) (Stp.and p2 ?_) ?_ hat
  · rw [itmBo (by omega)]
    exact Stp.ret _ _
  · unfold okK itm
    simp only [Bool.and_eq_false_iff, decide_eq_false_iff_not]
    omega
end
end Go.Sx.Ob

set_option linter.unusedVariables false
set_option linter.unusedSimpArgs false
set_option maxRecDepth 100000
namespace Go.Sx.Ob
open Go.Proofs
/-! Plain. -/
section
variable {α σ : Type} {o : σ → Bt → Rd α} {nx : σ → α → σ} {n : Nat} {d0 : σ} {st0 st1 st2 : St} {us : List α} {k : Nat}
/-- Of n things so many are read, k are to come. -/
def Many (o : σ → Bt → Rd α) (nx : σ → α → σ) (n : Nat) (d0 : σ) (st0 : St) (us : List α) (st1 : St) (k : Nat) : Prop :=
  ∀ ts' st', Stp (manyR o nx k (us.foldl nx d0)) st1 ts' st' → Stp (manyR o nx n d0) st0 (us ++ ts') st'
theorem Many.start (o : σ → Bt → Rd α) (nx : σ → α → σ) (n : Nat) (d0 : σ) (st0 : St) : Many o nx n d0 st0 [] st0 n := fun ts' st' h => h
theorem Many.step {x : α} (m : Many o nx n d0 st0 us st1 (k + 1)) (h : Stp (o (us.foldl nx d0)) st1 x st2) : Many o nx n d0 st0 (us ++ [x]) st2 k := by
  intro ts' st' h2
  rw [List.append_assoc]
  refine m _ _ ?_
  rw [List.foldl_append] at h2
  exact Stp.and (f := o _) h (Stp.and (f := manyR o nx k _) h2 (Stp.ret _ _))
theorem Many.stop (m : Many o nx n d0 st0 us st1 k) (h : k = 0 ∨ ∃ e, st1 = .error e) : Stp (manyR o nx n d0) st0 us st1 := by
  have := m [] st1 ?_
  · rw [List.append_nil] at this
    exact this
  · rcases h with rfl | ⟨e, rfl⟩
    · exact Stp.ret _ _
    · exact Stp.off _ _ _
end
theorem Stp.cntZ {α : Type} {most : Option Nat} {f : Nat → Bt → Rd α} {st st1 st2 st3 : St} {n i : Nat} {us : α} {full : Bt} {c : Bool} (p : Stp (numR 2) st n st1) (hat : ∀ r, st = .ok r → full.length - i = r.length)
    (hc : ∀ r, st1 = .ok r → c = over most n) (h2 : st2 = if c = true then refS full i 4 st1 else st1) (q : Stp (f n) st2 us st3) : Stp (cntR most f) st us st3 := by
  cases st with
  | error e =>
    have p : st1 = .error e := p
    rw [p] at h2
    have : st2 = .error e := by rw [h2]; split <;> rfl
    rw [this] at q
    exact q
  | ok r =>
    unfold Stp at p ⊢
    unfold cntR
    simp only at p ⊢
    cases hn : numR 2 r with
    | error e =>
      rw [hn] at p
      have p : st1 = .error e := p
      rw [p] at h2
      have : st2 = .error e := by rw [h2]; split <;> rfl
      rw [this] at q
      exact q
    | ok q1 =>
      rw [hn] at p
      obtain ⟨rfl, p⟩ := p
      rw [andR_okk]
      have hc := hc _ p
      rw [p] at h2
      rw [hc] at h2
      cases ho : over most q1.1 with
      | true =>
        rw [ho] at h2
        rw [if_pos rfl] at h2 ⊢
        rw [h2] at q
        unfold refS at q
        simp only at q
        rw [hat r rfl] at q
        exact q
      | false =>
        rw [ho] at h2
        rw [if_neg (by decide)] at h2 ⊢
        rw [h2] at q
        exact q
theorem Stp.grow {α : Type} {f : Bt → Rd α} {st st1 : St} {x : α} {ok : α → Bool} {why i : Nat} {full : Bt} {b : Bool} (h : Stp f st x st1) (hb : ∀ r, st1 = .ok r → ok x = b) (hat : ∀ r, st = .ok r → full.length - i = r.length) :
    Stp (fun r => at_ r why ok (f r)) st x (if b = true then st1 else refS full i why st1) := by
  cases hs : st1 with
  | ok r =>
    have hb := hb r hs
    rw [← hs]
    cases b with
    | true => exact Stp.good h hb
    | false => exact Stp.bad h hb hat
  | error e =>
    have e1 : (if b = true then Except.error e else refS full i why (Except.error e)) = (Except.error e : St) := by split <;> rfl
    rw [e1, ← hs]
    cases ho : ok x with
    | true => exact Stp.good h ho
    | false =>
      have := Stp.bad (why := why) h ho hat
      rw [hs] at this ⊢
      exact this
theorem itemsOk_snoc (sec : Nat) (x : Itm) : ∀ (l : List Itm) (D : List ByteArray), itemsOk sec D (l ++ [x]) = (itemsOk sec D l && itmOk sec (l.foldl addN D) x)
  | [], D => by simp [itemsOk]
  | y :: l, D => by
    rw [List.cons_append, itemsOk, itemsOk_snoc sec x l, itemsOk, List.foldl_cons, Bool.and_assoc]
theorem equsOk_snoc (x : Eqn) : ∀ (l : List Eqn) (D : List ByteArray), equsOk D (l ++ [x]) = (equsOk D l && equOk (l.foldl (fun D p => p.1 :: D) D) x)
  | [], D => by simp [equsOk]
  | y :: l, D => by
    rw [List.cons_append, equsOk, equsOk_snoc x l, equsOk, List.foldl_cons, Bool.and_assoc]
theorem globsOk_snoc (D : List ByteArray) (x : ByteArray) : ∀ (l : List ByteArray) (o : ByteArray), globsOk D o (l ++ [x]) = (globsOk D o l && gOk D (l.foldl (fun _ x => x) o) x)
  | [], o => by simp [globsOk]
  | y :: l, o => by
    rw [List.cons_append, globsOk, globsOk_snoc D x l, globsOk, List.foldl_cons, Bool.and_assoc]
/-! Over heaps. -/
section
variable {h0 h : Hp} {g : Nat} {bp : Option Addr} {bl bc : Nat} {full : Bt} {st : St}
theorem RdZ.pos {L : Lp} {K : Value → Hp → Prop} (s : RdZ h g bp bl bc full st) {k : Int → T} (hk : ∀ fr : Nat, fr ≤ full.length → (∀ r, st = .ok r → full.length - fr = r.length) → k fr L K h) : T.loads ⟨g, 0 + 1, none⟩ [.int .i64] k L K h := by
  cases st with
  | ok r =>
    obtain ⟨at_, b, ha, hr⟩ := s
    exact loads_box b ((at_ : Int), ()) rfl (hk at_ ha (fun r' e => by cases e; rw [← hr, List.length_drop]))
  | error e =>
    obtain ⟨at_, b, ha, hr⟩ := s
    exact loads_box b ((at_ : Int), ()) rfl (hk at_ ha (fun r' e => nomatch e))
def growS (full : Bt) (i : Nat) (u : Unt) (st : St) : St := if decide (untR u = 0) = true then st else refS full i 31 st
theorem zgrow_hc (s : RdZ h g bp bl bc full st) {i : Nat} (hi : i ≤ full.length) {a b c d : Sli} {u : Unt} (v : UntAt h a b c d u) :
    HC Tryz.prog 26 #[.pointer (some ⟨g, 0, none⟩), .int .i64 i, untV a b c d] h fun w h' => w = .tuple #[] ∧ RdZ h' g bp bl bc full (growS full i u st) ∧ Ch [g] h h' := by
  refine hcr_of (args := [.pointer (some ⟨g, 0, none⟩), .int .i64 i, untV a b c d]) mixed Tryz.func26 (by kernel_rfl) (t_spandrelref10_reader__grow_eq (some ⟨g, 0, none⟩) i a.p a.l a.c b.p b.l b.c c.p c.l c.c d.p d.l d.c) ?_
  unfold t_spandrelref10_reader__grow
  refine newB ?_
  intro h1 b1 e1 z1
  have b1 : Box h1 h.size 28 [a.v, b.v, c.v, d.v] := b1
  have s1 := s.keep e1 (by simp)
  have hgl := s.lt
  refine osome_mk rfl ?_
  simp only [add_box]
  refine s1.why ?_
  cases st with
  | error e =>
    refine cond_f (eq0 s.err) ?_
    have : growS full i u (.error e) = .error e := by unfold growS; split <;> rfl
    rw [this]
    exact ⟨rfl, s1, e1.mono (by simp)⟩
  | ok r =>
    refine cond_t rfl ?_
    refine loads_box b1 ((a.p, a.l, a.c), (b.p, b.l, b.c), (c.p, c.l, c.c), (d.p, d.l, d.c), ()) rfl ?_
    dsimp only [flat, unc, unc1, List.nil_append, List.cons_append]
    refine call_of (right9_hc (v.keep e1)) ?_
    rintro _ h2 ⟨rfl, e2⟩
    refine ⟨((untR u : Int), ()), rfl, ?_⟩
    dsimp only [flat, unc, unc1, List.nil_append, List.cons_append]
    have s2 := s1.keep e2 (by simp)
    have k2 : Ch [g] h h2 := (e1.trans e2).mono (by simp)
    unfold growS
    by_cases hu : untR u = 0
    · rw [hu, if_pos (by simp)]
      exact cond_f rfl ⟨rfl, s2, k2⟩
    · rw [if_neg (by simpa using hu)]
      refine cond_t (ne0 hu) ?_
      refine call_of (zrefuse_hc s2 (i := i) (why := 31) hi (by decide)) ?_
      rintro _ h3 ⟨rfl, s3, k3⟩
      refine ⟨(), rfl, ?_⟩
      exact ⟨rfl, s3, k2.trans k3 (fun i hi _ => hi)⟩
end
end Go.Sx.Ob

set_option linter.unusedVariables false
set_option linter.unusedSimpArgs false
set_option maxRecDepth 100000
namespace Go.Sx.Ob
open Go.Proofs
theorem retT_any {L : Lp} {K : Value → Hp → Prop} {h' : Hp} {a2 a3 : Nat} {xs : List Value} {a b c d : Sli} (b3 : Box h' a3 28 [a.v, b.v, c.v, d.v]) (b2 : Box h' a2 28 xs) (hx : xs.length = 4) (hk : ∀ h3, Ch [a2] h' h3 → K (untV a b c d) h3) : retT a2 a3 L K h' := by
  unfold retT
  refine loads_box b3 ((a.p, a.l, a.c), (b.p, b.l, b.c), (c.p, c.l, c.c), (d.p, d.l, d.c), ()) rfl ?_
  dsimp only [flat, unc, unc1, List.nil_append, List.cons_append]
  refine stores_of b2 rfl (by simp [hx]) ?_
  intro h3 b4 k3 z3
  have b4 : Box h3 a2 28 [a.v, b.v, c.v, d.v] := by
    obtain ⟨x1, x2, x3, x4, rfl⟩ : ∃ x1 x2 x3 x4, xs = [x1, x2, x3, x4] := by
      match xs, hx with
      | [x1, x2, x3, x4], _ => exact ⟨x1, x2, x3, x4, rfl⟩
    exact b4
  refine loads_box b4 ((a.p, a.l, a.c), (b.p, b.l, b.c), (c.p, c.l, c.c), (d.p, d.l, d.c), ()) rfl ?_
  exact hk h3 k3
theorem VwI.zero (h : Hp) : VwI h none 0 [] := ⟨rfl, by simp, fun i hi => absurd hi (by simp)⟩
theorem VwE.zero (h : Hp) : VwE h none 0 [] := ⟨rfl, by simp, fun i hi => absurd hi (by simp)⟩
theorem VwS.zero (h : Hp) : VwS h none 0 [] := ⟨rfl, by simp, fun i hi => absurd hi (by simp)⟩
def scA (B : Bool) (a sl : Sli) : Sli := if B then a else sl
def scB (B : Bool) (sl : Sli) : Sli := if B then sl else sl0
def scU (B : Bool) (T us : List Itm) : Unt := if B then ⟨T, us, [], []⟩ else ⟨us, [], [], []⟩
def scN (B : Bool) : Nat := if B then 1 else 0
theorem untR_in {u : Unt} (h1 : u.text.length + u.data.length ≤ 8192) (h2 : u.equs.length ≤ 8192) : decide (untR u = 0) = untOk u := by
  unfold untR untMany
  rw [decide_eq_false (show ¬ 8192 < u.text.length + u.data.length by omega), decide_eq_false (show ¬ 8192 < u.equs.length by omega), Bool.or_false, if_neg (by decide)]
  cases untOk u <;> rfl
theorem scU_ok {B : Bool} {T us : List Itm} {x : Itm} (hB : B = false → T = []) (ht : itemsOk 0 [] T = true) (hu : itemsOk (scN B) (namesI [] T) us = true) (hn : T.length + (us.length + 1) ≤ 8192) :
    itmOk (scN B) (us.foldl addN (namesI [] T)) x = decide (untR (scU B T (us ++ [x])) = 0) := by
  cases B with
  | true =>
    rw [untR_in (by simp [scU]; omega) (by simp [scU])]
    show _ = untOk ⟨T, us ++ [x], [], []⟩
    unfold untOk
    simp only [ht, Bool.true_and, itemsOk_snoc, equsOk, globsOk, Bool.and_true]
    have hu : itemsOk 1 (namesI [] T) us = true := hu
    rw [hu, Bool.true_and]
    rfl
  | false =>
    have hT := hB rfl
    subst hT
    rw [untR_in (by simp [scU]; simp at hn; omega) (by simp [scU])]
    show _ = untOk ⟨us ++ [x], [], [], []⟩
    unfold untOk
    simp only [itemsOk_snoc, itemsOk, equsOk, globsOk, Bool.and_true]
    have hu : itemsOk 0 [] us = true := hu
    rw [hu, Bool.true_and]
    rfl
theorem rawI_at (sec : Nat) (D : List ByteArray) : (fun r => at_ r 31 (itmOk sec D) (rawI r)) = itemR sec D := by
  funext r
  exact at_at _ (fun x h => by
    unfold itmOk at h
    rw [Bool.and_eq_true] at h
    exact itmR_okK h.1)
section
variable {h0 h : Hp} {g : Nat} {bp : Option Addr} {bl bc : Nat} {full : Bt} {st : St}
theorem zsection_hc (e0 : Ext h0 h) (hg0 : h0.size ≤ g) (s : RdZ h g bp bl bc full st) (v : VwB h0 bp bl full) (hc : bl ≤ bc) (hl : full.length ≤ 2 ^ 60) (B : Bool) {a : Sli} {T0 : List (Sli × Itm)} {bT : Nat} (hT : LsI h bT a.p a.l a.c T0) (hgT : g < bT)
    (hB : B = false → a = sl0 ∧ T0 = []) (hT8 : T0.length ≤ 65535) (hok : ∀ r, st = .ok r → itemsOk 0 [] (T0.map (·.2)) = true ∧ T0.length ≤ 8192) :
    HC Tryz.prog 21 #[.pointer (some ⟨g, 0, none⟩), untV a sl0 sl0 sl0, .bool B] h fun w h' => ∃ (us : List (Sli × Itm)) (st' : St) (sl : Sli), w = untV (scA B a sl) (scB B sl) sl0 sl0 ∧ LsI h' h.size sl.p sl.l sl.c us ∧ us.length ≤ 65535 ∧ RdZ h' g bp bl bc full st' ∧
      Stp (cntR (some (8192 - T0.length)) fun n => itemsR (scN B) n (namesI [] (T0.map (·.2)))) st (us.map (·.2)) st' ∧ (∀ r, st' = .ok r → itemsOk (scN B) (namesI [] (T0.map (·.2))) (us.map (·.2)) = true ∧ itemsOk 0 [] (T0.map (·.2)) = true ∧ T0.length + us.length ≤ 8192) ∧ Ch [g] h h' := by
  refine hcr_of (args := [.pointer (some ⟨g, 0, none⟩), untV a sl0 sl0 sl0, .bool B]) mixed Tryz.func21 (by kernel_rfl) (t_spandrelref10_reader__section_eq (some ⟨g, 0, none⟩) a.p a.l a.c none 0 0 none 0 0 none 0 0 B) ?_
  unfold t_spandrelref10_reader__section
  have hgl := s.lt
  have hal := hT.len
  refine newB ?_
  intro h1 b1 e1 z1
  refine newB ?_
  intro h2 b2 e2 z2
  have b1 : Box h1 h.size 28 [a.v, sl0.v, sl0.v, sl0.v] := b1
  have b2 : Box h2 h1.size 28 zU := b2
  have b1 := b1.keep e2 (by simp)
  have e12 := e1.trans e2
  have s2 := s.keep e12 (by simp)
  refine osome_mk rfl ?_
  simp only [add_box]
  refine s2.pos ?_
  intro fr hfr hat
  refine call_of (znumber_hc (e0.trans e12) s2 v hl (w := 2) (by omega)) ?_
  rintro _ h3 ⟨n, st3, rfl, hn, s3, p3, k3⟩
  refine ⟨((n : Int), ()), rfl, ?_⟩
  dsimp only [flat, unc, unc1, List.nil_append, List.cons_append]
  have b1 := b1.keep k3 (by simp; omega)
  have b2 := b2.keep k3 (by simp; omega)
  have k03 : Ch [g] h h3 := (e12.mono (by simp)).trans k3 (fun i hi _ => hi)
  have hz3 := k3.size
  rw [wrap_i64 (x := (n : Int)) (by omega) (by omega)]
  refine join_of (cs := []) (fun _ h' => RdZ h' g bp bl bc full (if decide (8192 < T0.length + n) = true then refS full fr 4 st3 else st3) ∧ Ch [g] h3 h') ?_ ?_
  · refine osome_mk rfl ?_
    simp only [add_box]
    refine s3.why ?_
    cases hst : st3 with
    | error e =>
      have s3' := s3
      rw [hst] at s3'
      refine cond_f (eq0 s3'.err) ?_
      refine meet_mk (cs := []) () rfl rfl ⟨?_, Ch.refl _ _⟩
      have : (if decide (8192 < T0.length + n) = true then refS full fr 4 (Except.error e) else Except.error e) = (Except.error e : St) := by split <;> rfl
      rw [this]
      exact s3'
    | ok r =>
      refine cond_t rfl ?_
      refine loads_box b1 ((a.p, a.l, a.c), ()) rfl ?_
      dsimp only [flat, unc, unc1, List.nil_append, List.cons_append]
      rw [wrap_i64 (by omega) (by omega)]
      refine cond_mk (fun q => ?_) (fun q => ?_)
      · have q := of_decide_eq_true q
        refine call_of (zrefuse_hc s3 (i := fr) (why := 4) hfr (by decide)) ?_
        rintro _ h4 ⟨rfl, s4, k4⟩
        refine ⟨(), rfl, ?_⟩
        refine meet_mk (cs := []) () rfl rfl ⟨?_, k4⟩
        rw [if_pos (by simp; omega), ← hst]
        exact s4
      · have q := of_decide_eq_false q
        refine meet_mk (cs := []) () rfl rfl ⟨?_, Ch.refl _ _⟩
        rw [if_neg (by simp; omega), ← hst]
        exact s3
  rintro ⟨⟩ h4 ⟨s4, k4⟩
  dsimp only [flat, unc, unc1, List.nil_append, List.cons_append]
  generalize hst4 : (if decide (8192 < T0.length + n) = true then refS full fr 4 st3 else st3) = st4 at s4
  have b1 := b1.keep k4 (by simp; omega)
  have b2 := b2.keep k4 (by simp; omega)
  have k04 : Ch [g] h h4 := k03.trans k4 (fun i hi _ => hi)
  have hz4 := k4.size
  generalize hD : namesI [] (T0.map (·.2)) = D0
  generalize htt : itemsOk 0 [] (T0.map (·.2)) = tt at hok
  have hok4 : ∀ r, st4 = .ok r → tt = true ∧ T0.length + n ≤ 8192 := by
    intro r hr
    have h3 : ¬ 8192 < T0.length + n ∧ st3 = .ok r := by
      rw [← hst4] at hr
      split at hr
      · cases hs : st3 <;> rw [hs] at hr <;> cases hr
      · rename_i hh
        exact ⟨by simpa using hh, hr⟩
    refine ⟨?_, by omega⟩
    cases st with
    | error e => have : st3 = .error e := p3; rw [this] at h3; cases h3.2
    | ok r' => exact (hok r' rfl).1
  have hcnt : ∀ us st', Stp (itemsR (scN B) n D0) st4 us st' → Stp (cntR (some (8192 - T0.length)) fun n => itemsR (scN B) n D0) st us st' := by
    intro us st' q
    refine Stp.cntZ p3 hat (c := decide (8192 < T0.length + n)) ?_ hst4.symm q
    intro r hr
    have : ∃ r', st = .ok r' := by
      cases st with
      | error e => have : st3 = .error e := p3; rw [this] at hr; cases hr
      | ok r' => exact ⟨r', rfl⟩
    obtain ⟨r', hr'⟩ := this
    have := (hok r' hr').2
    unfold over
    simp only [decide_eq_decide]
    omega
  rw [itemsR_many] at hcnt
  have hx : [a.v, sl0.v, sl0.v, sl0.v] = [(scA B a sl0).v, (scB B sl0).v, sl0.v, sl0.v] := by
    cases B with
    | true => rfl
    | false => rw [(hB rfl).1]; rfl
  rw [hx] at b1
  refine loop_of (cs := [(false, [.int .i64]), (false, [.int .i64])]) (fun y m h' => ∃ (k : Nat) (us : List (Sli × Itm)) (st1 : St) (sl : Sli), y.2.1 = ((n - k : Nat) : Int) ∧ k ≤ n ∧ m = k ∧ us.length + k = n ∧ RdZ h' g bp bl bc full st1 ∧ Ch [g] h h' ∧ h2.size ≤ h'.size ∧ Box h' h.size 28 [(scA B a sl).v, (scB B sl).v, sl0.v, sl0.v] ∧ Box h' h1.size 28 zU ∧ LsI h' h2.size sl.p sl.l sl.c us ∧
      Many (itemR (scN B)) addN n D0 st4 (us.map (·.2)) st1 k ∧ (∀ r, st1 = .ok r → itemsOk (scN B) D0 (us.map (·.2)) = true ∧ tt = true ∧ T0.length + n ≤ 8192)) ((fr : Int), (0 : Int), ()) n rfl
    ⟨n, [], st4, sl0, by rw [Nat.sub_self]; rfl, Nat.le_refl _, rfl, by simp, s4, k04, by omega, b1, b2, Ls.nil _ _, Many.start _ _ _ _ _, fun r hr => ⟨by simp [itemsOk], hok4 r hr⟩⟩ ?_
  clear s4 k04 b1 b2 hz4 k4 hok4 hst4 k03 s3 s2 k3 p3
  rintro ⟨n8, n9, ⟨⟩⟩ m h5 ⟨k, us, st1, sl, hk, hkn, rfl, hus, s5, k5, z5, b1, b2, ls, mm, hgood⟩
  simp only at hk
  subst hk
  dsimp only [flat, unc, unc1, List.nil_append, List.cons_append]
  have hend : (m = 0 ∨ ∃ e, st1 = .error e) → ∀ L, retT h1.size h.size L (fun w h' => ∃ (us : List (Sli × Itm)) (st' : St) (sl : Sli), w = untV (scA B a sl) (scB B sl) sl0 sl0 ∧ LsI h' h.size sl.p sl.l sl.c us ∧ us.length ≤ 65535 ∧ RdZ h' g bp bl bc full st' ∧
      Stp (cntR (some (8192 - T0.length)) fun n => itemsR (scN B) n D0) st (us.map (·.2)) st' ∧ (∀ r, st' = .ok r → itemsOk (scN B) D0 (us.map (·.2)) = true ∧ tt = true ∧ T0.length + us.length ≤ 8192) ∧ Ch [g] h h') h5 := by
    intro hm L
    refine retT_any b1 b2 rfl ?_
    intro h6 k6
    refine ⟨us, st1, sl, rfl, (ls.keep k6 (fun i hi hl => by simp at hi; omega)).mono (by omega), by omega, s5.keep k6 (by simp; omega), hcnt _ _ (mm.stop hm), fun r hr => ⟨(hgood r hr).1, (hgood r hr).2.1, by have := (hgood r hr).2.2; omega⟩, k5.trans k6 (fun i hi hl => by simp at hi; omega)⟩
  refine cond_mk (fun q => ?_) (fun q => ?_)
  · have q := of_decide_eq_true q
    refine osome_mk rfl ?_
    simp only [add_box]
    refine s5.why ?_
    cases hst1 : st1 with
    | error e =>
      have s5' := s5
      rw [hst1] at s5'
      refine cond_f (eq0 s5'.err) ?_
      exact hend (.inr ⟨e, hst1⟩) _
    | ok rr =>
      clear hend
      rw [← hst1]
      refine cond_t (by rw [hst1]; rfl) ?_
      refine osome_mk rfl ?_
      simp only [add_box]
      refine s5.pos ?_
      intro f2 hf2 hat2
      have e5 : Ext h0 h5 := Ch.trans e0 k5 (fun i hi hl => by simp at hi; omega)
      refine call_of (zitem_hc e5 hg0 s5 v hc hl) ?_
      rintro _ h6 ⟨x, st6, p, l, c, rfl, s6, q6, sx, hrx, k6⟩
      refine ⟨(x.kind, x.name, x.inst.op, x.inst.a, x.inst.b, x.inst.n, x.inst.form, (p, l, c), (x.e.num : Int), x.n, ()), rfl, ?_⟩
      dsimp only [flat, unc, unc1, List.nil_append, List.cons_append]
      have hz6 := k6.size
      have b1 := b1.keep k6 (by simp; omega)
      have b2 := b2.keep k6 (by simp; omega)
      have ls6 := ls.keep k6 (fun i hi hl => by simp at hi; omega)
      refine newB ?_
      intro h7 b7 e7 z7
      have b1 := b1.keep e7 (by simp)
      have b2 := b2.keep e7 (by simp)
      have s7 := s6.keep e7 (by simp)
      refine stores_of b7 rfl (by simp) ?_
      intro h8 b8 k8 z8
      have b8 : Box h8 h6.size 102 (encI p l c x) := b8
      have b1l := b1.lt
      have b2l := b2.lt
      have hg6 := s6.lt
      have b18 := b1.keep k8 (by have := k5.size; have := b8.lt; simp; omega)
      have b28 := b2.keep k8 (by simp; omega)
      have s8 := s7.keep k8 (by simp; omega)
      have e68 : Ext h6 h8 := e7.st k8 (Nat.le_refl _)
      have ls8 := ls6.keep e68 (by simp)
      have sx8 := sx.keep e68 (by simp)
      have k08 : Ch [g] h h8 := (k5.trans k6 (fun i hi _ => hi)).trans e68 (by simp)
      have hz8 := e68.size
      have hlen := ls.len
      refine join_of (cs := []) (fun _ h' => ∃ sl', RdZ h' g bp bl bc full st6 ∧ Ch [g] h h' ∧ h2.size ≤ h'.size ∧ Box h' h.size 28 [(scA B a sl').v, (scB B sl').v, sl0.v, sl0.v] ∧ Box h' h1.size 28 zU ∧ LsI h' h2.size sl'.p sl'.l sl'.c (us ++ [(⟨p, l, c⟩, x)])) ?_ ?_
      · have fin : ∀ {p' : Option Addr} {c' : Nat} {h9 : Hp}, SL h9 h2.size 102 10 p' (sl.l + 1) c' (us.map (fun u => encI u.1.p u.1.l u.1.c u.2) ++ [encI p l c x]) → Ch (blkOf sl.p) h8 h9 → ∀ {h10 : Hp}, Ch [h.size] h9 h10 → Box h10 h.size 28 [(scA B a ⟨p', sl.l + 1, c'⟩).v, (scB B ⟨p', sl.l + 1, c'⟩).v, sl0.v, sl0.v] →
            ∃ sl', RdZ h10 g bp bl bc full st6 ∧ Ch [g] h h10 ∧ h2.size ≤ h10.size ∧ Box h10 h.size 28 [(scA B a sl').v, (scB B sl').v, sl0.v, sl0.v] ∧ Box h10 h1.size 28 zU ∧ LsI h10 h2.size sl'.p sl'.l sl'.c (us ++ [(⟨p, l, c⟩, x)]) := by
          intro p' c' h9 sl9 k9 h10 k10 b10
          have hblk := Ob.SL.blk ls8.sl
          have hk9 : ∀ i, i ∈ blkOf sl.p → h2.size ≤ i := fun i hi => (hblk i hi).1
          have hz9 := k9.size
          have hz10 := k10.size
          refine ⟨⟨p', sl.l + 1, c'⟩, (s8.keep k9 (fun hi => by have := hk9 _ hi; omega)).keep k10 (by simp; omega), (k08.trans k9 (fun i hi hl => by have := hk9 _ hi; omega)).trans k10 (fun i hi hl => by simp at hi; omega), by omega, b10, (b28.keep k9 (fun hi => by have := hk9 _ hi; omega)).keep k10 (by simp; omega), ?_⟩
          have l9 : LsI h9 h2.size p' (sl.l + 1) c' (us ++ [(⟨p, l, c⟩, x)]) := by
            refine ⟨by rw [List.map_append]; exact sl9, ?_, ?_⟩
            · intro u hu
              rcases List.mem_append.1 hu with hu | hu
              · exact SL.keepU (ls8.own u hu) k9 (Ob.SL.boxU ls8.sl) (by decide)
              · rw [List.mem_singleton.1 hu]
                exact SL.keepU (Sx.SL.mono sx8 (by omega)) k9 (Ob.SL.boxU ls8.sl) (by decide)
            · intro u hu
              rcases List.mem_append.1 hu with hu | hu
              · exact ls8.ok u hu
              · rw [List.mem_singleton.1 hu]
                exact hrx
          exact l9.keep k10 (fun i hi hl => by simp at hi; omega)
        cases B with
        | true =>
          refine cond_t rfl ?_
          have b18 : Box h8 h.size 28 [a.v, sl.v, sl0.v, sl0.v] := b18
          refine loads_box b18 ((sl.p, sl.l, sl.c), ()) rfl ?_
          dsimp only [flat, unc, unc1, List.nil_append, List.cons_append]
          refine loads_box b8 (x.kind, x.name, x.inst.op, x.inst.a, x.inst.b, x.inst.n, x.inst.form, (p, l, c), (x.e.num : Int), x.n, ()) rfl ?_
          dsimp only [flat, unc, unc1, List.nil_append, List.cons_append]
          refine push_of (vs := encI p l c x) und26 itmZ rfl (by omega) (by omega) (by kernel_rfl) rfl rfl ls8.sl (by omega) (by omega) (by omega) ?_
          intro p' c' h9 sl9 k9 hp'
          have hblk := Ob.SL.blk ls8.sl
          refine stores_of (b18.keep k9 (fun hi => by have := (hblk _ hi).1; omega)) rfl (by simp) ?_
          intro h10 b10 k10 z10
          exact meet_mk (cs := []) () rfl rfl (fin sl9 k9 k10 b10)
        | false =>
          refine cond_f rfl ?_
          have b18 : Box h8 h.size 28 [sl.v, sl0.v, sl0.v, sl0.v] := b18
          refine loads_box b18 ((sl.p, sl.l, sl.c), ()) rfl ?_
          dsimp only [flat, unc, unc1, List.nil_append, List.cons_append]
          refine loads_box b8 (x.kind, x.name, x.inst.op, x.inst.a, x.inst.b, x.inst.n, x.inst.form, (p, l, c), (x.e.num : Int), x.n, ()) rfl ?_
          dsimp only [flat, unc, unc1, List.nil_append, List.cons_append]
          refine push_of (vs := encI p l c x) und26 itmZ rfl (by omega) (by omega) (by kernel_rfl) rfl rfl ls8.sl (by omega) (by omega) (by omega) ?_
          intro p' c' h9 sl9 k9 hp'
          have hblk := Ob.SL.blk ls8.sl
          refine stores_of (b18.keep k9 (fun hi => by have := (hblk _ hi).1; omega)) rfl (by simp) ?_
          intro h10 b10 k10 z10
          exact meet_mk (cs := []) () rfl rfl (fin sl9 k9 k10 b10)
      rintro ⟨⟩ h9 ⟨sl', s9, k9, z9, b19, b29, ls9⟩
      dsimp only [flat, unc, unc1, List.nil_append, List.cons_append]
      refine loads_box b19 (((scA B a sl').p, (scA B a sl').l, (scA B a sl').c), ((scB B sl').p, (scB B sl').l, (scB B sl').c), (none, 0, 0), (none, 0, 0), ()) rfl ?_
      dsimp only [flat, unc, unc1, List.nil_append, List.cons_append]
      have hT9 := hT.keep k9 (fun i hi hl => by simp at hi; omega)
      have hv : UntAt h9 (scA B a sl') (scB B sl') sl0 sl0 (scU B (T0.map (·.2)) ((us ++ [((⟨p, l, c⟩ : Sli), x)]).map (·.2))) := by
        have w1 := LsI.at ls9 (by simp; omega)
        have w2 := LsI.at hT9 hT8
        cases B with
        | true => exact ⟨w2, w1, VwE.zero _, VwS.zero _⟩
        | false => exact ⟨w1, VwI.zero _, VwE.zero _, VwS.zero _⟩
      refine call_of (zgrow_hc s9 (i := f2) hf2 hv) ?_
      rintro _ h10 ⟨rfl, s10, k10⟩
      refine ⟨(), rfl, ?_⟩
      dsimp only [flat, unc, unc1, List.nil_append, List.cons_append]
      have hz10 := k10.size
      rw [wrap_i64 (by omega) (by omega)]
      refine again_mk (cs := [(false, [.int .i64]), (false, [.int .i64])]) ((f2 : Int), ((n - (m - 1) : Nat) : Int), ()) (m - 1) rfl (by omega) (by rw [show ((n - m : Nat) : Int) + 1 = ((n - (m - 1) : Nat) : Int) by omega]; rfl) ?_
      have hg1 := hgood rr hst1
      have hq : Stp (itemR (scN B) ((us.map (·.2)).foldl addN D0)) st1 x (growS full f2 (scU B (T0.map (·.2)) ((us ++ [((⟨p, l, c⟩ : Sli), x)]).map (·.2))) st6) := by
        rw [← rawI_at]
        refine Stp.grow q6 (fun r hr => ?_) hat2
        rw [List.map_append]
        rw [← hD]
        refine scU_ok (fun hb => by rw [(hB hb).2]; rfl) (by rw [htt]; exact hg1.2.1) (by rw [hD]; exact hg1.1) (by simp only [List.length_map]; have := hg1.2.2; omega)
      refine ⟨m - 1, us ++ [((⟨p, l, c⟩ : Sli), x)], _, sl', rfl, by omega, rfl, by simp; omega, s10, k9.trans k10 (fun i hi _ => hi), by omega, b19.keep k10 (by simp; omega), b29.keep k10 (by simp; omega), ls9.keep k10 (fun i hi hl => by simp at hi; omega), ?_, ?_⟩
      · rw [List.map_append]
        refine Many.step (st1 := st1) (by rw [show m - 1 + 1 = m by omega]; exact mm) ?_
        rw [List.map_append] at hq
        exact hq
      · intro r hr
        refine ⟨?_, hg1.2.1, hg1.2.2⟩
        rw [List.map_append, List.map_singleton, itemsOk_snoc, hg1.1, Bool.true_and]
        have h2 : decide (untR (scU B (T0.map (·.2)) ((us ++ [((⟨p, l, c⟩ : Sli), x)]).map (·.2))) = 0) = true := by
          unfold growS at hr
          split at hr
          · assumption
          · cases hs : st6 <;> rw [hs] at hr <;> cases hr
        rw [← h2, List.map_append, ← hD]
        exact scU_ok (fun hb => by rw [(hB hb).2]; rfl) (by rw [htt]; exact hg1.2.1) (by rw [hD]; exact hg1.1) (by simp only [List.length_map]; have := hg1.2.2; omega)
  · have q := of_decide_eq_false q
    exact hend (.inl (by omega)) _
end
end Go.Sx.Ob

set_option linter.unusedVariables false
set_option linter.unusedSimpArgs false
set_option maxRecDepth 100000
namespace Go.Sx.Ob
open Go.Proofs
/-- What the document's Read comes to. -/
def ReadZ (full : Bt) (u : Unt) (at_ why : Nat) : Prop :=
  match readR full with
  | .ok q => u = q ∧ at_ = 0 ∧ why = 0
  | .error e => u = unt0 ∧ at_ = e.1 ∧ why = e.2
def ReadQ (h : Hp) (full : Bt) (w : Value) (h' : Hp) : Prop :=
  ∃ (a b c d : Sli) (u : Unt) (at_ why : Nat), w = .tuple #[untV a b c d, .agg #[.int .i64 at_, .int .i64 why]] ∧ UntOwn h' h.size a b c d u ∧ ReadZ full u at_ why ∧ (why ≠ 0 → a = sl0 ∧ b = sl0 ∧ c = sl0 ∧ d = sl0) ∧ Ext h h'
def outZ (a1 a2 : Nat) : T :=
  T.loads ⟨a1, 0, none⟩ [.slice 102, .slice 102, .slice 78, .slice 9] <| fun (p3 : Option Addr) (l4 : Nat) (l5 : Nat) (p6 : Option Addr) (l7 : Nat) (l8 : Nat) (p9 : Option Addr) (l10 : Nat) (l11 : Nat) (p12 : Option Addr) (l13 : Nat) (l14 : Nat) =>
  T.loads ⟨a2, 0, none⟩ [.int .i64, .int .i64] <| fun (n15 : Int) (n16 : Int) =>
  T.ret (.tuple #[.agg #[.slice p3 l4 l5, .slice p6 l7 l8, .slice p9 l10 l11, .slice p12 l13 l14], .agg #[.int .i64 n15, .int .i64 n16]])
theorem outZ_of {L : Lp} {K : Value → Hp → Prop} {H : Hp} {a1 a2 : Nat} {a b c d : Sli} {x y : Nat} (b1 : Box H a1 28 [a.v, b.v, c.v, d.v]) (b2 : Box H a2 34 [.int .i64 x, .int .i64 y]) (hk : K (.tuple #[untV a b c d, .agg #[.int .i64 x, .int .i64 y]]) H) : outZ a1 a2 L K H := by
  unfold outZ
  refine loads_box b1 ((a.p, a.l, a.c), (b.p, b.l, b.c), (c.p, c.l, c.c), (d.p, d.l, d.c), ()) rfl ?_
  dsimp only [flat, unc, unc1, List.nil_append, List.cons_append]
  exact loads_box b2 ((x : Int), (y : Int), ()) rfl hk
def failZ (a1 a2 : Nat) (x y : Int) : T :=
  T.stores ⟨a1, 0, none⟩ [.slice none 0 0, .slice none 0 0, .slice none 0 0, .slice none 0 0] <|
  T.stores ⟨a2, 0, none⟩ [.int .i64 x, .int .i64 y] <| outZ a1 a2
theorem failZ_of {L : Lp} {h H : Hp} {full : Bt} {x y : Nat} (b1 : Box H h.size 28 zU) (b2 : Box H (h.size + 1) 34 [.int .i64 0, .int .i64 0]) (e : Ext h H) (hr : readR full = .error (x, y)) : failZ h.size (h.size + 1) x y L (ReadQ h full) H := by
  unfold failZ
  refine stores_of b1 rfl (by simp [zU]) ?_
  intro h1 c1 k1 z1
  have c1 : Box h1 h.size 28 [sl0.v, sl0.v, sl0.v, sl0.v] := c1
  refine stores_of (b2.keep k1 (by simp)) rfl (by simp) ?_
  intro h2 c2 k2 z2
  have c2 : Box h2 (h.size + 1) 34 [.int .i64 x, .int .i64 y] := c2
  refine outZ_of (c1.keep k2 (by simp)) c2 ⟨sl0, sl0, sl0, sl0, unt0, x, y, rfl, UntOwn.zero _ _, ?_, fun _ => ⟨rfl, rfl, rfl, rfl⟩, ?_⟩
  · unfold ReadZ
    rw [hr]
    exact ⟨rfl, rfl, rfl⟩
  · exact (e.st k1 (Nat.le_refl _)).st k2 (by omega)
def endZ (ll00 : Nat) (a1 a2 a4 a17 : Nat) : T :=
  T.join []
        (T.loads ⟨a4, 0 + 2 + 1, none⟩ [.int .i64] <| fun (n51 : Int) =>
        cond (n51 == (0 : Int))
         (T.loads ⟨a4, 0 + 1, none⟩ [.int .i64] <| fun (n52 : Int) =>
         cond (decide (n52 < (ll00 : Int)))
          (T.loads ⟨a4, 0 + 1, none⟩ [.int .i64] <| fun (n53 : Int) =>
          T.call Tryz.prog 23 [.pointer (some ⟨a4, 0, none⟩), .int .i64 n53, .int .i64 (14 : Int)] true [] <| T.again 3 [])
          (T.again 3 []))
         (T.again 3 [])) <| T.loads ⟨a4, 0 + 2 + 1, none⟩ [.int .i64] <| fun (n51 : Int) =>
       cond (n51 != (0 : Int))
        (T.loads ⟨a4, 0 + 2, none⟩ [.int .i64, .int .i64] <| fun (n52 : Int) (n53 : Int) =>
        T.stores ⟨a1, 0, none⟩ [.slice none 0 0, .slice none 0 0, .slice none 0 0, .slice none 0 0] <|
        T.stable [(⟨a4, 0 + 2, none⟩, [.int .i64 n52, .int .i64 n53])] <|
        T.stores ⟨a2, 0, none⟩ [.int .i64 n52, .int .i64 n53] <| outZ a1 a2)
        (T.loads ⟨a17, 0, none⟩ [.slice 102, .slice 102, .slice 78, .slice 9] <| fun (p52 : Option Addr) (l53 : Nat) (l54 : Nat) (p55 : Option Addr) (l56 : Nat) (l57 : Nat) (p58 : Option Addr) (l59 : Nat) (l60 : Nat) (p61 : Option Addr) (l62 : Nat) (l63 : Nat) =>
        T.stores ⟨a1, 0, none⟩ [.slice p52 l53 l54, .slice p55 l56 l57, .slice p58 l59 l60, .slice p61 l62 l63] <|
        T.stores ⟨a2, 0, none⟩ [.int .i64 (0 : Int), .int .i64 (0 : Int)] <| outZ a1 a2)
theorem readR_in {full : Bt} (hl : full.length ≤ 1048576) : readR full = match unitR full with
    | .ok q => .ok q.1
    | .error e => .error (full.length - e.1, e.2) := by
  unfold readR
  rw [if_neg (by omega)]
  cases unitR full <;> rfl
section
variable {h H : Hp} {bp : Option Addr} {bl bc : Nat} {full : Bt} {st : St} {a b c d : Sli} {u : Unt} {q : Nat}
theorem endZ_of {j0 j1 j2 : List Value → Hp → Prop} (e : Ext h H) (rd : RdZ H (h.size + 2) bp bl bc full st) (b1 : Box H h.size 28 zU) (b2 : Box H (h.size + 1) 34 [.int .i64 0, .int .i64 0]) (b17 : Box H q 28 [a.v, b.v, c.v, d.v]) (hq : h.size + 2 < q) (own : UntOwn H (h.size + 3) a b c d u)
    (hll : bl = full.length) (hlen : full.length ≤ 1048576) (hu : ∀ st', Stp (endR u) st u st' → (∀ r', st' = .ok r' → r' = []) → UnitE full u st') : endZ bl h.size (h.size + 1) (h.size + 2) q [j0, j1, j2] (ReadQ h full) H := by
  unfold endZ
  refine join_of (cs := []) (fun _ h' => ∃ st', RdZ h' (h.size + 2) bp bl bc full st' ∧ Ch [h.size + 2] H h' ∧ UnitE full u st') ?_ ?_
  · refine rd.why ?_
    cases hst : st with
    | error e =>
      rw [hst] at rd hu
      refine cond_f (eq0 rd.err) ?_
      exact meet_mk (cs := []) () rfl rfl ⟨.error e, rd, Ch.refl _ _, hu _ rfl (fun r' hr => nomatch hr)⟩
    | ok r =>
      rw [hst] at rd hu
      refine cond_t rfl ?_
      refine rd.pos ?_
      intro fr hfr hat
      have hat := hat r rfl
      refine cond_mk (fun w => ?_) (fun w => ?_)
      · have w := of_decide_eq_true w
        refine rd.pos ?_
        intro fr2 hfr2 hat2
        have hat2 := hat2 r rfl
        refine call_of (zrefuse_hc rd (i := fr2) (why := 14) hfr2 (by decide)) ?_
        rintro _ h4 ⟨rfl, s4, k4⟩
        refine ⟨(), rfl, ?_⟩
        refine meet_mk (cs := []) () rfl rfl ⟨_, s4, k4, hu _ ?_ (fun r' hr => nomatch hr)⟩
        unfold Stp endR refS
        simp only
        rw [if_neg (fun e => by rw [e] at hat; simp at hat; omega), hat2]
      · have w := of_decide_eq_false w
        have hr : r = [] := List.length_eq_zero_iff.1 (by omega)
        refine meet_mk (cs := []) () rfl rfl ⟨_, rd, Ch.refl _ _, hu _ ?_ (fun r' h => by cases h; exact hr)⟩
        unfold Stp endR
        simp only
        rw [if_pos hr, hr]
        exact ⟨rfl, rfl⟩
  rintro ⟨⟩ h4 ⟨st', s4, k4, ue⟩
  dsimp only [flat, unc, unc1, List.nil_append, List.cons_append]
  have e4 : Ext h h4 := Ch.trans e k4 (fun i hi hl => by simp at hi; omega)
  have b1 := b1.keep k4 (by simp)
  have b2 := b2.keep k4 (by simp)
  have b17 := b17.keep k4 (by simp; omega)
  have own := own.keep k4 (fun i hi hl => by simp at hi; omega)
  refine s4.why ?_
  cases st' with
  | error er =>
    refine cond_t (ne0 s4.err) ?_
    obtain ⟨at_, bz, hz⟩ := s4
    refine loads_box bz (((full.length - er.1 : Nat) : Int), (er.2 : Int), ()) rfl ?_
    dsimp only [flat, unc, unc1, List.nil_append, List.cons_append]
    refine stores_of b1 rfl (by simp [zU]) ?_
    intro h5 c1 k5 z5
    have c1 : Box h5 h.size 28 [sl0.v, sl0.v, sl0.v, sl0.v] := c1
    refine ⟨⟨(bz.keep k5 (by simp)).cells _ rfl, trivial⟩, ?_⟩
    refine stores_of (b2.keep k5 (by simp)) rfl (by simp) ?_
    intro h6 c2 k6 z6
    have c2 : Box h6 (h.size + 1) 34 [.int .i64 (full.length - er.1 : Nat), .int .i64 er.2] := c2
    refine outZ_of (c1.keep k6 (by simp)) c2 ⟨sl0, sl0, sl0, sl0, unt0, _, _, rfl, UntOwn.zero _ _, ?_, fun _ => ⟨rfl, rfl, rfl, rfl⟩, (e4.st k5 (Nat.le_refl _)).st k6 (by omega)⟩
    unfold ReadZ
    rw [readR_in hlen]
    unfold UnitE at ue
    cases hu : unitR full with
    | error e => rw [hu] at ue; cases ue; exact ⟨rfl, rfl, rfl⟩
    | ok q => rw [hu] at ue; cases ue.2
  | ok r =>
    refine cond_f rfl ?_
    refine loads_box b17 ((a.p, a.l, a.c), (b.p, b.l, b.c), (c.p, c.l, c.c), (d.p, d.l, d.c), ()) rfl ?_
    dsimp only [flat, unc, unc1, List.nil_append, List.cons_append]
    refine stores_of b1 rfl (by simp [zU]) ?_
    intro h5 c1 k5 z5
    have c1 : Box h5 h.size 28 [a.v, b.v, c.v, d.v] := c1
    refine stores_of (b2.keep k5 (by simp)) rfl (by simp) ?_
    intro h6 c2 k6 z6
    have c2 : Box h6 (h.size + 1) 34 [.int .i64 (0 : Nat), .int .i64 (0 : Nat)] := c2
    refine outZ_of (c1.keep k6 (by simp)) c2 ⟨a, b, c, d, u, 0, 0, rfl, ((own.keep k5 (fun i hi hl => by simp at hi; omega)).keep k6 (fun i hi hl => by simp at hi; omega)).mono (by omega), ?_, fun h => absurd rfl h, (e4.st k5 (Nat.le_refl _)).st k6 (by omega)⟩
    unfold ReadZ
    rw [readR_in hlen]
    unfold UnitE at ue
    cases hu : unitR full with
    | error e => rw [hu] at ue; cases ue
    | ok q => rw [hu] at ue; exact ⟨ue.1, rfl, rfl⟩
def globZ (ll00 : Nat) (a1 a2 a4 a17 : Nat) (n44 : Int) : T :=
     T.call Tryz.prog 22 [.pointer (some ⟨a4, 0, none⟩), .int .i64 (2 : Int)] false [(false, [.int .u32])] <| fun (n47 : Int) =>
     T.loop [(false, [.int .i64]), (false, [.int .i64])] [.int .i64 n44, .int .i64 (0 : Int)] <| fun (n48 : Int) (n49 : Int) =>
     cond (decide (n49 < (IntKind.wrap .i64 n47)))
      (T.loads ⟨a4, 0 + 2 + 1, none⟩ [.int .i64] <| fun (n50 : Int) =>
      cond (n50 == (0 : Int))
       (T.loads ⟨a4, 0 + 1, none⟩ [.int .i64] <| fun (n51 : Int) =>
       T.loads ⟨a17, 0 + 3, none⟩ [.slice 9] <| fun (p52 : Option Addr) (l53 : Nat) (l54 : Nat) =>
       T.call Tryz.prog 24 [.pointer (some ⟨a4, 0, none⟩)] false [(false, [.string])] <| fun (s55 : ByteArray) =>
       T.stable [(⟨a17, 0 + 3, none⟩, [.slice p52 l53 l54])] <|
       T.sem Tryz.prog (Instr.buildSlice 26 1 #[(0, .string s55)]) false [(false, [.slice 0])] <| fun (p56 : Option Addr) (l57 : Nat) (l58 : Nat) =>
       T.stable [(⟨a17, 0 + 3, none⟩, [.slice p52 l53 l54])] <|
       T.sem Tryz.prog (Builtin.append_ #[26, 26] 26 #[.slice p52 l53 l54, .slice p56 l57 l58]) false [(false, [.slice 0])] <| fun (p59 : Option Addr) (l60 : Nat) (l61 : Nat) =>
       T.stores ⟨a17, 0 + 3, none⟩ [.slice p59 l60 l61] <|
       T.loads ⟨a17, 0, none⟩ [.slice 102, .slice 102, .slice 78, .slice 9] <| fun (p62 : Option Addr) (l63 : Nat) (l64 : Nat) (p65 : Option Addr) (l66 : Nat) (l67 : Nat) (p68 : Option Addr) (l69 : Nat) (l70 : Nat) (p71 : Option Addr) (l72 : Nat) (l73 : Nat) =>
       T.call Tryz.prog 26 [.pointer (some ⟨a4, 0, none⟩), .int .i64 n51, .agg #[.slice p62 l63 l64, .slice p65 l66 l67, .slice p68 l69 l70, .slice p71 l72 l73]] true [] <| T.again 2 [.int .i64 n51, .int .i64 (IntKind.wrap .i64 (n49 + (1 : Int)))])
       (endZ ll00 a1 a2 a4 a17))
      (endZ ll00 a1 a2 a4 a17)
theorem gOk_grow {t d : List Itm} {e : List Eqn} {us : List ByteArray} {x : ByteArray} (h1 : itemsOk 0 [] t = true) (h2 : itemsOk 1 (namesI [] t) d = true) (h3 : equsOk (namesI (namesI [] t) d) e = true) (h4 : globsOk (namesE (namesI (namesI [] t) d) e) nam0 us = true) (n1 : t.length + d.length ≤ 8192) (n2 : e.length ≤ 8192) :
    gOk (namesE (namesI (namesI [] t) d) e) (us.foldl (fun _ x => x) nam0) x = decide (untR ⟨t, d, e, us ++ [x]⟩ = 0) := by
  rw [untR_in n1 n2]
  unfold untOk Unt.names
  simp only [h1, h2, h3, h4, Bool.true_and, globsOk_snoc]
theorem equOk_grow {t d : List Itm} {us : List Eqn} {x : Eqn} (h1 : itemsOk 0 [] t = true) (h2 : itemsOk 1 (namesI [] t) d = true) (h3 : equsOk (namesI (namesI [] t) d) us = true) (n1 : t.length + d.length ≤ 8192) (n2 : us.length + 1 ≤ 8192) :
    equOk (us.foldl (fun D p => p.1 :: D) (namesI (namesI [] t) d)) x = decide (untR ⟨t, d, us ++ [x], []⟩ = 0) := by
  rw [untR_in n1 (by simp; omega)]
  unfold untOk
  simp only [h1, h2, h3, Bool.true_and, equsOk_snoc, globsOk, Bool.and_true]
theorem growS_ok {full : Bt} {i : Nat} {u : Unt} {st : St} {r : Bt} (h : growS full i u st = .ok r) : decide (untR u = 0) = true ∧ st = .ok r := by
  unfold growS at h
  split at h
  · rename_i hh
    exact ⟨hh, h⟩
  · cases hs : st <;> rw [hs] at h <;> cases h
end
end Go.Sx.Ob

set_option linter.unusedVariables false
set_option linter.unusedSimpArgs false
set_option maxRecDepth 100000
namespace Go.Sx.Ob
open Go.Proofs
theorem LsI.keep2 {h h' : Hp} {b : Nat} {p : Option Addr} {l c : Nat} {us : List (Sli × Itm)} {g q : Nat} {xs : List Value} (s : LsI h b p l c us) (k : Ch [g, q] h h') (hg : g < b) (bq : Box h q 28 xs) : LsI h' b p l c us :=
  Ls.keepW s k (fun i hi _ => by
    simp at hi
    rcases hi with rfl | rfl
    · exact .inl hg
    · exact .inr ⟨28, _, bq, by decide, by decide⟩)
theorem LsE.keep2 {h h' : Hp} {b : Nat} {p : Option Addr} {l c : Nat} {us : List (Sli × Eqn)} {g q : Nat} {xs : List Value} (s : LsE h b p l c us) (k : Ch [g, q] h h') (hg : g < b) (bq : Box h q 28 xs) : LsE h' b p l c us :=
  Ls.keepW s k (fun i hi _ => by
    simp at hi
    rcases hi with rfl | rfl
    · exact .inl hg
    · exact .inr ⟨28, _, bq, by decide, by decide⟩)
section
variable {h0 h H : Hp} {bp : Option Addr} {bl bc : Nat} {full : Bt} {st : St} {a b c : Sli} {q : Nat} {T D : List (Sli × Itm)} {E : List (Sli × Eqn)}
def gD (T D : List (Sli × Itm)) (E : List (Sli × Eqn)) : List ByteArray := namesE (namesI (namesI [] (T.map (·.2))) (D.map (·.2))) (E.map (·.2))
theorem globZ_of {j0 j1 : List Value → Hp → Prop} (e0 : Ext h0 h) (e : Ext h H) (rd : RdZ H (h.size + 2) bp bl bc full st) (v : VwB h0 bp bl full) (hc : bl ≤ bc) (b1 : Box H h.size 28 zU) (b2 : Box H (h.size + 1) 34 [.int .i64 0, .int .i64 0]) (b17 : Box H q 28 [a.v, b.v, c.v, sl0.v]) (hq : h.size + 2 < q)
    (oT : LsI H (h.size + 3) a.p a.l a.c T) (oD : LsI H (h.size + 3) b.p b.l b.c D) (oE : LsE H (h.size + 3) c.p c.l c.c E) (nT : T.length ≤ 65535) (nD : D.length ≤ 65535) (nE : E.length ≤ 65535)
    (hlen : full.length ≤ 1048576) (hgood : ∀ r, st = .ok r → itemsOk 0 [] (T.map (·.2)) = true ∧ itemsOk 1 (namesI [] (T.map (·.2))) (D.map (·.2)) = true ∧ equsOk (namesI (namesI [] (T.map (·.2))) (D.map (·.2))) (E.map (·.2)) = true ∧ T.length + D.length ≤ 8192 ∧ E.length ≤ 8192)
    (hu : ∀ G st' st'', Stp (cntR none fun n => globsR (gD T D E) n nam0) st G st' → Stp (endR ⟨T.map (·.2), D.map (·.2), E.map (·.2), G⟩) st' ⟨T.map (·.2), D.map (·.2), E.map (·.2), G⟩ st'' → (∀ r', st'' = .ok r' → r' = []) → UnitE full ⟨T.map (·.2), D.map (·.2), E.map (·.2), G⟩ st'') (n44 : Int) :
    globZ bl h.size (h.size + 1) (h.size + 2) q n44 [j0, j1] (ReadQ h full) H := by
  unfold globZ
  have hll := v.len
  have hgl := rd.lt
  have hql := b17.lt
  have e0H := e0.trans e
  refine call_of (znumber_hc e0H rd v (by omega) (w := 2) (by omega)) ?_
  rintro _ h3 ⟨n, st3, rfl, hn, s3, p3, k3⟩
  refine ⟨((n : Int), ()), rfl, ?_⟩
  dsimp only [flat, unc, unc1, List.nil_append, List.cons_append]
  have hz3 := k3.size
  rw [wrap_i64 (x := (n : Int)) (by omega) (by omega)]
  have hgood3 : ∀ r, st3 = .ok r → ∃ r', st = .ok r' := by
    intro r hr
    cases st with
    | error e => have : st3 = .error e := p3; rw [this] at hr; cases hr
    | ok r' => exact ⟨r', rfl⟩
  have hcnt : ∀ us st', Stp (globsR (gD T D E) n nam0) st3 us st' → Stp (cntR none fun n => globsR (gD T D E) n nam0) st us st' := fun us st' ht => by
    have : Stp (fun r => andR (numR 2 r) fun n r1 => globsR (gD T D E) n nam0 r1) st us st' := Stp.and (f := numR 2) p3 ht
    exact this
  rw [globsR_many] at hcnt
  refine loop_of (cs := [(false, [.int .i64]), (false, [.int .i64])]) (fun y m h' => ∃ (k : Nat) (us : List (Sli × ByteArray)) (st1 : St) (sl : Sli), y.2.1 = ((n - k : Nat) : Int) ∧ k ≤ n ∧ m = k ∧ us.length + k = n ∧ RdZ h' (h.size + 2) bp bl bc full st1 ∧ Ch [h.size + 2, q] H h' ∧ Box h' q 28 [a.v, b.v, c.v, sl.v] ∧ LsS h' H.size sl.p sl.l sl.c us ∧
      Many (globR (gD T D E)) (fun _ x => x) n nam0 st3 (us.map (·.2)) st1 k ∧ (∀ r, st1 = .ok r → globsOk (gD T D E) nam0 (us.map (·.2)) = true ∧ ∃ r', st = .ok r')) (n44, (0 : Int), ()) n rfl
    ⟨n, [], st3, sl0, by rw [Nat.sub_self]; rfl, Nat.le_refl _, rfl, by simp, s3, k3.mono (by simp), b17.keep k3 (by simp; omega), Ls.nil _ _, Many.start _ _ _ _ _, fun r hr => ⟨by simp [globsOk], hgood3 r hr⟩⟩ ?_
  clear s3 k3 hz3
  rintro ⟨n8, n9, ⟨⟩⟩ m h5 ⟨k, us, st1, sl, hk, hkn, rfl, hus, s5, k5, c17, ls, mm, hg5⟩
  simp only at hk
  subst hk
  dsimp only [flat, unc, unc1, List.nil_append, List.cons_append]
  have e5 : Ext h h5 := Ch.trans e k5 (fun i hi hl => by simp at hi; omega)
  have hz5 := k5.size
  have c1 : Box h5 h.size 28 zU := b1.keep k5 (by simp; omega)
  have c2 : Box h5 (h.size + 1) 34 [.int .i64 0, .int .i64 0] := b2.keep k5 (by simp; omega)
  have hend : (m = 0 ∨ ∃ e, st1 = .error e) → ∀ J : List Value → Hp → Prop, endZ bl h.size (h.size + 1) (h.size + 2) q [j0, j1, J] (ReadQ h full) h5 := by
    intro hm J
    refine endZ_of (u := ⟨T.map (·.2), D.map (·.2), E.map (·.2), us.map (·.2)⟩) e5 s5 c1 c2 c17 hq ⟨⟨T, rfl, nT, LsI.keep2 oT k5 (by omega) b17⟩, ⟨D, rfl, nD, LsI.keep2 oD k5 (by omega) b17⟩, ⟨E, rfl, nE, LsE.keep2 oE k5 (by omega) b17⟩, ⟨us, rfl, by omega, ls.mono (by omega)⟩⟩ hll hlen ?_
    exact fun st' => hu _ _ st' (hcnt _ _ (mm.stop hm))
  refine cond_mk (fun w => ?_) (fun w => ?_)
  · have w := of_decide_eq_true w
    refine s5.why ?_
    cases hst1 : st1 with
    | error er =>
      have s5' := s5
      rw [hst1] at s5'
      refine cond_f (eq0 s5'.err) ?_
      exact hend (.inr ⟨er, hst1⟩) _
    | ok rr =>
      clear hend
      rw [← hst1]
      refine cond_t (by rw [hst1]; rfl) ?_
      refine s5.pos ?_
      intro f2 hf2 hat2
      refine loads_box c17 ((sl.p, sl.l, sl.c), ()) rfl ?_
      dsimp only [flat, unc, unc1, List.nil_append, List.cons_append]
      refine call_of (ztext_hc (e0.trans e5) s5 v hc (by omega)) ?_
      rintro _ h6 ⟨x, st6, rfl, hx, s6, q6, k6⟩
      refine ⟨(x, ()), rfl, ?_⟩
      dsimp only [flat, unc, unc1, List.nil_append, List.cons_append]
      have hz6 := k6.size
      have d17 := c17.keep k6 (by simp; omega)
      have ls6 := ls.keep k6 (fun i hi hl => by simp at hi; omega)
      have hlen := ls.len
      refine ⟨⟨d17.cells _ rfl, trivial⟩, ?_⟩
      refine push_st (vs := [.string x]) und28 strZ rfl (by omega) (by omega) (by kernel_rfl) rfl rfl ls6.sl (by omega) (by omega) (by omega) (fun h' ee => ⟨(d17.keep ee (by simp)).cells _ rfl, trivial⟩) ?_
      intro p' c' h7 sl7 k7 hp'
      have hblk := Ob.SL.blk ls6.sl
      have hz7 := k7.size
      have d17 := d17.keep k7 (fun hi => by have := (hblk _ hi).1; omega)
      have s7 := s6.keep k7 (fun hi => by have := (hblk _ hi).1; omega)
      refine stores_of d17 rfl (by simp) ?_
      intro h8 b8 k8 z8
      have b8 : Box h8 q 28 [a.v, b.v, c.v, (⟨p', sl.l + 1, c'⟩ : Sli).v] := b8
      have s8 := s7.keep k8 (by simp; omega)
      have l8 : LsS h8 H.size p' (sl.l + 1) c' (us ++ [(sl0, x)]) := by
        have : LsS h7 H.size p' (sl.l + 1) c' (us ++ [(sl0, x)]) := by
          refine ⟨by rw [List.map_append]; exact sl7, ?_, ?_⟩
          · intro u hu
            rcases List.mem_append.1 hu with hu | hu
            · exact SL.keepU (ls6.own u hu) k7 (Ob.SL.boxU ls6.sl) (by decide)
            · rw [List.mem_singleton.1 hu]
              exact SL.nil _ _ _ _
          · intro u hu
            rcases List.mem_append.1 hu with hu | hu
            · exact ls6.ok u hu
            · rw [List.mem_singleton.1 hu]
              exact hx
        exact this.keep k8 (fun i hi hl => by simp at hi; omega)
      have k08 : Ch [h.size + 2, q] H h8 := ((k5.trans k6 (fun i hi hl => by simp at hi; simp [hi])).trans k7 (fun i hi hl => by have := (hblk _ hi).1; omega)).trans k8 (fun i hi hl => by simp at hi; simp [hi])
      refine loads_box b8 ((a.p, a.l, a.c), (b.p, b.l, b.c), (c.p, c.l, c.c), (p', sl.l + 1, c'), ()) rfl ?_
      dsimp only [flat, unc, unc1, List.nil_append, List.cons_append]
      have hv : UntAt h8 a b c ⟨p', sl.l + 1, c'⟩ ⟨T.map (·.2), D.map (·.2), E.map (·.2), (us ++ [((sl0 : Sli), x)]).map (·.2)⟩ :=
        ⟨LsI.at (LsI.keep2 oT k08 (by omega) b17) nT, LsI.at (LsI.keep2 oD k08 (by omega) b17) nD, LsE.at (LsE.keep2 oE k08 (by omega) b17) nE, LsS.at l8 (by simp; omega)⟩
      refine call_of (zgrow_hc s8 (i := f2) hf2 hv) ?_
      rintro _ h10 ⟨rfl, s10, k10⟩
      refine ⟨(), rfl, ?_⟩
      dsimp only [flat, unc, unc1, List.nil_append, List.cons_append]
      have hz8 := k08.size
      rw [wrap_i64 (by omega) (by omega)]
      refine again_mk (cs := [(false, [.int .i64]), (false, [.int .i64])]) ((f2 : Int), ((n - (m - 1) : Nat) : Int), ()) (m - 1) rfl (by omega) (by rw [show ((n - m : Nat) : Int) + 1 = ((n - (m - 1) : Nat) : Int) by omega]; rfl) ?_
      obtain ⟨hg1, r', hr'⟩ := hg5 rr hst1
      obtain ⟨g1, g2, g3, g4, g5⟩ := hgood r' hr'
      have hgr : gOk (gD T D E) ((us.map (·.2)).foldl (fun _ x => x) nam0) x = decide (untR ⟨T.map (·.2), D.map (·.2), E.map (·.2), us.map (·.2) ++ [x]⟩ = 0) :=
        gOk_grow g1 g2 g3 hg1 (by simp only [List.length_map]; omega) (by simp only [List.length_map]; omega)
      have hq : Stp (globR (gD T D E) ((us.map (·.2)).foldl (fun _ x => x) nam0)) st1 x (growS full f2 ⟨T.map (·.2), D.map (·.2), E.map (·.2), (us ++ [((sl0 : Sli), x)]).map (·.2)⟩ st6) := by
        refine Stp.grow (f := textR) q6 (fun r hr => ?_) hat2
        rw [List.map_append]
        exact hgr
      refine ⟨m - 1, us ++ [((sl0 : Sli), x)], _, ⟨p', sl.l + 1, c'⟩, rfl, by omega, rfl, by simp; omega, s10, k08.trans k10 (fun i hi hl => by simp at hi; simp [hi]), b8.keep k10 (by simp; omega), l8.keep k10 (fun i hi hl => by simp at hi; omega), ?_, ?_⟩
      · rw [List.map_append]
        refine Many.step (st1 := st1) (by rw [show m - 1 + 1 = m by omega]; exact mm) ?_
        rw [List.map_append] at hq
        exact hq
      · intro r hr
        refine ⟨?_, r', hr'⟩
        rw [List.map_append, List.map_singleton, globsOk_snoc, hg1, Bool.true_and, hgr]
        have := (growS_ok hr).1
        rw [List.map_append] at this
        exact this
  · have w := of_decide_eq_false w
    exact hend (.inl (by omega)) _
end
end Go.Sx.Ob

set_option linter.unusedVariables false
set_option linter.unusedSimpArgs false
set_option maxRecDepth 100000
namespace Go.Sx.Ob
open Go.Proofs
def eqsZ (ll00 : Nat) (a1 a2 a4 a17 : Nat) : T :=
   T.loads ⟨a4, 0 + 1, none⟩ [.int .i64] <| fun (n42 : Int) =>
   T.call Tryz.prog 22 [.pointer (some ⟨a4, 0, none⟩), .int .i64 (2 : Int)] false [(false, [.int .u32])] <| fun (n43 : Int) =>
   T.join []
    (T.loads ⟨a4, 0 + 2 + 1, none⟩ [.int .i64] <| fun (n44 : Int) =>
    cond (n44 == (0 : Int))
     (cond (decide ((IntKind.wrap .i64 n43) > (8192 : Int)))
      (T.call Tryz.prog 23 [.pointer (some ⟨a4, 0, none⟩), .int .i64 n42, .int .i64 (4 : Int)] true [] <| T.again 1 [])
      (T.again 1 []))
     (T.again 1 [])) <| T.loop [(false, [.int .i64]), (false, [.int .i64])] [.int .i64 n42, .int .i64 (0 : Int)] <| fun (n44 : Int) (n45 : Int) =>
   cond (decide (n45 < (IntKind.wrap .i64 n43)))
    (T.loads ⟨a4, 0 + 2 + 1, none⟩ [.int .i64] <| fun (n46 : Int) =>
    cond (n46 == (0 : Int))
     (T.loads ⟨a4, 0 + 1, none⟩ [.int .i64] <| fun (n47 : Int) =>
     T.call Tryz.prog 24 [.pointer (some ⟨a4, 0, none⟩)] false [(false, [.string])] <| fun (s48 : ByteArray) =>
     T.loads ⟨a17, 0 + 2, none⟩ [.slice 78] <| fun (p49 : Option Addr) (l50 : Nat) (l51 : Nat) =>
     T.call Tryz.prog 25 [.pointer (some ⟨a4, 0, none⟩)] false [(true, [.slice 104, .int .u32])] <| fun (p52 : Option Addr) (l53 : Nat) (l54 : Nat) (n55 : Int) =>
     T.stable [(⟨a17, 0 + 2, none⟩, [.slice p49 l50 l51])] <|
     T.sem Tryz.prog (Instr.buildSlice 25 1 #[(0, .agg #[.string s48, .slice p52 l53 l54, .int .u32 n55])]) false [(false, [.slice 0])] <| fun (p56 : Option Addr) (l57 : Nat) (l58 : Nat) =>
     T.stable [(⟨a17, 0 + 2, none⟩, [.slice p49 l50 l51])] <|
     T.sem Tryz.prog (Builtin.append_ #[25, 25] 25 #[.slice p49 l50 l51, .slice p56 l57 l58]) false [(false, [.slice 0])] <| fun (p59 : Option Addr) (l60 : Nat) (l61 : Nat) =>
     T.stores ⟨a17, 0 + 2, none⟩ [.slice p59 l60 l61] <|
     T.loads ⟨a17, 0, none⟩ [.slice 102, .slice 102, .slice 78, .slice 9] <| fun (p62 : Option Addr) (l63 : Nat) (l64 : Nat) (p65 : Option Addr) (l66 : Nat) (l67 : Nat) (p68 : Option Addr) (l69 : Nat) (l70 : Nat) (p71 : Option Addr) (l72 : Nat) (l73 : Nat) =>
     T.call Tryz.prog 26 [.pointer (some ⟨a4, 0, none⟩), .int .i64 n47, .agg #[.slice p62 l63 l64, .slice p65 l66 l67, .slice p68 l69 l70, .slice p71 l72 l73]] true [] <| T.again 1 [.int .i64 n47, .int .i64 (IntKind.wrap .i64 (n45 + (1 : Int)))])
     (globZ ll00 a1 a2 a4 a17 n44))
    (globZ ll00 a1 a2 a4 a17 n44)
section
variable {h0 h H : Hp} {bp : Option Addr} {bl bc : Nat} {full : Bt} {st : St} {a b : Sli} {q : Nat} {T D : List (Sli × Itm)}
theorem eqsZ_of {j0 : List Value → Hp → Prop} (e0 : Ext h0 h) (e : Ext h H) (rd : RdZ H (h.size + 2) bp bl bc full st) (v : VwB h0 bp bl full) (hc : bl ≤ bc) (b1 : Box H h.size 28 zU) (b2 : Box H (h.size + 1) 34 [.int .i64 0, .int .i64 0]) (b17 : Box H q 28 [a.v, b.v, sl0.v, sl0.v]) (hq : h.size + 2 < q)
    (oT : LsI H (h.size + 3) a.p a.l a.c T) (oD : LsI H (h.size + 3) b.p b.l b.c D) (nT : T.length ≤ 65535) (nD : D.length ≤ 65535)
    (hlen : full.length ≤ 1048576) (hgood : ∀ r, st = .ok r → itemsOk 0 [] (T.map (·.2)) = true ∧ itemsOk 1 (namesI [] (T.map (·.2))) (D.map (·.2)) = true ∧ T.length + D.length ≤ 8192)
    (hu : ∀ E G st1 st' st'', Stp (cntR (some 8192) fun n => equsR n (namesI (namesI [] (T.map (·.2))) (D.map (·.2)))) st E st1 → Stp (cntR none fun n => globsR (namesE (namesI (namesI [] (T.map (·.2))) (D.map (·.2))) E) n nam0) st1 G st' → Stp (endR ⟨T.map (·.2), D.map (·.2), E, G⟩) st' ⟨T.map (·.2), D.map (·.2), E, G⟩ st'' → (∀ r', st'' = .ok r' → r' = []) → UnitE full ⟨T.map (·.2), D.map (·.2), E, G⟩ st'') :
    eqsZ bl h.size (h.size + 1) (h.size + 2) q [j0] (ReadQ h full) H := by
  unfold eqsZ
  have hll := v.len
  have hgl := rd.lt
  have hql := b17.lt
  have e0H := e0.trans e
  have hg0 : h0.size ≤ h.size + 2 := by have := e0.size; omega
  refine rd.pos ?_
  intro fr hfr hat
  refine call_of (znumber_hc e0H rd v (by omega) (w := 2) (by omega)) ?_
  rintro _ h3 ⟨n, st3, rfl, hn, s3, p3, k3⟩
  refine ⟨((n : Int), ()), rfl, ?_⟩
  dsimp only [flat, unc, unc1, List.nil_append, List.cons_append]
  have hz3 := k3.size
  rw [wrap_i64 (x := (n : Int)) (by omega) (by omega)]
  refine join_of (cs := []) (fun _ h' => RdZ h' (h.size + 2) bp bl bc full (if decide (8192 < n) = true then refS full fr 4 st3 else st3) ∧ Ch [h.size + 2] h3 h') ?_ ?_
  · refine s3.why ?_
    cases hst : st3 with
    | error e =>
      have s3' := s3
      rw [hst] at s3'
      refine cond_f (eq0 s3'.err) ?_
      refine meet_mk (cs := []) () rfl rfl ⟨?_, Ch.refl _ _⟩
      have : (if decide (8192 < n) = true then refS full fr 4 (Except.error e) else Except.error e) = (Except.error e : St) := by split <;> rfl
      rw [this]
      exact s3'
    | ok r =>
      refine cond_t rfl ?_
      refine cond_mk (fun w => ?_) (fun w => ?_)
      · have w := of_decide_eq_true w
        refine call_of (zrefuse_hc s3 (i := fr) (why := 4) hfr (by decide)) ?_
        rintro _ h4 ⟨rfl, s4, k4⟩
        refine ⟨(), rfl, ?_⟩
        refine meet_mk (cs := []) () rfl rfl ⟨?_, k4⟩
        rw [if_pos (by simp; omega), ← hst]
        exact s4
      · have w := of_decide_eq_false w
        refine meet_mk (cs := []) () rfl rfl ⟨?_, Ch.refl _ _⟩
        rw [if_neg (by simp; omega), ← hst]
        exact s3
  rintro ⟨⟩ h4 ⟨s4, k4⟩
  dsimp only [flat, unc, unc1, List.nil_append, List.cons_append]
  generalize hst4 : (if decide (8192 < n) = true then refS full fr 4 st3 else st3) = st4 at s4
  have k04 : Ch [h.size + 2] H h4 := k3.trans k4 (fun i hi _ => hi)
  generalize hD : namesI (namesI [] (T.map (·.2))) (D.map (·.2)) = D0 at *
  have hok4 : ∀ r, st4 = .ok r → n ≤ 8192 ∧ ∃ r', st = .ok r' := by
    intro r hr
    have h3 : ¬ 8192 < n ∧ st3 = .ok r := by
      rw [← hst4] at hr
      split at hr
      · cases hs : st3 <;> rw [hs] at hr <;> cases hr
      · rename_i hh
        exact ⟨by simpa using hh, hr⟩
    refine ⟨by omega, ?_⟩
    cases st with
    | error e => have : st3 = .error e := p3; rw [this] at h3; cases h3.2
    | ok r' => exact ⟨r', rfl⟩
  have hcnt : ∀ us st', Stp (equsR n D0) st4 us st' → Stp (cntR (some 8192) fun n => equsR n D0) st us st' := by
    intro us st' t
    refine Stp.cntZ p3 hat (c := decide (8192 < n)) ?_ hst4.symm t
    intro r hr
    unfold over
    rfl
  rw [equsR_many] at hcnt
  refine loop_of (cs := [(false, [.int .i64]), (false, [.int .i64])]) (fun y m h' => ∃ (k : Nat) (us : List (Sli × Eqn)) (st1 : St) (sl : Sli), y.2.1 = ((n - k : Nat) : Int) ∧ k ≤ n ∧ m = k ∧ us.length + k = n ∧ RdZ h' (h.size + 2) bp bl bc full st1 ∧ Ch [h.size + 2, q] H h' ∧ Box h' q 28 [a.v, b.v, sl.v, sl0.v] ∧ LsE h' H.size sl.p sl.l sl.c us ∧
      Many equR (fun D x => x.1 :: D) n D0 st4 (us.map (·.2)) st1 k ∧ (∀ r, st1 = .ok r → equsOk D0 (us.map (·.2)) = true ∧ n ≤ 8192 ∧ ∃ r', st = .ok r')) ((fr : Int), (0 : Int), ()) n rfl
    ⟨n, [], st4, sl0, by rw [Nat.sub_self]; rfl, Nat.le_refl _, rfl, by simp, s4, k04.mono (by simp), b17.keep k04 (by simp; omega), Ls.nil _ _, Many.start _ _ _ _ _, fun r hr => ⟨by simp [equsOk], hok4 r hr⟩⟩ ?_
  clear s4 k04 k4 s3 k3 hz3 hok4 hst4
  rintro ⟨n8, n9, ⟨⟩⟩ m h5 ⟨k, us, st1, sl, hk, hkn, rfl, hus, s5, k5, c17, ls, mm, hg5⟩
  simp only at hk
  subst hk
  dsimp only [flat, unc, unc1, List.nil_append, List.cons_append]
  have e5 : Ext h h5 := Ch.trans e k5 (fun i hi hl => by simp at hi; omega)
  have hz5 := k5.size
  have hend : (m = 0 ∨ ∃ e, st1 = .error e) → ∀ J : List Value → Hp → Prop, globZ bl h.size (h.size + 1) (h.size + 2) q n8 [j0, J] (ReadQ h full) h5 := by
    intro hm J
    refine globZ_of (E := us) e0 e5 s5 v hc (b1.keep k5 (by simp; omega)) (b2.keep k5 (by simp; omega)) c17 hq (LsI.keep2 oT k5 (by omega) b17) (LsI.keep2 oD k5 (by omega) b17) (ls.mono (by omega)) nT nD (by omega) hlen ?_ ?_ n8
    · intro r hr
      obtain ⟨x1, x2, r', x3⟩ := hg5 r hr
      obtain ⟨y1, y2, y3⟩ := hgood r' x3
      rw [hD]
      exact ⟨y1, y2, x1, y3, by omega⟩
    · intro G st' st''
      unfold gD
      rw [hD]
      exact hu _ _ _ st' st'' (hcnt _ _ (mm.stop hm))
  refine cond_mk (fun w => ?_) (fun w => ?_)
  · have w := of_decide_eq_true w
    refine s5.why ?_
    cases hst1 : st1 with
    | error er =>
      have s5' := s5
      rw [hst1] at s5'
      refine cond_f (eq0 s5'.err) ?_
      exact hend (.inr ⟨er, hst1⟩) _
    | ok rr =>
      clear hend
      rw [← hst1]
      refine cond_t (by rw [hst1]; rfl) ?_
      refine s5.pos ?_
      intro f2 hf2 hat2
      refine call_of (ztext_hc (e0.trans e5) s5 v hc (by omega)) ?_
      rintro _ h6 ⟨x1, st6, rfl, hx, s6, q6, k6⟩
      refine ⟨(x1, ()), rfl, ?_⟩
      dsimp only [flat, unc, unc1, List.nil_append, List.cons_append]
      have hz6 := k6.size
      have d17 := c17.keep k6 (by simp; omega)
      have ls6 := ls.keep k6 (fun i hi hl => by simp at hi; omega)
      have hlen := ls.len
      have e6 : Ext h h6 := Ch.trans e5 k6 (fun i hi hl => by simp at hi; omega)
      refine loads_box d17 ((sl.p, sl.l, sl.c), ()) rfl ?_
      dsimp only [flat, unc, unc1, List.nil_append, List.cons_append]
      refine call_of (zlin_hc (e0.trans e6) hg0 s6 v hc (by omega)) ?_
      rintro _ h7 ⟨y, st7, p, l, c, rfl, s7, q7, sy, hry, k7⟩
      refine ⟨((p, l, c), (y.num : Int), ()), rfl, ?_⟩
      dsimp only [flat, unc, unc1, List.nil_append, List.cons_append]
      have hz7 := k7.size
      have d17 := d17.keep k7 (by simp; omega)
      have ls7 := ls6.keep k7 (fun i hi hl => by simp at hi; omega)
      refine ⟨⟨d17.cells _ rfl, trivial⟩, ?_⟩
      refine push_st (vs := encE p l c (x1, y)) und27 equZ rfl (by omega) (by omega) (by kernel_rfl) rfl rfl ls7.sl (by omega) (by omega) (by omega) (fun h' ee => ⟨(d17.keep ee (by simp)).cells _ rfl, trivial⟩) ?_
      intro p' c' h8 sl8 k8 hp'
      have hblk := Ob.SL.blk ls7.sl
      have hz8 := k8.size
      have d17 := d17.keep k8 (fun hi => by have := (hblk _ hi).1; omega)
      have s8 := s7.keep k8 (fun hi => by have := (hblk _ hi).1; omega)
      refine stores_of d17 rfl (by simp) ?_
      intro h9 b9 k9 z9
      have b9 : Box h9 q 28 [a.v, b.v, (⟨p', sl.l + 1, c'⟩ : Sli).v, sl0.v] := b9
      have s9 := s8.keep k9 (by simp; omega)
      have l9 : LsE h9 H.size p' (sl.l + 1) c' (us ++ [(⟨p, l, c⟩, (x1, y))]) := by
        have : LsE h8 H.size p' (sl.l + 1) c' (us ++ [(⟨p, l, c⟩, (x1, y))]) := by
          refine ⟨by rw [List.map_append]; exact sl8, ?_, ?_⟩
          · intro u hu
            rcases List.mem_append.1 hu with hu | hu
            · exact SL.keepU (ls7.own u hu) k8 (Ob.SL.boxU ls7.sl) (by decide)
            · rw [List.mem_singleton.1 hu]
              exact SL.keepU (Sx.SL.mono sy (by omega)) k8 (Ob.SL.boxU ls7.sl) (by decide)
          · intro u hu
            rcases List.mem_append.1 hu with hu | hu
            · exact ls7.ok u hu
            · rw [List.mem_singleton.1 hu]
              exact ⟨hry, hx⟩
        exact this.keep k9 (fun i hi hl => by simp at hi; omega)
      have k09 : Ch [h.size + 2, q] H h9 := (((k5.trans k6 (fun i hi hl => by simp at hi; simp [hi])).trans k7 (fun i hi hl => by simp at hi; simp [hi])).trans k8 (fun i hi hl => by have := (hblk _ hi).1; omega)).trans k9 (fun i hi hl => by simp at hi; simp [hi])
      refine loads_box b9 ((a.p, a.l, a.c), (b.p, b.l, b.c), (p', sl.l + 1, c'), (none, 0, 0), ()) rfl ?_
      dsimp only [flat, unc, unc1, List.nil_append, List.cons_append]
      have hv : UntAt h9 a b ⟨p', sl.l + 1, c'⟩ sl0 ⟨T.map (·.2), D.map (·.2), (us ++ [((⟨p, l, c⟩ : Sli), (x1, y))]).map (·.2), []⟩ :=
        ⟨LsI.at (LsI.keep2 oT k09 (by omega) b17) nT, LsI.at (LsI.keep2 oD k09 (by omega) b17) nD, LsE.at l9 (by simp; omega), VwS.zero _⟩
      refine call_of (zgrow_hc s9 (i := f2) hf2 hv) ?_
      rintro _ h10 ⟨rfl, s10, k10⟩
      refine ⟨(), rfl, ?_⟩
      dsimp only [flat, unc, unc1, List.nil_append, List.cons_append]
      have hz9 := k09.size
      rw [wrap_i64 (by omega) (by omega)]
      refine again_mk (cs := [(false, [.int .i64]), (false, [.int .i64])]) ((f2 : Int), ((n - (m - 1) : Nat) : Int), ()) (m - 1) rfl (by omega) (by rw [show ((n - m : Nat) : Int) + 1 = ((n - (m - 1) : Nat) : Int) by omega]; rfl) ?_
      obtain ⟨hg1, hg2, r', hr'⟩ := hg5 rr hst1
      obtain ⟨g1, g2, g4⟩ := hgood r' hr'
      have hgr : equOk ((us.map (·.2)).foldl (fun D p => p.1 :: D) D0) (x1, y) = decide (untR ⟨T.map (·.2), D.map (·.2), us.map (·.2) ++ [(x1, y)], []⟩ = 0) := by
        rw [← hD]
        exact equOk_grow g1 g2 (by rw [hD]; exact hg1) (by simp only [List.length_map]; omega) (by simp only [List.length_map]; omega)
      have hq : Stp (equR ((us.map (·.2)).foldl (fun D p => p.1 :: D) D0)) st1 (x1, y) (growS full f2 ⟨T.map (·.2), D.map (·.2), (us ++ [((⟨p, l, c⟩ : Sli), (x1, y))]).map (·.2), []⟩ st7) := by
        have hB : Stp equB st1 (x1, y) st7 := Stp.and (f := textR) q6 (Stp.and (f := linR) q7 (Stp.ret _ _))
        refine Stp.grow (f := equB) hB (fun r hr => ?_) hat2
        rw [List.map_append]
        exact hgr
      refine ⟨m - 1, us ++ [((⟨p, l, c⟩ : Sli), (x1, y))], _, ⟨p', sl.l + 1, c'⟩, rfl, by omega, rfl, by simp; omega, s10, k09.trans k10 (fun i hi hl => by simp at hi; simp [hi]), b9.keep k10 (by simp; omega), l9.keep k10 (fun i hi hl => by simp at hi; omega), ?_, ?_⟩
      · rw [List.map_append]
        refine Many.step (st1 := st1) (by rw [show m - 1 + 1 = m by omega]; exact mm) ?_
        rw [List.map_append] at hq
        exact hq
      · intro r hr
        refine ⟨?_, hg2, r', hr'⟩
        rw [List.map_append, List.map_singleton, equsOk_snoc, hg1, Bool.true_and, hgr]
        have := (growS_ok hr).1
        rw [List.map_append] at this
        exact this
  · have w := of_decide_eq_false w
    exact hend (.inl (by omega)) _
end
end Go.Sx.Ob
