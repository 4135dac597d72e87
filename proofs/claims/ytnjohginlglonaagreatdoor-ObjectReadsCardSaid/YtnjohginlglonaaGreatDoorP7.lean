/- Contracts over heaps, and plain laws, for the functions that the laws of chapter 10 call, part 7: The document's Read over heaps. A refusal in words, its number; is an error the refusal that is expected? Asked: the table of powers of ten, as it is laid. Is an error the refusal that is expected? Asked: the table of powers of ten, as it is laid. Bytes over heaps; chapter 10's runs. ObjectNumbers over heaps. ObjectBack, ObjectCuts over heaps. ObjectBack, ObjectCuts over heaps, joined. Copies of lists, over heaps: copy of a slice into a slice. Roomy and Intact of the book of memory, of bytes: a copy with room behind it; it stays as it was. ObjectReads over heaps. What is handed in, opened: structs, lists; over any program. The tables, from the rows' listed variables. Units and bytes that are handed in: what they read as, and what lies in memory. Units and bytes that are handed in, joined. Bytes that were handed in are no more than the reach lets in. Condition: as each statement says. -/
import Derived.Test.YtnjohginlglonaaGreatDoorP6
import Derived.Test.YtnjohginlglonaaGreatDoorP4
import Derived.Test.YtnjohginlglonaaGreatDoorZobjIs
import Derived.Test.YtnjohginlglonaaGreatDoorZobjShelf
import Derived.Test.YtnjohginlglonaaGreatDoorP2
import Derived.Test.YtnjohginlglonaaGreatDoorSxU
import Derived.Test.YtnjohginlglonaaGreatDoorZobjTb
import Derived.Test.YtnjohginlglonaaGreatDoorP3
import Derived.Test.YtnjohginlglonaaGreatDoorP1
import Derived.Lib.ItoaLen
import Derived.Test.YtnjohginlglonaaGreatDoorRows
import Derived.ProofKit
import Derived.LaidMore
import Derived.LaidLaws
import Derived.OpenShut
import Derived.ChangeSame
import Derived.ChangeStays
import Derived.ChangeOld
import Derived.ChangeSlices
import Derived.ChangeMaps5
import Derived.JoinedCond
import Derived.Lib.LaidTab
import Derived.Stop.Joined
import Derived.Test.YtnjohginlglonaaGreatDoorTie
import Derived.Test.YtnjohginlglonaaGreatDoorCards
import Derived.SevenTiedAt
set_option linter.unusedVariables false
set_option linter.unusedSimpArgs false
set_option maxRecDepth 100000
namespace Go.Sx.Ob
open Go.Proofs
theorem zread_hc {h : Hp} {bp : Option Addr} {bl bc : Nat} {full : Bt} (v : VwB h bp bl full) (hc : bl ≤ bc) (hl : full.length ≤ 2 ^ 60) :
    HC Tryz.prog 7 #[.slice bp bl bc] h (ReadQ h full) := by
  refine hcr_of (args := [.slice bp bl bc]) mixed Tryz.func7 (by kernel_rfl) (t_spandrelref10_Read_eq bp bl bc) ?_
  unfold t_spandrelref10_Read
  have hll := v.len
  refine newB ?_
  intro h1 b1 e1 z1
  refine newB ?_
  intro h2 b2 e2 z2
  have b1 : Box h2 h.size 28 zU := b1.keep e2 (by simp)
  rw [z1] at b2 z2 ⊢
  have b2 : Box h2 (h.size + 1) 34 [.int .i64 0, .int .i64 0] := b2
  have e12 := e1.trans e2
  refine cond_mk (fun w => ?_) (fun w => ?_)
  · have w := of_decide_eq_true w
    refine failZ_of (x := 0) (y := 3) b1 b2 e12 ?_
    unfold readR
    rw [if_pos (by omega)]
  have w := of_decide_eq_false w
  have hlen : full.length ≤ 1048576 := by omega
  refine loop_of (cs := [(false, [.int .i64])]) (fun y m h' => ∃ i : Nat, y.1 = (i : Int) ∧ m = 5 - i ∧ i ≤ 5 ∧ i ≤ full.length ∧ h' = h2 ∧ headR headL full = headR (headL.drop i) (full.drop i)) ((0 : Int), ()) 5 rfl ⟨0, rfl, rfl, by omega, by omega, rfl, rfl⟩ ?_
  rintro ⟨n4, ⟨⟩⟩ m h3 ⟨i, hi, rfl, hi5, hif, rfl, hh⟩
  simp only at hi
  subst hi
  dsimp only [flat, unc, unc1, List.nil_append, List.cons_append]
  have bad : headR headL full = .error (full.length - i, 15) → readR full = .error (i, 15) := by
    intro hb
    rw [readR_in hlen]
    have := unitE_head (u := unt0) hb
    unfold UnitE at this
    cases hu : unitR full with
    | error e => rw [hu] at this; cases this; simp only [show full.length - (full.length - i) = i by omega]
    | ok q => rw [hu] at this; cases this.2
  refine cond_mk (fun q => ?_) (fun q => ?_)
  · have q := of_decide_eq_true q
    refine cond_mk (fun r => ?_) (fun r => ?_)
    · have r := of_decide_eq_true r
      exact failZ_of b1 b2 e12 (bad (by rw [hh]; exact headR_end (by omega) (by omega)))
    have r := of_decide_eq_false r
    have hlt : i < full.length := by omega
    refine need_of ⟨by omega, by omega⟩ ?_
    obtain ⟨ba, hba, hcell⟩ := (v.keep e12).cells i hlt
    refine osome_mk hba ?_
    rw [show Int.toNat (i : Int) = i from rfl]
    refine loads_of (((full[i].toNat : Nat) : Int), ()) hcell ?_
    dsimp only [flat, unc, unc1, List.nil_append, List.cons_append]
    refine need_of ⟨by omega, by omega⟩ ?_
    rw [sbyte5 (by omega)]
    have heq : (((full[i].toNat : Nat) : Int) != (((headL.getD i 0).toNat : Nat) : Int)) = !decide (full[i] = headL.getD i 0) := by
      by_cases hx : full[i] = headL.getD i 0
      · rw [decide_eq_true hx, hx]; simp
      · rw [decide_eq_false hx]
        have : ¬ full[i].toNat = (headL.getD i 0).toNat := fun e => hx (UInt8.toNat_inj.1 e)
        simp only [bne_iff_ne, ne_eq, Bool.not_false]
        omega
    refine cond_mk (fun u => ?_) (fun u => ?_)
    · rw [heq] at u
      have u : ¬ full[i] = headL.getD i 0 := by simpa using u
      exact failZ_of b1 b2 e12 (bad (by rw [hh]; exact headR_neq (by omega) hlt u))
    · rw [heq] at u
      have u : full[i] = headL.getD i 0 := by simpa using u
      rw [wrap_i64 (by omega) (by omega)]
      refine again_mk (cs := [(false, [.int .i64])]) (((i + 1 : Nat) : Int), ()) (5 - (i + 1)) rfl (by omega) rfl ?_
      exact ⟨i + 1, rfl, rfl, by omega, by omega, rfl, by rw [hh]; exact headR_step (by omega) hlt u⟩
  have q := of_decide_eq_false q
  have : i = 5 := by omega
  subst this
  clear bad
  have hh5 : headR headL full = .ok (⟨⟩, full.drop 5) := hh
  have h5f : 5 ≤ full.length := hif
  refine newB ?_
  intro h4 b4 e4 z4
  rw [z2] at b4 ⊢
  have b1 := b1.keep e4 (by simp)
  have b2 := b2.keep e4 (by simp)
  have e04 := e12.trans e4
  have hz4 : h4.size = h.size + 3 := by omega
  have s4 : RdZ h4 (h.size + 2) bp bl bc full (.ok (full.drop 5)) := ⟨5, b4, h5f, rfl⟩
  clear b4
  have hg0 : h.size ≤ h.size + 2 := by omega
  refine call_of (zsection_hc (T0 := []) (a := sl0) (bT := h.size + 3) e04 hg0 s4 v hc hl false (Ls.nil _ _) (by omega) (fun _ => ⟨rfl, rfl⟩) (by simp) (fun r hr => ⟨rfl, by simp⟩)) ?_
  rintro _ h5 ⟨T, st5, a, rfl, lT, nT, s5, p5, g5, k5⟩
  refine ⟨((a.p, a.l, a.c), (none, 0, 0), (none, 0, 0), (none, 0, 0), ()), rfl, ?_⟩
  dsimp only [flat, unc, unc1, List.nil_append, List.cons_append]
  have hz5 := k5.size
  rw [hz4] at lT
  refine newB ?_
  intro h6 b6 e6 z6
  have lT6 := lT.keep e6 (by simp)
  have s6 := s5.keep e6 (by simp)
  have b1 := (b1.keep k5 (by simp)).keep e6 (by simp)
  have b2 := (b2.keep k5 (by simp)).keep e6 (by simp)
  refine stores_of b6 rfl (by simp) ?_
  intro h7 b7 k7 z7
  have b7 : Box h7 h5.size 28 [a.v, sl0.v, sl0.v, sl0.v] := b7
  have lT7 : LsI h7 (h.size + 3) a.p a.l a.c T := Ls.keepW lT6 k7 (fun i hi _ => by
    simp at hi
    subst hi
    exact .inr ⟨28, _, b6, by decide, by decide⟩)
  have s7 := s6.keep k7 (by simp; omega)
  have b1 := b1.keep k7 (by simp; omega)
  have b2 := b2.keep k7 (by simp; omega)
  have k47 : Ch [h.size + 2] h4 h7 := (k5.trans e6 (by simp)).trans k7 (fun i hi hl => by simp at hi; omega)
  have e7 : Ext h h7 := Ch.trans e04 k47 (fun i hi hl => by simp at hi; omega)
  refine loads_box b7 ((a.p, a.l, a.c), (none, 0, 0), (none, 0, 0), (none, 0, 0), ()) rfl ?_
  dsimp only [flat, unc, unc1, List.nil_append, List.cons_append]
  refine call_of (zsection_hc (T0 := T) (a := a) (bT := h.size + 3) e7 hg0 s7 v hc hl true lT7 (by omega) (fun h => nomatch h) nT (fun r hr => ⟨(g5 r hr).1, by simpa using (g5 r hr).2.2⟩)) ?_
  rintro _ h8 ⟨D, st8, b, rfl, lD, nD, s8, p8, g8, k8⟩
  refine ⟨((a.p, a.l, a.c), (b.p, b.l, b.c), (none, 0, 0), (none, 0, 0), ()), rfl, ?_⟩
  dsimp only [flat, unc, unc1, List.nil_append, List.cons_append]
  have hz8 := k8.size
  have lT8 := lT7.keep k8 (fun i hi hl => by simp at hi; omega)
  have b78 := b7.keep k8 (by simp; omega)
  refine stores_of b78 rfl (by simp) ?_
  intro h9 b9 k9 z9
  have b9 : Box h9 h5.size 28 [a.v, b.v, sl0.v, sl0.v] := b9
  have hw : ∀ (bb : Nat), ∀ i, i ∈ [(⟨h5.size, 0, none⟩ : Addr).block] → i < h8.size → i < bb ∨ ∃ e' ys, Box h8 i e' ys ∧ e' ≠ 102 ∧ e' ≠ 104 := fun bb i hi _ => by
    simp at hi
    subst hi
    exact .inr ⟨28, _, b78, by decide, by decide⟩
  have lT9 : LsI h9 (h.size + 3) a.p a.l a.c T := Ls.keepW lT8 k9 (hw _)
  have lD9 : LsI h9 (h.size + 3) b.p b.l b.c D := (Ls.keepW lD k9 (hw _)).mono (by omega)
  have k9 : Ch [h5.size] h8 h9 := k9
  have s9 := s8.keep k9 (by simp; omega)
  have b1 := (b1.keep k8 (by simp)).keep k9 (by simp; omega)
  have b2 := (b2.keep k8 (by simp)).keep k9 (by simp; omega)
  have k79 : Ch [h.size + 2, h5.size] h7 h9 := (k8.mono (by simp)).trans k9 (fun i hi hl => by simp at hi; simp [hi])
  have e9 : Ext h h9 := Ch.trans e7 k79 (fun i hi hl => by simp at hi; omega)
  refine eqsZ_of (Ch.refl _ _) e9 s9 v hc b1 b2 b9 (show h.size + 2 < h5.size by omega) lT9 lD9 nT nD hlen (fun r hr => ?_) ?_
  · obtain ⟨x1, x2, x3⟩ := g8 r hr
    exact ⟨x2, x1, x3⟩
  · intro E G st1 st' st'' q1 q2 q3 hz
    refine unitE_tail hh5 ?_ q3 hz
    exact Stp.tail p5 (by rw [List.length_map]; exact p8) q1 q2
end Go.Sx.Ob

set_option linter.unusedVariables false
set_option linter.unusedSimpArgs false
set_option maxRecDepth 100000
namespace Go.Sx.Ob
open Go.Proofs
theorem SL.flat {h : Hp} {b : Nat} {e : TypeId} {sz : Nat} {a : Addr} {l c : Nat} {xs : List (List Value)} (s : SL h b e sz (some a) l c xs) : cellsAt h a 0 xs.flatten := by
  obtain ⟨g, pre, rest, rfl, hbg, hlc, hbox, hr⟩ := s.2.2
  refine hbox.cells _ ?_
  rw [List.drop_left, List.take_left]
/-- The table of the powers of ten lies where it was laid. -/
def Pow10 (h : Hp) : Prop := ∃ e f, h[1]? = some (.cells (Lib.pow10Tab.map fun z => Value.int .u64 z).toArray e f)
theorem Pow10.keep {ws : List Nat} {h h' : Hp} (p : Pow10 h) (k : Ch ws h h') (hw : 1 ∉ ws) : Pow10 h' := by
  obtain ⟨e, f, hp⟩ := p
  exact ⟨e, f, k.get hp hw⟩
theorem tab_of {W : World} {name : String} (hg : Tryz.prog.globalNamed name = some 1) (p : Pow10 W.heap) : Lib.TabIs Tryz.prog W name .u64 Lib.pow10Tab := by
  obtain ⟨e, f, hp⟩ := p
  unfold Lib.TabIs World.var?
  rw [hg]
  show (match W.heap[1]? with | some (.cells cs _ _) => some cs | _ => none) = _
  rw [hp]
theorem itoa_hc {h : Hp} (p : Pow10 h) (n : Nat) (hn : n ≤ 2 ^ 60) : HC Tryz.prog 62 #[.int .i64 n] h fun v h' => ∃ s : ByteArray, v = .string s ∧ s.size ≤ 1000 ∧ Ext h h' := by
  intro W hW
  subst hW
  refine (Tryz.strconv_Itoa n (by omega) (by omega) W (tab_of (by kernel_rfl) p)).mono ?_
  rintro e w' ⟨he, k, os, rfl⟩
  refine ⟨_, he, ⟨rfl, rfl, rfl⟩, _, rfl, ?_, ?_⟩
  · show (Lib.itoa (n : Int)).toArray.size ≤ 1000
    have := Lib.itoa_length_le (n : Int) (by omega) (by omega)
    simp
    omega
  · refine ⟨by show W.heap.size ≤ (W.heap ++ os).size; simp, fun i hi _ => ?_⟩
    show (W.heap ++ os)[i]? = _
    rw [Array.getElem?_append_left hi]
theorem und22' : Tryz.prog.underlying 22 = some (.slice 5) := by kernel_rfl
theorem und5' : Tryz.prog.underlying 5 = some (.int .u8) := by kernel_rfl
theorem und9' : Tryz.prog.underlying 9 = some .string := by kernel_rfl
theorem toStr_of {L : Lp} {K : Value → Hp → Prop} {h : Hp} {b : Nat} {p : Option Addr} {l c : Nat} {bs : List UInt8} {k : ByteArray → T} (s : SL h b 5 1 p l c (byC bs)) (h0 : bs ≠ []) (hk : k ⟨bs.toArray⟩ L K h) :
    T.sem Tryz.prog (convert 22 9 (.slice p l c)) false [(false, [.string])] k L K h := by
  show semW Tryz.prog (convert 22 9 (.slice p l c)) h _
  unfold convert
  rw [semW_bind', semW_underlying und22', semW_bind', semW_underlying und9']
  show semW Tryz.prog (do match ← underlying 5 with
    | .int .u8 => Conv.bytesToString (.slice p l c)
    | .int .i32 => Conv.runesToString (.slice p l c)
    | _ => stuck "Convert: a slice of what to string?") h _
  rw [semW_bind', semW_underlying und5']
  cases p with
  | none =>
    have h1 : byC bs = [] := s.2.2.2
    have : bs = [] := by simpa [byC] using h1
    exact absurd this h0
  | some a =>
    have hl : l = bs.length := by rw [s.1, byC_length]
    subst hl
    have hf := SL.flat s
    rw [byC_flat] at hf
    exact bytesBack a bs c _ hf ⟨(⟨bs.toArray⟩, ()), rfl, hk⟩
theorem digitV (n : Nat) : IntKind.wrap .u8 (IntKind.wrap .i64 ((48 : Int) + (Int.tmod (n : Int) (10 : Int)))) = ((UInt8.ofNat (48 + n % 10)).toNat : Int) := by
  have e : Int.tmod (n : Int) 10 = ((n % 10 : Nat) : Int) := by
    rw [Int.tmod_eq_emod_of_nonneg (by omega)]
    rfl
  rw [e, wrap_i64 (by omega) (by omega), wrap_u8 (by omega) (by omega)]
  simp
  omega
theorem append_none {P : Program} {h : Hp} {t ty e : TypeId} {i : TypeInfo} (ht : P.underlying t = some (.slice e)) (hi : P.info? e = some i) (a : Addr) (l : Nat) (K : Value → Hp → Prop) (hk : K (.slice (some a) l l) h) :
    semW P (Builtin.append_ #[t, t] ty #[.slice (some a) l l, .slice none 0 0]) h K := by
  simp [Builtin.append_, semW_bind', semW_underlying ht, semW_sizeOf hi, cellsOf_info hi, Builtin.lenOf, Builtin.firstCells]
  rw [semW_map]
  exact hk
theorem errno_hc (h : Hp) (n : Nat) (hn : n < 10 ^ 18) : HC Tryz.prog 63 #[.int .i64 n] h fun v h' => ∃ s : ByteArray, v = .string s ∧ s.size ≤ 1000 ∧ Ext h h' := by
  refine hcr_of (args := [.int .i64 n]) mixed Tryz.func63 (by kernel_rfl) (t__api_Errno__Error_eq n) ?_
  unfold t__api_Errno__Error
  refine cond_mk (fun _ => ⟨_, rfl, by decide, Ch.refl _ _⟩) (fun _ => ?_)
  refine cond_mk (fun _ => ⟨_, rfl, by decide, Ch.refl _ _⟩) (fun _ => ?_)
  refine cond_mk (fun _ => ⟨_, rfl, by decide, Ch.refl _ _⟩) (fun _ => ?_)
  refine cond_mk (fun _ => ⟨_, rfl, by decide, Ch.refl _ _⟩) (fun _ => ?_)
  refine cond_f (by rw [decide_eq_false_iff_not]; omega) ?_
  refine loop_of (cs := [(false, [.int .i64]), (false, [.slice 0])]) (fun y m h' => ∃ (k : Nat) (bs : List UInt8) (p : Option Addr) (c : Nat), y = ((k : Int), (p, bs.length, c), ()) ∧ m = k + (if bs = [] then 1 else 0) ∧ bs.length ≤ 20 ∧ k ≤ n ∧ k < 10 ^ (20 - bs.length) ∧ SL h' h.size 5 1 p bs.length c (byC bs) ∧ Ext h h') ((n : Int), (none, 0, 0), ()) (n + 1) rfl
    ⟨n, [], none, 0, rfl, rfl, by simp, Nat.le_refl _, Nat.lt_of_lt_of_le hn (Nat.pow_le_pow_right (by omega) (by simp)), SL.nil _ _ _ _, Ch.refl _ _⟩ ?_
  rintro ⟨n6, ⟨p7, l8, l9⟩, ⟨⟩⟩ m h1 ⟨k, bs, p, c, hy, hm, hbl, hkn, hkl, sl, e1⟩
  cases hy
  dsimp only [flat, unc, unc1, List.nil_append, List.cons_append]
  have hz1 := e1.size
  have step : (0 < k ∨ bs = []) → (T.need ((10 : Int) ≠ (0 : Int)) <|
       T.sem Tryz.prog (Instr.buildSlice 22 1 #[(0, .int .u8 (IntKind.wrap .u8 (IntKind.wrap .i64 ((48 : Int) + (Int.tmod (k : Int) (10 : Int))))))]) false [(false, [.slice 0])] <| fun (p5 : Option Addr) (l6 : Nat) (l7 : Nat) =>
       T.sem Tryz.prog (Builtin.append_ #[22, 22] 22 #[.slice p5 l6 l7, .slice p7 bs.length l9]) false [(false, [.slice 0])] <| fun (p8 : Option Addr) (l9 : Nat) (l10 : Nat) =>
       T.need ((10 : Int) ≠ (0 : Int)) <|
       T.again 0 [.int .i64 (IntKind.wrap .i64 (Int.tdiv (k : Int) (10 : Int))), .slice p8 l9 l10]) [Jl (cs := [(false, [.int .i64]), (false, [.slice 0])]) (fun y m h' => ∃ (k : Nat) (bs : List UInt8) (p : Option Addr) (c : Nat), y = ((k : Int), (p, bs.length, c), ()) ∧ m = k + (if bs = [] then 1 else 0) ∧ bs.length ≤ 20 ∧ k ≤ n ∧ k < 10 ^ (20 - bs.length) ∧ SL h' h.size 5 1 p bs.length c (byC bs) ∧ Ext h h') m] (fun v h' => ∃ s : ByteArray, v = .string s ∧ s.size ≤ 1000 ∧ Ext h h') h1 := by
    intro hs
    have hk20 : bs.length < 20 := by
      rcases hs with hs | hs
      · by_cases g : bs.length < 20
        · exact g
        · have : 20 - bs.length = 0 := by omega
          rw [this] at hkl
          simp at hkl
          omega
      · rw [hs]; simp
    refine need_of (by decide) ?_
    rw [digitV]
    refine lit_of und22 byZ (by omega) (by omega) (fill1 ((UInt8.ofNat (48 + k % 10)).toNat : Int)) ?_
    intro h2 b2 e2 z2
    have s2 : SL h2 h1.size 5 1 (some ⟨h1.size, 0, none⟩) 1 1 (byC [UInt8.ofNat (48 + k % 10)]) :=
      ⟨rfl, byC_len _, h1.size, [], [], rfl, Nat.le_refl _, ⟨by omega, by omega⟩, b2, by simp⟩
    have sl2 := sl.keep e2 (by simp)
    obtain ⟨i5, hi5, hz5, hs5, hb5⟩ := inf_of byZ
    have fin : ∀ (bs' : List UInt8) (p' : Option Addr) (c' : Nat) (h3 : Hp), bs' = UInt8.ofNat (48 + k % 10) :: bs → SL h3 h1.size 5 1 p' bs'.length c' (byC bs') → Ext h1 h3 → (T.need ((10 : Int) ≠ (0 : Int)) <|
       T.again 0 [.int .i64 (IntKind.wrap .i64 (Int.tdiv (k : Int) (10 : Int))), .slice p' bs'.length c']) [Jl (cs := [(false, [.int .i64]), (false, [.slice 0])]) (fun y m h' => ∃ (k : Nat) (bs : List UInt8) (p : Option Addr) (c : Nat), y = ((k : Int), (p, bs.length, c), ()) ∧ m = k + (if bs = [] then 1 else 0) ∧ bs.length ≤ 20 ∧ k ≤ n ∧ k < 10 ^ (20 - bs.length) ∧ SL h' h.size 5 1 p bs.length c (byC bs) ∧ Ext h h') m] (fun v h' => ∃ s : ByteArray, v = .string s ∧ s.size ≤ 1000 ∧ Ext h h') h3 := by
      intro bs' p' c' h3 hbs s3 e3
      refine need_of (by decide) ?_
      have hdiv : Int.tdiv (k : Int) (10 : Int) = ((k / 10 : Nat) : Int) := by
        rw [Int.tdiv_eq_ediv_of_nonneg (by omega)]
        rfl
      rw [hdiv, wrap_i64 (by omega) (by omega)]
      refine again_mk (cs := [(false, [.int .i64]), (false, [.slice 0])]) (((k / 10 : Nat) : Int), (p', bs'.length, c'), ()) (k / 10) rfl ?_ rfl ?_
      · rw [hm]
        rcases hs with hs | hs
        · omega
        · rw [if_pos hs]; omega
      · refine ⟨k / 10, bs', p', c', rfl, ?_, ?_, by omega, ?_, s3.mono (by omega), e1.trans e3⟩
        · rw [if_neg (by rw [hbs]; simp)]; rfl
        · rw [hbs]; simp; omega
        · rw [hbs, List.length_cons]
          have : 10 ^ (20 - bs.length) = 10 ^ (20 - (bs.length + 1)) * 10 := by
            rw [← Nat.pow_succ]
            congr 1
            omega
          rw [this] at hkl
          omega
    have hl7 : bs.length = (byC bs).length := (byC_length bs).symm
    cases p7 with
    | none =>
      have hb1 : byC bs = [] := sl2.2.2.2
      have hb3 : l9 = 0 := sl2.2.2.1
      have : bs = [] := by simpa [byC] using hb1
      subst this hb3
      refine sem_slice (append_none und22 hi5 _ 1 _ ?_)
      exact ⟨_, 1, 1, rfl, fin [UInt8.ofNat (48 + k % 10)] _ 1 h2 rfl s2 e2⟩
    | some a7 =>
      refine sem_slice (append_of (i := i5) und22 hi5 hz5 (by rw [hs5]; rfl) (by rw [hs5]; exact s2) (ys := byC bs) hl7 (by rw [hs5]; exact byC_len bs) (SL.flat sl2) (byC_plain bs) (by rw [hb5]; omega) (by omega) (by omega) ?_)
      intro p' c' h3 s3 k3 hp'
      refine ⟨p', 1 + bs.length, c', rfl, ?_⟩
      have hlen : 1 + bs.length = (UInt8.ofNat (48 + k % 10) :: bs).length := by simp; omega
      rw [hlen]
      refine fin _ p' c' h3 rfl ?_ (e2.st k3 (Nat.le_refl _))
      rw [← hlen]
      rw [hs5] at s3
      exact s3
  refine cond_mk (fun q => ?_) (fun q => ?_)
  · have q := of_decide_eq_true q
    exact step (.inl (by omega))
  · refine cond_mk (fun w => ?_) (fun w => ?_)
    · have w : bs.length = 0 := eqN_t w
      exact step (.inr (List.eq_nil_of_length_eq_zero w))
    · have w : ¬ bs.length = 0 := eqN_f w
      refine toStr_of sl (fun e => w (by rw [e]; rfl)) ?_
      have hsz : (⟨bs.toArray⟩ : ByteArray).size = bs.length := by show bs.toArray.size = _; simp
      refine need_of (by rw [hsz]; omega) ?_
      refine ⟨_, rfl, ?_, e1⟩
      rw [ByteArray.size_append, hsz]
      show 8 + bs.length ≤ 1000
      omega
end Go.Sx.Ob

set_option linter.unusedVariables false
set_option linter.unusedSimpArgs false
set_option maxRecDepth 100000
namespace Go.Sx.Ob
open Go.Proofs
theorem is_hc {h : Hp} {a : Nat} {x n : Int} (b : Box h a 59 [.int .i64 x, .int .i64 n]) : HCp Tryz.prog 30 [.iface 57 (ptr a), .iface 48 (.int .i64 n)] h (.bool true) := by
  intro W hW
  subst hW
  refine (Go.Proofs.YtnjohginlglonaaGreatDoor.errorsIs a n W ?_).mono ?_
  · rw [cell_heap, b.cell]
    rfl
  · rintro e w' ⟨he, rfl⟩
    exact ⟨_, he, SameO.refl _, rfl, rfl⟩
theorem unwrap_hc {h : Hp} {a : Nat} {x n : Int} (b : Box h a 59 [.int .i64 x, .int .i64 n]) : HCp Tryz.prog 29 [ptr a] h (.iface 48 (.int .i64 n)) := by
  refine hcp_of mixed Tryz.func29 (by kernel_rfl) (t_object_Refusal__Unwrap_eq (some ⟨a, 0, none⟩)) ?_
  unfold t_object_Refusal__Unwrap
  refine osome_mk rfl ?_
  rw [add_box]
  refine loads_box b (n, ()) rfl ?_
  exact ⟨rfl, rfl⟩
theorem error_hc {h : Hp} (p : Pow10 h) {a x n : Nat} (hx : x ≤ 2 ^ 60) (hn : n < 10 ^ 18) (b : Box h a 59 [.int .i64 (x : Int), .int .i64 (n : Int)]) : HC Tryz.prog 27 #[ptr a] h fun v h' => ∃ s : ByteArray, v = .string s ∧ s.data.toList ≠ [] ∧ Ext h h' := by
  refine hcr_of (args := [ptr a]) mixed Tryz.func27 (by kernel_rfl) (t_object_Refusal__Error_eq (some ⟨a, 0, none⟩)) ?_
  unfold t_object_Refusal__Error
  refine osome_mk rfl ?_
  refine loads_box b ((x : Int), ()) rfl ?_
  dsimp only [flat, unc, unc1, List.nil_append, List.cons_append]
  refine osome_mk rfl ?_
  rw [add_box]
  refine loads_box b ((n : Int), ()) rfl ?_
  dsimp only [flat, unc, unc1, List.nil_append, List.cons_append]
  refine call_of (itoa_hc p x hx) ?_
  rintro _ h1 ⟨s, rfl, hs, e1⟩
  refine ⟨(s, ()), rfl, ?_⟩
  dsimp only [flat, unc, unc1, List.nil_append, List.cons_append]
  have b1 := b.keep e1 (by simp)
  refine ⟨⟨b1.cells _ rfl, trivial⟩, ?_⟩
  have z5 : (⟨#[98, 121, 116, 101, 32]⟩ : ByteArray).size = 5 := rfl
  have z2 : (⟨#[58, 32]⟩ : ByteArray).size = 2 := rfl
  refine need_of (by omega) (need_of (by rw [ByteArray.size_append, z5]; omega) ?_)
  refine call_of (errno_hc h1 n hn) ?_
  rintro _ h2 ⟨t, rfl, ht, e2⟩
  refine ⟨(t, ()), rfl, ?_⟩
  dsimp only [flat, unc, unc1, List.nil_append, List.cons_append]
  refine ⟨⟨(b1.keep e2 (by simp)).cells _ rfl, trivial⟩, ?_⟩
  refine need_of (by rw [ByteArray.size_append, ByteArray.size_append, z5, z2]; omega) ?_
  refine ⟨_, rfl, ?_, e1.trans e2⟩
  intro h0
  have := congrArg List.length h0
  simp at this
theorem eqIN (o : Nat) (t : TypeId) (u : Value) (h : Hp) (K : Value → Hp → Prop) : semW Tryz.prog (Sx.cmpS (BinOp.eql) 30 (Operand.tmp o) (Operand.const Value.nilIface) (.iface t u) .nilIface) h K = K (.bool false) h := by kernel_rfl
theorem eqNN (o : Nat) (h : Hp) (K : Value → Hp → Prop) : semW Tryz.prog (Sx.cmpS (BinOp.eql) 30 (Operand.tmp o) (Operand.const Value.nilIface) .nilIface .nilIface) h K = K (.bool true) h := by kernel_rfl
theorem eqEE (n : Int) (o u : Nat) (h : Hp) (K : Value → Hp → Prop) : semW Tryz.prog (Sx.cmpS (BinOp.eql) 30 (Operand.tmp o) (Operand.tmp u) (.iface 48 (.int .i64 n)) (.iface 48 (.int .i64 n))) h K = K (.bool (n == n)) h := by kernel_rfl
theorem asR (a : Addr) (h : Hp) (K : Value → Hp → Prop) : semW Tryz.prog (Instr.typeAssert (.iface 57 (.pointer (some a))) 30 57 true) h K = K (.tuple #[.pointer (some a), .bool true]) h := by kernel_rfl
theorem asN (h : Hp) (K : Value → Hp → Prop) : semW Tryz.prog (Instr.typeAssert .nilIface 30 57 true) h K = K (.tuple #[.pointer none, .bool false]) h := by kernel_rfl
theorem sameErr_hc (h : Hp) (n : Int) : HCp Tryz.prog 28 [.iface 48 (.int .i64 n), .iface 48 (.int .i64 n)] h (.bool true) := by
  refine hcp_of mixed Tryz.func28 (by kernel_rfl) (t_spandrellaw10_sameErr_eq _ _) ?_
  unfold t_spandrellaw10_sameErr
  refine sem_bool (fun K' hK => by rw [eqIN]; exact hK) ?_
  refine cond_f rfl ?_
  refine sem_bool (fun K' hK => by rw [eqIN]; exact hK) ?_
  refine cond_f rfl ?_
  refine sem_bool (b := true) (fun K' hK => by rw [eqEE]; simpa using hK) ?_
  exact ⟨rfl, rfl⟩
/-- What is expected: why 0: no error. -/
def wants (a w : Nat) (e : Option (Nat × Nat)) : Bool := if w = 0 then decide (e = none) else decide (e = some (a, w))
theorem refused_hc {h : Hp} (p : Pow10 h) {ev : Value} {e : Option (Nat × Nat)} (v : ErrAt h ev e) (hs : ∀ q, e = some q → q.1 ≤ 2 ^ 60 ∧ q.2 < 10 ^ 18) (a w : Nat) :
    HC Tryz.prog 8 #[ev, .agg #[.int .i64 (a : Int), .int .i64 (w : Int)]] h fun r h' => r = .bool (wants a w e) ∧ Ext h h' := by
  refine hcr_of (args := [ev, .agg #[.int .i64 (a : Int), .int .i64 (w : Int)]]) mixed Tryz.func8 (by kernel_rfl) (t_spandrellaw10_refused_eq ev a w) ?_
  unfold t_spandrellaw10_refused
  refine newB ?_
  intro h1 b1 e1 z1
  rw [add_box]
  refine loads_box b1 ((w : Int), ()) rfl ?_
  dsimp only [flat, unc, unc1, List.nil_append, List.cons_append]
  cases e with
  | none =>
    have v : ev = .nilIface := v
    subst v
    refine cond_mk (fun q => ?_) (fun q => ?_)
    · have q : w = 0 := eqN_t q
      refine sem_bool (fun K' hK => by rw [eqNN]; exact hK) ?_
      exact ⟨by unfold wants; rw [if_pos q]; rfl, e1⟩
    · have q : ¬ w = 0 := eqN_f q
      show semW _ _ _ _
      rw [asN]
      refine ⟨(none, false, ()), rfl, ?_⟩
      dsimp only [flat, unc, unc1, List.nil_append, List.cons_append]
      refine cond_f rfl ?_
      exact ⟨by unfold wants; rw [if_neg q]; rfl, e1⟩
  | some er =>
    obtain ⟨ax, rfl, bx⟩ := v
    obtain ⟨hs1, hs2⟩ := hs er rfl
    have bx1 := bx.keep e1 (by simp)
    refine cond_mk (fun q => ?_) (fun q => ?_)
    · have q : w = 0 := eqN_t q
      refine sem_bool (fun K' hK => by rw [eqIN]; exact hK) ?_
      exact ⟨by unfold wants; rw [if_pos q]; rfl, e1⟩
    have q : ¬ w = 0 := eqN_f q
    have ww : wants a w (some er) = decide (er = (a, w)) := by
      unfold wants
      rw [if_neg q]
      simp
    show semW _ _ _ _
    rw [asR]
    refine ⟨(some ⟨ax, 0, none⟩, true, ()), rfl, ?_⟩
    dsimp only [flat, unc, unc1, List.nil_append, List.cons_append]
    refine cond_t rfl ?_
    refine cond_t rfl ?_
    refine osome_mk rfl ?_
    refine loads_box bx1 ((er.1 : Int), ()) rfl ?_
    dsimp only [flat, unc, unc1, List.nil_append, List.cons_append]
    refine loads_box b1 ((a : Int), ()) rfl ?_
    dsimp only [flat, unc, unc1, List.nil_append, List.cons_append]
    refine cond_sw (fun r => ?_) (fun r => ?_)
    · have r : ¬ er.1 = a := eqN_f r
      exact ⟨by rw [ww, decide_eq_false (fun e => r (by rw [e]))], e1⟩
    have r : er.1 = a := eqN_t r
    refine osome_mk rfl ?_
    rw [add_box]
    refine loads_box bx1 ((er.2 : Int), ()) rfl ?_
    dsimp only [flat, unc, unc1, List.nil_append, List.cons_append]
    refine loads_box b1 ((w : Int), ()) rfl ?_
    dsimp only [flat, unc, unc1, List.nil_append, List.cons_append]
    refine cond_sw (fun s => ?_) (fun s => ?_)
    · have s : ¬ er.2 = w := eqN_f s
      exact ⟨by rw [ww, decide_eq_false (fun e => s (by rw [e]))], e1⟩
    have s : er.2 = w := eqN_t s
    have ok : wants a w (some er) = true := by
      rw [ww]
      exact decide_eq_true (Prod.ext r s)
    rw [ok]
    have p1 := p.keep e1 (by simp)
    refine call_of (error_hc p1 hs1 hs2 bx1) ?_
    rintro _ h2 ⟨t, rfl, ht, e2⟩
    refine ⟨(t, ()), rfl, ?_⟩
    dsimp only [flat, unc, unc1, List.nil_append, List.cons_append]
    have b12 := b1.keep e2 (by simp)
    have bx2 := bx1.keep e2 (by simp)
    refine ⟨⟨b12.cells _ rfl, bx2.cells _ rfl, b12.cells _ rfl, bx2.cells _ rfl, trivial⟩, ?_⟩
    refine cond_t (by rw [ByteArray.toList_eq]; simpa using ht) ?_
    refine osome_mk rfl ?_
    refine loads_box bx2 ((er.2 : Int), ()) rfl ?_
    dsimp only [flat, unc, unc1, List.nil_append, List.cons_append]
    refine call_p (unwrap_hc bx2) (.iface 48 (.int .i64 (er.2 : Int)), ()) rfl ?_
    dsimp only [flat, unc, unc1, List.nil_append, List.cons_append]
    refine ⟨⟨bx2.cells _ rfl, b12.cells _ rfl, bx2.cells _ rfl, b12.cells _ rfl, bx2.cells _ rfl, trivial⟩, ?_⟩
    refine call_bool (sameErr_hc h2 er.2) ?_
    refine ⟨⟨bx2.cells _ rfl, b12.cells _ rfl, bx2.cells _ rfl, b12.cells _ rfl, bx2.cells _ rfl, trivial⟩, ?_⟩
    refine cond_t rfl ?_
    refine loads_box b12 ((w : Int), ()) rfl ?_
    dsimp only [flat, unc, unc1, List.nil_append, List.cons_append]
    rw [s] at bx2
    refine call_bool (is_hc bx2) ?_
    refine ⟨⟨b12.cells _ rfl, bx2.cells _ (by rw [s]; rfl), b12.cells _ rfl, bx2.cells _ (by rw [s]; rfl), b12.cells _ rfl, bx2.cells _ rfl, trivial⟩, ?_⟩
    exact ⟨rfl, e1.trans e2⟩
end Go.Sx.Ob

set_option linter.unusedVariables false
set_option linter.unusedSimpArgs false
set_option maxRecDepth 100000
namespace Go.Sx.Ob
open Go.Proofs
theorem byC_get (bs : Bt) {i : Nat} (hi : i < bs.length) : (byC bs)[i]'(by rw [byC_length]; exact hi) = [.int .u8 (bs[i].toNat : Int)] := by
  unfold byC
  rw [List.getElem_map]
theorem SL.vwB {h : Hp} {b : Nat} {p : Option Addr} {l c : Nat} {bs : Bt} (s : SL h b 5 1 p l c (byC bs)) : VwB h p l bs :=
  ⟨by rw [s.1, byC_length], fun i hi => by
    obtain ⟨a, ha, hc⟩ := SL.at_ s (i := i) (by rw [byC_length]; exact hi)
    rw [byC_get bs hi] at hc
    exact ⟨a, ha, hc⟩⟩
theorem SL.capL {h : Hp} {b : Nat} {e : TypeId} {sz : Nat} {p : Option Addr} {l c : Nat} {xs : List (List Value)} (s : SL h b e sz p l c xs) : l ≤ c := by
  cases p with
  | none =>
    have h2 := s.2.2.2
    have h3 := s.1
    rw [h2] at h3
    simp at h3
    omega
  | some a =>
    obtain ⟨g, pre, rest, rfl, hbg, hlc, _⟩ := s.2.2
    exact hlc.1
theorem VwB.take {h : Hp} {p : Option Addr} {l : Nat} {bs : Bt} (v : VwB h p l bs) {n : Nat} (hn : n ≤ l) : VwB h p n (bs.take n) := by
  have hl := v.len
  refine ⟨by rw [List.length_take]; omega, fun i hi => ?_⟩
  rw [List.length_take] at hi
  obtain ⟨a, ha, hc⟩ := v.cells i (by omega)
  rw [List.getElem_take]
  exact ⟨a, ha, hc⟩
theorem cellsAt_bytes {h : Hp} {a : Addr} : ∀ (bs : Bt) (k : Nat), (∀ i, (hi : i < bs.length) → cellsAt h (a.add ((k + i) * 1)) 0 [.int .u8 (bs[i].toNat : Int)]) → cellsAt h a k (byC bs).flatten
  | [], _, _ => trivial
  | t :: us, k, hc => by
    have h0 := hc 0 (by simp)
    obtain ⟨h1, _⟩ := h0
    rw [add_add] at h1
    refine ⟨by simpa using h1, cellsAt_bytes us (k + 1) fun i hi => ?_⟩
    have := hc (i + 1) (by simpa using hi)
    rw [show k + (i + 1) = k + 1 + i by omega] at this
    exact this
theorem VwB.flat {h : Hp} {a : Addr} {l : Nat} {bs : Bt} (v : VwB h (some a) l bs) : cellsAt h a 0 (byC bs).flatten := by
  refine cellsAt_bytes bs 0 fun i hi => ?_
  obtain ⟨a', e, hc⟩ := v.cells i hi
  cases e
  rw [Nat.zero_add]
  exact hc
theorem vwB_flat {h : Hp} {a : Addr} {bs : Bt} (hc : cellsAt h a 0 (byC bs).flatten) : VwB h (some a) bs.length bs := by
  have key : ∀ (bs : Bt) (k : Nat), cellsAt h a k (byC bs).flatten → ∀ i, (hi : i < bs.length) → cellsAt h (a.add ((k + i) * 1)) 0 [.int .u8 (bs[i].toNat : Int)] := by
    intro bs
    induction bs with
    | nil => intro k _ i hi; simp at hi
    | cons t us ih =>
      intro k hc i hi
      obtain ⟨h1, h2⟩ := hc
      cases i with
      | zero => exact ⟨by rw [add_add]; simpa using h1, trivial⟩
      | succ i =>
        have := ih (k + 1) h2 i (by simpa using hi)
        rw [show k + (i + 1) = k + 1 + i by omega]
        exact this
  refine ⟨rfl, fun i hi => ⟨a, rfl, ?_⟩⟩
  have := key bs 0 hc i hi
  rw [Nat.zero_add] at this
  exact this
/-- []byte of a text that is written out. -/
theorem lit_conv {L : Lp} {K : Value → Hp → Prop} {h : Hp} {k : Option Addr → Nat → Nat → T} {n : Nat} {parts : Array (Nat × Value)} (bs : Bt) (hn : n = bs.length) (h0 : n ≠ 0) (hs : n ≤ 100)
    (hf : Instr.fill (fun j => some (j * 1, 1)) ((Array.range (n * 1)).map ((Value.int .u8 0).cells[· % (Value.int .u8 0).cells.size]!)) parts.toList = some ((byC bs).flatten : List Value).toArray)
    (hk : ∀ h' p c, VwB h' p n bs → n ≤ c → Ext h h' → k p n c L K h') :
    T.sem Tryz.prog (Instr.buildSlice 22 n parts) false [(false, [.slice 0])] (fun p l c => T.sem Tryz.prog (convert 22 22 (.slice p l c)) false [(false, [.slice 0])] k) L K h := by
  refine lit_of und22 byZ (by omega) (by omega) hf ?_
  intro h1 b1 e1 z1
  refine sem_slice (conv_of b1 ?_)
  intro h2 c2 k2 z2
  have v := vwB_flat c2
  rw [← hn] at v
  exact ⟨_, _, _, rfl, hk h2 _ _ v (Nat.le_refl _) (e1.st k2 (Nat.le_refl _))⟩
theorem readE_ok {full : Bt} {u v : Unt} {e : Option (Nat × Nat)} (h : ReadE full u e) (hr : readR full = .ok v) : e = none ∧ u = v := by
  cases e with
  | none =>
    have h : readR full = .ok u := h
    rw [h] at hr
    cases hr
    exact ⟨rfl, rfl⟩
  | some e =>
    obtain ⟨h, _⟩ := h
    rw [h] at hr
    cases hr
theorem readE_err {full : Bt} {u : Unt} {q : Nat × Nat} {e : Option (Nat × Nat)} (h : ReadE full u e) (hr : readR full = .error q) : e = some q ∧ u = unt0 := by
  cases e with
  | none =>
    have h : readR full = .ok u := h
    rw [h] at hr
    cases hr
  | some e =>
    obtain ⟨h, h2⟩ := h
    rw [h] at hr
    cases hr
    exact ⟨rfl, h2⟩
theorem UntAt.zero (h : Hp) : UntAt h sl0 sl0 sl0 sl0 unt0 := ⟨⟨rfl, by decide, fun i hi => by cases hi⟩, ⟨rfl, by decide, fun i hi => by cases hi⟩, ⟨rfl, by decide, fun i hi => by cases hi⟩, ⟨rfl, by decide, fun i hi => by cases hi⟩⟩
theorem wr0 : wrE unt0 = 0 := by decide
theorem rd0 : readR (wUnt unt0) = .ok unt0 := by rfl
theorem rdM : readR [83, 80, 65, 77] = .error (3, 15) := by rfl
theorem fillM : Instr.fill (fun j => some (j * 1, 1)) ((Array.range (4 * 1)).map ((Value.int .u8 0).cells[· % (Value.int .u8 0).cells.size]!)) [(0, .int .u8 (83 : Int)), (1, .int .u8 (80 : Int)), (2, .int .u8 (65 : Int)), (3, .int .u8 (77 : Int))] = some ((byC [83, 80, 65, 77]).flatten : List Value).toArray := by kernel_rfl
/-- A unit that was read is put aside. -/
theorem aside {L : Lp} {K : Value → Hp → Prop} {h : Hp} {a b c d : Sli} {k : Addr → T} (hk : ∀ h', Box h' h.size 28 [a.v, b.v, c.v, d.v] → Ext h h' → k ⟨h.size, 0, none⟩ L K h') :
    (T.new [.slice none 0 0, .slice none 0 0, .slice none 0 0, .slice none 0 0] 28 fun x => T.stores x [.slice a.p a.l a.c, .slice b.p b.l b.c, .slice c.p c.l c.c, .slice d.p d.l d.c] (k x)) L K h := by
  refine newB ?_
  intro h1 b1 e1 z1
  refine stores_of b1 rfl (by simp) ?_
  intro h2 b2 k2 z2
  exact hk h2 b2 (e1.st k2 (Nat.le_refl _))
theorem known_hc {h : Hp} (t : Tab h) (p : Pow10 h) : HC Tryz.prog 11 #[] h fun w h' => w = .bool true ∧ Ext h h' := by
  refine hcr_of (args := []) mixed Tryz.func11 (by kernel_rfl) t_spandrellaw10_known_eq ?_
  unfold t_spandrellaw10_known
  refine call_of (write_hc (a := sl0) (b := sl0) (c := sl0) (d := sl0) t (UntAt.zero h) (by decide)) ?_
  rintro _ h1 ⟨s, rfl, _, hs, e1⟩
  rw [wr0] at hs ⊢
  have sl := hs rfl
  refine ⟨((s.p, s.l, s.c), (0 : Int), ()), rfl, ?_⟩
  dsimp only [flat, unc, unc1, List.nil_append, List.cons_append]
  refine call_of (read_hc (t.keep e1 (by simp)) (SL.vwB sl) (SL.capL sl) (by decide)) ?_
  rintro _ h2 ⟨a, b, c, d, ev, u, e, rfl, own, ea, re, _, e2⟩
  obtain ⟨rfl, rfl⟩ := readE_ok re rd0
  have ea : ev = .nilIface := ea
  subst ea
  refine ⟨((a.p, a.l, a.c), (b.p, b.l, b.c), (c.p, c.l, c.c), (d.p, d.l, d.c), .nilIface, ()), rfl, ?_⟩
  dsimp only [flat, unc, unc1, List.nil_append, List.cons_append]
  refine aside ?_
  intro h3 b3 e3
  refine lit_conv [83, 80, 65, 77] rfl (by decide) (by decide) fillM ?_
  intro h4 q m v4 hm e4
  have e04 := ((e1.trans e2).trans e3).trans e4
  refine call_of (read_hc (t.keep e04 (by simp)) v4 hm (by decide)) ?_
  rintro _ h5 ⟨a', b', c', d', ev', u', e', rfl, own', ea', re', _, e5⟩
  obtain ⟨rfl, rfl⟩ := readE_err re' rdM
  refine ⟨((a'.p, a'.l, a'.c), (b'.p, b'.l, b'.c), (c'.p, c'.l, c'.c), (d'.p, d'.l, d'.c), ev', ()), rfl, ?_⟩
  dsimp only [flat, unc, unc1, List.nil_append, List.cons_append]
  refine aside ?_
  intro h6 b6 e6
  refine cond_t rfl ?_
  have sl6 := (((((sl.keep e2 (by simp)).keep e3 (by simp)).keep e4 (by simp)).keep e5 (by simp)).keep e6 (by simp))
  refine toStr_of sl6 (by decide) ?_
  refine cond_t (by rw [ByteArray.toList_eq]; decide) ?_
  refine sem_bool (fun K' hK => by rw [eqNN]; exact hK) ?_
  refine cond_t rfl ?_
  have e36 := (e4.trans e5).trans e6
  refine loads_box (b3.keep e36 (by simp)) ((a.p, a.l, a.c), (b.p, b.l, b.c), (c.p, c.l, c.c), (d.p, d.l, d.c), ()) rfl ?_
  dsimp only [flat, unc, unc1, List.nil_append, List.cons_append]
  refine call_of (sameUnit_hc (a' := sl0) (b' := sl0) (c' := sl0) (d' := sl0) ((own.keep (e3.trans e36) (by simp)).at) (UntAt.zero h6)) ?_
  rintro _ h7 ⟨r, rfl, hr, e7⟩
  have hr := hr.2 rfl
  subst hr
  refine ⟨(true, ()), rfl, ?_⟩
  dsimp only [flat, unc, unc1, List.nil_append, List.cons_append]
  refine cond_t rfl ?_
  have e07 := ((e04.trans e5).trans e6).trans e7
  have ea7 : ErrAt h7 ev' (some (3, 15)) := by
    obtain ⟨x, h1, h2⟩ := ea'
    exact ⟨x, h1, (h2.keep e6 (by simp)).keep e7 (by simp)⟩
  refine call_boolx (refused_hc (p.keep e07 (by simp)) ea7 (fun q hq => by cases hq; decide) 3 15) ?_
  intro h8 e8
  exact ⟨rfl, e07.trans e8⟩
end Go.Sx.Ob

set_option linter.unusedVariables false
set_option linter.unusedSimpArgs false
set_option maxRecDepth 100000
namespace Go.Sx.Ob
open Go.Proofs
theorem ErrAt.keep {h h' : Hp} {w : Value} {e : Option (Nat × Nat)} (v : ErrAt h w e) (k : Ext h h') : ErrAt h' w e := by
  cases e with
  | none => exact v
  | some e =>
    obtain ⟨a, h1, h2⟩ := v
    exact ⟨a, h1, h2.keep k (by simp)⟩
theorem Ch.st2 {h a b : Hp} {ws : List Nat} (e : Ext h a) (k : Ch ws a b) (hw : ∀ i, i ∈ ws → h.size ≤ i) : Ext h b := Ch.trans e k (fun i hi hl => by have := hw i hi; omega)
end Go.Sx.Ob

set_option linter.unusedVariables false
set_option linter.unusedSimpArgs false
set_option maxRecDepth 100000
namespace Go.Sx.Ob
open Go.Proofs
/-- Numbers of 32 bits. -/
structure LinNum (x : Lin) : Prop where
  coef : ∀ t, t ∈ x.terms → t.2 < 4294967296
  num : x.num < 4294967296
end Go.Sx.Ob

set_option linter.unusedVariables false
set_option linter.unusedSimpArgs false
set_option maxRecDepth 100000
namespace Go.Sx.Ob
open Go.Proofs
end Go.Sx.Ob

set_option linter.unusedVariables false
set_option linter.unusedSimpArgs false
set_option maxRecDepth 100000
namespace Go.Sx
open Go.Proofs
theorem copyS_of {P : Program} {h : Hp} {K : Value → Hp → Prop} {t ty e : TypeId} {i : TypeInfo} (ht : P.underlying t = some (.slice e)) (hi : P.info? e = some i) {g l c : Nat} {xs vs : List Value} (b : Box h g e xs) {q : Option Addr} {m d : Nat} (hm : m ≤ l) (hv : vs.length = m * i.size)
    (hp : vs.all plainV = true) (hx : vs.length ≤ xs.length) (hq : q = none → vs = []) (hc : ∀ a, q = some a → cellsAt h a 0 vs) (hk : ∀ h', Box h' g e (setL xs 0 vs) → Ch [g] h h' → h'.size = h.size → K (goInt (m : Int)) h') :
    semW P (Builtin.copy_ #[t, t] ty #[.slice (some ⟨g, 0, none⟩) l c, .slice q m d]) h K := by
  have hmin : Nat.min m l = m := Nat.min_eq_left hm
  obtain ⟨k1, k2, k3, k4⟩ := stores_box (off := 0) vs h 0 xs b hp (by omega)
  cases q with
  | none =>
    have hv0 := hq rfl
    subst hv0
    simp [Builtin.copy_, semW_bind', semW_underlying ht, semW_sizeOf hi, Builtin.lenOf, Builtin.firstCells]
    rw [semW_map]
    refine semW_storeCells _ _ _ _ _ k1 ?_
    have := hk h b (Ch.refl _ _) rfl

    rw [hmin]
    exact this
  | some a =>
    simp [Builtin.copy_, semW_bind', semW_underlying ht, semW_sizeOf hi, Builtin.lenOf, Builtin.firstCells]


    rw [hmin]
    refine semW_loadCells (by rw [cellsOf_info hi]; exact hv) (hc a rfl) _ ?_
    rw [semW_map]
    refine semW_storeCells _ _ _ _ _ k1 ?_
    exact hk _ k2 k3 k4
theorem chunk {α : Type} (sz : Nat) : ∀ (n : Nat) (ys : List α), ys.length = n * sz → ∃ xs : List (List α), xs.length = n ∧ (∀ x, x ∈ xs → x.length = sz) ∧ xs.flatten = ys
  | 0, ys, h => ⟨[], rfl, by simp, by rw [Nat.zero_mul] at h; rw [List.length_eq_zero_iff.1 h]; rfl⟩
  | n + 1, ys, h => by
    rw [Nat.succ_mul] at h
    obtain ⟨xs, h1, h2, h3⟩ := chunk sz n (ys.drop sz) (by rw [List.length_drop]; omega)
    refine ⟨ys.take sz :: xs, by simp [h1], ?_, by rw [List.flatten_cons, h3, List.take_append_drop]⟩
    intro x hx
    rcases List.mem_cons.1 hx with rfl | hx
    · rw [List.length_take]; omega
    · exact h2 x hx
theorem set_mark {α : Type} {A zs : List α} {mk : α} {i : Nat} (hi : i < zs.length) : (A ++ (List.replicate i mk ++ zs.drop i)).set (A.length + i) mk = A ++ (List.replicate (i + 1) mk ++ zs.drop (i + 1)) := by
  rw [List.set_append_right _ _ (by omega), Nat.add_sub_cancel_left, List.set_append_right _ _ (by simp), List.length_replicate, Nat.sub_self, List.drop_eq_getElem_cons hi, List.set_cons_zero, List.replicate_succ', List.append_assoc]
  rfl
theorem sem_i64 {P : Program} {L : Lp} {K : Value → Hp → Prop} {h : Hp} {s : Sem Value} {k : Int → T} (hs : semW P s h fun v h' => ∃ n, v = goInt n ∧ k n L K h') : T.sem P s false [(false, [.int .i64])] k L K h :=
  semW_mono s _ _ _ (fun v h' ⟨n, hv, hk⟩ => ⟨(n, ()), hv, hk⟩) hs
end Go.Sx

set_option linter.unusedVariables false
set_option linter.unusedSimpArgs false
set_option maxRecDepth 100000
namespace Go.Sx.Ob
open Go.Proofs
theorem byC_app (xs : Bt) (n : Nat) (b : UInt8) : byC xs ++ List.replicate n ([.int .u8 (b.toNat : Int)] : List Value) = byC (xs ++ List.replicate n b) := by
  rw [byC_append]
  congr 1
  unfold byC
  rw [List.map_replicate]
theorem roomyB_hc {h : Hp} {p : Option Addr} {l c : Nat} {bs : Bt} (v : VwB h p l bs) (hp : p = none → c = 0) (hl : bs.length ≤ 2 ^ 47) (b : UInt8) :
    HC Tryz.prog 5 #[.slice p l c, .int .u8 (b.toNat : Int)] h fun w h' => Ext h h' ∧ ∃ g, w = .slice (some ⟨g, 0, none⟩) (l + 80) (l + 80) ∧ h.size ≤ g ∧ SL h' h.size 5 1 (some ⟨g, 0, none⟩) (l + 80) (l + 80) (byC (bs ++ List.replicate 80 b)) := by
  refine hcr_of (args := [.slice p l c, .int .u8 (b.toNat : Int)]) mixed Tryz.func5 (by kernel_rfl) (t_spandrelbook_Roomy_byte__eq p l c _) ?_
  unfold t_spandrelbook_Roomy_byte_
  have hlen := v.len
  obtain ⟨i, hi, hz, hsz, hby⟩ := inf_of byZ
  have hw80 : IntKind.wrap .i64 ((l : Int) + 80) = ((l + 80 : Nat) : Int) := by rw [wrap_i64 (by omega) (by omega)]; omega
  rw [hw80]
  refine sem_slice (makeSlice_of und22 hi hz (Nat.le_refl _) (by rw [hby]; omega) (by omega) ?_)
  intro h2 b2 e2 z2
  refine ⟨_, _, _, rfl, ?_⟩
  have hfl : (byC bs).flatten.length = l * 1 := by
    rw [flatten_length (byC bs) (sz := 1) (fun x hx => byC_len bs x hx), byC_length, hlen]
  have hpl : (byC bs).flatten.all plainV = true := byC_plain bs
  have hzl : ((List.range ((l + 80) * i.size)).map ((Value.int .u8 0).cells[· % (Value.int .u8 0).cells.size]!)).length = (l + 80) * 1 := by rw [List.length_map, List.length_range, hsz]
  generalize (List.range ((l + 80) * i.size)).map ((Value.int .u8 0).cells[· % (Value.int .u8 0).cells.size]!) = ys at b2 hzl
  have hnil : p = none → bs = [] := fun hp => by
    cases bs with
    | nil => rfl
    | cons t us => obtain ⟨a, ha, _⟩ := v.cells 0 (by simp); rw [hp] at ha; cases ha
  refine sem_i64 (copyS_of und22 hi b2 (vs := (byC bs).flatten) (m := l) (by omega) (by rw [hfl, hsz]) hpl (by omega) (fun hh => by rw [hnil hh]; rfl) (fun a ha => by subst ha; exact cellsAt_keep e2 (by simp) _ _ v.flat) ?_)
  intro h3 b3 k3 z3
  refine ⟨(l : Int), rfl, ?_⟩
  rw [setL_eq _ _ _ (by omega), List.take_zero, List.nil_append, Nat.zero_add, hfl] at b3
  obtain ⟨zs, hzs1, hzs2, hzs3⟩ := chunk 1 80 (ys.drop (l * 1)) (by rw [List.length_drop, hzl, Nat.add_mul]; omega)
  rw [← hzs3, ← List.flatten_append] at b3
  have s3 : SL h3 h.size 5 1 (some ⟨h.size, 0, none⟩) (l + 80) (l + 80) (byC bs ++ (List.replicate 0 [.int .u8 (b.toNat : Int)] ++ zs.drop 0)) := by
    refine ⟨by simp [hzs1, hlen, byC_length], ?_, h.size, [], [], rfl, Nat.le_refl _, ⟨Nat.le_refl _, by omega⟩, by simpa using b3, by simp⟩
    intro x hx
    rcases List.mem_append.1 hx with hx | hx
    · exact byC_len bs x hx
    · exact hzs2 x (by simpa using hx)
  have e03 : Ext h h3 := Ch.trans e2 k3 (fun j hj hl => by simp at hj; omega)
  refine loop_of (cs := [(false, [.int .i64])]) (fun y n h' => ∃ i : Nat, y.1 = ((l + i : Nat) : Int) ∧ i ≤ 80 ∧ n = 80 - i ∧ Ch [h.size] h3 h' ∧ SL h' h.size 5 1 (some ⟨h.size, 0, none⟩) (l + 80) (l + 80) (byC bs ++ (List.replicate i [.int .u8 (b.toNat : Int)] ++ zs.drop i))) ((l : Int), ()) 80 rfl
    ⟨0, rfl, by omega, by omega, Ch.refl _ _, s3⟩ ?_
  rintro ⟨n8, ⟨⟩⟩ n h4 ⟨i', hi', hile, rfl, k4, s4⟩
  simp only at hi'
  subst hi'
  dsimp only [flat, unc, unc1, List.nil_append, List.cons_append]
  refine cond_mk (fun g1 => ?_) (fun g1 => ?_)
  · have g1 := of_decide_eq_true g1
    have hi80 : i' < 80 := by omega
    refine need_of ⟨by omega, by omega⟩ (osome_mk rfl ?_)
    rw [show Int.toNat ((l + i' : Nat) : Int) = l + i' by omega]
    refine SL.store (P := Tryz.prog) s4 (i := l + i') (by simp [hzs1, byC_length]; omega) (vs := [.int .u8 (b.toNat : Int)]) rfl rfl rfl ?_
    intro h5 s5 k5 z5
    have hA : (byC bs).length = l := by rw [byC_length, hlen]
    have hst := set_mark (A := byC bs) (zs := zs) (mk := [.int .u8 (b.toNat : Int)]) (i := i') (by omega)
    rw [hA] at hst
    rw [hst] at s5
    exact again_mk (cs := [(false, [.int .i64])]) (((l + (i' + 1) : Nat) : Int), ()) (80 - (i' + 1)) rfl (by omega) (congrArg (fun z => [Value.int .i64 z]) (show IntKind.wrap .i64 (((l + i' : Nat) : Int) + 1) = ((l + (i' + 1) : Nat) : Int) by rw [wrap_i64 (by omega) (by omega)]; omega)) ⟨i' + 1, rfl, by omega, rfl, Ch.trans k4 k5 (fun j hj _ => hj), s5⟩
  · have g1 := of_decide_eq_false g1
    have h80 : i' = 80 := by omega
    subst h80
    rw [show zs.drop 80 = [] from List.drop_eq_nil_of_le (by omega), List.append_nil, byC_app] at s4
    exact ⟨Ch.trans e03 k4 (fun j hj hl => by simp at hj; omega), h.size, rfl, Nat.le_refl _, s4⟩
theorem intactB_hc {h : Hp} {b0 : Nat} {a : Addr} {q : Option Addr} {l d : Nat} {bs : Bt} {b : UInt8} (s : SL h b0 5 1 (some a) (l + 80) (l + 80) (byC (bs ++ List.replicate 80 b))) (v : VwB h q l bs) (hl : l ≤ 2 ^ 47) :
    HC Tryz.prog 10 #[.slice (some a) (l + 80) (l + 80), .slice q l d, .int .u8 (b.toNat : Int)] h fun w h' => w = .bool true ∧ Ext h h' := by
  refine hcr_of (args := [.slice (some a) (l + 80) (l + 80), .slice q l d, .int .u8 (b.toNat : Int)]) mixed Tryz.func10 (by kernel_rfl) (t_spandrelbook_Intact_byte__eq (some a) (l + 80) (l + 80) q l d _) ?_
  unfold t_spandrelbook_Intact_byte_
  have hlen := v.len
  have hw80 : IntKind.wrap .i64 ((l : Int) + 80) = ((l + 80 : Nat) : Int) := by rw [wrap_i64 (by omega) (by omega)]; omega
  refine cond_f (by rw [hw80]; simp) ?_
  refine need_of ⟨by omega, by omega, by omega⟩ ?_
  have e1 : (if l + 80 = 0 then some a else Option.map (fun a => Addr.add a 0) (some a)) = some a := by
    rw [if_neg (by omega)]
    simp [Addr.add]
  rw [e1, show Int.toNat (l : Int) - 0 = l by omega, Nat.sub_zero]
  have w : VwB h (some a) (l + 80) (bs ++ List.replicate 80 b) := SL.vwB s
  have w1 := w.take (n := l) (by omega)
  rw [List.take_append_of_le_length (by omega), List.take_of_length_le (by omega)] at w1
  refine call_of (sameByte_hc w1 v (by omega)) ?_
  rintro _ h1 ⟨bb, rfl, hb, e1⟩
  have hb := hb.2 rfl
  subst hb
  refine ⟨(true, ()), rfl, ?_⟩
  dsimp only [flat, unc, unc1, List.nil_append, List.cons_append]
  refine cond_f rfl ?_
  have w2 := w.keep e1
  refine loop_of (cs := [(false, [.bool]), (false, [.int .i64])]) (fun y n h' => ∃ i : Nat, y.2.1 = ((l + i : Nat) : Int) ∧ i ≤ 80 ∧ n = 80 - i ∧ h1 = h') (false, (l : Int), ()) 80 rfl ⟨0, rfl, by omega, by omega, rfl⟩ ?_
  rintro ⟨b8, n8, ⟨⟩⟩ n h4 ⟨i', hi', hile, rfl, rfl⟩
  simp only at hi'
  subst hi'
  dsimp only [flat, unc, unc1, List.nil_append, List.cons_append]
  refine cond_mk (fun g1 => ?_) (fun g1 => ⟨rfl, e1⟩)
  have g1 := of_decide_eq_true g1
  have hi80 : i' < 80 := by omega
  have hlt : l + i' < (bs ++ List.replicate 80 b).length := by simp; omega
  obtain ⟨a', ha', hc⟩ := w2.cells (l + i') hlt
  cases ha'
  have hget : (bs ++ List.replicate 80 b)[l + i'] = b := by
    rw [List.getElem_append_right (by omega), List.getElem_replicate]
  rw [hget] at hc
  refine need_of ⟨by omega, by omega⟩ (osome_mk rfl ?_)
  rw [show Int.toNat ((l + i' : Nat) : Int) = l + i' by omega]
  refine loads_of ((b.toNat : Int), ()) hc ?_
  dsimp only [flat, unc, unc1, List.nil_append, List.cons_append]
  refine cond_f (by simp) ?_
  exact again_mk (cs := [(false, [.bool]), (false, [.int .i64])]) (b8, ((l + (i' + 1) : Nat) : Int), ()) (80 - (i' + 1)) rfl (by omega) (congrArg (fun z => [Value.bool b8, Value.int .i64 z]) (show IntKind.wrap .i64 (((l + i' : Nat) : Int) + 1) = ((l + (i' + 1) : Nat) : Int) by rw [wrap_i64 (by omega) (by omega)]; omega)) ⟨i' + 1, rfl, by omega, rfl, rfl⟩
end Go.Sx.Ob

set_option linter.unusedVariables false
set_option linter.unusedSimpArgs false
set_option maxRecDepth 100000
namespace Go.Sx.Ob
open Go.Proofs
/-! Why a reading fails: never 0. -/
def Wh {α : Type} (a : Rd α) : Prop := ∀ e, a = .error e → e.2 ≠ 0 ∧ e.2 < 100
theorem Wh.ok {α : Type} (x : α × Bt) : Wh (.ok x) := fun e h => nomatch h
theorem Wh.err {α : Type} {n w : Nat} (h : w ≠ 0 ∧ w < 100) : Wh (.error (n, w) : Rd α) := fun e he => by cases he; exact h
theorem Wh.and {α β : Type} {a : Rd α} {k : α → Bt → Rd β} (h1 : Wh a) (h2 : ∀ x r, Wh (k x r)) : Wh (andR a k) := by
  cases a with
  | ok q => exact h2 _ _
  | error e => intro e' he; cases he; exact h1 e rfl
theorem Wh.at {α : Type} {a : Rd α} {r : Bt} {w : Nat} {ok : α → Bool} (hw : w ≠ 0 ∧ w < 100) (h : Wh a) : Wh (at_ r w ok a) := by
  refine Wh.and h (fun x r' => ?_)
  split
  · exact Wh.ok _
  · exact Wh.err hw
theorem Wh.num (w : Nat) (r : Bt) : Wh (numR w r) := by
  unfold numR
  split
  · exact Wh.ok _
  · exact Wh.err (by decide)
theorem Wh.text (r : Bt) : Wh (textR r) := by
  refine Wh.and (Wh.num _ _) (fun n r => ?_)
  split
  · exact Wh.ok _
  · exact Wh.err (by decide)
theorem Wh.terms : ∀ (n : Nat) (r : Bt), Wh (termsR n r)
  | 0, r => Wh.ok _
  | n + 1, r => Wh.and (Wh.text _) fun s r => Wh.and (Wh.num _ _) fun c r => Wh.and (Wh.terms n r) fun ts r => Wh.ok _
theorem Wh.lin (r : Bt) : Wh (linR r) := Wh.and (Wh.num _ _) fun n r => Wh.and (Wh.terms n r) fun ts r => Wh.and (Wh.num _ _) fun c r => Wh.ok _
theorem Wh.ins (r : Bt) : Wh (insB r) := by
  refine Wh.and (Wh.num _ _) fun op r => Wh.and (Wh.num _ _) fun a r => Wh.and (Wh.num _ _) fun b r => Wh.and (Wh.num _ _) fun n r => ?_
  split
  · exact Wh.and (Wh.lin _) fun e r => Wh.ok _
  · exact Wh.ok _
theorem Wh.itm (k : Nat) (r : Bt) : Wh (itmB k r) := by
  unfold itmB
  split
  · exact Wh.and (Wh.text _) fun s r => Wh.ok _
  split
  · exact Wh.ins _
  split
  · exact Wh.and (Wh.num _ _) fun s r => Wh.ok _
  split
  · exact Wh.and (Wh.num _ _) fun s r => Wh.ok _
  split
  · exact Wh.and (Wh.lin _) fun s r => Wh.ok _
  split
  · exact Wh.and (Wh.num _ _) fun s r => Wh.ok _
  · exact Wh.ok _
theorem Wh.item (sec : Nat) (D : List ByteArray) (r : Bt) : Wh (itemR sec D r) := Wh.at (by decide) (Wh.and (Wh.num _ _) fun k r => Wh.itm k r)
theorem Wh.items (sec : Nat) : ∀ (n : Nat) (D : List ByteArray) (r : Bt), Wh (itemsR sec n D r)
  | 0, D, r => Wh.ok _
  | n + 1, D, r => Wh.and (Wh.item sec D r) fun x r => Wh.and (Wh.items sec n _ r) fun l r => Wh.ok _
theorem Wh.equ (D : List ByteArray) (r : Bt) : Wh (equR D r) := Wh.at (by decide) (Wh.and (Wh.text _) fun s r => Wh.and (Wh.lin _) fun e r => Wh.ok _)
theorem Wh.equs : ∀ (n : Nat) (D : List ByteArray) (r : Bt), Wh (equsR n D r)
  | 0, D, r => Wh.ok _
  | n + 1, D, r => Wh.and (Wh.equ D r) fun x r => Wh.and (Wh.equs n _ r) fun l r => Wh.ok _
theorem Wh.glob (D : List ByteArray) (o : ByteArray) (r : Bt) : Wh (globR D o r) := Wh.at (by decide) (Wh.text _)
theorem Wh.globs (D : List ByteArray) : ∀ (n : Nat) (o : ByteArray) (r : Bt), Wh (globsR D n o r)
  | 0, o, r => Wh.ok _
  | n + 1, o, r => Wh.and (Wh.glob D o r) fun x r => Wh.and (Wh.globs D n _ r) fun l r => Wh.ok _
theorem Wh.head : ∀ (l r : Bt), Wh (headR l r)
  | [], r => Wh.ok _
  | c :: l, [] => Wh.err (by decide)
  | c :: l, b :: r => by
    unfold headR
    split
    · exact Wh.head l r
    · exact Wh.err (by decide)
theorem Wh.cnt {α : Type} (m : Option Nat) (f : Nat → Bt → Rd α) (hf : ∀ n r, Wh (f n r)) (r : Bt) : Wh (cntR m f r) := by
  refine Wh.and (Wh.num _ _) fun n r1 => ?_
  split
  · exact Wh.err (by decide)
  · exact hf _ _
theorem Wh.unit (r : Bt) : Wh (unitR r) := by
  refine Wh.and (Wh.and (Wh.head _ _) fun _ r => Wh.and (Wh.cnt _ _ (fun n r => Wh.items _ _ _ _) _) fun t r => Wh.and (Wh.cnt _ _ (fun n r => Wh.items _ _ _ _) _) fun d r => Wh.and (Wh.cnt _ _ (fun n r => Wh.equs _ _ _) _) fun e r => Wh.and (Wh.cnt _ _ (fun n r => Wh.globs _ _ _ _) _) fun g r => Wh.ok _) fun u r => ?_
  split
  · exact Wh.ok _
  · exact Wh.err (by decide)
theorem readR_why {full : Bt} {e : Nat × Nat} (h : readR full = .error e) : e.1 ≤ 2 ^ 60 ∧ e.2 ≠ 0 ∧ e.2 < 10 ^ 18 := by
  unfold readR at h
  split at h
  · cases h
    decide
  · rename_i hl
    cases hu : unitR full with
    | ok q => rw [hu] at h; cases h
    | error q =>
      rw [hu] at h
      cases h
      have := Wh.unit full q hu
      exact ⟨by show full.length - q.1 ≤ _; omega, this.1, by show q.2 < _; omega⟩
def readsT (q : Option Addr) (ll cc : Nat) : T :=
   T.call Tryz.prog 5 [.slice q ll cc, .int .u8 (165 : Int)] false [(false, [.slice 5])] <| fun (p1 : Option Addr) (l2 : Nat) (l3 : Nat) =>
   T.need (((0 : Int) ≤ (0 : Int)) ∧ (((0 : Int) ≤ (ll : Int)) ∧ ((ll : Int) ≤ (l3 : Int)))) <|
   T.call Tryz.prog 6 [.slice (if (l3 = 0) then p1 else (Option.map (fun a => Addr.add a 0) p1)) ((Int.toNat (ll : Int)) - 0) (l3 - 0)] true [(true, [.slice 102, .slice 102, .slice 78, .slice 9]), (false, [.interface #[("Error", 72)]])] <| fun (p4 : Option Addr) (l5 : Nat) (l6 : Nat) (p7 : Option Addr) (l8 : Nat) (l9 : Nat) (p10 : Option Addr) (l11 : Nat) (l12 : Nat) (p13 : Option Addr) (l14 : Nat) (l15 : Nat) (v16 : Value) =>
   T.new [.slice none 0 0, .slice none 0 0, .slice none 0 0, .slice none 0 0] 28 <| fun (a17 : Addr) =>
   T.stores a17 [.slice p4 l5 l6, .slice p7 l8 l9, .slice p10 l11 l12, .slice p13 l14 l15] <|
   T.call Tryz.prog 7 [.slice q ll cc] true [(true, [.slice 102, .slice 102, .slice 78, .slice 9]), (true, [.int .i64, .int .i64])] <| fun (p18 : Option Addr) (l19 : Nat) (l20 : Nat) (p21 : Option Addr) (l22 : Nat) (l23 : Nat) (p24 : Option Addr) (l25 : Nat) (l26 : Nat) (p27 : Option Addr) (l28 : Nat) (l29 : Nat) (n30 : Int) (n31 : Int) =>
   T.new [.slice none 0 0, .slice none 0 0, .slice none 0 0, .slice none 0 0] 28 <| fun (a32 : Addr) =>
   T.new [.int .i64 (0 : Int), .int .i64 (0 : Int)] 34 <| fun (a33 : Addr) =>
   T.stores a32 [.slice p18 l19 l20, .slice p21 l22 l23, .slice p24 l25 l26, .slice p27 l28 l29] <|
   T.stores a33 [.int .i64 n30, .int .i64 n31] <|
   T.loads a33 [.int .i64, .int .i64] <| fun (n34 : Int) (n35 : Int) =>
   T.call Tryz.prog 8 [v16, .agg #[.int .i64 n34, .int .i64 n35]] false [(false, [.bool])] <| fun (b36 : Bool) =>
   cond b36
    (T.loads a17 [.slice 102, .slice 102, .slice 78, .slice 9] <| fun (p37 : Option Addr) (l38 : Nat) (l39 : Nat) (p40 : Option Addr) (l41 : Nat) (l42 : Nat) (p43 : Option Addr) (l44 : Nat) (l45 : Nat) (p46 : Option Addr) (l47 : Nat) (l48 : Nat) =>
    T.loads a32 [.slice 102, .slice 102, .slice 78, .slice 9] <| fun (p49 : Option Addr) (l50 : Nat) (l51 : Nat) (p52 : Option Addr) (l53 : Nat) (l54 : Nat) (p55 : Option Addr) (l56 : Nat) (l57 : Nat) (p58 : Option Addr) (l59 : Nat) (l60 : Nat) =>
    T.call Tryz.prog 9 [.agg #[.slice p37 l38 l39, .slice p40 l41 l42, .slice p43 l44 l45, .slice p46 l47 l48], .agg #[.slice p49 l50 l51, .slice p52 l53 l54, .slice p55 l56 l57, .slice p58 l59 l60]] false [(false, [.bool])] <| fun (b61 : Bool) =>
    cond b61
     (T.call Tryz.prog 10 [.slice p1 l2 l3, .slice q ll cc, .int .u8 (165 : Int)] false [(false, [.bool])] <| fun (b62 : Bool) =>
     cond b62
      (T.call Tryz.prog 11 [] false [(false, [.bool])] <| fun (b63 : Bool) =>
      T.ret (.bool b63))
      (T.ret (.bool false)))
     (T.ret (.bool false)))
    (T.ret (.bool false))
theorem readsT_of {L : Lp} {h : Hp} (t : Tab h) (p : Pow10 h) {q : Option Addr} {l c : Nat} {bs : Bt} (v : VwB h q l bs) (hc : l ≤ c) (hn : q = none → c = 0) (hl : bs.length ≤ 2 ^ 47) : readsT q l c L (fun w h' => w = .bool true ∧ Ext h h') h := by
  unfold readsT
  have hlen := v.len
  have hr := roomyB_hc (c := c) v hn hl 165
  rw [show (((165 : UInt8).toNat : Nat) : Int) = 165 from rfl] at hr
  refine call_of hr ?_
  rintro _ h1 ⟨e1, g, rfl, hg, sl⟩
  refine ⟨((some ⟨g, 0, none⟩, l + 80, l + 80), ()), rfl, ?_⟩
  dsimp only [flat, unc, unc1, List.nil_append, List.cons_append]
  refine need_of ⟨by omega, by omega, by omega⟩ ?_
  have w : VwB h1 (some ⟨g, 0, none⟩) (l + 80) (bs ++ List.replicate 80 165) := SL.vwB sl
  have w1 := w.take (n := l) (by omega)
  rw [List.take_append_of_le_length (by omega), List.take_of_length_le (by omega)] at w1
  have ee : (if l + 80 = 0 then some (⟨g, 0, none⟩ : Addr) else Option.map (fun a => Addr.add a 0) (some ⟨g, 0, none⟩)) = some ⟨g, 0, none⟩ := by
    rw [if_neg (by omega)]
    rfl
  rw [ee, show Int.toNat (l : Int) - 0 = l by omega, Nat.sub_zero]
  refine call_of (read_hc (t.keep e1 (by simp)) w1 (by omega) (by omega)) ?_
  rintro _ h2 ⟨a, b, cc, d, ev, u, e, rfl, own, ea, re, _, e2⟩
  refine ⟨((a.p, a.l, a.c), (b.p, b.l, b.c), (cc.p, cc.l, cc.c), (d.p, d.l, d.c), ev, ()), rfl, ?_⟩
  dsimp only [flat, unc, unc1, List.nil_append, List.cons_append]
  refine aside ?_
  intro h3 b3 e3
  have e12 := e1.trans e2
  have e03 := e12.trans e3
  refine call_of (zread_hc (v.keep e03) hc (by omega)) ?_
  rintro _ h4 ⟨a', b', c', d', u', at_, why, rfl, own', rz, _, e4⟩
  refine ⟨((a'.p, a'.l, a'.c), (b'.p, b'.l, b'.c), (c'.p, c'.l, c'.c), (d'.p, d'.l, d'.c), (at_ : Int), (why : Int), ()), rfl, ?_⟩
  dsimp only [flat, unc, unc1, List.nil_append, List.cons_append]
  refine newB ?_
  intro h5 b5 e5 z5
  refine newB ?_
  intro h6 b6 e6 z6
  have b56 := b5.keep e6 (by simp)
  refine stores_of b56 rfl (by simp) ?_
  intro h7 b7 k7 z7
  have b7 : Box h7 h4.size 28 [a'.v, b'.v, c'.v, d'.v] := b7
  have b67 := b6.keep k7 (by have := b56.lt; simp; omega)
  refine stores_of b67 rfl (by simp) ?_
  intro h8 b8 k8 z8
  have b8 : Box h8 h5.size 34 [.int .i64 at_, .int .i64 why] := b8
  have b78 := b7.keep k8 (by simp; omega)
  have e48 : Ext h4 h8 := ((e5.trans e6).st k7 (Nat.le_refl _)).st k8 (by omega)
  have e38 := e4.trans e48
  have e28 := e3.trans e38
  have e08 := e03.trans e38
  refine loads_box b8 ((at_ : Int), (why : Int), ()) rfl ?_
  dsimp only [flat, unc, unc1, List.nil_append, List.cons_append]
  have hE : (∀ r, e = some r → readR bs = .error r ∧ u = unt0) := fun r hr => by subst hr; exact re
  refine call_boolx (refused_hc (p.keep e08 (by simp)) (ea.keep e28) (fun r hr => by have := readR_why (hE r hr).1; exact ⟨this.1, this.2.2⟩) at_ why) ?_
  intro h9 e9
  have hw : wants at_ why e = true ∧ u = u' := by
    unfold ReadZ at rz
    cases hr : readR bs with
    | ok x =>
      rw [hr] at rz
      obtain ⟨rfl, rfl, rfl⟩ := rz
      obtain ⟨rfl, rfl⟩ := readE_ok re hr
      exact ⟨rfl, rfl⟩
    | error x =>
      rw [hr] at rz
      obtain ⟨rfl, rfl, rfl⟩ := rz
      obtain ⟨rfl, rfl⟩ := readE_err re hr
      refine ⟨?_, rfl⟩
      unfold wants
      rw [if_neg (readR_why hr).2.1]
      simp
  obtain ⟨hw, rfl⟩ := hw
  refine cond_t hw ?_
  have e29 := e28.trans e9
  refine loads_box (b3.keep (e38.trans e9) (by simp)) ((a.p, a.l, a.c), (b.p, b.l, b.c), (cc.p, cc.l, cc.c), (d.p, d.l, d.c), ()) rfl ?_
  dsimp only [flat, unc, unc1, List.nil_append, List.cons_append]
  refine loads_box (b78.keep e9 (by simp)) ((a'.p, a'.l, a'.c), (b'.p, b'.l, b'.c), (c'.p, c'.l, c'.c), (d'.p, d'.l, d'.c), ()) rfl ?_
  dsimp only [flat, unc, unc1, List.nil_append, List.cons_append]
  refine call_of (sameUnit_hc (own.at.keep e29) (own'.at.keep (e48.trans e9))) ?_
  rintro _ h10 ⟨bb, rfl, hb, e10⟩
  have hb := hb.2 rfl
  subst hb
  refine ⟨(true, ()), rfl, ?_⟩
  dsimp only [flat, unc, unc1, List.nil_append, List.cons_append]
  refine cond_t rfl ?_
  have e010 := (e08.trans e9).trans e10
  have e110 := (e2.trans (e29.trans e10))
  have hi := intactB_hc (d := c) (b := 165) (sl.keep e110 (by simp)) (v.keep e010) (by omega)
  rw [show (((165 : UInt8).toNat : Nat) : Int) = 165 from rfl] at hi
  refine call_boolx hi ?_
  intro h11 e11
  refine cond_t rfl ?_
  have e011 := e010.trans e11
  refine call_boolx (known_hc (t.keep e011 (by simp)) (p.keep e011 (by simp))) ?_
  intro h12 e12
  exact ⟨rfl, e011.trans e12⟩
theorem reads_hc {h : Hp} (t : Tab h) (p : Pow10 h) {q : Option Addr} {l c : Nat} {bs : Bt} (v : VwB h q l bs) (hc : l ≤ c) (hn : q = none → c = 0) (hl : bs.length ≤ 2 ^ 47) :
    HC Tryz.prog 3 #[.slice q l c] h fun w h' => w = .bool true ∧ Ext h h' := by
  refine hcr_of (args := [.slice q l c]) mixed Tryz.func3 (by kernel_rfl) (t_spandrellaw10_ObjectReads_eq q l c) ?_
  unfold t_spandrellaw10_ObjectReads
  have hlen := v.len
  refine cond_mk (fun w => ?_) (fun w => ?_)
  · refine cond_mk (fun r => ?_) (fun r => ?_)
    · have r := of_decide_eq_true r
      refine need_of ⟨by omega, by omega, by omega⟩ ?_
      have eq1 : (if c = 0 then q else Option.map (fun a => Addr.add a 0) q) = q := by
        split
        · rfl
        · cases q with
          | none => rfl
          | some a => simp [Addr.add]
      rw [eq1]
      exact readsT_of (l := 3000) (c := c) t p (v.take (n := 3000) (by omega)) (by omega) hn (by rw [List.length_take]; omega)
    · exact readsT_of t p v hc hn hl
  · exact readsT_of t p v hc hn hl
end Go.Sx.Ob

set_option linter.unusedVariables false
set_option linter.unusedSimpArgs false
set_option maxRecDepth 100000
namespace Go.Sx.Ob
open Go.Proofs Go.Proofs.YtnjohginlglonaaGreatDoor
open Go.ChangeShapes Go.WideShapes Go.ChangeAt Go.WideMaps Go.WideElems Go.RowKit
def flds2 (P : Program) (t : TypeId) : Option (List (TypeId × Nat)) := (P.underlying t).bind fun d => match d with | .struct fs => some (fs.toList.map fun f => (f.type, f.offset)) | _ => none
section
variable {H : Type} {enc : TypeId × Value → H} {P : Program} {W : World} {base fuel : Nat} {sp : Nat → Bool} {held : Bool} {t : TypeId} {cs : List Value} {y : DataW H × List MemPlace}
theorem open_struct {l : List (TypeId × Nat)} (hu : flds2 P t = some l) (h : DataW.trod enc P W base sp held fuel t cs = some y) :
    ∃ (xs : List (DataW H × List MemPlace)) (n : Nat), y.1 = .agg (xs.map (·.1)) ∧ cs.length = P.cellsOf t ∧ xs.length = l.length ∧ ∀ (i : Nat) (p : TypeId × Nat), l[i]? = some p → ∃ x, xs[i]? = some x ∧ DataW.trod enc P W base sp held n p.1 ((cs.drop p.2).take (P.cellsOf p.1)) = some x := by
  unfold flds2 at hu
  cases hd : P.underlying t with
  | none => rw [hd] at hu; cases hu
  | some d =>
    rw [hd] at hu
    simp only [Option.bind_some] at hu
    split at hu
    · rename_i fs
      simp only [Option.some.injEq] at hu
      obtain ⟨xs, n, _, hy, hl, hlen, hf⟩ := DataW.trod_struct hd h
      refine ⟨xs, n, by rw [hy], hl, by rw [← hu, List.length_map, hlen, Array.length_toList], fun i p hp => ?_⟩
      rw [← hu, List.getElem?_map, Option.map_eq_some_iff] at hp
      obtain ⟨f, hf1, rfl⟩ := hp
      rw [Array.getElem?_toList] at hf1
      have h1 := hf i f hf1
      cases hx : xs[i]? with
      | none =>
        rw [List.getElem?_eq_none_iff] at hx
        have : i < fs.size := by
          by_cases g : i < fs.size
          · exact g
          · rw [Array.getElem?_eq_none (by omega)] at hf1
            cases hf1
        omega
      | some x => rw [hx] at h1; exact ⟨x, rfl, h1⟩
    · cases hu
theorem cellsAt_of {h : Hp} {a : Addr} : ∀ (vs : List Value) (i : Nat), (∀ j, (hj : j < vs.length) → hcell h (a.add (i + j)) = some vs[j]) → cellsAt h a i vs
  | [], _, _ => trivial
  | v :: vs, i, hh => ⟨by have := hh 0 (by simp); rw [Nat.add_zero] at this; exact this, cellsAt_of vs (i + 1) fun j hj => by
    have := hh (j + 1) (by simpa using hj)
    rw [show i + 1 + j = i + (j + 1) by omega]
    simpa using this⟩
theorem cellsN {a : Addr} {n : Nat} (h : W.cells? base a n = some cs) : cs.length = n ∧ cellsAt W.heap a 0 cs := by
  unfold World.cells? at h
  split at h
  · have hl : cs.length = n := by simpa using Lib.mapM_length h
    refine ⟨hl, cellsAt_of cs 0 fun j hj => ?_⟩
    obtain ⟨b, hb, hf⟩ := Lib.mapM_at h j j (List.getElem?_range (by omega))
    rw [List.getElem?_eq_getElem hj] at hb
    cases hb
    rw [Nat.zero_add, ← cell_heap]
    exact hf
  · cases h
theorem choose_list {α : Type} (Q : Nat → α → Prop) : ∀ n, (∀ i, i < n → ∃ x, Q i x) → ∃ l : List α, l.length = n ∧ ∀ i (hi : i < l.length), Q i l[i]
  | 0, _ => ⟨[], rfl, fun i hi => by simp at hi⟩
  | n + 1, h => by
    obtain ⟨l, hl, hp⟩ := choose_list Q n (fun i hi => h i (by omega))
    obtain ⟨x, hx⟩ := h n (by omega)
    refine ⟨l ++ [x], by simp [hl], fun i hi => ?_⟩
    by_cases hin : i < l.length
    · rw [List.getElem_append_left hin]
      exact hp i hin
    · have hi' : i = n := by simp at hi; omega
      subst hi'
      rw [List.getElem_append_right (by omega)]
      simpa using hx
/-- The bulk of a list whose things have these bulks. -/
theorem bulk_sum {ds : List (DataW H)} {ks : List Nat} (hl : ds.length = ks.length) (h : ∀ i, (hi : i < ks.length) → (hj : i < ds.length) → ks[i] = Rows.uptoBulk ds[i]) : Rows.uptoBulkAll ds = ks.sum := by
  induction ds generalizing ks with
  | nil =>
    cases ks with
    | nil => rfl
    | cons k ks => simp at hl
  | cons d ds ih =>
    cases ks with
    | nil => simp at hl
    | cons k ks =>
      have h0 := h 0 (by simp) (by simp)
      simp only [List.getElem_cons_zero] at h0
      have := ih (ks := ks) (by simpa using hl) (fun i hi hj => h (i + 1) (by simpa using hi) (by simpa using hj))
      unfold Rows.uptoBulkAll
      rw [this, List.sum_cons, h0]
/-- What is known of a list that lies in memory: each thing, its cells, its bulk. -/
structure LsIn {α : Type} (Q : α → List Value → Nat → Prop) (h : Hp) (sz : Nat) (p : Option Addr) (l c : Nat) (us : List α) (ks : List Nat) : Prop where
  len : l = us.length
  lenk : ks.length = us.length
  cells : ∀ i, (hi : i < us.length) → (hk : i < ks.length) → ∃ a cs, p = some a ∧ cellsAt h (a.add (i * sz)) 0 cs ∧ Q us[i] cs ks[i]
  cap : l ≤ c
  capm : c ≤ maxLen
  nil : p = none → c = 0
theorem open_slice {α : Type} {e : TypeId} {sz : Nat} (hu : P.underlying t = some (.slice e)) (hc : P.cellsOf e = sz) (Q : α → List Value → Nat → Prop)
    (hel : ∀ (cs : List Value) (y : DataW H × List MemPlace) (n : Nat), DataW.trod enc P W base sp held n e cs = some y → ∃ x : α, Q x cs (Rows.uptoBulk y.1))
    (h : DataW.trod enc P W base sp held fuel t cs = some y) :
    ∃ (p : Option Addr) (l c : Nat) (us : List α) (ks : List Nat), cs = [.slice p l c] ∧ LsIn Q W.heap sz p l c us ks ∧ ks.sum + 1 ≤ Rows.uptoBulk y.1 := by
  rcases DataW.trod_slice hu h with ⟨e0, hy0⟩ | ⟨a, len, cap, elems, rest, n, _, e0, hy0, hbase, hlc, hcm, hlen, hev, _, _⟩
  · refine ⟨none, 0, 0, [], [], e0, ⟨rfl, rfl, fun i hi => by simp at hi, Nat.le_refl _, Nat.zero_le _, fun _ => rfl⟩, ?_⟩
    rw [hy0]
    simp only [Rows.uptoBulk]
    decide
  · have each : ∀ i, i < len → ∃ x : α × Nat, ∃ cs', cellsAt W.heap (a.add (i * sz)) 0 cs' ∧ Q x.1 cs' x.2 ∧ ∃ y, elems[i]? = some y ∧ x.2 = Rows.uptoBulk y.1 := by
      intro i hi
      have he := hev i hi
      cases hy : elems[i]? with
      | none => rw [List.getElem?_eq_none_iff] at hy; omega
      | some y =>
        rw [hy, hc] at he
        simp only [Option.bind_eq_some_iff] at he
        obtain ⟨cs', hcs, htr⟩ := he
        obtain ⟨hl, hcell⟩ := cellsN hcs
        obtain ⟨x, hx⟩ := hel _ _ _ htr
        exact ⟨(x, Rows.uptoBulk y.1), cs', hcell, hx, y, rfl, rfl⟩
    obtain ⟨xs, hxl, hxs⟩ := choose_list _ len each
    refine ⟨some a, len, cap, xs.map (·.1), xs.map (·.2), e0, ⟨by rw [List.length_map, hxl], by rw [List.length_map, List.length_map], fun i hi hk => ?_, hlc, hcm, fun h => by cases h⟩, ?_⟩
    · rw [List.length_map] at hi
      obtain ⟨cs', h1, h2, _⟩ := hxs i hi
      rw [List.getElem_map, List.getElem_map]
      exact ⟨a, cs', rfl, h1, h2⟩
    · have := bulk_sum (ds := elems.map (·.1)) (ks := xs.map (·.2)) (by rw [List.length_map, List.length_map, hlen, hxl]) (fun i hi hj => by
        rw [List.length_map] at hi hj
        obtain ⟨cs', _, _, y, hy, hk⟩ := hxs i hi
        rw [List.getElem?_eq_getElem hj] at hy
        rw [List.getElem_map, List.getElem_map, hk, Option.some.inj hy])
      rw [hy0]
      simp only [Rows.uptoBulk]
      rw [this]
      omega
end
/-- What a call over heaps is, of a world: a call that leaves what was there. -/
theorem calls_of {P : Program} {f : FuncId} {args : Array Value} {W : World} {R : Value → Hp → Prop} (h : HC P f args W.heap R) (he : ∀ v h', R v h' → Ext W.heap h') : Calls P f args W fun e w' => ∃ v, e = .returned v ∧ Below W.heap.size W w' ∧ R v w'.heap := by
  refine (h W rfl).mono fun e w' ⟨v, hv, hs, hr⟩ => ⟨v, hv, ⟨hs.os, hs.tape, hs.output, (he v _ hr).size, fun k hk => (he v _ hr).same k hk (by simp)⟩, hr⟩
theorem below_same {W W' : World} (hB : Below W.heap.size W W') {p : MemPlace} (hp : p.block < W.heap.size) : W.sameAt W' p := by
  cases p with
  | cell b off =>
    show W'.cell? _ = W.cell? _
    unfold World.cell?
    rw [hB.block b hp]
  | map b => exact hB.block b hp
end Go.Sx.Ob

set_option linter.unusedVariables false
set_option linter.unusedSimpArgs false
set_option maxRecDepth 100000
namespace Go.Sx.Ob
open Go.Proofs Go.Proofs.YtnjohginlglonaaGreatDoor
open Go.ChangeShapes Go.WideShapes Go.ChangeAt Go.WideMaps Go.WideElems Go.RowKit
theorem ownK : ownKnob Tryz.prog.godebug = none := by kernel_rfl
theorem u9 : Tryz.prog.underlying 9 = some .string := by kernel_rfl
theorem u4 : Tryz.prog.underlying 4 = some .bool := by kernel_rfl
theorem u3 : Tryz.prog.underlying 3 = some (.int .i64) := by kernel_rfl
theorem u5 : Tryz.prog.underlying 5 = some (.int .u8) := by kernel_rfl
theorem u127 : Tryz.prog.underlying 167 = some (.array 43 155) := by kernel_rfl
theorem c106 : Tryz.prog.cellsOf 155 = 3 := by kernel_rfl
theorem c127 : Tryz.prog.cellsOf 167 = 129 := by kernel_rfl
theorem c9 : Tryz.prog.cellsOf 9 = 1 := by kernel_rfl
theorem c5 : Tryz.prog.cellsOf 5 = 1 := by kernel_rfl
theorem c3 : Tryz.prog.cellsOf 3 = 1 := by kernel_rfl
theorem s106 : flds2 Tryz.prog 155 = some [(9, 0), (5, 1), (3, 2)] := by kernel_rfl
def tabL : List (DataW Unit) := match (Rows.laid_spandrel_isa_table : DataW Unit) with | .agg l => l | _ => []
def shpOf : DataW Unit → Int
  | .agg [_, _, .lit (.int _ n)] => n
  | _ => 0
theorem tabL_eq : (Rows.laid_spandrel_isa_table : DataW Unit) = .agg tabL := by kernel_rfl
theorem tabL_shp : tabL.map shpOf = (List.range 43).map fun k => ((shpL.getD k 0 : Nat) : Int) := by kernel_rfl
theorem flat_len {α β : Type} (f : α → List β) (m : Nat) (hf : ∀ x, (f x).length = m) : ∀ l : List α, (l.flatMap f).length = l.length * m
  | [] => by simp
  | x :: l => by rw [List.flatMap_cons, List.length_append, hf, flat_len f m hf l, List.length_cons, Nat.succ_mul, Nat.add_comm]
theorem rowsV_length (nm : Nat → ByteArray) (by_ : Nat → Int) : (rowsV nm by_).length = 129 := by
  unfold rowsV
  rw [flat_len _ 3 (fun x => rfl), List.length_range]
theorem tab_cells {enc : TypeId × Value → Unit} {W : World} {base fuel : Nat} {sp : Nat → Bool} {held : Bool} {cs : List Value} {p : List MemPlace}
    (h : DataW.trod enc Tryz.prog W base sp held fuel 167 cs = some (Rows.laid_spandrel_isa_table, p)) : ∃ nm by_, cs = rowsV nm by_ := by
  obtain ⟨xs, m, _, hx, hl, hlen, hf⟩ := DataW.trod_array u127 h
  rw [c127] at hl
  have hxs : xs.map (·.1) = tabL := by
    have := congrArg Prod.fst hx
    rw [show (Rows.laid_spandrel_isa_table, p).1 = DataW.agg tabL from tabL_eq] at this
    simpa using this.symm
  have each : ∀ i, i < 43 → ∃ q : ByteArray × Int, (cs.drop (i * 3)).take 3 = [.string q.1, .int .u8 q.2, .int .i64 ((shpL.getD i 0 : Nat) : Int)] := by
    intro i hi
    have h1 := hf i hi
    rw [c106] at h1
    rw [List.getElem?_eq_getElem (by omega)] at h1
    obtain ⟨ys, n, hy, hyl, hyn, hys⟩ := open_struct s106 h1
    obtain ⟨y0, g0, t0⟩ := hys 0 _ rfl
    obtain ⟨y1, g1, t1⟩ := hys 1 _ rfl
    obtain ⟨y2, g2, t2⟩ := hys 2 _ rfl
    rw [c106] at hyl
    generalize hc : (cs.drop (i * 3)).take 3 = c at *
    match c, hyl with
    | [v0, v1, v2], _ =>
      rw [show Tryz.prog.cellsOf (9, 0).1 = 1 from c9] at t0
      rw [show Tryz.prog.cellsOf (5, 1).1 = 1 from c5] at t1
      rw [show Tryz.prog.cellsOf (3, 2).1 = 1 from c3] at t2
      obtain ⟨s, e0, r0, _⟩ := DataW.trod_string u9 t0
      obtain ⟨b, e1, r1, _⟩ := DataW.trod_int u5 t1
      obtain ⟨k, e2, r2, _⟩ := DataW.trod_int u3 t2
      cases e0; cases e1; cases e2
      refine ⟨(s, b), ?_⟩
      have hk : k = ((shpL.getD i 0 : Nat) : Int) := by
        have hys3 : ys = [y0, y1, y2] := by
          apply List.ext_getElem?
          intro j
          match j with
          | 0 => exact g0
          | 1 => exact g1
          | 2 => exact g2
          | j + 3 => rw [List.getElem?_eq_none (by rw [hyn]; simp), List.getElem?_eq_none (by simp)]
        have h2 : (xs.map (·.1))[i]? = some (xs[i]'(by omega)).1 := by rw [List.getElem?_map, List.getElem?_eq_getElem (by omega)]; rfl
        rw [hxs] at h2
        have h3 : (tabL.map shpOf)[i]? = some (shpOf (xs[i]'(by omega)).1) := by rw [List.getElem?_map, h2]; rfl
        rw [tabL_shp, List.getElem?_map, List.getElem?_range hi] at h3
        rw [hy, hys3, r0, r1, r2] at h3
        exact (Option.some.inj h3).symm
      rw [hk]
  obtain ⟨qs, hql, hqs⟩ := choose_list _ 43 each
  refine ⟨fun k => (qs.getD k (⟨#[]⟩, 0)).1, fun k => (qs.getD k (⟨#[]⟩, 0)).2, ?_⟩
  apply List.ext_getElem?
  intro j
  by_cases hj : j < 129
  · obtain ⟨a, b, hab, hb⟩ : ∃ a b, j = a * 3 + b ∧ b < 3 := ⟨j / 3, j % 3, by omega, by omega⟩
    subst hab
    unfold rowsV
    rw [flat_get (fun k => [Value.string ((qs.getD k (⟨#[]⟩, 0)).1), .int .u8 ((qs.getD k (⟨#[]⟩, 0)).2), .int .i64 (shpL.getD k 0 : Nat)]) 3 (fun x => rfl) _ a b hb, List.getElem?_range (by omega)]
    show cs[a * 3 + b]? = [Value.string ((qs.getD a (⟨#[]⟩, 0)).1), .int .u8 ((qs.getD a (⟨#[]⟩, 0)).2), .int .i64 ((shpL.getD a 0 : Nat) : Int)][b]?
    have ha : a < qs.length := by omega
    have := hqs a ha
    rw [List.getD_eq_getElem?_getD, List.getElem?_eq_getElem ha, Option.getD_some, ← this, List.getElem?_take, if_pos hb, List.getElem?_drop]
  · have hr : (rowsV (fun k => (qs.getD k (⟨#[]⟩, 0)).1) (fun k => (qs.getD k (⟨#[]⟩, 0)).2)).length = 129 := by
      exact rowsV_length _ _
    rw [List.getElem?_eq_none (by omega), List.getElem?_eq_none (by omega)]
theorem var_obj {P : Program} {W : World} {name : String} {g : Nat} {cs : Array Value} (hg : P.globalNamed name = some g) (hv : W.var? P name = some cs) : ∃ e f, W.heap[g]? = some (.cells cs e f) := by
  unfold World.var? at hv
  rw [hg] at hv
  have hv : (match (W.heap[g]? : Option Obj) with | some (.cells cs _ _) => some cs | _ => none) = some cs := hv
  split at hv
  · rename_i cs' e f hh
    cases hv
    exact ⟨e, f, hh⟩
  · cases hv
theorem laid_of {W : World} (h : laidMetH Tryz.prog Rows.objectReadsRow.laid W) : Tab W.heap ∧ Pow10 W.heap := by
  rw [MakeChecks.laidMetH_plain _ _ _ (by kernel_rfl)] at h
  obtain ⟨ps, ⟨g0, t0, cs0, f0, p0, q0, hg0, ht0, hv0, hd0, ⟨g1, t1, cs1, f1, p1, q1, hg1, ht1, hv1, hd1, ⟨g2, t2, cs2, f2, p2, q2, hg2, ht2, hv2, hd2, ⟨g3, t3, cs3, f3, p3, q3, hg3, ht3, hv3, hd3, _, _⟩, _⟩, _⟩, _⟩, _, _⟩ := h
  obtain rfl := Option.some.inj ((show Tryz.prog.globalNamed _ = some 1 by kernel_rfl).symm.trans hg2)
  obtain rfl := Option.some.inj ((show Tryz.prog.globalNamed _ = some 0 by kernel_rfl).symm.trans hg3)
  have h2 : (Tryz.prog.globals[1]?).map (·.type) = some 179 := by kernel_rfl
  obtain rfl := Option.some.inj (h2.symm.trans ht2)
  have h3 : (Tryz.prog.globals[0]?).map (·.type) = some 167 := by kernel_rfl
  obtain rfl := Option.some.inj (h3.symm.trans ht3)
  have hc := Lib.cells_of_tab (n := 20) (e := 172) (k := .u64) (zs := Lib.pow10Tab) (by kernel_rfl) (by kernel_rfl) (by kernel_rfl) (by kernel_rfl) hd2
  obtain ⟨nm, by_, hr⟩ := tab_cells hd3
  obtain ⟨e2, ff2, ho2⟩ := var_obj hg2 hv2
  obtain ⟨e3, ff3, ho3⟩ := var_obj hg3 hv3
  refine ⟨⟨nm, by_, e3, ff3, ?_⟩, ⟨e2, ff2, ?_⟩⟩
  · rw [ho3, ← hr]
  · rw [ho2, ← hc]
theorem door_met (os : Os) (args : Array Value) : laidMetH Tryz.prog Rows.objectReadsRow.laid ((World.doorLaid Tryz.prog 400 os).forCall (fun _ _ => 0) ⟨#[], args, []⟩).memory :=
  laidMetH_of_parts3 (fuel := 8) (laidMet_of_run' 8 (by kernel_rfl) (by kernel_rfl)) (by kernel_rfl) (by kernel_rfl)
end Go.Sx.Ob

set_option linter.unusedVariables false
set_option linter.unusedSimpArgs false
set_option maxRecDepth 100000
namespace Go.Sx.Ob
open Go.Proofs Go.Proofs.YtnjohginlglonaaGreatDoor
open Go.ChangeShapes Go.WideShapes Go.ChangeAt Go.WideMaps Go.WideElems Go.RowKit
theorem kidsT : Kids Tryz.prog (· < Tryz.prog.types.size) := kids_rows (by kernel_rfl) (by kernel_rfl)
theorem sliceB : ((List.range Tryz.prog.types.size).all fun t => match Tryz.prog.underlying t with | some (.slice e) => decide (0 < Tryz.prog.cellsOf e) | _ => true) = true := by kernel_rfl
theorem sliceT {t e : TypeId} (ht : t < Tryz.prog.types.size) (hu : Tryz.prog.underlying t = some (.slice e)) : 0 < Tryz.prog.cellsOf e := by
  have := List.all_eq_true.1 sliceB t (List.mem_range.2 ht)
  rw [hu] at this
  exact of_decide_eq_true this
theorem trodAll_stays {H : Type} {enc : TypeId × Value → H} {W W' : World} {sp : Nat → Bool} (hB : Below W.heap.size W W') : ∀ {ts : List TypeId} {vs : List Value} {ds : List (DataW H)} {ps : List MemPlace}, (∀ t ∈ ts, t < Tryz.prog.types.size) →
    DataW.TrodAll enc Tryz.prog W 0 (fun _ => true) true ts vs ds ps → (∀ p ∈ ps, p.block < W.heap.size) → (∀ p ∈ ps, sp p.block = true) → DataW.TrodAll enc Tryz.prog W' 0 sp true ts vs ds ps
  | [], _, _, _, _, h, _, _ => by
    obtain ⟨rfl, rfl, rfl⟩ := trodAll_nil h
    exact trodAll_mk0
  | t :: ts, _, _, _, ht, h, hl, hs => by
    obtain ⟨v, vs1, d, ds1, a, b, rfl, rfl, rfl, ⟨n, h1⟩, h2⟩ := trodAll_cons h
    exact ⟨a, b, ⟨n, DataW.trod_stays kidsT (fun h hu => sliceT h hu) (fun h => by cases h) (ht t (List.mem_cons_self ..)) h1 (fun p hp => below_same hB (hl p (List.mem_append_left _ hp))) (fun p hp => hs p (List.mem_append_left _ hp))⟩,
      trodAll_stays hB (fun t h => ht t (List.mem_cons_of_mem _ h)) h2 (fun p hp => hl p (List.mem_append_right _ hp)) (fun p hp => hs p (List.mem_append_right _ hp)), rfl⟩
/-- A law's post: it answers, what was handed in reads as it did. -/
theorem post_old {H : Type} {enc : TypeId × Value → H} {f : Func} {s : ChangeSpec} {apart fresh handsOn : Bool} {W W' : World} {args : Array Value} {v : Value} {ds gs : List (DataW H)} {before : List MemPlace} (hv0 : s.vars = [])
    (hW : DataW.Whole enc Tryz.prog f.params.toList s.vars apart W args.toList ds gs before)
    (hres : ∀ (b : Nat) (sp : Nat → Bool) (hd : Bool), DataW.TrodAll enc Tryz.prog W' b sp hd f.resultTypes.toList (v.resultList f.resultTypes.size) (s.fn H (ds ++ gs)).results [])
    (hargs : (s.fn H (ds ++ gs)).args = ds) (hvs : (s.fn H (ds ++ gs)).vars = []) (hts : ∀ t ∈ f.params.toList, t < Tryz.prog.types.size) (hB : Below W.heap.size W W') :
    s.post enc Tryz.prog f apart fresh handsOn false W args v W' := by
  have hlt := hW.lt
  have hW' := hW
  obtain ⟨p, q, hA, hV, rfl, hz, hn⟩ := hW
  rw [hv0] at hV
  obtain ⟨rfl, rfl⟩ := trodVars_none hV
  rw [List.append_nil] at hlt hW'
  refine ⟨ds, [], p, [], p, [], hW', hres _ _ _, ?_, ?_, hB.frame _, fun h => by cases h⟩
  · rw [hargs]
    exact trodAll_stays hB hts hA hlt (fun p hp => decide_eq_true (hlt p hp))
  · rw [hvs, hv0]
    rfl
theorem s55 : flds2 Tryz.prog 75 = some [(73, 0), (69, 1)] := by kernel_rfl
theorem s57 : flds2 Tryz.prog 78 = some [(9, 0), (75, 1)] := by kernel_rfl
theorem s30 : flds2 Tryz.prog 28 = some [(24, 0), (24, 1), (25, 2), (26, 3)] := by kernel_rfl
section
variable {H : Type} {enc : TypeId × Value → H} {W : World} {base n : Nat} {sp : Nat → Bool} {held : Bool} {cs : List Value} {y : DataW H × List MemPlace}
/-- What is known of a Lin. -/
structure LinK (h : Hp) (p : Option Addr) (l c : Nat) (x : Lin) (k : Nat) : Prop where
  vw : VwT h p l x.terms
  names : ∀ t, t ∈ x.terms → t.1.size ≤ maxLen
  num : LinNum x
  many : 3 * x.terms.length ≤ k
  size : (wLin x).length ≤ 2 * k
  cap : l ≤ c
theorem sum_le {α : Type} (f : α → Nat) (m : Nat) : ∀ (us : List α) (ks : List Nat), ks.length = us.length → (∀ i, (hi : i < us.length) → (hk : i < ks.length) → f us[i] ≤ m * ks[i]) → (us.map f).sum ≤ m * ks.sum
  | [], ks, hl, _ => by simp
  | u :: us, [], hl, _ => by simp at hl
  | u :: us, k :: ks, hl, h => by
    have h0 := h 0 (by simp) (by simp)
    simp only [List.getElem_cons_zero] at h0
    have ih := sum_le f m us ks (by simpa using hl) (fun i hi hk => h (i + 1) (by simpa using hi) (by simpa using hk))
    rw [List.map_cons, List.sum_cons, List.sum_cons, Nat.mul_add]
    omega
end
end Go.Sx.Ob

set_option linter.unusedVariables false
set_option linter.unusedSimpArgs false
set_option maxRecDepth 100000
namespace Go.Sx.Ob
open Go.Proofs Go.Proofs.YtnjohginlglonaaGreatDoor
open Go.ChangeShapes Go.WideShapes Go.ChangeAt Go.WideMaps Go.WideElems Go.RowKit
theorem ones_sum {α : Type} : ∀ us : List α, (us.map fun _ => 1).sum = us.length
  | [] => rfl
  | u :: us => by rw [List.map_cons, List.sum_cons, ones_sum us, List.length_cons, Nat.add_comm]
theorem LinK.at {h : Hp} {p : Option Addr} {l c : Nat} {x : Lin} {k : Nat} (q : LinK h p l c x k) (hk : k ≤ 2 ^ 60) : LinAt h p l x := ⟨q.vw, by have := q.many; omega, q.names⟩
section
variable {H : Type} {enc : TypeId × Value → H} {W : World} {base n : Nat} {sp : Nat → Bool} {held : Bool} {cs : List Value} {y : DataW H × List MemPlace}
/-- Bytes that were handed in. -/
structure BytIn (h : Hp) (p : Option Addr) (l c : Nat) (bs : Bt) (N : Nat) : Prop where
  vw : VwB h p l bs
  cap : l ≤ c
  capm : c ≤ maxLen
  nil : p = none → c = 0
  many : bs.length ≤ N
theorem open_bytes {b0 : Nat} {v : Value} {d : DataW H} {ps : List MemPlace} (hval : Value.okWide Tryz.prog W .any b0 22 v) (h : DataW.Trod enc Tryz.prog W base sp held 22 v d ps) :
    ∃ p l c bs, v = .slice p l c ∧ BytIn W.heap p l c bs (Rows.uptoBulk d) := by
  obtain ⟨p, l, c, rfl⟩ := okWide_slice und22 hval
  obtain ⟨fuel, h⟩ := h
  have hlist : (Value.slice p l c).cells.toList = [.slice p l c] := rfl
  rw [hlist] at h
  obtain ⟨p', l', c', us, ks, e0, s, hs⟩ := open_slice und22 c5 (fun (b : UInt8) cs k => cs = [.int .u8 (b.toNat : Int)] ∧ k = 1) (fun cs y n h => by
    obtain ⟨z, e1, r1, w1⟩ := DataW.trod_int u5 h
    have := bounds_u8 w1
    refine ⟨UInt8.ofNat z.toNat, ?_, ?_⟩
    · rw [e1]
      have : (((UInt8.ofNat z.toNat).toNat : Nat) : Int) = z := by simp; omega
      rw [this]
    · rw [r1]; simp only [Rows.uptoBulk]) h
  cases e0
  have hl := s.lenk
  refine ⟨p, l, c, us, rfl, ⟨s.len, fun i hi => ?_⟩, s.cap, s.capm, s.nil, ?_⟩
  · obtain ⟨a, cs, ha, hc, rfl, _⟩ := s.cells i hi (by omega)
    exact ⟨a, ha, hc⟩
  · have := sum_le (fun _ => 1) 1 us ks hl (fun i hi hk => by
      obtain ⟨a, cs, ha, hc, _, hk1⟩ := s.cells i hi hk
      omega)
    rw [ones_sum] at this
    show us.length ≤ Rows.uptoBulk d
    have hs : ks.sum + 1 ≤ Rows.uptoBulk d := hs
    omega
end
end Go.Sx.Ob

set_option linter.unusedVariables false
set_option linter.unusedSimpArgs false
set_option maxRecDepth 100000
namespace Go.Sx.Ob
open Go.Proofs Go.Proofs.YtnjohginlglonaaGreatDoor
open Go.ChangeShapes Go.WideShapes Go.ChangeAt Go.WideMaps Go.WideElems Go.RowKit
theorem bytes_small {H : Type} {enc : TypeId × Value → H} {W : World} {base : Nat} {sp : Nat → Bool} {held : Bool} {p : Option Addr} {l c : Nat} {d : DataW H} {ps : List MemPlace} (h : DataW.Trod enc Tryz.prog W base sp held 22 (.slice p l c) d ps) (hw : (d.weights Tryz.prog 22).all (· ≤ reachBytes) = true) : l ≤ 2 ^ 47 := by
  obtain ⟨fuel, h⟩ := h
  have hlist : (Value.slice p l c).cells.toList = [.slice p l c] := rfl
  rw [hlist] at h
  rcases DataW.trod_slice und22 h with ⟨e0, hy0⟩ | ⟨a, len, cap, elems, rest, n, _, e0, hy0, hbase, hlc, hcm, hlen, hev, _, _⟩
  · cases e0
    omega
  · cases e0
    have hy0 := (Prod.mk.inj hy0).1
    rw [hy0] at hw
    simp only [DataW.weights, und22, List.all_cons, Bool.and_eq_true, decide_eq_true_eq, List.length_map] at hw
    have hb : Tryz.prog.bytesOf 5 = 1 := by kernel_rfl
    have h1 := hw.1
    rw [hb] at h1
    have : reachBytes = 140737488351232 := rfl
    omega
end Go.Sx.Ob

set_option linter.unusedVariables false
set_option linter.unusedSimpArgs false
set_option maxRecDepth 100000
namespace Go.Sx.Ob
open Go.Proofs Go.Proofs.YtnjohginlglonaaGreatDoor
open Go.ChangeMaps
open Go.ChangeShapes Go.WideShapes Go.ChangeAt Go.WideMaps Go.WideElems Go.RowKit
theorem objectReads_small : (Tryz.f3.params.toList.all fun t => decide (t < Tryz.prog.types.size)) = true := by kernel_rfl
theorem objectReads_cell0 : Tryz.prog.inPlace 3 = Rows.objectReadsRow.inPlace := by kernel_rfl
theorem objectReads_cell1 : Tryz.prog.unfollowed 3 = Rows.objectReadsRow.unfollowed := by kernel_rfl
theorem objectReads_cell2 : Tryz.prog.recurses 3 = Rows.objectReadsRow.recurses := by kernel_rfl
theorem objectReads_cell3 : Tryz.prog.varsNamed 3 = Rows.objectReadsRow.named := by kernel_rfl
theorem objectReads_facts : joinedFacts Tryz.prog 3 Tryz.f3 Rows.objectReadsSpec Rows.objectReadsRow = true := by
  unfold joinedFacts
  rw [objectReads_cell0, objectReads_cell1, objectReads_cell2, objectReads_cell3]
  kernel_rfl
theorem objectReads_lifted (os : Os) (started : os.Started) (H : Type) (enc : TypeId × Value → H) :
    ReturnsInHanded {} Tryz.checked os 3 .any (fun w args => (Rows.objectReadsSpec.pre enc Tryz.prog Tryz.f3 [] false w args ∧ laidMetH Tryz.prog Rows.objectReadsRow.laid w) ∧ sizedMet enc Tryz.prog Tryz.f3 (OpenSpec.ofChange Rows.objectReadsSpec) false w args)
      (Rows.objectReadsSpec.post enc Tryz.prog Tryz.f3 false true false false) := by
  refine returnsInHanded_of_change_and (C := Tryz.checked) (X := fun w _ => laidMetH Tryz.prog Rows.objectReadsRow.laid w) (fun _ _ _ hh h => h.of_heap hh) ownK started (by kernel_rfl) Tryz.func3
    (ChangeSpec.witness_shaped (enc := enc) (C := Tryz.checked) (os := os) (X := fun w _ => laidMetH Tryz.prog Rows.objectReadsRow.laid w) false (World.doorLaid Tryz.prog 400 os) #[.slice none 0 0] 8 rfl (World.shaped_of_RefB (by kernel_rfl) (by kernel_rfl)) (by kernel_rfl) (by kernel_rfl) (by kernel_rfl) (door_met os _)) ?_
  intro W base args ds gs before hval0 hW _ hwt hL _
  have hval : ∀ (j : Nat) t v, Tryz.f3.params[j]? = some t → args[j]? = some v → Value.okWide Tryz.prog W .any base t v := hval0
  have hW' := hW
  obtain ⟨p, q, hA0, hV, rfl, hfz, hnd⟩ := hW
  have hA : DataW.TrodAll enc Tryz.prog W 0 (fun _ => true) true Tryz.f3.params.toList args.toList ds p := hA0
  have hpf : Tryz.f3.params = #[22] := by kernel_rfl
  rw [hpf] at hA hval
  clear hA0 hval0
  obtain ⟨v0, vs0, d0, ds0, p0, q0, hv0, rfl, rfl, t0, hA1⟩ := trodAll_cons hA
  obtain ⟨rfl, rfl, rfl⟩ := trodAll_nil hA1
  obtain ⟨args⟩ := args
  simp only at hv0
  subst hv0
  obtain ⟨rfl, rfl⟩ := trodVars_none hV
  obtain ⟨a0, l0, c0, x0, rfl, h0⟩ := open_bytes (hval 0 22 v0 rfl rfl) t0
  have w0 : l0 ≤ 2 ^ 47 := bytes_small t0 (by
    rw [hpf] at hwt
    simp only [List.cons_append, List.nil_append, DataW.weightsEach, List.all_append, Bool.and_eq_true] at hwt
    exact hwt.1)
  simp only [List.append_nil] at hW'
  refine (calls_of (reads_hc (laid_of hL).1 (laid_of hL).2 h0.vw h0.cap h0.nil (by have := h0.vw.len; omega)) (fun _ _ h => h.2)).mono fun e W' ⟨v, he, hB, hv, _⟩ => ?_
  subst he hv
  exact ⟨_, rfl, post_old rfl hW' (fun _ _ _ => trodAll_mk1 (shut_bool u4 _)) rfl rfl (fun t ht => of_decide_eq_true (List.all_eq_true.1 objectReads_small t ht)) hB⟩
theorem objectReads_holds : Rows.ObjectReadsSaid :=
  OpenClaim.holds_of_wide 3 Tryz.f3 rfl rfl rfl rfl rfl rfl rfl ⟨rfl, rfl, rfl, rfl, rfl⟩ rfl rfl rfl rfl rfl (by kernel_rfl) Tryz.func3 objectReads_facts
    (of_decide_eq_true (by kernel_rfl)) (by unfold Func.isWrapper; first | (rw [if_pos (by decide +kernel)]; kernel_rfl) | (rw [if_neg (by decide +kernel)]; exact ⟨rfl, rfl⟩))
    (fun os started H enc _ => objectReads_lifted os started H enc)
end Go.Sx.Ob
