/- Contracts over heaps, and plain laws, for the functions that the laws of chapter 10 call, part 5: Readers over heaps: reader.unit. Read over heaps. Units held against units, over heaps. Lists of units over heaps: are there too many things?; a number brought between two others. Names and sums that the document calls right, over heaps. Instructions, as the document has them, over heaps. Registers, right instructions, as the document has them, over heaps. Condition: as each statement says. -/
import Derived.Test.YtnjohginlglonaaGreatDoorP4
import Derived.Test.YtnjohginlglonaaGreatDoorZobjTa
import Derived.Test.YtnjohginlglonaaGreatDoorP1
import Derived.Test.YtnjohginlglonaaGreatDoorZrT
import Derived.Test.YtnjohginlglonaaGreatDoorZrW
import Derived.Test.YtnjohginlglonaaGreatDoorZrX
set_option linter.unusedVariables false
set_option linter.unusedSimpArgs false
set_option maxRecDepth 100000
namespace Go.Sx.Ob
open Go.Proofs
theorem Ls.keepW {α : Type} {e : TypeId} {sz : Nat} {enc : Sli → α → List Value} {tm : α → Tms} {ok : α → Prop} {h h' : Hp} {b : Nat} {p : Option Addr} {l c : Nat} {us : List (Sli × α)} {ws : List Nat} (s : Ls e sz enc tm ok h b p l c us) (k : Ch ws h h') (hw : ∀ i, i ∈ ws → i < h.size → i < b ∨ ∃ e' ys, Box h i e' ys ∧ e' ≠ e ∧ e' ≠ 104) : Ls e sz enc tm ok h' b p l c us := by
  have go : ∀ {d : TypeId} {z : Nat} {p : Option Addr} {l c : Nat} {xs : List (List Value)}, SL h b d z p l c xs → (d = e ∨ d = 104) → SL h' b d z p l c xs := by
    intro d z p l c xs s hd
    refine Sx.SL.keep' s k (fun i hi hm => ?_)
    have hb := Sx.SL.blk s hi
    rcases hw i hm hb.2 with h1 | ⟨e', ys, b2, h2, h3⟩
    · omega
    · obtain ⟨zs, b1⟩ := SL.boxU s i hi
      unfold Box at b1 b2
      rw [b1] at b2
      simp only [Option.some.injEq, Obj.cells.injEq] at b2
      rcases hd with rfl | rfl
      · exact h2 b2.2.1.symm
      · exact h3 b2.2.1.symm
  exact ⟨go s.sl (.inl rfl), fun u hu => go (s.own u hu) (.inr rfl), s.ok⟩
theorem eqN_t {a b : Nat} (h : (((a : Nat) : Int) == ((b : Nat) : Int)) = true) : a = b := by
  have := eq_of_beq h
  omega
theorem eqN_f {a b : Nat} (h : (((a : Nat) : Int) == ((b : Nat) : Int)) = false) : ¬ a = b := by
  rintro rfl
  simp at h
theorem headL_drop {i : Nat} (hi : i < 5) : headL.drop i = headL.getD i 0 :: headL.drop (i + 1) := by
  have : i = 0 ∨ i = 1 ∨ i = 2 ∨ i = 3 ∨ i = 4 := by omega
  rcases this with rfl | rfl | rfl | rfl | rfl <;> rfl
theorem headR_cons (c b : UInt8) (l r : Bt) : headR (c :: l) (b :: r) = if b = c then headR l r else .error (r.length + 1, 15) := rfl
theorem headR_step {i : Nat} {full : Bt} (hi : i < 5) (hf : i < full.length) (he : full[i] = headL.getD i 0) : headR (headL.drop i) (full.drop i) = headR (headL.drop (i + 1)) (full.drop (i + 1)) := by
  rw [List.drop_eq_getElem_cons hf, headL_drop hi, headR_cons, if_pos he]
theorem headR_neq {i : Nat} {full : Bt} (hi : i < 5) (hf : i < full.length) (he : ¬ full[i] = headL.getD i 0) : headR (headL.drop i) (full.drop i) = .error (full.length - i, 15) := by
  rw [List.drop_eq_getElem_cons hf, headL_drop hi, headR_cons, if_neg he, List.length_drop, show full.length - (i + 1) + 1 = full.length - i by omega]
theorem headR_end {i : Nat} {full : Bt} (hi : i < 5) (hf : i = full.length) : headR (headL.drop i) (full.drop i) = .error (full.length - i, 15) := by
  subst hf
  rw [List.drop_length, headL_drop hi, Nat.sub_self]
  rfl
theorem unitE_head {full : Bt} {e : Nat × Nat} {u : Unt} (h : headR headL full = .error e) : UnitE full u (.error e) := by
  unfold UnitE
  rw [unitR_eq, h]
  rfl
theorem unitE_tail {full r : Bt} {u : Unt} {st st' : St} (h : headR headL full = .ok (⟨⟩, r)) (p : Stp tailR (.ok r) u st) (q : Stp (endR u) st u st') (hz : ∀ r', st' = .ok r' → r' = []) : UnitE full u st' := by
  have := Stp.and (k := endR) p q
  unfold UnitE
  rw [unitR_eq, h, andR_okk]
  unfold Stp at this
  simp only at this
  cases hf : andR (tailR r) endR with
  | error e => rw [hf] at this; exact this
  | ok w =>
    rw [hf] at this
    obtain ⟨h1, h2⟩ := this
    exact ⟨h1, by rw [h2, hz _ h2]⟩
theorem unit_hc {h0 h : Hp} (e0 : Ext h0 h) (t0 : Tab h0) {g gm : Nat} (hg0 : h0.size ≤ g) (hm0 : h0.size ≤ gm) {bp : Option Addr} {bl bc : Nat} {full : Bt} (v : VwB h0 bp bl full) (hc : bl ≤ bc) (hl : full.length ≤ 2 ^ 60)
    (bg : Box h g 63 [.slice bp bl bc, .int .i64 (0 : Nat), .pointer none, .map (some gm)]) (m0 : SetB h gm []) (hgm : g ≠ gm) :
    HC Tryz.prog 20 #[ptr g] h (UntEnd h g gm bp bl bc full) := by
  refine hcr_of (args := [ptr g]) mixed Tryz.func20 (by kernel_rfl) (t_object_reader__unit_eq (some ⟨g, 0, none⟩)) ?_
  unfold t_object_reader__unit
  have hgl := bg.lt
  have hml := m0.lt
  have hll := v.len
  refine newB ?_
  intro h1 b1 e1 z1
  refine newB ?_
  intro h2 b2 e2 z2
  refine newB ?_
  intro h3 b3 e3 z3
  have b1 := (b1.keep e2 (by simp)).keep e3 (by simp)
  have b2 := b2.keep e3 (by simp)
  have e03 := (e1.trans e2).trans e3
  have bg3 := bg.keep e03 (by simp)
  have m3 := m0.keep e03 (by simp)
  have n1 : h1.size ≠ h.size := by omega
  rw [z2, z1] at b3
  rw [z1] at b2
  rw [z2, z1]
  refine loop_of (cs := [(false, [.int .i64])]) (fun y m h' => ∃ i : Nat, y.1 = (i : Int) ∧ m = 5 - i ∧ i ≤ 5 ∧ i ≤ full.length ∧ h' = h3 ∧ headR headL full = headR (headL.drop i) (full.drop i)) ((0 : Int), ()) 5 rfl ⟨0, rfl, rfl, by omega, by omega, rfl, rfl⟩ ?_
  rintro ⟨n4, ⟨⟩⟩ m h4 ⟨i, hi, rfl, hi5, hif, rfl, hh⟩
  simp only at hi
  subst hi
  dsimp only [flat, unc, unc1, List.nil_append, List.cons_append]
  have s3 : ∀ r, full.drop 0 = r → RdS h4 g gm bp bl bc full (.ok r) [] := fun r hr => ⟨0, none, bg3, by omega, m3, hgm, rfl, hr⟩
  have bad : headR headL full = .error (full.length - i, 15) → (T.call Tryz.prog 49 [ptr g, .int .i64 (i : Int), .int .i64 (15 : Int)] true [] (retT (h.size + 1) (h.size + 1 + 1))) [Jl (cs := [(false, [.int .i64])]) (fun y m h' => ∃ i : Nat, y.1 = (i : Int) ∧ m = 5 - i ∧ i ≤ 5 ∧ i ≤ full.length ∧ h' = h4 ∧ headR headL full = headR (headL.drop i) (full.drop i)) (5 - i)] (UntEnd h g gm bp bl bc full) h4 := by
    intro hb
    refine call_of (refuse_hc (s3 _ rfl) (i := i) (why := 15) hif) ?_
    rintro _ h5 ⟨rfl, s5, k5⟩
    refine ⟨(), rfl, ?_⟩
    dsimp only [flat, unc, unc1, List.nil_append, List.cons_append]
    refine retT_of (a := sl0) (b := sl0) (c := sl0) (d := sl0) (u := unt0) hgl hml (by omega) (b3.keep k5 (by simp; omega)) (b2.keep k5 (by simp; omega)) rfl (UntOwn.zero _ _) Apt.zero s5 ?_ ((e03.mono (by simp)).trans k5 (by simp))
    exact unitE_head (e := (full.length - i, 15)) hb
  refine cond_mk (fun q => ?_) (fun q => ?_)
  · have q := of_decide_eq_true q
    refine loads_box b1 (some ⟨g, 0, none⟩, ()) rfl ?_
    dsimp only [flat, unc, unc1, List.nil_append, List.cons_append]
    refine osome_mk rfl ?_
    refine loads_box bg3 ((bp, bl, bc), ()) rfl ?_
    dsimp only [flat, unc, unc1, List.nil_append, List.cons_append]
    refine cond_mk (fun w => ?_) (fun w => ?_)
    · have w : i = bl := eqN_t w
      refine loads_box b1 (some ⟨g, 0, none⟩, ()) rfl ?_
      dsimp only [flat, unc, unc1, List.nil_append, List.cons_append]
      exact bad (by rw [hh]; exact headR_end (by omega) (by omega))
    have w : ¬ i = bl := eqN_f w
    have hlt : i < full.length := by omega
    refine loads_box b1 (some ⟨g, 0, none⟩, ()) rfl ?_
    dsimp only [flat, unc, unc1, List.nil_append, List.cons_append]
    refine osome_mk rfl ?_
    refine loads_box bg3 ((bp, bl, bc), ()) rfl ?_
    dsimp only [flat, unc, unc1, List.nil_append, List.cons_append]
    refine need_of ⟨by omega, by omega⟩ ?_
    obtain ⟨ba, rfl, hcell⟩ := (v.keep (e0.trans e03)).cells i hlt
    refine osome_mk rfl ?_
    rw [show Int.toNat (i : Int) = i from rfl]
    refine loads_of (((full[i].toNat : Nat) : Int), ()) hcell ?_
    dsimp only [flat, unc, unc1, List.nil_append, List.cons_append]
    refine need_of ⟨by omega, by omega⟩ ?_
    rw [sbyte5 (by omega)]
    have heq : (((full[i].toNat : Nat) : Int) != (((headL.getD i 0).toNat : Nat) : Int)) = !decide (full[i] = headL.getD i 0) := by
      by_cases hx : full[i] = headL.getD i 0
      · rw [decide_eq_true hx, hx]; simp
      · rw [decide_eq_false hx]
        have : ¬ full[i].toNat = (headL.getD i 0).toNat := fun e => hx (UInt8.toNat_inj.1 e)
        simp only [bne_iff_ne, ne_eq, Bool.not_false]
        omega
    refine cond_mk (fun u => ?_) (fun u => ?_)
    · rw [heq] at u
      have u : ¬ full[i] = headL.getD i 0 := by simpa using u
      refine loads_box b1 (some ⟨g, 0, none⟩, ()) rfl ?_
      dsimp only [flat, unc, unc1, List.nil_append, List.cons_append]
      exact bad (by rw [hh]; exact headR_neq (by omega) hlt u)
    · rw [heq] at u
      have u : full[i] = headL.getD i 0 := by simpa using u
      rw [wrap_i64 (by omega) (by omega)]
      refine again_mk (cs := [(false, [.int .i64])]) (((i + 1 : Nat) : Int), ()) (5 - (i + 1)) rfl (by omega) rfl ?_
      exact ⟨i + 1, rfl, rfl, by omega, by omega, rfl, by rw [hh]; exact headR_step (by omega) hlt u⟩
  have q := of_decide_eq_false q
  have : i = 5 := by omega
  subst this
  clear bad
  have hh5 : headR headL full = .ok (⟨⟩, full.drop 5) := hh
  have h5f : 5 ≤ full.length := hif
  refine loads_box b1 (some ⟨g, 0, none⟩, ()) rfl ?_
  dsimp only [flat, unc, unc1, List.nil_append, List.cons_append]
  refine osome_mk rfl ?_
  rw [add_box]
  refine stores_of bg3 rfl (by simp) ?_
  intro h5 bg5 k5 z5
  have s5 : RdS h5 g gm bp bl bc full (.ok (full.drop 5)) [] := ⟨5, none, bg5, by omega, m3.keep k5 (by simp; omega), hgm, rfl, rfl⟩
  have b15 := b1.keep k5 (by simp; omega)
  have b25 := b2.keep k5 (by simp; omega)
  have b35 := b3.keep k5 (by simp; omega)
  have k5 : Ch [g, gm] h h5 := (e03.mono (by simp)).trans k5 (by simp)
  have e5 : Ext h0 h5 := Ch.trans e0 k5 (fun i hi hl => by simp at hi; omega)
  clear s3 b1 b2 b3 m3 bg3 hh q
  -- items
  refine loads_box b15 (some ⟨g, 0, none⟩, ()) rfl ?_
  dsimp only [flat, unc, unc1, List.nil_append, List.cons_append]
  refine call_of (rowsI_hc hb33 (sec := 0) (a := h.size) (by omega) (by omega) (fun e s ba => clos_hc (fn := Tryz.f51) (sec := 0) (by decide) Tryz.func51 (by kernel_rfl) t_object_reader__unit_1_u1_eq e t0 hg0 s v hc hl ba) e5 hg0 hm0 v hl s5 b15 (some 8192)) ?_
  rintro _ h6 ⟨tI, st6, p6, l6, c6, rfl, ls6, hn6, s6, q6, k6⟩
  refine ⟨((p6, l6, c6), ()), rfl, ?_⟩
  dsimp only [flat, unc, unc1, List.nil_append, List.cons_append]
  have b16 := b15.keep k6 (by simp; omega)
  have b26 := b25.keep k6 (by simp; omega)
  have b36 := b35.keep k6 (by simp; omega)
  have z6 := k6.size
  have k06 : Ch [g, gm] h h6 := k5.trans k6 (fun i hi _ => hi)
  refine stores_of b36 rfl (by simp) ?_
  intro h7 b37 k7 z7
  have b37 : Box h7 (h.size + 1 + 1) 28 [.slice p6 l6 c6, .slice none 0 0, .slice none 0 0, .slice none 0 0] := b37
  have s7 := s6.keep1 b36 (by decide) k7 (by omega) (by omega)
  have b17 := b16.keep k7 (by rw [List.mem_singleton]; omega)
  have b27 := b26.keep k7 (by rw [List.mem_singleton]; omega)
  have ls7 := ls6.keep k7 (fun i hi _ => by simp at hi; omega)
  have k07 : Ch [g, gm] h h7 := k06.trans k7 (fun i hi hl => by simp at hi; omega)
  have e7 : Ext h0 h7 := Ch.trans e0 k07 (fun i hi hl => by simp at hi; omega)
  have hlen7 := ls7.len
  refine loads_box b17 (some ⟨g, 0, none⟩, ()) rfl ?_
  dsimp only [flat, unc, unc1, List.nil_append, List.cons_append]
  refine loads_box b37 ((p6, l6, c6), ()) rfl ?_
  dsimp only [flat, unc, unc1, List.nil_append, List.cons_append]
  rw [wrap_i64 (by omega) (by omega)]
  refine max0_of ?_
  rw [show max ((8192 : Int) - (l6 : Int)) 0 = mostI (some (8192 - (tI.map (·.2)).length)) by show _ = (((8192 - (tI.map (·.2)).length : Nat)) : Int); rw [List.length_map]; omega]
  refine call_of (rowsI_hc hb35 (sec := 1) (a := h.size) (by omega) (by omega) (fun e s ba => clos_hc (fn := Tryz.f53) (sec := 1) (by decide) Tryz.func53 (by kernel_rfl) t_object_reader__unit_2_u2_eq e t0 hg0 s v hc hl ba) e7 hg0 hm0 v hl s7 b17 _) ?_
  rintro _ h8 ⟨dI, st8, p8, l8, c8, rfl, ls8, hn8, s8, q8, k8⟩
  refine ⟨((p8, l8, c8), ()), rfl, ?_⟩
  dsimp only [flat, unc, unc1, List.nil_append, List.cons_append]
  have b18 := b17.keep k8 (by simp; omega)
  have b28 := b27.keep k8 (by simp; omega)
  have b38 := b37.keep k8 (by simp; omega)
  have z8 := k8.size
  have lsI8 := ls7.keep k8 (fun i hi _ => by simp at hi; omega)
  have k08 : Ch [g, gm] h h8 := k07.trans k8 (fun i hi _ => hi)
  have hap : Apt ⟨p6, l6, c6⟩ ⟨p8, l8, c8⟩ := fun i x1 x2 => by
    have := (Ob.SL.blk ls6.sl i x1).2
    have := (Ob.SL.blk ls8.sl i x2).1
    have := k7.size
    omega
  rw [add_box]
  refine stores_of b38 rfl (by simp) ?_
  intro h9 b39 k9 z9
  have b39 : Box h9 (h.size + 1 + 1) 28 [.slice p6 l6 c6, .slice p8 l8 c8, .slice none 0 0, .slice none 0 0] := b39
  have s9 := s8.keep1 b38 (by decide) k9 (by omega) (by omega)
  have b19 := b18.keep k9 (by rw [List.mem_singleton]; omega)
  have b29 := b28.keep k9 (by rw [List.mem_singleton]; omega)
  have lsI9 := lsI8.keep k9 (fun i hi _ => by simp at hi; omega)
  have lsD9 := ls8.keep k9 (fun i hi _ => by simp at hi; omega)
  have k09 : Ch [g, gm] h h9 := k08.trans k9 (fun i hi hl => by simp at hi; omega)
  have e9 : Ext h0 h9 := Ch.trans e0 k09 (fun i hi hl => by simp at hi; omega)
  clear b18 b28 b38 b17 b27 b37 b16 b26 b36 b15 b25 b35 s7 s8 s6 s5 ls6 ls7 lsI8 ls8
  -- equs
  refine loads_box b19 (some ⟨g, 0, none⟩, ()) rfl ?_
  dsimp only [flat, unc, unc1, List.nil_append, List.cons_append]
  refine loads_box b19 (some ⟨g, 0, none⟩, ()) rfl ?_
  dsimp only [flat, unc, unc1, List.nil_append, List.cons_append]
  refine call_of (rowsE_hc e9 hg0 hm0 v hc hl s9 (some 8192)) ?_
  rintro _ h10 ⟨eE, st10, p10, l10, c10, rfl, ls10, hn10, s10, q10, k10⟩
  refine ⟨((p10, l10, c10), ()), rfl, ?_⟩
  dsimp only [flat, unc, unc1, List.nil_append, List.cons_append]
  have b110 := b19.keep k10 (by simp; omega)
  have b210 := b29.keep k10 (by simp; omega)
  have b310 := b39.keep k10 (by simp; omega)
  have z10 := k10.size
  have lsI10 := lsI9.keep k10 (fun i hi _ => by simp at hi; omega)
  have lsD10 := lsD9.keep k10 (fun i hi _ => by simp at hi; omega)
  have k010 : Ch [g, gm] h h10 := k09.trans k10 (fun i hi _ => hi)
  rw [add_box]
  refine stores_of b310 rfl (by simp) ?_
  intro h11 b311 k11 z11
  have b311 : Box h11 (h.size + 1 + 1) 28 [.slice p6 l6 c6, .slice p8 l8 c8, .slice p10 l10 c10, .slice none 0 0] := b311
  have s11 := s10.keep1 b310 (by decide) k11 (by omega) (by omega)
  have b111 := b110.keep k11 (by rw [List.mem_singleton]; omega)
  have b211 := b210.keep k11 (by rw [List.mem_singleton]; omega)
  have lsI11 := lsI10.keep k11 (fun i hi _ => by simp at hi; omega)
  have lsD11 := lsD10.keep k11 (fun i hi _ => by simp at hi; omega)
  have lsE11 := ls10.keep k11 (fun i hi _ => by simp at hi; omega)
  have k011 : Ch [g, gm] h h11 := k010.trans k11 (fun i hi hl => by simp at hi; omega)
  clear b110 b210 b310 b19 b29 b39 s10 s9 lsI10 lsD10 ls10 lsI9 lsD9
  -- names
  refine newB ?_
  intro h12 b12 e12 z12
  have s12 := s11.keep e12
  have b112 := b111.keep e12 (by simp)
  have b212 := b211.keep e12 (by simp)
  have b312 := b311.keep e12 (by simp)
  have lsI12 := lsI11.keep e12 (by simp)
  have lsD12 := lsD11.keep e12 (by simp)
  have lsE12 := lsE11.keep e12 (by simp)
  have k012 : Ch [g, gm] h h12 := k011.trans e12 (by simp)
  refine stores_of b12 rfl (by simp) ?_
  intro h13 b13 k13 z13
  have b13 : Box h13 h11.size 9 [.string nam0] := b13
  have s13 := s12.keep1 b12 (by decide) k13 (by omega) (by omega)
  have b113 := b112.keep k13 (by rw [List.mem_singleton]; omega)
  have b213 := b212.keep k13 (by rw [List.mem_singleton]; omega)
  have b313 := b312.keep k13 (by rw [List.mem_singleton]; omega)
  have hb9 : ∀ i, i ∈ [h11.size] → ∃ ys, Box h12 i 9 ys := fun i hi => by rw [List.mem_singleton.1 hi]; exact ⟨_, b12⟩
  have lsI13 : LsI h13 h5.size p6 l6 c6 tI := ⟨SL.keepU lsI12.sl k13 hb9 (by decide), fun u hu => SL.keepU (lsI12.own u hu) k13 hb9 (by decide), lsI12.ok⟩
  have lsD13 : LsI h13 h7.size p8 l8 c8 dI := ⟨SL.keepU lsD12.sl k13 hb9 (by decide), fun u hu => SL.keepU (lsD12.own u hu) k13 hb9 (by decide), lsD12.ok⟩
  have lsE13 : LsE h13 h9.size p10 l10 c10 eE := ⟨SL.keepU lsE12.sl k13 hb9 (by decide), fun u hu => SL.keepU (lsE12.own u hu) k13 hb9 (by decide), lsE12.ok⟩
  have k013 : Ch [g, gm] h h13 := k012.trans k13 (fun i hi hl => by simp at hi; omega)
  have e13 : Ext h0 h13 := Ch.trans e0 k013 (fun i hi hl => by simp at hi; omega)
  clear b112 b212 b312 b111 b211 b311 s12 s11 lsI11 lsD11 lsE11
  refine loads_box b113 (some ⟨g, 0, none⟩, ()) rfl ?_
  dsimp only [flat, unc, unc1, List.nil_append, List.cons_append]
  refine call_of (rowsS_hc (a := h.size) (b := h11.size) (o := nam0) (by omega) (by omega) (by omega) (by omega) e13 hg0 hm0 (by have := e0.size; omega) v hc hl s13 b113 b13 none) ?_
  rintro _ h14 ⟨gS, st14, p14, l14, c14, rfl, ls14, hn14, s14, q14, k14⟩
  refine ⟨((p14, l14, c14), ()), rfl, ?_⟩
  dsimp only [flat, unc, unc1, List.nil_append, List.cons_append]
  have b114 := b113.keep k14 (by simp; omega)
  have b214 := b213.keep k14 (by simp; omega)
  have b314 := b313.keep k14 (by simp; omega)
  have z14 := k14.size
  have hw14 : ∀ (e : TypeId) (b : Nat), e ≠ 9 → h.size ≤ b → ∀ i, i ∈ [g, h11.size] → i < h13.size → i < b ∨ ∃ e' ys, Box h13 i e' ys ∧ e' ≠ e ∧ e' ≠ 104 := by
    intro e b he hb i hi _
    simp at hi
    rcases hi with rfl | rfl
    · exact .inl (by omega)
    · exact .inr ⟨9, _, b13, fun e => he e.symm, by decide⟩
  have lsI14 := Ls.keepW lsI13 k14 (hw14 _ _ (by decide) (by omega))
  have lsD14 := Ls.keepW lsD13 k14 (hw14 _ _ (by decide) (by omega))
  have lsE14 := Ls.keepW lsE13 k14 (hw14 _ _ (by decide) (by omega))
  have k014 : Ch [g, gm] h h14 := k013.trans k14 (fun i hi hl => by simp at hi; simp; omega)
  clear lsI13 lsD13 lsE13 lsI12 lsD12 lsE12 b113 b213 b313 s13
  rw [add_box]
  refine stores_of b314 rfl (by simp) ?_
  intro h15 b315 k15 z15
  have b315 : Box h15 (h.size + 1 + 1) 28 [(⟨p6, l6, c6⟩ : Sli).v, (⟨p8, l8, c8⟩ : Sli).v, (⟨p10, l10, c10⟩ : Sli).v, (⟨p14, l14, c14⟩ : Sli).v] := b315
  have s15 := s14.keep1 b314 (by decide) k15 (by omega) (by omega)
  have b115 := b114.keep k15 (by rw [List.mem_singleton]; omega)
  have b215 := b214.keep k15 (by rw [List.mem_singleton]; omega)
  have hw15 : ∀ (e : TypeId) (b : Nat), e ≠ 28 → ∀ i, i ∈ [h.size + 1 + 1] → i < h14.size → i < b ∨ ∃ e' ys, Box h14 i e' ys ∧ e' ≠ e ∧ e' ≠ 104 := by
    intro e b he i hi _
    rw [List.mem_singleton.1 hi]
    exact .inr ⟨28, _, b314, fun e => he e.symm, by decide⟩
  have lsI15 := Ls.keepW lsI14 k15 (hw15 _ _ (by decide))
  have lsD15 := Ls.keepW lsD14 k15 (hw15 _ _ (by decide))
  have lsE15 := Ls.keepW lsE14 k15 (hw15 _ _ (by decide))
  have lsS15 := Ls.keepW ls14 k15 (hw15 _ _ (by decide))
  have k015 : Ch [g, gm] h h15 := k014.trans k15 (fun i hi hl => by simp at hi; omega)
  have own : UntOwn h15 (h.size + 1 + 1) ⟨p6, l6, c6⟩ ⟨p8, l8, c8⟩ ⟨p10, l10, c10⟩ ⟨p14, l14, c14⟩ ⟨tI.map (·.2), dI.map (·.2), eE.map (·.2), gS.map (·.2)⟩ :=
    ⟨⟨tI, rfl, hn6, lsI15.mono (by omega)⟩, ⟨dI, rfl, hn8, lsD15.mono (by omega)⟩, ⟨eE, rfl, hn10, lsE15.mono (by omega)⟩, ⟨gS, rfl, hn14, lsS15.mono (by omega)⟩⟩
  have tail : Stp tailR (.ok (full.drop 5)) ⟨tI.map (·.2), dI.map (·.2), eE.map (·.2), gS.map (·.2)⟩ st14 := Stp.tail q6 q8 q10 q14
  clear lsI15 lsD15 lsE15 lsS15 lsI14 lsD14 lsE14 ls14
  refine loads_box b115 (some ⟨g, 0, none⟩, ()) rfl ?_
  dsimp only [flat, unc, unc1, List.nil_append, List.cons_append]
  obtain ⟨at_, no, bx, hat, mx, hgx, nx⟩ := id s15
  refine osome_mk rfl ?_
  rw [add_box]
  refine loads_box bx (no, ()) rfl ?_
  dsimp only [flat, unc, unc1, List.nil_append, List.cons_append]
  cases st14 with
  | error er =>
    obtain ⟨_, a, rfl, _⟩ := nx
    refine cond_f rfl ?_
    exact retT_of hgl hml (by omega) b315 b215 rfl own hap s15 (unitE_tail hh5 tail (Stp.off _ _ _) (fun r' h => by cases h)) k015
  | ok r =>
    obtain ⟨rfl, hr⟩ := nx
    refine cond_t rfl ?_
    refine loads_box b115 (some ⟨g, 0, none⟩, ()) rfl ?_
    dsimp only [flat, unc, unc1, List.nil_append, List.cons_append]
    refine osome_mk rfl ?_
    rw [add_box]
    refine loads_box bx ((at_ : Int), ()) rfl ?_
    dsimp only [flat, unc, unc1, List.nil_append, List.cons_append]
    refine loads_box b115 (some ⟨g, 0, none⟩, ()) rfl ?_
    dsimp only [flat, unc, unc1, List.nil_append, List.cons_append]
    refine osome_mk rfl ?_
    refine loads_box bx ((bp, bl, bc), ()) rfl ?_
    dsimp only [flat, unc, unc1, List.nil_append, List.cons_append]
    have hrl : r.length = full.length - at_ := by rw [← hr, List.length_drop]
    refine cond_mk (fun w => ?_) (fun w => ?_)
    · have w := of_decide_eq_true w
      have hne : r ≠ [] := by
        intro e
        rw [e] at hrl
        simp at hrl
        omega
      refine loads_box b115 (some ⟨g, 0, none⟩, ()) rfl ?_
      dsimp only [flat, unc, unc1, List.nil_append, List.cons_append]
      refine loads_box b115 (some ⟨g, 0, none⟩, ()) rfl ?_
      dsimp only [flat, unc, unc1, List.nil_append, List.cons_append]
      refine osome_mk rfl ?_
      rw [add_box]
      refine loads_box bx ((at_ : Int), ()) rfl ?_
      dsimp only [flat, unc, unc1, List.nil_append, List.cons_append]
      refine call_of (refuse_hc s15 (i := at_) (why := 14) hat) ?_
      rintro _ h16 ⟨rfl, s16, k16⟩
      refine ⟨(), rfl, ?_⟩
      dsimp only [flat, unc, unc1, List.nil_append, List.cons_append]
      refine ⟨⟨(b115.keep k16 (by rw [List.mem_singleton]; omega)).cells _ rfl, trivial⟩, ?_⟩
      refine retT_of hgl hml (by omega) (b315.keep k16 (by rw [List.mem_singleton]; omega)) (b215.keep k16 (by rw [List.mem_singleton]; omega)) rfl (own.keep k16 (fun i hi _ => by simp at hi; omega)) hap s16 (unitE_tail hh5 tail ?_ (fun r' h => by cases h)) (k015.trans k16 (by simp))
      show Stp _ _ _ (.error (full.length - at_, 14))
      unfold Stp endR
      simp only
      rw [if_neg hne, hrl]
    · have w := of_decide_eq_false w
      have hr0 : r = [] := List.eq_nil_of_length_eq_zero (by omega)
      subst hr0
      exact retT_of hgl hml (by omega) b315 b215 rfl own hap s15 (unitE_tail hh5 tail (by
        unfold Stp endR
        simp only
        exact ⟨rfl, rfl⟩) (fun r' h => by cases h; rfl)) k015
end Go.Sx.Ob

set_option linter.unusedVariables false
set_option linter.unusedSimpArgs false
set_option maxRecDepth 100000
namespace Go.Sx.Ob
open Go.Proofs
/-- A unit, or where and why there is none. -/
def readR (full : Bt) : Except (Nat × Nat) Unt :=
  if 1048576 < full.length then .error (0, 3) else match unitR full with
    | .ok q => .ok q.1
    | .error e => .error (full.length - e.1, e.2)
/-- An error that is a refusal, or none. -/
def ErrAt (h : Hp) (w : Value) (e : Option (Nat × Nat)) : Prop :=
  match e with
  | none => w = .nilIface
  | some e => ∃ a, w = .iface 57 (ptr a) ∧ Box h a 59 [.int .i64 (e.1 : Nat), .int .i64 (e.2 : Nat)]
def ReadE (full : Bt) (u : Unt) : Option (Nat × Nat) → Prop
  | none => readR full = .ok u
  | some e => readR full = .error e ∧ u = unt0
theorem read_hc {h : Hp} (t0 : Tab h) {bp : Option Addr} {bl bc : Nat} {full : Bt} (v : VwB h bp bl full) (hc : bl ≤ bc) (hl : full.length ≤ 2 ^ 60) :
    HC Tryz.prog 6 #[.slice bp bl bc] h fun w h' => ∃ (a b c d : Sli) (ev : Value) (u : Unt) (e : Option (Nat × Nat)), w = .tuple #[untV a b c d, ev] ∧ UntOwn h' h.size a b c d u ∧ ErrAt h' ev e ∧ ReadE full u e ∧ ((e ≠ none → a = sl0 ∧ b = sl0 ∧ c = sl0 ∧ d = sl0) ∧ Apt a b) ∧ Ext h h' := by
  refine hcr_of (args := [.slice bp bl bc]) mixed Tryz.func6 (by kernel_rfl) (t_object_Read_eq bp bl bc) ?_
  unfold t_object_Read
  have hll := v.len
  refine newB ?_
  intro h1 b1 e1 z1
  refine cond_mk (fun q => ?_) (fun q => ?_)
  · have q := of_decide_eq_true q
    refine newB ?_
    intro h2 b2 e2 z2
    have b12 := b1.keep e2 (by simp)
    refine stores_of b12 rfl (by simp) ?_
    intro h3 b3 k3 z3
    have b3 : Box h3 h.size 28 zU := b3
    refine loads_box b3 ((none, 0, 0), (none, 0, 0), (none, 0, 0), (none, 0, 0), ()) rfl ?_
    dsimp only [flat, unc, unc1, List.nil_append, List.cons_append]
    refine ⟨sl0, sl0, sl0, sl0, _, unt0, some (0, 3), rfl, UntOwn.zero _ _, ⟨h1.size, rfl, b2.keep k3 (by rw [List.mem_singleton]; omega)⟩, ⟨?_, rfl⟩, ⟨fun _ => ⟨rfl, rfl, rfl, rfl⟩, Apt.zero⟩, (e1.trans e2).st k3 (Nat.le_refl _)⟩
    unfold readR
    rw [if_pos (by omega)]
  have q := of_decide_eq_false q
  have hrd : readR full = match unitR full with
    | .ok q => .ok q.1
    | .error e => .error (full.length - e.1, e.2) := by
    unfold readR
    rw [if_neg (by omega)]
  refine makeS ?_
  intro h2 m2 e2 z2
  refine newB ?_
  intro h3 b3 e3 z3
  have e03 := (e1.trans e2).trans e3
  have b13 := (b1.keep e2 (by simp)).keep e3 (by simp)
  refine call_of (unit_hc e03 t0 (g := h2.size) (gm := h1.size) (by omega) (by omega) v hc hl b3 (m2.keep e3 (by simp)) (by omega)) ?_
  rintro _ h4 ⟨a, b, c, d, u, st, D, rfl, ⟨own, hap⟩, s4, ue, k4⟩
  refine ⟨((a.p, a.l, a.c), (b.p, b.l, b.c), (c.p, c.l, c.c), (d.p, d.l, d.c), ()), rfl, ?_⟩
  dsimp only [flat, unc, unc1, List.nil_append, List.cons_append]
  have b14 := b13.keep k4 (by simp; omega)
  have hz4 := k4.size
  refine newB ?_
  intro h5 b5 e5 z5
  have s5 := s4.keep e5
  have own5 := own.keep e5 (by simp)
  have b15 := b14.keep e5 (by simp)
  have k5 : Ch [h2.size, h1.size] h3 h5 := k4.trans e5 (by simp)
  refine stores_of b5 rfl (by simp) ?_
  intro h6 b6 k6 z6
  have b6 : Box h6 h4.size 28 [a.v, b.v, c.v, d.v] := b6
  have s6 := s5.keep1 b5 (by decide) k6 (by omega) (by omega)
  have own6 : UntOwn h6 (h.size + 1) a b c d u := by
    obtain ⟨⟨u1, a1, c1, d1⟩, ⟨u2, a2, c2, d2⟩, ⟨u3, a3, c3, d3⟩, ⟨u4, a4, c4, d4⟩⟩ := own5
    have hw : ∀ (e : TypeId) (b : Nat), e ≠ 28 → ∀ i, i ∈ [h4.size] → i < h5.size → i < b ∨ ∃ e' ys, Box h5 i e' ys ∧ e' ≠ e ∧ e' ≠ 104 := by
      intro e b he i hi _
      rw [List.mem_singleton.1 hi]
      exact .inr ⟨28, _, b5, fun e => he e.symm, by decide⟩
    exact ⟨⟨u1, a1, c1, (Ls.keepW d1 k6 (hw _ _ (by decide))).mono (by omega)⟩, ⟨u2, a2, c2, (Ls.keepW d2 k6 (hw _ _ (by decide))).mono (by omega)⟩, ⟨u3, a3, c3, (Ls.keepW d3 k6 (hw _ _ (by decide))).mono (by omega)⟩, ⟨u4, a4, c4, (Ls.keepW d4 k6 (hw _ _ (by decide))).mono (by omega)⟩⟩
  have b16 := b15.keep k6 (by rw [List.mem_singleton]; omega)
  have e6 : Ext h h6 := Ch.trans e03 (k5.trans k6 (vs := [h4.size]) (ws := [h2.size, h1.size]) (fun i hi hl => by simp at hi; omega)) (fun i hi hl => by simp at hi; omega)
  clear s5 own5 b15 k5 s4 own b14 b13 b1
  obtain ⟨at_, no, bx, hat, mx, hgx, nx⟩ := id s6
  rw [add_box]
  refine loads_box bx (no, ()) rfl ?_
  dsimp only [flat, unc, unc1, List.nil_append, List.cons_append]
  cases st with
  | error er =>
    obtain ⟨her, a', rfl, ba', _⟩ := nx
    refine cond_t rfl ?_
    refine loads_box bx (some ⟨a', 0, none⟩, ()) rfl ?_
    dsimp only [flat, unc, unc1, List.nil_append, List.cons_append]
    have hne : a' ≠ h.size := by
      intro e
      subst e
      unfold Box at ba' b16
      rw [ba'] at b16
      simp at b16
    refine stores_of b16 rfl (by simp) ?_
    intro h7 b7 k7 z7
    have b7 : Box h7 h.size 28 zU := b7
    refine ⟨⟨(bx.keep k7 (by rw [List.mem_singleton]; omega)).cells _ rfl, trivial⟩, ?_⟩
    refine loads_box b7 ((none, 0, 0), (none, 0, 0), (none, 0, 0), (none, 0, 0), ()) rfl ?_
    dsimp only [flat, unc, unc1, List.nil_append, List.cons_append]
    refine ⟨sl0, sl0, sl0, sl0, _, unt0, some (full.length - er.1, er.2), rfl, UntOwn.zero _ _, ⟨a', rfl, ba'.keep k7 (by rw [List.mem_singleton]; omega)⟩, ⟨?_, rfl⟩, ⟨fun _ => ⟨rfl, rfl, rfl, rfl⟩, Apt.zero⟩, e6.st k7 (Nat.le_refl _)⟩
    rw [hrd]
    unfold UnitE at ue
    cases hu : unitR full with
    | error e => rw [hu] at ue; cases ue; rfl
    | ok q => rw [hu] at ue; cases ue.2
  | ok r =>
    obtain ⟨rfl, hr⟩ := nx
    refine cond_f rfl ?_
    refine loads_box b6 ((a.p, a.l, a.c), (b.p, b.l, b.c), (c.p, c.l, c.c), (d.p, d.l, d.c), ()) rfl ?_
    dsimp only [flat, unc, unc1, List.nil_append, List.cons_append]
    refine stores_of b16 rfl (by simp) ?_
    intro h7 b7 k7 z7
    have b7 : Box h7 h.size 28 [a.v, b.v, c.v, d.v] := b7
    refine loads_box b7 ((a.p, a.l, a.c), (b.p, b.l, b.c), (c.p, c.l, c.c), (d.p, d.l, d.c), ()) rfl ?_
    refine ⟨a, b, c, d, _, u, none, rfl, (own6.keep k7 (fun i hi hl => by simp at hi; omega)).mono (by omega), rfl, ?_, ⟨fun h => absurd rfl h, hap⟩, e6.st k7 (Nat.le_refl _)⟩
    show readR full = .ok u
    rw [hrd]
    unfold UnitE at ue
    cases hu : unitR full with
    | error e => rw [hu] at ue; cases ue
    | ok q => rw [hu] at ue; rw [ue.1]
end Go.Sx.Ob

set_option linter.unusedVariables false
set_option linter.unusedSimpArgs false
set_option maxRecDepth 100000
namespace Go.Sx.Ob
open Go.Proofs
theorem itm_ext {x y : Itm} (r1 : x.kind = y.kind) (r2 : x.name = y.name) (r3 : x.inst = y.inst) (r4 : x.e = y.e) (r5 : x.n = y.n) : x = y := by
  cases x
  cases y
  simp_all
theorem unt_ext {x y : Unt} (r1 : x.text = y.text) (r2 : x.data = y.data) (r3 : x.equs = y.equs) (r4 : x.globs = y.globs) : x = y := by
  cases x
  cases y
  simp_all
theorem cond_sw {L : Lp} {K : Value → Hp → Prop} {h : Hp} {b : Bool} {t u : T} (hu : b = false → u L K h) (ht : b = true → t L K h) : (cond b t u) L K h := cond_mk ht hu
def sameT (l0 l1 : Nat) (body : Int → T → T) : T :=
 cond ((l0 : Int) != (l1 : Int))
  (T.ret (.bool false))
  (T.loop [(false, [.bool]), (false, [.int .i64])] [.bool false, .int .i64 (0 : Int)] <| fun (b2 : Bool) (n3 : Int) =>
  cond (decide (n3 < (l0 : Int)))
   (body n3 (T.again 0 [.bool b2, .int .i64 (IntKind.wrap .i64 (n3 + (1 : Int)))]))
   (T.ret (.bool true)))
theorem getE {α : Type} {xs ys : List α} (e : xs = ys) {i : Nat} (h1 : i < xs.length) (h2 : i < ys.length) : xs[i] = ys[i] := by
  subst e
  rfl
theorem cellsAt_add {h : Hp} {a : Addr} : ∀ (vs : List Value) (o i : Nat), cellsAt h a (o + i) vs → cellsAt h (a.add o) i vs
  | [], _, _, _ => trivial
  | v :: vs, o, i, hc => ⟨by rw [add_add]; exact hc.1, cellsAt_add vs o (i + 1) hc.2⟩
/-- The answer whether two things are the same. -/
def Eqw {α : Type} (x y : α) (h : Hp) (w : Value) (h' : Hp) : Prop := ∃ b : Bool, w = .bool b ∧ (b = true ↔ x = y) ∧ Ext h h'
theorem sameT_of {α : Type} {xs ys : List α} {l0 l1 : Nat} (h0 : l0 = xs.length) (h1 : l1 = ys.length) (hm : xs.length ≤ 2 ^ 60) {body : Int → T → T} {h : Hp}
    (hb : ∀ (L : Lp) (h' : Hp) (i : Nat) (hi : i < xs.length) (hj : i < ys.length) (k : T), Ext h h' → (xs[i] = ys[i] → ∀ h'', Ext h h'' → k L (Eqw xs ys h) h'') → (xs[i] ≠ ys[i] → ∀ h'', Ext h h'' → Eqw xs ys h (.bool false) h'') → body (i : Int) k L (Eqw xs ys h) h') :
    sameT l0 l1 body [] (Eqw xs ys h) h := by
  subst h0 h1
  unfold sameT
  refine cond_mk (fun q => ?_) (fun q => ?_)
  · refine ⟨false, rfl, ⟨fun h => (by cases h), fun e => ?_⟩, Ch.refl _ _⟩
    rw [e] at q
    simp at q
  have q : xs.length = ys.length := by
    have : (((xs.length : Nat) : Int) == ((ys.length : Nat) : Int)) = true := by
      simpa using q
    exact eqN_t this
  refine loop_of (cs := [(false, [.bool]), (false, [.int .i64])]) (fun y m h' => ∃ i : Nat, y.1 = false ∧ y.2.1 = (i : Int) ∧ m = xs.length - i ∧ i ≤ xs.length ∧ Ext h h' ∧ ∀ j, (hj : j < i) → (h1 : j < xs.length) → (h2 : j < ys.length) → xs[j] = ys[j]) (false, (0 : Int), ()) xs.length rfl
    ⟨0, rfl, rfl, rfl, by omega, Ch.refl _ _, fun j hj => by omega⟩ ?_
  rintro ⟨b2, n3, ⟨⟩⟩ m h1 ⟨i, hy1, hy2, rfl, hi, e1, hj⟩
  simp only at hy1 hy2
  subst hy1 hy2
  dsimp only [flat, unc, unc1, List.nil_append, List.cons_append]
  refine cond_mk (fun r => ?_) (fun r => ?_)
  · have r := of_decide_eq_true r
    refine hb _ h1 i (by omega) (by omega) _ e1 (fun he h2 e2 => ?_) (fun hne h2 e2 => ?_)
    · rw [wrap_i64 (by omega) (by omega)]
      refine again_mk (cs := [(false, [.bool]), (false, [.int .i64])]) (false, ((i + 1 : Nat) : Int), ()) (xs.length - (i + 1)) rfl (by omega) rfl ?_
      refine ⟨i + 1, rfl, rfl, rfl, by omega, e2, fun j hj' a b => ?_⟩
      by_cases hji : j < i
      · exact hj j hji a b
      · have : j = i := by omega
        subst this
        exact he
    · exact ⟨false, rfl, ⟨fun h => (by cases h), fun e => absurd (getE e (by omega) (by omega)) hne⟩, e2⟩
  · have r := of_decide_eq_false r
    refine ⟨true, rfl, ⟨fun _ => ?_, fun _ => rfl⟩, e1⟩
    exact List.ext_getElem q fun j a b => hj j (by omega) a b
theorem beqL (s t : ByteArray) : (ByteArray.toList s == ByteArray.toList t) = decide (s = t) := by
  rw [ByteArray.toList_eq, ByteArray.toList_eq]
  by_cases h : s = t
  · rw [decide_eq_true h, h]; simp
  · rw [decide_eq_false h]
    have : ¬ s.data.toList = t.data.toList := fun e => h (ba_ext e)
    simpa using this
theorem linB_iff (x y : Lin) : linB x y = true ↔ x = y := by
  obtain ⟨a, b⟩ := x
  obtain ⟨c, d⟩ := y
  unfold linB
  simp
  exact and_comm
theorem sameStr_hc {h : Hp} {p q : Option Addr} {l c m d : Nat} {xs ys : List ByteArray} (v : VwS h p l xs) (w : VwS h q m ys) : HC Tryz.prog 33 #[.slice p l c, .slice q m d] h (Eqw xs ys h) := by
  refine hcr_of (args := [.slice p l c, .slice q m d]) mixed Tryz.func33 (by kernel_rfl) (t_spandrelbook_Same_string__eq p l c q m d) ?_
  refine sameT_of (body := fun n3 k => T.need (((0 : Int) ≤ n3) ∧ (n3 < (l : Int))) <|
   T.osome p <| fun (a4 : Addr) =>
   T.loads (a4.add ((Int.toNat n3) * 1)) [.string] <| fun (s5 : ByteArray) =>
   T.need (((0 : Int) ≤ n3) ∧ (n3 < (m : Int))) <|
   T.osome q <| fun (a6 : Addr) =>
   T.loads (a6.add ((Int.toNat n3) * 1)) [.string] <| fun (s7 : ByteArray) =>
   cond (!((ByteArray.toList s5) == (ByteArray.toList s7)))
    (T.ret (.bool false)) k) v.len w.len v.many ?_
  intro L h' i hi hj k e1 hk hn
  have vl := v.len
  have wl := w.len
  obtain ⟨a, rfl, hc, _⟩ := (v.keep e1).cells i hi
  obtain ⟨b, rfl, hd, _⟩ := (w.keep e1).cells i hj
  refine need_of ⟨by omega, by omega⟩ ?_
  refine osome_mk rfl ?_
  refine loads_of (xs[i], ()) hc ?_
  dsimp only [flat, unc, unc1, List.nil_append, List.cons_append]
  refine need_of ⟨by omega, by omega⟩ ?_
  refine osome_mk rfl ?_
  refine loads_of (ys[i], ()) hd ?_
  dsimp only [flat, unc, unc1, List.nil_append, List.cons_append]
  rw [beqL]
  refine cond_mk (fun r => ?_) (fun r => ?_)
  · exact hn (by simpa using r) h' e1
  · exact hk (by simpa using r) h' e1
theorem sameEqus_hc {h : Hp} {p q : Option Addr} {l c m d : Nat} {xs ys : List Eqn} (v : VwE h p l xs) (w : VwE h q m ys) : HC Tryz.prog 32 #[.slice p l c, .slice q m d] h (Eqw xs ys h) := by
  refine hcr_of (args := [.slice p l c, .slice q m d]) mixed Tryz.func32 (by kernel_rfl) (t_spandrelkeep_SameEqus_eq p l c q m d) ?_
  refine sameT_of (body := fun n3 k => T.need (((0 : Int) ≤ n3) ∧ (n3 < (l : Int))) <|
   T.osome p <| fun (a4 : Addr) =>
   T.loads (a4.add ((Int.toNat n3) * 3)) [.string] <| fun (s5 : ByteArray) =>
   T.need (((0 : Int) ≤ n3) ∧ (n3 < (m : Int))) <|
   T.osome q <| fun (a6 : Addr) =>
   T.loads (a6.add ((Int.toNat n3) * 3)) [.string] <| fun (s7 : ByteArray) =>
    cond (!((ByteArray.toList s5) == (ByteArray.toList s7)))
    (T.ret (.bool false))
    (T.need (((0 : Int) ≤ n3) ∧ (n3 < (l : Int))) <|
    T.osome p <| fun (a8 : Addr) =>
    T.loads ((a8.add ((Int.toNat n3) * 3)).add 1) [.slice 104, .int .u32] <| fun (p9 : Option Addr) (l10 : Nat) (l11 : Nat) (n12 : Int) =>
    T.need (((0 : Int) ≤ n3) ∧ (n3 < (m : Int))) <|
    T.osome q <| fun (a13 : Addr) =>
    T.loads ((a13.add ((Int.toNat n3) * 3)).add 1) [.slice 104, .int .u32] <| fun (p14 : Option Addr) (l15 : Nat) (l16 : Nat) (n17 : Int) =>
    T.call Tryz.prog 67 [.agg #[.slice p9 l10 l11, .int .u32 n12], .agg #[.slice p14 l15 l16, .int .u32 n17]] false [(false, [.bool])] <| fun (b18 : Bool) =>
    T.stable [((a6.add ((Int.toNat n3) * 3)), [.string s7]), ((a4.add ((Int.toNat n3) * 3)), [.string s5])] <|
    cond (!b18)
     (T.ret (.bool false)) k)) v.len w.len v.many ?_
  intro L h' i hi hj k e1 hk hn
  have vl := v.len
  have wl := w.len
  obtain ⟨a, p1, l1, c1, rfl, hc, va, _⟩ := (v.keep e1).cells i hi
  obtain ⟨b, q1, m1, d1, rfl, hd, wa, _⟩ := (w.keep e1).cells i hj
  refine need_of ⟨by omega, by omega⟩ ?_
  refine osome_mk rfl ?_
  refine loads_of (xs[i].1, ()) ⟨hc.1, trivial⟩ ?_
  dsimp only [flat, unc, unc1, List.nil_append, List.cons_append]
  refine need_of ⟨by omega, by omega⟩ ?_
  refine osome_mk rfl ?_
  refine loads_of (ys[i].1, ()) ⟨hd.1, trivial⟩ ?_
  dsimp only [flat, unc, unc1, List.nil_append, List.cons_append]
  rw [beqL]
  refine cond_mk (fun r => ?_) (fun r => ?_)
  · have r : ¬ xs[i].1 = ys[i].1 := by simpa using r
    exact hn (fun e => r (by rw [e])) h' e1
  have r : xs[i].1 = ys[i].1 := by simpa using r
  refine need_of ⟨by omega, by omega⟩ ?_
  refine osome_mk rfl ?_
  refine loads_of ((p1, l1, c1), (xs[i].2.num : Int), ()) (cellsAt_add _ 1 0 hc.2) ?_
  dsimp only [flat, unc, unc1, List.nil_append, List.cons_append]
  refine need_of ⟨by omega, by omega⟩ ?_
  refine osome_mk rfl ?_
  refine loads_of ((q1, m1, d1), (ys[i].2.num : Int), ()) (cellsAt_add _ 1 0 hd.2) ?_
  dsimp only [flat, unc, unc1, List.nil_append, List.cons_append]
  refine call_of (same48_hc (c := c1) (d := d1) va.vw wa.vw va.many) ?_
  rintro _ h2 ⟨rfl, e2⟩
  refine ⟨(linB xs[i].2 ys[i].2, ()), rfl, ?_⟩
  dsimp only [flat, unc, unc1, List.nil_append, List.cons_append]
  refine ⟨⟨⟨hcell_keep hd.1 e2 (by simp), trivial⟩, ⟨hcell_keep hc.1 e2 (by simp), trivial⟩, trivial⟩, ?_⟩
  refine cond_mk (fun u => ?_) (fun u => ?_)
  · have u : linB xs[i].2 ys[i].2 = false := by simpa using u
    refine hn (fun e => ?_) h2 (e1.trans e2)
    rw [(linB_iff _ _).2 (by rw [e])] at u
    cases u
  · have u : linB xs[i].2 ys[i].2 = true := by simpa using u
    exact hk (Prod.ext r ((linB_iff _ _).1 u)) h2 (e1.trans e2)
theorem cmpInsE (x y : Operand) (i j : Ins) (h : Hp) (K : Value → Hp → Prop) (hk : K (.bool (decide (i = j))) h) :
    semW Tryz.prog (Sx.cmpS (BinOp.eql) 100 x y (.agg (insC i).toArray) (.agg (insC j).toArray)) h K := by
  refine cmpS_eql ins77 (by kernel_rfl) (by kernel_rfl) (by kernel_rfl) K ?_
  have he : (flds Tryz.prog 100).all (eqF (insC i).toArray (insC j).toArray) = (i.op == j.op && (i.a == j.a && (i.b == j.b && (i.n == j.n && (i.form == j.form && true))))) := by
    rw [← Array.all_toList]
    kernel_rfl
  rw [he, Bool.and_true]
  have : (i.op == j.op && (i.a == j.a && (i.b == j.b && (i.n == j.n && i.form == j.form)))) = decide (i = j) := by
    rcases i with ⟨a1, a2, a3, a4, a5⟩
    rcases j with ⟨c1, c2, c3, c4, c5⟩
    simp only [beqD, Ins.mk.injEq]
    by_cases h1 : a1 = c1 <;> by_cases h2 : a2 = c2 <;> by_cases h3 : a3 = c3 <;> by_cases h4 : a4 = c4 <;> by_cases h5 : a5 = c5 <;> simp [h1, h2, h3, h4, h5]
  rw [this]
  exact hk
theorem sameItem_hc {h : Hp} {p q : Option Addr} {l c m d : Nat} {x y : Itm} (v : LinAt h p l x.e) (w : LinAt h q m y.e) : HC Tryz.prog 66 #[itmV p l c x, itmV q m d y] h (Eqw x y h) := by
  refine hcr_of (args := [itmV p l c x, itmV q m d y]) mixed Tryz.func66 (by kernel_rfl) (t_spandrelkeep_SameItem_eq x.kind x.name x.inst.op x.inst.a x.inst.b x.inst.n x.inst.form p l c x.e.num x.n y.kind y.name y.inst.op y.inst.a y.inst.b y.inst.n y.inst.form q m d y.e.num y.n) ?_
  unfold t_spandrelkeep_SameItem
  refine newB ?_
  intro h1 b1 e1 z1
  refine newB ?_
  intro h2 b2 e2 z2
  have b1 : Box h2 h.size 102 (encI p l c x) := b1.keep e2 (by simp)
  have b2 : Box h2 h1.size 102 (encI q m d y) := b2
  have e := e1.trans e2
  have no : ∀ h', Ext h h' → x ≠ y → Eqw x y h (.bool false) h' := fun h' e hn => ⟨false, rfl, ⟨fun h => (by cases h), fun e => absurd e hn⟩, e⟩
  simp only [add_box]
  refine loads_box b1 (x.kind, ()) rfl ?_
  dsimp only [flat, unc, unc1, List.nil_append, List.cons_append]
  refine loads_box b2 (y.kind, ()) rfl ?_
  dsimp only [flat, unc, unc1, List.nil_append, List.cons_append]
  refine cond_sw (fun r1 => ?_) (fun r1 => ?_)
  · have r1 : ¬ x.kind = y.kind := by simpa using r1
    exact no h2 e (fun e => r1 (by rw [e]))
  have r1 : x.kind = y.kind := by simpa using r1
  refine loads_box b1 (x.name, ()) rfl ?_
  dsimp only [flat, unc, unc1, List.nil_append, List.cons_append]
  refine loads_box b2 (y.name, ()) rfl ?_
  dsimp only [flat, unc, unc1, List.nil_append, List.cons_append]
  rw [beqL]
  refine cond_sw (fun r2 => ?_) (fun r2 => ?_)
  · have r2 : ¬ x.name = y.name := by simpa using r2
    exact no h2 e (fun e => r2 (by rw [e]))
  have r2 : x.name = y.name := by simpa using r2
  refine loads_box b1 (x.inst.op, x.inst.a, x.inst.b, x.inst.n, x.inst.form, ()) rfl ?_
  dsimp only [flat, unc, unc1, List.nil_append, List.cons_append]
  refine loads_box b2 (y.inst.op, y.inst.a, y.inst.b, y.inst.n, y.inst.form, ()) rfl ?_
  dsimp only [flat, unc, unc1, List.nil_append, List.cons_append]
  refine sem_bool (fun K' hK => cmpInsE _ _ x.inst y.inst h2 K' hK) ?_
  refine cond_sw (fun r3 => ?_) (fun r3 => ?_)
  · have r3 : ¬ x.inst = y.inst := by simpa using r3
    exact no h2 e (fun e => r3 (by rw [e]))
  have r3 : x.inst = y.inst := by simpa using r3
  refine loads_box b1 ((p, l, c), (x.e.num : Int), ()) rfl ?_
  dsimp only [flat, unc, unc1, List.nil_append, List.cons_append]
  refine loads_box b2 ((q, m, d), (y.e.num : Int), ()) rfl ?_
  dsimp only [flat, unc, unc1, List.nil_append, List.cons_append]
  refine call_of (same48_hc (c := c) (d := d) (v.keep e).vw (w.keep e).vw v.many) ?_
  rintro _ h3 ⟨rfl, e3⟩
  refine ⟨(linB x.e y.e, ()), rfl, ?_⟩
  dsimp only [flat, unc, unc1, List.nil_append, List.cons_append]
  refine cond_sw (fun r4 => ?_) (fun r4 => ?_)
  · refine no h3 (e.trans e3) (fun e => ?_)
    rw [(linB_iff _ _).2 (by rw [e])] at r4
    cases r4
  have r4 := (linB_iff _ _).1 r4
  refine loads_box (b1.keep e3 (by simp)) (x.n, ()) rfl ?_
  dsimp only [flat, unc, unc1, List.nil_append, List.cons_append]
  refine loads_box (b2.keep e3 (by simp)) (y.n, ()) rfl ?_
  refine ⟨x.n == y.n, rfl, ⟨fun r5 => ?_, fun e => by rw [e]; simp⟩, e.trans e3⟩
  have r5 : x.n = y.n := by simpa using r5
  exact itm_ext r1 r2 r3 r4 r5
theorem sameItems_hc {h : Hp} {p q : Option Addr} {l c m d : Nat} {xs ys : List Itm} (v : VwI h p l xs) (w : VwI h q m ys) : HC Tryz.prog 31 #[.slice p l c, .slice q m d] h (Eqw xs ys h) := by
  refine hcr_of (args := [.slice p l c, .slice q m d]) mixed Tryz.func31 (by kernel_rfl) (t_spandrelkeep_SameItems_eq p l c q m d) ?_
  refine sameT_of (body := fun n3 k => T.need (((0 : Int) ≤ n3) ∧ (n3 < (l : Int))) <|
   T.osome p <| fun (a4 : Addr) =>
   T.loads (a4.add ((Int.toNat n3) * 10)) [.int .i64, .string, .int .i64, .int .i64, .int .i64, .int .i32, .int .i64, .slice 104, .int .u32, .int .i64] <| fun (n5 : Int) (s6 : ByteArray) (n7 : Int) (n8 : Int) (n9 : Int) (n10 : Int) (n11 : Int) (p12 : Option Addr) (l13 : Nat) (l14 : Nat) (n15 : Int) (n16 : Int) =>
   T.need (((0 : Int) ≤ n3) ∧ (n3 < (m : Int))) <|
   T.osome q <| fun (a17 : Addr) =>
   T.loads (a17.add ((Int.toNat n3) * 10)) [.int .i64, .string, .int .i64, .int .i64, .int .i64, .int .i32, .int .i64, .slice 104, .int .u32, .int .i64] <| fun (n18 : Int) (s19 : ByteArray) (n20 : Int) (n21 : Int) (n22 : Int) (n23 : Int) (n24 : Int) (p25 : Option Addr) (l26 : Nat) (l27 : Nat) (n28 : Int) (n29 : Int) =>
   T.call Tryz.prog 66 [.agg #[.int .i64 n5, .string s6, .int .i64 n7, .int .i64 n8, .int .i64 n9, .int .i32 n10, .int .i64 n11, .slice p12 l13 l14, .int .u32 n15, .int .i64 n16], .agg #[.int .i64 n18, .string s19, .int .i64 n20, .int .i64 n21, .int .i64 n22, .int .i32 n23, .int .i64 n24, .slice p25 l26 l27, .int .u32 n28, .int .i64 n29]] false [(false, [.bool])] <| fun (b30 : Bool) =>
   cond (!b30)
    (T.ret (.bool false)) k) v.len w.len v.many ?_
  intro L h' i hi hj k e1 hk hn
  have vl := v.len
  have wl := w.len
  obtain ⟨a, p1, l1, c1, rfl, hc, va⟩ := (v.keep e1).cells i hi
  obtain ⟨b, q1, m1, d1, rfl, hd, wa⟩ := (w.keep e1).cells i hj
  refine need_of ⟨by omega, by omega⟩ ?_
  refine osome_mk rfl ?_
  refine loads_of (xs[i].kind, xs[i].name, xs[i].inst.op, xs[i].inst.a, xs[i].inst.b, xs[i].inst.n, xs[i].inst.form, (p1, l1, c1), (xs[i].e.num : Int), xs[i].n, ()) hc ?_
  dsimp only [flat, unc, unc1, List.nil_append, List.cons_append]
  refine need_of ⟨by omega, by omega⟩ ?_
  refine osome_mk rfl ?_
  refine loads_of (ys[i].kind, ys[i].name, ys[i].inst.op, ys[i].inst.a, ys[i].inst.b, ys[i].inst.n, ys[i].inst.form, (q1, m1, d1), (ys[i].e.num : Int), ys[i].n, ()) hd ?_
  dsimp only [flat, unc, unc1, List.nil_append, List.cons_append]
  refine call_of (sameItem_hc (c := c1) (d := d1) va.lin wa.lin) ?_
  rintro _ h2 ⟨b, rfl, hb, e2⟩
  refine ⟨(b, ()), rfl, ?_⟩
  dsimp only [flat, unc, unc1, List.nil_append, List.cons_append]
  refine cond_mk (fun u => ?_) (fun u => ?_)
  · have u : b = false := by simpa using u
    refine hn (fun e => ?_) h2 (e1.trans e2)
    rw [hb.2 e] at u
    cases u
  · have u : b = true := by simpa using u
    exact hk (hb.1 u) h2 (e1.trans e2)
theorem sameUnit_hc {h : Hp} {a b c d a' b' c' d' : Sli} {u v : Unt} (x : UntAt h a b c d u) (y : UntAt h a' b' c' d' v) : HC Tryz.prog 9 #[untV a b c d, untV a' b' c' d'] h (Eqw u v h) := by
  refine hcr_of (args := [untV a b c d, untV a' b' c' d']) mixed Tryz.func9 (by kernel_rfl) (t_spandrelkeep_SameUnit_eq a.p a.l a.c b.p b.l b.c c.p c.l c.c d.p d.l d.c a'.p a'.l a'.c b'.p b'.l b'.c c'.p c'.l c'.c d'.p d'.l d'.c) ?_
  unfold t_spandrelkeep_SameUnit
  refine newB ?_
  intro h1 b1 e1 z1
  refine newB ?_
  intro h2 b2 e2 z2
  have b1 : Box h2 h.size 28 [a.v, b.v, c.v, d.v] := b1.keep e2 (by simp)
  have b2 : Box h2 h1.size 28 [a'.v, b'.v, c'.v, d'.v] := b2
  have e := e1.trans e2
  have no : ∀ h', Ext h h' → u ≠ v → Eqw u v h (.bool false) h' := fun h' e hn => ⟨false, rfl, ⟨fun h => (by cases h), fun e => absurd e hn⟩, e⟩
  simp only [add_box]
  refine loads_box b1 ((a.p, a.l, a.c), ()) rfl ?_
  dsimp only [flat, unc, unc1, List.nil_append, List.cons_append]
  refine loads_box b2 ((a'.p, a'.l, a'.c), ()) rfl ?_
  dsimp only [flat, unc, unc1, List.nil_append, List.cons_append]
  refine call_of (sameItems_hc (x.text.keep e) (y.text.keep e)) ?_
  rintro _ h3 ⟨r1, rfl, i1, e3⟩
  refine ⟨(r1, ()), rfl, ?_⟩
  dsimp only [flat, unc, unc1, List.nil_append, List.cons_append]
  have e := e.trans e3
  have b1 := b1.keep e3 (by simp)
  have b2 := b2.keep e3 (by simp)
  refine cond_sw (fun q1 => ?_) (fun q1 => ?_)
  · refine no _ e (fun e => ?_)
    rw [i1.2 (by rw [e])] at q1
    cases q1
  have i1 := i1.1 q1
  refine loads_box b1 ((b.p, b.l, b.c), ()) rfl ?_
  dsimp only [flat, unc, unc1, List.nil_append, List.cons_append]
  refine loads_box b2 ((b'.p, b'.l, b'.c), ()) rfl ?_
  dsimp only [flat, unc, unc1, List.nil_append, List.cons_append]
  refine call_of (sameItems_hc (x.data.keep e) (y.data.keep e)) ?_
  rintro _ h4 ⟨r2, rfl, i2, e4⟩
  refine ⟨(r2, ()), rfl, ?_⟩
  dsimp only [flat, unc, unc1, List.nil_append, List.cons_append]
  have e := e.trans e4
  have b1 := b1.keep e4 (by simp)
  have b2 := b2.keep e4 (by simp)
  refine cond_sw (fun q2 => ?_) (fun q2 => ?_)
  · refine no _ e (fun e => ?_)
    rw [i2.2 (by rw [e])] at q2
    cases q2
  have i2 := i2.1 q2
  refine loads_box b1 ((c.p, c.l, c.c), ()) rfl ?_
  dsimp only [flat, unc, unc1, List.nil_append, List.cons_append]
  refine loads_box b2 ((c'.p, c'.l, c'.c), ()) rfl ?_
  dsimp only [flat, unc, unc1, List.nil_append, List.cons_append]
  refine call_of (sameEqus_hc (x.equs.keep e) (y.equs.keep e)) ?_
  rintro _ h5 ⟨r3, rfl, i3, e5⟩
  refine ⟨(r3, ()), rfl, ?_⟩
  dsimp only [flat, unc, unc1, List.nil_append, List.cons_append]
  have e := e.trans e5
  have b1 := b1.keep e5 (by simp)
  have b2 := b2.keep e5 (by simp)
  refine cond_sw (fun q3 => ?_) (fun q3 => ?_)
  · refine no _ e (fun e => ?_)
    rw [i3.2 (by rw [e])] at q3
    cases q3
  have i3 := i3.1 q3
  refine loads_box b1 ((d.p, d.l, d.c), ()) rfl ?_
  dsimp only [flat, unc, unc1, List.nil_append, List.cons_append]
  refine loads_box b2 ((d'.p, d'.l, d'.c), ()) rfl ?_
  dsimp only [flat, unc, unc1, List.nil_append, List.cons_append]
  refine call_of (sameStr_hc (x.globs.keep e) (y.globs.keep e)) ?_
  rintro _ h6 ⟨r4, rfl, i4, e6⟩
  refine ⟨(r4, ()), rfl, ?_⟩
  refine ⟨r4, rfl, ⟨fun q => ?_, fun e => i4.2 (by rw [e])⟩, e.trans e6⟩
  have i4 := i4.1 q
  exact unt_ext i1 i2 i3 i4
end Go.Sx.Ob

set_option linter.unusedVariables false
set_option linter.unusedSimpArgs false
set_option maxRecDepth 100000
namespace Go.Sx.Ob
open Go.Proofs
structure VwU (h : Hp) (p : Option Addr) (l : Nat) (us : List Unt) : Prop where
  len : l = us.length
  many : us.length ≤ 2 ^ 60
  cells : ∀ i, (hi : i < us.length) → ∃ a sa sb sc sd, p = some a ∧ cellsAt h (a.add (i * 4)) 0 [Sli.v sa, Sli.v sb, Sli.v sc, Sli.v sd] ∧ UntAt h sa sb sc sd us[i]
theorem VwU.keep {h h' : Hp} {p : Option Addr} {l : Nat} {us : List Unt} (v : VwU h p l us) (k : Ext h h') : VwU h' p l us :=
  ⟨v.len, v.many, fun i hi => by
    obtain ⟨a, sa, sb, sc, sd, ha, hc, hv⟩ := v.cells i hi
    exact ⟨a, sa, sb, sc, sd, ha, cellsAt_keep k (by simp) _ _ hc, hv.keep k⟩⟩
def bigB (u : Unt) : Bool := decide (600 < u.text.length) || decide (300 < u.data.length) || decide (100 < u.equs.length)
def sizeU (u : Unt) : Nat := u.text.length + u.data.length + u.equs.length
def sizes (us : List Unt) : Nat := (us.map sizeU).sum
def largeR (us : List Unt) : Bool := (us.take 65).any bigB || decide (900 < sizes (us.take 65))
theorem any_take {α : Type} (f : α → Bool) (l : List α) {i n : Nat} (hi : i < l.length) (hn : i < n) (h : f l[i] = true) : (l.take n).any f = true := by
  rw [List.any_eq_true]
  exact ⟨l[i], List.mem_take_iff_getElem.2 ⟨i, by omega, rfl⟩, h⟩
theorem sizes_step (us : List Unt) {i : Nat} (hi : i < us.length) : sizes (us.take (i + 1)) = sizes (us.take i) + sizeU us[i] := by
  unfold sizes
  rw [List.take_succ_eq_append_getElem hi, List.map_append, List.sum_append]
  simp
theorem large_hc {h : Hp} {p : Option Addr} {l c : Nat} {us : List Unt} (v : VwU h p l us) : HCp Tryz.prog 12 [.slice p l c] h (.bool (largeR us)) := by
  refine hcp_of mixed Tryz.func12 (by kernel_rfl) (t_spandrelkeep_Large_eq p l c) ?_
  unfold t_spandrelkeep_Large
  have hl := v.len
  have hm := v.many
  refine loop_of (cs := [(false, [.bool]), (false, [.int .i64]), (false, [.int .i64])]) (fun y m h' => ∃ i : Nat, y.1 = false ∧ y.2.1 = ((sizes (us.take i) : Nat) : Int) ∧ y.2.2.1 = (i : Int) ∧ m = l - i ∧ i ≤ l ∧ i ≤ 65 ∧ h' = h ∧ (us.take i).any bigB = false ∧ sizes (us.take i) ≤ i * 1000) (false, (0 : Int), (0 : Int), ()) l rfl
    ⟨0, rfl, rfl, rfl, rfl, by omega, by omega, rfl, rfl, by simp [sizes]⟩ ?_
  rintro ⟨b1, n2, n3, ⟨⟩⟩ m h1 ⟨i, hy1, hy2, hy3, rfl, hi, hi65, rfl, hb, hs⟩
  simp only at hy1 hy2 hy3
  subst hy1 hy2 hy3
  dsimp only [flat, unc, unc1, List.nil_append, List.cons_append]
  have fin : (l ≤ i ∨ 65 ≤ i) → (T.ret (.bool (decide (((sizes (us.take i) : Nat) : Int) > (900 : Int))))) [Jl (cs := [(false, [.bool]), (false, [.int .i64]), (false, [.int .i64])]) (fun y m h' => ∃ i : Nat, y.1 = false ∧ y.2.1 = ((sizes (us.take i) : Nat) : Int) ∧ y.2.2.1 = (i : Int) ∧ m = l - i ∧ i ≤ l ∧ i ≤ 65 ∧ h' = h1 ∧ (us.take i).any bigB = false ∧ sizes (us.take i) ≤ i * 1000) (l - i)] (fun v' h' => v' = .bool (largeR us) ∧ h' = h1) h1 := by
    intro hh
    have : us.take i = us.take 65 := by
      by_cases h65 : i = 65
      · rw [h65]
      · rw [List.take_of_length_le (by omega), List.take_of_length_le (by omega)]
    refine ⟨?_, rfl⟩
    unfold largeR
    rw [← this, hb, Bool.false_or]
    congr 1
    by_cases g : 900 < sizes (us.take i)
    · rw [decide_eq_true g, decide_eq_true (by omega)]
    · rw [decide_eq_false g, decide_eq_false (by omega)]
  refine cond_sw (fun r => ?_) (fun r => ?_)
  · have r := of_decide_eq_false r
    exact fin (by omega)
  have r := of_decide_eq_true r
  refine cond_sw (fun w => ?_) (fun w => ?_)
  · have w := of_decide_eq_false w
    exact fin (by omega)
  have w := of_decide_eq_true w
  clear fin
  have hiu : i < us.length := by omega
  obtain ⟨a, sa, sb, sc, sd, rfl, hc, hv⟩ := v.cells i hiu
  have na := hv.text.len
  have nb := hv.data.len
  have nc := hv.equs.len
  have ca : cellsAt h1 (a.add (i * 4)) 0 [Sli.v sa] := ⟨hc.1, trivial⟩
  have cb : cellsAt h1 ((a.add (i * 4)).add 1) 0 [Sli.v sb] := cellsAt_add _ 1 0 ⟨hc.2.1, trivial⟩
  have cc : cellsAt h1 ((a.add (i * 4)).add 2) 0 [Sli.v sc] := cellsAt_add _ 2 0 ⟨hc.2.2.1, trivial⟩
  have big : bigB us[i] = true → (T.ret (.bool true)) [Jl (cs := [(false, [.bool]), (false, [.int .i64]), (false, [.int .i64])]) (fun y m h' => ∃ i : Nat, y.1 = false ∧ y.2.1 = ((sizes (us.take i) : Nat) : Int) ∧ y.2.2.1 = (i : Int) ∧ m = l - i ∧ i ≤ l ∧ i ≤ 65 ∧ h' = h1 ∧ (us.take i).any bigB = false ∧ sizes (us.take i) ≤ i * 1000) (l - i)] (fun v' h' => v' = .bool (largeR us) ∧ h' = h1) h1 := by
    intro hg
    refine ⟨?_, rfl⟩
    unfold largeR
    rw [any_take bigB us hiu (by omega) hg]
    rfl
  refine need_of ⟨by omega, by omega⟩ (osome_mk rfl ?_)
  refine loads_of ((sa.p, sa.l, sa.c), ()) ca ?_
  dsimp only [flat, unc, unc1, List.nil_append, List.cons_append]
  refine cond_mk (fun g => ?_) (fun g1 => ?_)
  · have g := of_decide_eq_true g
    refine big ?_
    unfold bigB
    rw [decide_eq_true (by omega)]
    rfl
  have g1 := of_decide_eq_false g1
  refine need_of ⟨by omega, by omega⟩ (osome_mk rfl ?_)
  refine loads_of ((sb.p, sb.l, sb.c), ()) cb ?_
  dsimp only [flat, unc, unc1, List.nil_append, List.cons_append]
  refine cond_mk (fun g => ?_) (fun g2 => ?_)
  · have g := of_decide_eq_true g
    refine big ?_
    unfold bigB
    rw [decide_eq_true (show 300 < us[i].data.length by omega)]
    simp
  have g2 := of_decide_eq_false g2
  refine need_of ⟨by omega, by omega⟩ (osome_mk rfl ?_)
  refine loads_of ((sc.p, sc.l, sc.c), ()) cc ?_
  dsimp only [flat, unc, unc1, List.nil_append, List.cons_append]
  refine cond_mk (fun g => ?_) (fun g3 => ?_)
  · have g := of_decide_eq_true g
    refine big ?_
    unfold bigB
    rw [decide_eq_true (show 100 < us[i].equs.length by omega)]
    simp
  have g3 := of_decide_eq_false g3
  refine need_of ⟨by omega, by omega⟩ (osome_mk rfl ?_)
  refine loads_of ((sa.p, sa.l, sa.c), ()) ca ?_
  dsimp only [flat, unc, unc1, List.nil_append, List.cons_append]
  refine need_of ⟨by omega, by omega⟩ (osome_mk rfl ?_)
  refine loads_of ((sb.p, sb.l, sb.c), ()) cb ?_
  dsimp only [flat, unc, unc1, List.nil_append, List.cons_append]
  refine need_of ⟨by omega, by omega⟩ (osome_mk rfl ?_)
  refine loads_of ((sc.p, sc.l, sc.c), ()) cc ?_
  dsimp only [flat, unc, unc1, List.nil_append, List.cons_append]
  rw [wrap_i64 (x := ((sizes (us.take i) : Nat) : Int) + (sa.l : Int)) (by omega) (by omega), wrap_i64 (x := ((sizes (us.take i) : Nat) : Int) + (sa.l : Int) + (sb.l : Int)) (by omega) (by omega), wrap_i64 (x := ((sizes (us.take i) : Nat) : Int) + (sa.l : Int) + (sb.l : Int) + (sc.l : Int)) (by omega) (by omega), wrap_i64 (x := (i : Int) + 1) (by omega) (by omega)]
  have hst := sizes_step us hiu
  have hsz : sizeU us[i] = sa.l + sb.l + sc.l := by unfold sizeU; omega
  refine again_mk (cs := [(false, [.bool]), (false, [.int .i64]), (false, [.int .i64])]) (false, ((sizes (us.take (i + 1)) : Nat) : Int), ((i + 1 : Nat) : Int), ()) (l - (i + 1)) rfl (by omega) ?_ ?_
  · show [Value.bool false, Value.int .i64 (((sizes (us.take i) : Nat) : Int) + (sa.l : Int) + (sb.l : Int) + (sc.l : Int)), Value.int .i64 ((i : Int) + 1)] = [Value.bool false, Value.int .i64 ((sizes (us.take (i + 1)) : Nat) : Int), Value.int .i64 ((i + 1 : Nat) : Int)]
    rw [hst, hsz]
    congr 3
    omega
  · refine ⟨i + 1, rfl, rfl, rfl, rfl, by omega, by omega, rfl, ?_, by omega⟩
    rw [List.take_succ_eq_append_getElem hiu, List.any_append, hb, Bool.false_or]
    unfold bigB
    simp only [List.any_cons, List.any_nil, Bool.or_false, Bool.or_eq_false_iff, decide_eq_false_iff_not]
    omega
end Go.Sx.Ob

set_option linter.unusedVariables false
set_option linter.unusedSimpArgs false
set_option maxRecDepth 100000
namespace Go.Sx
open Go.Proofs
theorem digit_hc (c : UInt8) (h : Hp) : HCp Tryz.prog 78 [.int .u8 (cN c)] h (.bool (isDig c)) := by
  refine hcp_of mixed Tryz.func78 (by kernel_rfl) (t_spandrelref2_Digit_eq _) ?_
  unfold t_spandrelref2_Digit isDig cN
  refine cond_mk (fun h1 => ?_) (fun h1 => ?_)
  · have h1 := of_decide_eq_true h1
    refine ⟨?_, rfl⟩
    congr 1
    rw [show decide (48 ≤ c.toNat) = true from decide_eq_true (by omega), Bool.true_and]
    exact decide_eq_decide.2 (by omega)
  · have h1 := of_decide_eq_false h1
    refine ⟨?_, rfl⟩
    congr 1
    rw [show decide (48 ≤ c.toNat) = false from decide_eq_false (by omega), Bool.false_and]

theorem letter_hc (c : UInt8) (h : Hp) : HCp Tryz.prog 77 [.int .u8 (cN c)] h (.bool (isLet c)) := by
  refine hcp_of mixed Tryz.func77 (by kernel_rfl) (t_spandrelref2_Letter_eq _) ?_
  unfold t_spandrelref2_Letter
  have hl := isLet_iff c
  repeat' (refine cond_mk (fun h1 => ?_) (fun h1 => ?_) <;> first | replace h1 := of_decide_eq_true h1 | replace h1 := of_decide_eq_false h1)
  all_goals exact ⟨congrArg Value.bool (Bool.eq_iff_iff.2 (by simp only [hl, true_iff, beq_iff_eq]; omega)), rfl⟩
theorem register2_hc (s : ByteArray) (h : Hp) : HCp Tryz.prog 79 [.string s] h (.tuple #[.int .i64 (regL s.data.toList).1, .bool (regL s.data.toList).2.1, .bool (regL s.data.toList).2.2]) := by
  refine hcp_of mixed Tryz.func79 (by kernel_rfl) (t_spandrelref2_Register_eq s) ?_
  have hsz : s.data.toList.length = s.size := by simp
  unfold t_spandrelref2_Register
  refine cond_mk (fun h1 => ?_) (fun h1 => ?_)
  · have h1 : (s.size : Int) ≠ 2 := by simpa using h1
    rw [regL_len (by omega)]
    exact ⟨rfl, rfl⟩
  · have h1 : (s.size : Int) = 2 := by simpa using h1
    obtain ⟨a, b, hab⟩ := two_bytes h1
    have e0 : sbyte s 0 = cN a := by rw [sbyte_cN, hab]; rfl
    have e1 : sbyte s 1 = cN b := by rw [sbyte_cN, hab]; rfl
    have hb := b.toNat_lt
    have w1 : IntKind.wrap .i64 (IntKind.wrap .i64 (sbyte s 1) - 48) = cN b - 48 := by
      rw [e1, wrap_i64 (x := cN b) (by unfold cN; omega) (by unfold cN; omega), wrap_i64 (by unfold cN; omega) (by unfold cN; omega)]
    rw [w1, e0, hab]
    unfold regL
    repeat' (first | refine need_of ⟨by omega, by omega⟩ ?_ | (refine cond_mk (fun h1 => ?_) (fun h1 => ?_) <;> first | replace h1 := of_decide_eq_true h1 | replace h1 := of_decide_eq_false h1 | replace h1 := eq_of_beq h1 | replace h1 := ne_of_beq_false h1))
    all_goals
      refine ⟨?_, rfl⟩
      simp only
      first
        | (exfalso; omega)
        | rw [if_pos (by omega)]
        | rw [if_neg (by omega), if_pos (by omega)]
        | rw [if_neg (by omega), if_neg (by omega)]
theorem all_stepR (p : UInt8 → Bool) (l : List UInt8) (k : Nat) (hk : k < l.length) : (l.take (k + 1)).all p = ((l.take k).all p && p (l.getD k 0)) := by
  rw [List.take_succ_eq_append_getElem hk, List.all_append]
  simp [List.getD, List.getElem?_eq_getElem hk]
theorem legal2_hc (s : ByteArray) (h : Hp) (hs : s.size ≤ 9223372036854775807) : HCp Tryz.prog 43 [.string s] h (.bool (legalL s.data.toList)) := by
  refine hcp_of mixed Tryz.func43 (by kernel_rfl) (t_spandrelref2_Legal_eq s) ?_
  have hsz : s.data.toList.length = s.size := by simp
  unfold t_spandrelref2_Legal
  unfold legalL
  rw [hsz]
  refine cond_mk (fun h1 => ?_) (fun h1 => ?_)
  · have h1 := of_decide_eq_true h1
    rw [show decide (0 < s.size) = false from decide_eq_false (by omega)]
    exact ⟨by simp, rfl⟩
  have h1 := of_decide_eq_false h1
  refine cond_mk (fun h2 => ?_) (fun h2 => ?_)
  · have h2 := of_decide_eq_true h2
    rw [show decide (s.size ≤ 32) = false from decide_eq_false (by omega)]
    exact ⟨by simp, rfl⟩
  have h2 := of_decide_eq_false h2
  rw [show decide (0 < s.size) = true from decide_eq_true (by omega), show decide (s.size ≤ 32) = true from decide_eq_true (by omega)]
  refine need_of ⟨by omega, by omega⟩ ?_
  refine call_bool (letter_hc (s.data.toList.getD 0 0) h) ?_
  refine cond_mk (fun h3 => ?_) (fun h3 => ?_)
  · have h3 : isLet (s.data.toList.getD 0 0) = false := by simpa using h3
    rw [h3]
    exact ⟨by simp, rfl⟩
  have h3 : isLet (s.data.toList.getD 0 0) = true := by simpa using h3
  rw [h3]
  refine loop_of (cs := [(false, [.bool]), (false, [.int .i64])]) (fun x n h' => h' = h ∧ ∃ k : Nat, x.2.1 = (k : Int) ∧ k ≤ s.size ∧ n = s.size - k ∧ (s.data.toList.take k).all (fun c => isLet c || isDig c) = true)
    (false, (0 : Int), ()) s.size rfl ⟨rfl, 0, rfl, by omega, by omega, by simp⟩ ?_
  rintro ⟨b, n, ⟨⟩⟩ m h' ⟨rfl, k, hk, hle, rfl, hall⟩
  simp only at hk
  subst hk
  refine cond_mk (fun hb => ?_) (fun hb => ?_)
  · have hlt : (k : Int) < s.size := of_decide_eq_true hb
    have hst := all_stepR (fun c => isLet c || isDig c) s.data.toList k (by omega)
    rw [hall, Bool.true_and] at hst
    have hfalse : ∀ k' : Nat, (isLet (s.data.toList.getD k 0) || isDig (s.data.toList.getD k 0)) = false → s.data.toList.all (fun c => isLet c || isDig c) = false := by
      intro k' hf
      rw [hf] at hst
      cases hx : s.data.toList.all (fun c => isLet c || isDig c) with
      | false => rfl
      | true =>
        have : (s.data.toList.take (k + 1)).all (fun c => isLet c || isDig c) = true := List.all_eq_true.2 fun c hc => List.all_eq_true.1 hx c (List.mem_of_mem_take hc)
        rw [this] at hst; cases hst
    have hnext : (isLet (s.data.toList.getD k 0) || isDig (s.data.toList.getD k 0)) = true → T.again 0 [.bool b, .int .i64 (IntKind.wrap .i64 ((k : Int) + 1))] ([] ++ [Jl (cs := [(false, [.bool]), (false, [.int .i64])]) (fun x n h'' => h'' = h' ∧ ∃ k : Nat, x.2.1 = (k : Int) ∧ k ≤ s.size ∧ n = s.size - k ∧ (s.data.toList.take k).all (fun c => isLet c || isDig c) = true) (s.size - k)]) (fun v' h'' => v' = .bool (true && true && true && s.data.toList.all (fun c => isLet c || isDig c) && !(regL s.data.toList).2.2) ∧ h'' = h') h' := by
      intro ht
      rw [wrap_i64 (by omega) (by omega)]
      exact again_mk (cs := [(false, [.bool]), (false, [.int .i64])]) (b, (k : Int) + 1, ()) (s.size - (k + 1)) rfl (by omega) rfl ⟨rfl, k + 1, (show ((k : Int) + 1) = ((k + 1 : Nat) : Int) from by omega), by omega, rfl, by rw [hst, ht]⟩
    refine need_of ⟨(by show (0:Int) ≤ (k:Int); omega), hlt⟩ ?_
    refine call_bool (letter_hc (s.data.toList.getD k 0) h') ?_
    refine cond_mk (fun h4 => ?_) (fun h4 => ?_)
    · have h4 : isLet (s.data.toList.getD k 0) = false := by simpa using h4
      refine need_of ⟨(by show (0:Int) ≤ (k:Int); omega), hlt⟩ ?_
      refine call_bool (digit_hc (s.data.toList.getD k 0) h') ?_
      refine cond_mk (fun h5 => ?_) (fun h5 => ?_)
      · have h5 : isDig (s.data.toList.getD k 0) = false := by simpa using h5
        rw [hfalse 0 (by rw [h4, h5]; rfl)]
        exact ⟨by simp, rfl⟩
      · have h5 : isDig (s.data.toList.getD k 0) = true := by simpa using h5
        exact hnext (by rw [h5]; simp)
    · have h4 : isLet (s.data.toList.getD k 0) = true := by simpa using h4
      exact hnext (by rw [h4]; simp)
  · have hge : ¬ (k : Int) < s.size := of_decide_eq_false hb
    have hk : k = s.data.toList.length := by omega
    rw [hk, List.take_length] at hall
    rw [hall]
    refine call_ibb (register2_hc s h') ?_
    exact ⟨by simp, rfl⟩
theorem right50_hc {h : Hp} {p : Option Addr} {l c : Nat} {x : Lin} (v : VwT h p l x.terms) (hl : x.terms.length ≤ 9223372036854775807) (hs : ∀ t, t ∈ x.terms → t.1.size ≤ maxLen) :
    HC Tryz.prog 44 #[linV p l c x] h fun w h' => w = .bool (rtR none x.terms) ∧ Ext h h' := by
  refine hcr_of (args := [.agg #[.slice p l c, .int .u32 x.num]]) mixed Tryz.func44 (by kernel_rfl) (t_spandrelref4_Right_eq p l c x.num) ?_
  unfold t_spandrelref4_Right
  have hll := v.len
  refine newB ?_
  intro h1 b1 e1 z1
  have v := v.keep e1 (by simp)
  refine loop_of (cs := [(false, [.bool]), (false, [.int .i64])]) (fun y w h' => ∃ (i : Nat), y.2.1 = (i : Int) ∧ i ≤ x.terms.length ∧ w = x.terms.length - i ∧ h1 = h' ∧ rtR none x.terms = rtR (pvN x.terms i) (x.terms.drop i)) (false, (0 : Int), ()) x.terms.length rfl
    ⟨0, rfl, by omega, by omega, rfl, rfl⟩ ?_
  rintro ⟨b8, n8, ⟨⟩⟩ w h2 ⟨i, hi, hile, rfl, rfl, hq⟩
  simp only at hi
  subst hi
  dsimp only [flat, unc, unc1, List.nil_append, List.cons_append]
  refine loads_box b1 ((p, l, c), ()) rfl ?_
  dsimp only [flat, unc, unc1, List.nil_append, List.cons_append]
  refine cond_mk (fun g1 => ?_) (fun g1 => ?_)
  · have g1 := of_decide_eq_true g1
    have hilt : i < x.terms.length := by omega
    obtain ⟨a, rfl, hc⟩ := v.cells i hilt
    have hdr : x.terms.drop i = x.terms[i] :: x.terms.drop (i + 1) := List.drop_eq_getElem_cons hilt
    have hpv : pvN x.terms (i + 1) = some x.terms[i].1 := by
      unfold pvN
      rw [if_neg (by omega), Nat.add_sub_cancel, List.getElem?_eq_getElem hilt]
      rfl
    have hsz := hs x.terms[i] (List.getElem_mem hilt)
    rw [hdr] at hq
    generalize x.terms[i] = t at hc hq hpv hsz
    refine loads_box b1 ((some a, l, c), ()) rfl ?_
    dsimp only [flat, unc, unc1, List.nil_append, List.cons_append]
    refine need_of ⟨by omega, by omega⟩ (osome_mk rfl ?_)
    rw [show Int.toNat (i : Int) = i by omega]
    refine loads_of (t.1, ()) (encT_cells hc).1 ?_
    dsimp only [flat, unc, unc1, List.nil_append, List.cons_append]
    refine call_bool (legal2_hc t.1 h1 (by have : maxLen = 9223372036854775807 := rfl; omega)) ?_
    refine ⟨⟨b1.cells _ rfl, trivial⟩, ?_⟩
    refine cond_mk (fun g3 => ?_) (fun g3 => ?_)
    · have g3 : legalL t.1.data.toList = false := by simpa using g3
      refine ⟨?_, e1⟩
      rw [hq]
      unfold rtR
      rw [g3]
      simp
    · have g3 : legalL t.1.data.toList = true := by simpa using g3
      refine loads_box b1 ((some a, l, c), ()) rfl ?_
      dsimp only [flat, unc, unc1, List.nil_append, List.cons_append]
      refine need_of ⟨by omega, by omega⟩ (osome_mk rfl ?_)
      refine loads_of ((t.2 : Int), ()) (encT_cells hc).2 ?_
      dsimp only [flat, unc, unc1, List.nil_append, List.cons_append]
      refine cond_mk (fun g2 => ?_) (fun g2 => ?_)
      · have g2 : t.2 = 0 := by have : (t.2 : Int) = 0 := by simpa using g2
                                omega
        refine ⟨?_, e1⟩
        rw [hq]
        unfold rtR
        rw [decide_eq_false (by omega)]
        simp
      · have g2 : t.2 ≠ 0 := by have : ¬ (t.2 : Int) = 0 := by simpa using g2
                                omega
        have hw : IntKind.wrap .i64 ((i : Int) + 1) = ((i + 1 : Nat) : Int) := by rw [wrap_i64 (by omega) (by omega)]; omega
        have hgo : (match pvN x.terms i with
            | none => true
            | some s => decide (ltN s t.1)) = true → rtR none x.terms = rtR (pvN x.terms (i + 1)) (x.terms.drop (i + 1)) := by
          intro hm
          rw [hq, hpv]
          conv => lhs; unfold rtR
          rw [g3, decide_eq_true g2]
          exact (congrArg (fun z => (true && true && z) && rtR (some t.1) (x.terms.drop (i + 1))) hm).trans rfl
        refine cond_mk (fun g4 => ?_) (fun g4 => ?_)
        · have g4 := of_decide_eq_true g4
          have hw1 : IntKind.wrap .i64 ((i : Int) - 1) = ((i - 1 : Nat) : Int) := by rw [wrap_i64 (by omega) (by omega)]; omega
          have hi1 : i - 1 < x.terms.length := by omega
          obtain ⟨a', ha', hc'⟩ := v.cells (i - 1) hi1
          cases ha'
          have hpi : pvN x.terms i = some x.terms[i - 1].1 := by
            unfold pvN
            rw [if_neg (by omega), List.getElem?_eq_getElem hi1]
            rfl
          rw [hpi] at hgo hq
          generalize x.terms[i - 1] = u at hc' hpi hgo hq
          refine loads_box b1 ((some a, l, c), ()) rfl ?_
          dsimp only [flat, unc, unc1, List.nil_append, List.cons_append]
          refine need_of ⟨by omega, by omega⟩ (osome_mk rfl ?_)
          refine loads_of (t.1, ()) (encT_cells hc).1 ?_
          dsimp only [flat, unc, unc1, List.nil_append, List.cons_append]
          refine loads_box b1 ((some a, l, c), ()) rfl ?_
          dsimp only [flat, unc, unc1, List.nil_append, List.cons_append]
          rw [hw1]
          refine need_of ⟨by omega, by omega⟩ (osome_mk rfl ?_)
          rw [show Int.toNat ((i - 1 : Nat) : Int) = i - 1 by omega]
          refine loads_of (u.1, ()) (encT_cells hc').1 ?_
          dsimp only [flat, unc, unc1, List.nil_append, List.cons_append]
          rw [leB]
          refine cond_mk (fun g5 => ?_) (fun g5 => ?_)
          · have g5 : ¬ ltN u.1 t.1 := by simpa using g5
            refine ⟨?_, e1⟩
            rw [hq]
            unfold rtR
            dsimp only
            rw [decide_eq_false g5]
            simp
          · have g5 : ltN u.1 t.1 := by simpa using g5
            exact again_mk (cs := [(false, [.bool]), (false, [.int .i64])]) (b8, ((i + 1 : Nat) : Int), ()) (x.terms.length - (i + 1)) rfl (by omega) (congrArg (fun z => [Value.bool b8, Value.int .i64 z]) hw) ⟨i + 1, rfl, by omega, rfl, rfl, hgo (decide_eq_true g5)⟩
        · have g4 := of_decide_eq_false g4
          have hi0 : i = 0 := by omega
          subst hi0
          exact again_mk (cs := [(false, [.bool]), (false, [.int .i64])]) (b8, ((0 + 1 : Nat) : Int), ()) (x.terms.length - (0 + 1)) rfl (by omega) (congrArg (fun z => [Value.bool b8, Value.int .i64 z]) hw) ⟨0 + 1, rfl, by omega, rfl, rfl, hgo rfl⟩
  · have g1 := of_decide_eq_false g1
    have hi : i = x.terms.length := by omega
    subst hi
    refine ⟨?_, e1⟩
    rw [hq, List.drop_length]
    rfl
end Go.Sx

set_option linter.unusedVariables false
set_option linter.unusedSimpArgs false
set_option maxRecDepth 100000
namespace Go.Sx.Ob
open Go.Proofs
def opsP : Array (Nat × Value) := #[(0, .agg #[.string ⟨#[110, 111, 112]⟩, .int .u8 (0 : Int), .int .i64 (1 : Int)]), (1, .agg #[.string ⟨#[104, 97, 108, 116]⟩, .int .u8 (1 : Int), .int .i64 (1 : Int)]), (2, .agg #[.string ⟨#[114, 101, 116]⟩, .int .u8 (2 : Int), .int .i64 (1 : Int)]), (3, .agg #[.string ⟨#[112, 114, 105, 110, 116]⟩, .int .u8 (3 : Int), .int .i64 (2 : Int)]), (4, .agg #[.string ⟨#[105, 110]⟩, .int .u8 (4 : Int), .int .i64 (2 : Int)]), (5, .agg #[.string ⟨#[112, 117, 115, 104]⟩, .int .u8 (5 : Int), .int .i64 (2 : Int)]), (6, .agg #[.string ⟨#[112, 111, 112]⟩, .int .u8 (6 : Int), .int .i64 (2 : Int)]), (7, .agg #[.string ⟨#[106, 114]⟩, .int .u8 (7 : Int), .int .i64 (2 : Int)]), (8, .agg #[.string ⟨#[110, 101, 103]⟩, .int .u8 (8 : Int), .int .i64 (2 : Int)]), (9, .agg #[.string ⟨#[110, 111, 116]⟩, .int .u8 (9 : Int), .int .i64 (2 : Int)]), (10, .agg #[.string ⟨#[122, 116, 117, 114, 110]⟩, .int .u8 (10 : Int), .int .i64 (3 : Int)]), (11, .agg #[.string ⟨#[122, 99, 111, 110, 106]⟩, .int .u8 (11 : Int), .int .i64 (3 : Int)]), (12, .agg #[.string ⟨#[109, 111, 118]⟩, .int .u8 (16 : Int), .int .i64 (4 : Int)]), (13, .agg #[.string ⟨#[97, 100, 100]⟩, .int .u8 (17 : Int), .int .i64 (4 : Int)]), (14, .agg #[.string ⟨#[115, 117, 98]⟩, .int .u8 (18 : Int), .int .i64 (4 : Int)]), (15, .agg #[.string ⟨#[109, 117, 108]⟩, .int .u8 (19 : Int), .int .i64 (4 : Int)]), (16, .agg #[.string ⟨#[100, 105, 118]⟩, .int .u8 (20 : Int), .int .i64 (4 : Int)]), (17, .agg #[.string ⟨#[97, 110, 100]⟩, .int .u8 (21 : Int), .int .i64 (4 : Int)]), (18, .agg #[.string ⟨#[111, 114]⟩, .int .u8 (22 : Int), .int .i64 (4 : Int)]), (19, .agg #[.string ⟨#[120, 111, 114]⟩, .int .u8 (23 : Int), .int .i64 (4 : Int)]), (20, .agg #[.string ⟨#[115, 104, 108]⟩, .int .u8 (24 : Int), .int .i64 (4 : Int)]), (21, .agg #[.string ⟨#[115, 104, 114]⟩, .int .u8 (25 : Int), .int .i64 (4 : Int)]), (22, .agg #[.string ⟨#[108, 116]⟩, .int .u8 (26 : Int), .int .i64 (4 : Int)]), (23, .agg #[.string ⟨#[101, 113]⟩, .int .u8 (27 : Int), .int .i64 (4 : Int)]), (24, .agg #[.string ⟨#[108, 100, 98]⟩, .int .u8 (28 : Int), .int .i64 (4 : Int)]), (25, .agg #[.string ⟨#[108, 100, 119]⟩, .int .u8 (29 : Int), .int .i64 (4 : Int)]), (26, .agg #[.string ⟨#[108, 100, 109]⟩, .int .u8 (30 : Int), .int .i64 (4 : Int)]), (27, .agg #[.string ⟨#[115, 116, 109]⟩, .int .u8 (31 : Int), .int .i64 (4 : Int)]), (28, .agg #[.string ⟨#[122, 109, 111, 118]⟩, .int .u8 (32 : Int), .int .i64 (5 : Int)]), (29, .agg #[.string ⟨#[122, 97, 100, 100]⟩, .int .u8 (33 : Int), .int .i64 (5 : Int)]), (30, .agg #[.string ⟨#[122, 115, 117, 98]⟩, .int .u8 (34 : Int), .int .i64 (5 : Int)]), (31, .agg #[.string ⟨#[122, 109, 117, 108]⟩, .int .u8 (35 : Int), .int .i64 (5 : Int)]), (32, .agg #[.string ⟨#[122, 114, 101]⟩, .int .u8 (36 : Int), .int .i64 (6 : Int)]), (33, .agg #[.string ⟨#[122, 105, 109]⟩, .int .u8 (37 : Int), .int .i64 (6 : Int)]), (34, .agg #[.string ⟨#[122, 115, 101, 116]⟩, .int .u8 (38 : Int), .int .i64 (7 : Int)]), (35, .agg #[.string ⟨#[108, 105, 115]⟩, .int .u8 (48 : Int), .int .i64 (8 : Int)]), (36, .agg #[.string ⟨#[116, 114, 97, 112]⟩, .int .u8 (49 : Int), .int .i64 (9 : Int)]), (37, .agg #[.string ⟨#[108, 105]⟩, .int .u8 (50 : Int), .int .i64 (10 : Int)]), (38, .agg #[.string ⟨#[108, 100, 112]⟩, .int .u8 (51 : Int), .int .i64 (11 : Int)]), (39, .agg #[.string ⟨#[106, 109, 112]⟩, .int .u8 (64 : Int), .int .i64 (12 : Int)]), (40, .agg #[.string ⟨#[99, 97, 108, 108]⟩, .int .u8 (67 : Int), .int .i64 (12 : Int)]), (41, .agg #[.string ⟨#[106, 122]⟩, .int .u8 (70 : Int), .int .i64 (13 : Int)]), (42, .agg #[.string ⟨#[106, 110, 122]⟩, .int .u8 (73 : Int), .int .i64 (13 : Int)])]
def opsN (k : Nat) : ByteArray := match opsP[k]? with | some (_, .agg #[.string s, _, _]) => s | _ => ⟨#[]⟩
def opsB (k : Nat) : Int := match opsP[k]? with | some (_, .agg #[_, .int _ b, _]) => b | _ => 0
theorem u168 : Tryz.prog.underlying 168 = some (.slice 170) := by kernel_rfl
theorem opZ : (Tryz.prog.info? 170).map (fun i => (i.zero, i.size, i.bytes)) = some (some (.agg #[.string ⟨#[]⟩, .int .u8 0, .int .i64 0]), 3, 32) := by kernel_rfl
theorem fillOps : Instr.fill (fun j => some (j * 3, 3)) ((Array.range (43 * 3)).map ((Value.agg #[.string ⟨#[]⟩, .int .u8 0, .int .i64 0]).cells[· % (Value.agg #[.string ⟨#[]⟩, .int .u8 0, .int .i64 0]).cells.size]!)) opsP.toList = some (rowsV opsN opsB).toArray := by kernel_rfl
theorem ops_hc (h : Hp) : HC Tryz.prog 102 #[] h fun v h' => v = .slice (some ⟨h.size, 0, none⟩) 43 43 ∧ Box h' h.size 170 (rowsV opsN opsB) ∧ Ext h h' := by
  refine hcr_of (args := []) mixed Tryz.func102 (by kernel_rfl) t_spandrelref5_Ops_eq ?_
  show (T.sem Tryz.prog (Instr.buildSlice 168 43 opsP) false [(false, [.slice 0])] <| fun (p0 : Option Addr) (l1 : Nat) (l2 : Nat) => T.ret (.slice p0 l1 l2)) [] _ h
  refine lit_of u168 opZ (by omega) (by omega) fillOps ?_
  intro h1 b1 e1 z1
  exact ⟨rfl, b1, e1⟩
theorem rowsV_shp {nm : Nat → ByteArray} {by_ : Nat → Int} {k : Nat} (hk : k < 43) : (rowsV nm by_)[k * 3 + 2]? = some (.int .i64 (shpL.getD k 0 : Nat)) := by
  unfold rowsV
  rw [flat_get _ 3 (by simp) _ _ _ (by omega)]
  simp [hk]
theorem shape_hc (h : Hp) (op : Int) (ho : Sm op) : HC Tryz.prog 93 #[.int .i64 op] h fun w h' => w = .int .i64 (shp op : Nat) ∧ Ext h h' := by
  refine hcr_of (args := [.int .i64 op]) mixed Tryz.func93 (by kernel_rfl) (t_spandrelref5_Shape_eq op) ?_
  unfold t_spandrelref5_Shape
  refine call_of (ops_hc h) ?_
  rintro _ h1 ⟨rfl, b1, e1⟩
  refine ⟨((some ⟨h.size, 0, none⟩, 43, 43), ()), rfl, ?_⟩
  dsimp only [flat, unc, unc1, List.nil_append, List.cons_append]
  have z0 : op < 1 ∨ 43 < op → shp op = 0 := by
    intro hh
    by_cases h0 : shp op = 0
    · exact h0
    · have := shp_le op h0
      omega
  refine cond_mk (fun q => ?_) (fun q => ?_)
  · have q := of_decide_eq_true q
    rw [z0 (.inl q)]
    exact ⟨rfl, e1⟩
  have q := of_decide_eq_false q
  refine cond_mk (fun r => ?_) (fun r => ?_)
  · have r : op > ((43 : Nat) : Int) := of_decide_eq_true r
    rw [z0 (.inr (by omega))]
    exact ⟨rfl, e1⟩
  have r : ¬ op > ((43 : Nat) : Int) := of_decide_eq_false r
  obtain ⟨k, hk⟩ : ∃ k : Nat, op = (k : Int) + 1 := ⟨(op - 1).toNat, by omega⟩
  rw [wrap_i64 (by omega) (by omega), show op - 1 = (k : Int) by omega]
  have hk43 : k < 43 := by omega
  refine need_of ⟨by omega, by omega⟩ ?_
  refine osome_mk rfl ?_
  rw [show Int.toNat (k : Int) = k from rfl, add_box, add_box]
  have hs : shp op = shpL.getD k 0 := by
    unfold shp
    rw [if_neg (by omega), show (op - 1).toNat = k by omega]
  refine loads_box b1 (((shpL.getD k 0 : Nat) : Int), ()) ?_ ?_
  · show List.take 1 (List.drop (0 + k * 3 + 2) (rowsV opsN opsB)) = [.int .i64 ((shpL.getD k 0 : Nat) : Int)]
    have := rowsV_shp (nm := opsN) (by_ := opsB) hk43
    rw [Nat.zero_add]
    obtain ⟨hlt, hv⟩ := List.getElem?_eq_some_iff.1 this
    rw [List.drop_eq_getElem_cons hlt, List.take_succ_cons, List.take_zero, hv]
  · rw [hs]
    exact ⟨rfl, e1⟩
theorem spans2_hc (h : Hp) (op : Int) (ho : Sm op) : HC Tryz.prog 73 #[.int .i64 op] h fun w h' => w = .bool (spn op) ∧ Ext h h' := by
  refine hcr_of (args := [.int .i64 op]) mixed Tryz.func73 (by kernel_rfl) (t_spandrelref5_Spans_eq op) ?_
  unfold t_spandrelref5_Spans
  have hc := shp_cases op
  refine call_of (shape_hc h op ho) ?_
  rintro _ h1 ⟨rfl, e1⟩
  refine ⟨(((shp op : Nat) : Int), ()), rfl, ?_⟩
  dsimp only [flat, unc, unc1, List.nil_append, List.cons_append]
  refine cond_mk (fun q => ?_) (fun q => ?_)
  · have q : shp op = 12 := eqN_t q
    exact ⟨by unfold spn; rw [q]; rfl, e1⟩
  have q : ¬ shp op = 12 := eqN_f q
  refine call_of (shape_hc h1 op ho) ?_
  rintro _ h2 ⟨rfl, e2⟩
  refine ⟨(((shp op : Nat) : Int), ()), rfl, ?_⟩
  refine ⟨?_, e1.trans e2⟩
  congr 1
  unfold spn
  by_cases g : shp op = 13
  · rw [g]; rfl
  · rw [decide_eq_false (by omega)]
    exact neK (c := 13) g
theorem hasE_hc (h : Hp) (op : Int) (ho : Sm op) : HC Tryz.prog 75 #[.int .i64 op] h fun w h' => w = .bool (wnt op) ∧ Ext h h' := by
  refine hcr_of (args := [.int .i64 op]) mixed Tryz.func75 (by kernel_rfl) (t_spandrelref8_HasE_eq op) ?_
  unfold t_spandrelref8_HasE
  have hc := shp_cases op
  refine call_of (shape_hc h op ho) ?_
  rintro _ h1 ⟨rfl, e1⟩
  refine ⟨(((shp op : Nat) : Int), ()), rfl, ?_⟩
  dsimp only [flat, unc, unc1, List.nil_append, List.cons_append]
  refine cond_mk (fun q => ?_) (fun q1 => ?_)
  · have q : shp op = 10 := eqN_t q
    exact ⟨by unfold wnt; rw [q]; rfl, e1⟩
  have q1 : ¬ shp op = 10 := eqN_f q1
  refine cond_mk (fun q => ?_) (fun q2 => ?_)
  · have q : shp op = 11 := eqN_t q
    exact ⟨by unfold wnt; rw [q]; rfl, e1⟩
  have q2 : ¬ shp op = 11 := eqN_f q2
  refine cond_mk (fun q => ?_) (fun q3 => ?_)
  · have q : shp op = 12 := eqN_t q
    exact ⟨by unfold wnt; rw [q]; rfl, e1⟩
  have q3 : ¬ shp op = 12 := eqN_f q3
  refine ⟨?_, e1⟩
  congr 1
  unfold wnt
  by_cases g : shp op = 13
  · rw [g]; rfl
  · rw [decide_eq_false (by omega)]
    exact neK (c := 13) g
theorem fits_hc (h : Hp) (n w : Int) : HCp Tryz.prog 95 [.int .i32 n, .int .i64 w] h (.bool ((decide (w = 1) || decide (w = 2) || decide (w = 4)) && nReach n w)) := by
  refine hcp_of mixed Tryz.func95 (by kernel_rfl) (t_spandrelref1_Fits_eq n w) ?_
  unfold t_spandrelref1_Fits nReach
  refine cond_mk (fun q => ?_) (fun q1 => ?_)
  · have q : w = 1 := by simpa using q
    rw [if_pos q, q]
    refine cond_mk (fun r => ⟨?_, rfl⟩) (fun r => ⟨?_, rfl⟩)
    · have r := of_decide_eq_true r
      rw [decide_eq_true (show -128 ≤ n from r)]
      simp
    · have r := of_decide_eq_false r
      rw [decide_eq_false (show ¬ -128 ≤ n from r)]
      simp
  have q1 : ¬ w = 1 := by simpa using q1
  rw [if_neg q1]
  refine cond_mk (fun q => ?_) (fun q2 => ?_)
  · have q : w = 2 := by simpa using q
    rw [if_pos q, q]
    refine cond_mk (fun r => ⟨?_, rfl⟩) (fun r => ⟨?_, rfl⟩)
    · have r := of_decide_eq_true r
      rw [decide_eq_true (show -32768 ≤ n from r)]
      simp
    · have r := of_decide_eq_false r
      rw [decide_eq_false (show ¬ -32768 ≤ n from r)]
      simp
  have q2 : ¬ w = 2 := by simpa using q2
  rw [if_neg q2]
  refine cond_mk (fun q => ?_) (fun q3 => ?_)
  · have q : w = 4 := by simpa using q
    rw [q]
    exact ⟨rfl, rfl⟩
  · have q3 : ¬ w = 4 := by simpa using q3
    rw [decide_eq_false q1, decide_eq_false q2, decide_eq_false q3]
    exact ⟨rfl, rfl⟩
end Go.Sx.Ob

set_option linter.unusedVariables false
set_option linter.unusedSimpArgs false
set_option maxRecDepth 100000
namespace Go.Sx.Ob
open Go.Proofs
def aA (s : Nat) : Nat := if s = 2 ∨ s = 8 ∨ s = 10 ∨ s = 11 ∨ s = 13 ∨ s = 4 ∨ s = 6 then 8 else if s = 3 ∨ s = 5 ∨ s = 7 then 4 else 0
def bB (s : Nat) : Nat := if s = 4 ∨ s = 7 then 8 else if s = 5 ∨ s = 6 then 4 else 0
theorem regs_iff {s : Nat} (hs : 1 ≤ s ∧ s ≤ 13) (a b n : Int) : regsR s a b n = true ↔ (0 ≤ a ∧ 0 ≤ b ∧ (a < (aA s : Int) ∨ (aA s = 0 ∧ a = 0)) ∧ (b < (bB s : Int) ∨ (bB s = 0 ∧ b = 0)) ∧ (s = 7 → 0 ≤ n ∧ n ≤ 7)) := by
  have : s = 1 ∨ s = 2 ∨ s = 3 ∨ s = 4 ∨ s = 5 ∨ s = 6 ∨ s = 7 ∨ s = 8 ∨ s = 9 ∨ s = 10 ∨ s = 11 ∨ s = 12 ∨ s = 13 := by omega
  unfold regsR blw aA bB
  rcases this with rfl | rfl | rfl | rfl | rfl | rfl | rfl | rfl | rfl | rfl | rfl | rfl | rfl <;> simp <;> omega
theorem regs2_hc' (h : Hp) (op a b n form : Int) (ho : Sm op) (hs : shp op ≠ 0) : HC Tryz.prog 94 #[insV op a b n form] h fun w h' => w = .bool (regsR (shp op) a b n) ∧ Ext h h' := by
  refine hcr_of (args := [insV op a b n form]) mixed Tryz.func94 (by kernel_rfl) (t_spandrelref5_registers_eq op a b n form) ?_
  unfold t_spandrelref5_registers
  have hc : 1 ≤ shp op ∧ shp op ≤ 13 := by have := shp_cases op; omega
  refine newB ?_
  intro h1 b1 e1 z1
  refine loads_box b1 (op, ()) rfl ?_
  dsimp only [flat, unc, unc1, List.nil_append, List.cons_append]
  refine call_of (shape_hc h1 op ho) ?_
  rintro _ h2 ⟨rfl, e2⟩
  refine ⟨(((shp op : Nat) : Int), ()), rfl, ?_⟩
  dsimp only [flat, unc, unc1, List.nil_append, List.cons_append]
  have b2 := b1.keep e2 (by simp)
  have e02 := e1.trans e2
  have hiff := regs_iff hc a b n
  generalize shp op = s at *
  generalize regsR s a b n = R at *
  refine join_of (cs := [(false, [.int .i64]), (false, [.int .i64])]) (fun y h' => y = (((aA s : Nat) : Int), ((bB s : Nat) : Int), ()) ∧ h2 = h') ?_ ?_
  · have : s = 1 ∨ s = 2 ∨ s = 3 ∨ s = 4 ∨ s = 5 ∨ s = 6 ∨ s = 7 ∨ s = 8 ∨ s = 9 ∨ s = 10 ∨ s = 11 ∨ s = 12 ∨ s = 13 := by omega
    rcases this with rfl | rfl | rfl | rfl | rfl | rfl | rfl | rfl | rfl | rfl | rfl | rfl | rfl
    all_goals (repeat (first | refine cond_t rfl ?_ | refine cond_f rfl ?_))
    all_goals exact meet_mk (cs := [(false, [.int .i64]), (false, [.int .i64])]) (((aA _ : Nat) : Int), ((bB _ : Nat) : Int), ()) rfl rfl ⟨rfl, rfl⟩
  rintro ⟨A, B, ⟨⟩⟩ _ ⟨hy, rfl⟩
  cases hy
  dsimp only [flat, unc, unc1, List.nil_append, List.cons_append]
  simp only [add_box]
  have fin : ∀ b : Bool, (b = true ↔ R = true) → (T.ret (.bool b)) [] (fun w h' => w = .bool R ∧ Ext h h') h2 := by
    intro b hb
    refine ⟨?_, e02⟩
    cases b <;> cases R <;> simp_all
  repeat' (first
    | (refine loads_box b2 (a, ()) rfl ?_; dsimp only [flat, unc, unc1, List.nil_append, List.cons_append])
    | (refine loads_box b2 (b, ()) rfl ?_; dsimp only [flat, unc, unc1, List.nil_append, List.cons_append])
    | (refine loads_box b2 (n, ()) rfl ?_; dsimp only [flat, unc, unc1, List.nil_append, List.cons_append])
    | refine fin _ ?_
    | refine cond_mk (fun q => ?_) (fun q => ?_))
  all_goals (rw [hiff]; simp only [decide_eq_true_eq, decide_eq_false_iff_not, bne_iff_ne, ne_eq, bne_eq_false_iff_eq, Bool.false_eq_true, false_iff, true_iff] at *; omega)
def fitV (n w : Int) : Bool := (decide (w = 1) || decide (w = 2) || decide (w = 4)) && nReach n w
def fitP (n w : Int) : Prop := (w = 1 ∧ -128 ≤ n ∧ n ≤ 127) ∨ (w = 2 ∧ -32768 ≤ n ∧ n ≤ 32767) ∨ w = 4
theorem fit_iff (n w : Int) : fitV n w = true ↔ fitP n w := by
  unfold fitV nReach fitP
  by_cases h1 : w = 1
  · subst h1; simp
  · by_cases h2 : w = 2
    · subst h2; simp
    · by_cases h4 : w = 4
      · subst h4; simp
      · simp [h1, h2, h4]
theorem fit_no (n w : Int) : fitV n w = false ↔ ¬ fitP n w := by
  rw [← fit_iff]
  simp
theorem chk_iff {i : Ins} (h0 : shp i.op ≠ 0) (hR : regsR (shp i.op) i.a i.b i.n = true) (P : Prop) (hP : P ↔ ((shp i.op = 12 ∨ shp i.op = 13 → fitP i.n i.form) ∧ (shp i.op ≠ 12 ∧ shp i.op ≠ 13 → i.form = 0) ∧ (shp i.op = 8 → -128 ≤ i.n ∧ i.n ≤ 127) ∧ (shp i.op = 9 → 0 ≤ i.n ∧ i.n ≤ 255) ∧ (shp i.op = 11 → 0 ≤ i.n ∧ i.n ≤ 4095) ∧
    (shp i.op < 7 → i.n = 0))) : (P → chkR i = 0) ∧ (¬ P → chkR i = 13) := by
  obtain ⟨op, a, b, n, form⟩ := i
  simp only at *
  have hc := shp_cases op
  have key : (!spn op && decide (form ≠ 0) || !nR (shp op) n form) = true ↔ ¬ P := by
    rw [hP]
    unfold spn nR nReach fitP
    have : shp op = 1 ∨ shp op = 2 ∨ shp op = 3 ∨ shp op = 4 ∨ shp op = 5 ∨ shp op = 6 ∨ shp op = 7 ∨ shp op = 8 ∨ shp op = 9 ∨ shp op = 10 ∨ shp op = 11 ∨ shp op = 12 ∨ shp op = 13 := by omega
    rcases this with h | h | h | h | h | h | h | h | h | h | h | h | h <;> rw [h]
    all_goals (
      by_cases f1 : form = 1
      · subst f1; simp; try omega
      · by_cases f2 : form = 2
        · subst f2; simp; try omega
        · by_cases f4 : form = 4
          · subst f4; simp; try omega
          · by_cases f0 : form = 0
            · subst f0; simp; try omega
            · simp [f1, f2, f4, f0])
  unfold chkR
  simp only
  rw [if_neg h0, hR, if_neg (by simp)]
  refine ⟨fun hp => ?_, fun hp => ?_⟩
  · rw [if_neg (fun e => key.1 e hp)]
  · rw [if_pos (key.2 hp)]
theorem check2_hc (h : Hp) (op a b n form : Int) (ho : Sm op) : HC Tryz.prog 74 #[insV op a b n form] h fun w h' => w = .int .i64 (chkR ⟨op, a, b, n, form⟩) ∧ Ext h h' := by
  refine hcr_of (args := [insV op a b n form]) mixed Tryz.func74 (by kernel_rfl) (t_spandrelref5_Check_eq op a b n form) ?_
  unfold t_spandrelref5_Check
  refine newB ?_
  intro h1 b1 e1 z1
  refine loads_box b1 (op, ()) rfl ?_
  dsimp only [flat, unc, unc1, List.nil_append, List.cons_append]
  refine call_of (shape_hc h1 op ho) ?_
  rintro _ h2 ⟨rfl, e2⟩
  refine ⟨(((shp op : Nat) : Int), ()), rfl, ?_⟩
  dsimp only [flat, unc, unc1, List.nil_append, List.cons_append]
  have b2 := b1.keep e2 (by simp)
  have e02 := e1.trans e2
  refine cond_mk (fun q => ?_) (fun q => ?_)
  · have q : shp op = 0 := eqN_t q
    exact ⟨by unfold chkR; simp only; rw [if_pos q], e02⟩
  have q : ¬ shp op = 0 := eqN_f q
  refine loads_box b2 (op, a, b, n, form, ()) rfl ?_
  dsimp only [flat, unc, unc1, List.nil_append, List.cons_append]
  refine call_boolx (regs2_hc' h2 op a b n form ho q) ?_
  intro h3 e3
  have b3 := b2.keep e3 (by simp)
  have e03 := e02.trans e3
  refine cond_mk (fun r => ?_) (fun r => ?_)
  · have r : regsR (shp op) a b n = false := by simpa using r
    exact ⟨by unfold chkR; simp only; rw [if_neg q, r, if_pos rfl], e03⟩
  have r : regsR (shp op) a b n = true := by simpa using r
  have hc := shp_cases op
  obtain ⟨k0, k13⟩ := chk_iff (i := ⟨op, a, b, n, form⟩) q r _ Iff.rfl
  simp only at k0 k13
  generalize chkR ⟨op, a, b, n, form⟩ = C at *
  generalize shp op = s at *
  clear r
  have f0 : ((s = 12 ∨ s = 13 → fitP n form) ∧ (s ≠ 12 ∧ s ≠ 13 → form = 0) ∧ (s = 8 → -128 ≤ n ∧ n ≤ 127) ∧ (s = 9 → 0 ≤ n ∧ n ≤ 255) ∧ (s = 11 → 0 ≤ n ∧ n ≤ 4095) ∧ (s < 7 → n = 0)) → (T.ret (.int .i64 (0 : Int))) [] (fun w h' => w = .int .i64 C ∧ Ext h h') h3 := fun hp => ⟨by rw [k0 hp], e03⟩
  have f13 : ¬ ((s = 12 ∨ s = 13 → fitP n form) ∧ (s ≠ 12 ∧ s ≠ 13 → form = 0) ∧ (s = 8 → -128 ≤ n ∧ n ≤ 127) ∧ (s = 9 → 0 ≤ n ∧ n ≤ 255) ∧ (s = 11 → 0 ≤ n ∧ n ≤ 4095) ∧ (s < 7 → n = 0)) → (T.ret (.int .i64 (13 : Int))) [] (fun w h' => w = .int .i64 C ∧ Ext h h') h3 := fun hp => ⟨by rw [k13 hp], e03⟩
  clear k0 k13
  simp only [add_box]
  repeat' (first
    | (refine loads_box b3 (n, ()) rfl ?_; dsimp only [flat, unc, unc1, List.nil_append, List.cons_append])
    | (refine loads_box b3 (form, ()) rfl ?_; dsimp only [flat, unc, unc1, List.nil_append, List.cons_append])
    | refine f0 ?_
    | refine f13 ?_
    | refine call_bool (b := fitV n form) (fits_hc h3 n form) ?_
    | refine cond_mk (fun q => ?_) (fun q => ?_))
  all_goals (
    clear f0 f13
    simp only [decide_eq_true_eq, decide_eq_false_iff_not, bne_iff_ne, ne_eq, bne_eq_false_iff_eq, beq_iff_eq, beq_eq_false_iff_ne, Bool.not_eq_true', Bool.not_eq_false', fit_iff, fit_no, fitP] at *
    omega)
end Go.Sx.Ob
