/- expr.Text, expr.Value and chapter 4's runs, over heaps. Condition: the table of powers of ten as it is laid. -/
import Derived.Test.YtpbjlnlekobodaaDoorShelfS
import Derived.Test.YtpbjlnlekobodaaDoorSxU
import Derived.Test.YtpbjlnlekobodaaDoorExprQ
import Derived.Test.YtpbjlnlekobodaaDoorExprV
import Derived.Test.YtpbjlnlekobodaaDoorExprW
import Derived.Test.YtpbjlnlekobodaaDoorLexO
import Derived.Lib.ItoaMem
set_option linter.unusedVariables false
set_option linter.unusedSimpArgs false
set_option maxRecDepth 100000
namespace Go.Sx
open Go.Proofs
section any
variable {P : Program} {h : Hp}
theorem bytesBack (a : Addr) (l : List UInt8) (cap : Nat) (K : Value → Hp → Prop) (hc : cellsAt h a 0 (l.map byteV)) (hk : K (.string ⟨l.toArray⟩) h) : semW P (Conv.bytesToString (.slice (some a) l.length cap)) h K := by
  unfold Conv.bytesToString
  simp only
  rw [semW_bind']
  refine semW_loadCells (by simp) hc _ ?_
  rw [semW_bind', ← Array.forIn_toList]
  have key : ∀ (l : List UInt8) (s : ByteArray) (K' : ByteArray → Hp → Prop), K' ⟨s.data ++ l.toArray⟩ h → semW P (forIn (l.map byteV) s fun c r => match c with
      | .int .u8 n => (pure (ForInStep.yield (r.push (UInt8.ofNat n.toNat))) : Sem (ForInStep ByteArray))
      | _ => stuck "bytesToString: byte expected") h K' := by
    intro l
    induction l with
    | nil =>
      intro s K' hk
      have e : (⟨s.data ++ ([] : List UInt8).toArray⟩ : ByteArray) = s := by simp
      rw [e] at hk
      exact hk
    | cons c l ih =>
      intro s K' hk
      rw [List.map_cons, List.forIn_cons]
      rw [semW_bind']
      show semW P (forIn (List.map byteV l) (s.push (UInt8.ofNat ((c.toNat : Nat) : Int).toNat)) _) h K'
      have e1 : UInt8.ofNat ((c.toNat : Nat) : Int).toNat = c := by simp
      rw [e1]
      refine ih (s.push c) K' ?_
      have : (⟨(s.push c).data ++ l.toArray⟩ : ByteArray) = ⟨s.data ++ (c :: l).toArray⟩ := by
        congr 1
        apply Array.toList_inj.1
        simp
      rw [this]; exact hk
  refine key l ByteArray.empty _ ?_
  have e : (⟨ByteArray.empty.data ++ l.toArray⟩ : ByteArray) = ⟨l.toArray⟩ := by
    congr 1
    apply Array.toList_inj.1
    simp
  rw [e]
  exact hk
theorem sliceArr_of {t e : TypeId} {n : Nat} {i : TypeInfo} (ht : P.underlying t = some (.array n e)) (hi : P.info? e = some i) (a : Addr) {k : IntKind} {m : Int} (h0 : 0 ≤ m) (h1 : m ≤ n) (K : Value → Hp → Prop) (hk : K (.slice (some a) m.toNat n) h) :
    semW P (Instr.sliceAt t (.pointer (some a)) none (some (.int k m)) none) h K := by
  unfold Instr.sliceAt
  rw [semW_bind', semW_underlying ht]
  show semW P (Instr.sliceBounds false n n none (some (.int k m)) none >>= fun x => (do let size ← sizeOf e; pure (.slice (some (if x.2.2 = x.1 then a else a.add (x.1 * size))) (x.2.1 - x.1) (x.2.2 - x.1)) : Sem Value)) h K
  rw [semW_bind', semW_sliceBounds (lo := none) (hi := some (.int k m)) false n n rfl rfl (Int.le_refl _) h0 h1]
  rw [semW_bind', semW_sizeOf hi]
  show K (.slice (some (if n = 0 then a else a.add (0 * P.cellsOf e))) (m.toNat - 0) (n - 0)) h
  have e1 : (if n = 0 then a else a.add (0 * P.cellsOf e)) = a := by simp [Addr.add]
  rw [e1]
  exact hk
end any
/-- The table of the powers of ten lies where it was laid. -/
def Pow10 (h : Hp) : Prop := ∃ e f, h[1]? = some (.cells (Lib.pow10Tab.map fun z => Value.int .u64 z).toArray e f)
theorem Pow10.keep {ws : List Nat} {h h' : Hp} (p : Pow10 h) (k : Ch ws h h') (hw : ∀ i, i ∈ ws → 1 < i) : Pow10 h' := by
  obtain ⟨e, f, hp⟩ := p
  exact ⟨e, f, k.get hp (fun hm => by have := hw _ hm; omega)⟩
theorem Pow10.lt {h : Hp} (p : Pow10 h) : 1 < h.size := by
  obtain ⟨e, f, hp⟩ := p
  exact lt_of_get hp
theorem tab_of {W : World} {name : String} (hg : Tryd.prog.globalNamed name = some 1) (p : Pow10 W.heap) : Lib.TabIs Tryd.prog W name .u64 Lib.pow10Tab := by
  obtain ⟨e, f, hp⟩ := p
  unfold Lib.TabIs World.var?
  rw [hg]
  show (match W.heap[1]? with | some (.cells cs _ _) => some cs | _ => none) = _
  rw [hp]
theorem digits_hc {h : Hp} (p : Pow10 h) (u : Nat) (h1 : 1 ≤ u) (h2 : u < 18446744073709551616) : HCp Tryd.prog 116 [.int .u64 u] h (.int .i64 (Lib.nDigits u)) := by
  intro W hW
  refine ((Any.internal_strconv_numDigits Tryd.laysM284 u h1 h2 W (tab_of (by kernel_rfl) (by rw [hW]; exact p))).mono ?_)
  rintro e w' ⟨he, hw⟩
  exact ⟨_, he, by rw [hw]; exact SameO.refl W, rfl, by rw [hw]; exact hW⟩
theorem small_hc (i : Nat) (hi : i < 100) (h : Hp) : HCp Tryd.prog 115 [.int .i64 i] h (.string ⟨(Lib.decDigits i).toArray⟩) :=
  hcp_calls fun w => Tryd.internal_strconv_small i hi w
theorem base10_hc {h : Hp} {g : Nat} {e : TypeId} {xs : List Value} (b : Box h g e xs) (u cap n : Nat) (hn : n ≤ xs.length) (hx : ∀ j, j < n → xs[j]? = some (.int .u8 0)) (hu : u < 10 ^ n) (h2 : u < 18446744073709551616) (hsz : n < 4611686018427387904) :
    HC Tryd.prog 117 #[.slice (some ⟨g, 0, none⟩) n cap, .int .u64 u] h fun v h' => v = .tuple #[] ∧ Ch [g] h h' ∧ h'.size = h.size ∧ ∃ (v' : Nat) (dk : Array UInt8), Lib.FmtInv n u 0 v' dk ∧ ∀ j, j < n → hcell h' ⟨g, j, none⟩ = some (byteV dk[j]!) := by
  intro W hW
  subst hW
  have hH : Sort.Holds (fun (b : UInt8) => Value.int .u8 (b.toNat : Int)) W g 0 (Array.replicate n (0 : UInt8)) := by
    intro j hj
    have hj' : j < n := by simpa using hj
    refine ⟨?_, ?_⟩
    · rw [cell_heap, b.cell, Nat.zero_add, hx j hj', getElem!_pos _ j hj]
      simp
    · exact b.frozen
  have hc := Tryd.internal_strconv_formatBase10 g 0 cap u (Array.replicate n 0) W hH (by rw [Array.size_replicate]; exact hu) h2 (by rw [Array.size_replicate]; exact hsz)
  rw [Array.size_replicate] at hc
  refine hc.mono ?_
  rintro e' w' ⟨rfl, k, v', dk, rfl, hF⟩
  refine ⟨_, rfl, ⟨rfl, rfl, rfl⟩, rfl, ⟨?_, ?_⟩, ?_, v', dk, hF, ?_⟩
  · show W.heap.size ≤ (W.heap.modify g _).size
    simp
  · intro i hi hg
    show (W.heap.modify g _)[i]? = _
    rw [Array.getElem?_modify, if_neg (by simp at hg; omega)]
  · show (W.heap.modify g _).size = W.heap.size
    simp
  · intro j hj
    have := Sort.cell?_putRow (fun (b : UInt8) => Value.int .u8 (b.toNat : Int)) W g 0 _ dk hH (by rw [hF.size, Array.size_replicate]) j (by rw [hF.size]; exact hj)
    rw [Nat.zero_add] at this
    exact this
theorem und151 : Tryd.prog.underlying 151 = some (.array 24 5) := by kernel_rfl
theorem und142 : Tryd.prog.underlying 142 = some (.slice 5) := by kernel_rfl
theorem und5 : Tryd.prog.underlying 5 = some (.int .u8) := by kernel_rfl
theorem info5 : (Tryd.prog.info? 5).isSome = true := by kernel_rfl
theorem formatUint_hc {h : Hp} (p : Pow10 h) (u : Nat) (h2 : u < 18446744073709551616) : HC Tryd.prog 102 #[.int .u64 u, .int .i64 10] h fun v h' => v = .string ⟨(Lib.decDigits u).toArray⟩ ∧ Ext h h' := by
  refine hcr_of (args := [.int .u64 u, .int .i64 10]) mixed Tryd.func102 (by kernel_rfl) (t_internal_strconv_FormatUint_eq u 10) ?_
  unfold t_internal_strconv_FormatUint
  refine cond_t rfl (cond_mk (fun g1 => ?_) (fun g1 => ?_))
  · have g1 := of_decide_eq_true g1
    rw [wrap_i64 (by omega) (by omega)]
    refine call_str (small_hc u (by omega) h) ?_
    exact ⟨rfl, Ch.refl _ _⟩
  · have g1 := of_decide_eq_false g1
    refine newB ?_
    intro h1 b1 e1 z1
    have p1 := p.keep e1 (by simp)
    refine call_int (digits_hc p1 u (by omega) h2) ?_
    have hnd : Lib.nDigits u ≤ 20 := by have := Lib.numDigits_eq u (by omega) h2; split at this <;> omega
    obtain ⟨i5, hi5⟩ := Option.isSome_iff_exists.1 info5
    refine sem_slice (sliceArr_of und151 hi5 ⟨h.size, 0, none⟩ (by omega) (by omega) _ ?_)
    refine ⟨_, _, _, rfl, ?_⟩
    rw [show ((Lib.nDigits u : Nat) : Int).toNat = Lib.nDigits u by omega]
    refine call_of (base10_hc b1 u 24 (Lib.nDigits u) (by simp; omega) ?_ (Lib.lt_pow_nDigits u) h2 (by omega)) ?_
    · intro j hj
      have hj : j < 24 := by omega
      have : ∀ j : Fin 24, [Value.int IntKind.u8 0, .int .u8 0, .int .u8 0, .int .u8 0, .int .u8 0, .int .u8 0, .int .u8 0, .int .u8 0, .int .u8 0, .int .u8 0, .int .u8 0, .int .u8 0, .int .u8 0, .int .u8 0, .int .u8 0, .int .u8 0, .int .u8 0, .int .u8 0, .int .u8 0, .int .u8 0, .int .u8 0, .int .u8 0, .int .u8 0, .int .u8 0][j.val]? = some (Value.int IntKind.u8 0) := by
        have e : [Value.int IntKind.u8 0, .int .u8 0, .int .u8 0, .int .u8 0, .int .u8 0, .int .u8 0, .int .u8 0, .int .u8 0, .int .u8 0, .int .u8 0, .int .u8 0, .int .u8 0, .int .u8 0, .int .u8 0, .int .u8 0, .int .u8 0, .int .u8 0, .int .u8 0, .int .u8 0, .int .u8 0, .int .u8 0, .int .u8 0, .int .u8 0, .int .u8 0] = List.replicate 24 (Value.int IntKind.u8 0) := rfl
        intro j
        rw [e, List.getElem?_replicate, if_pos j.isLt]
      exact this ⟨j, hj⟩
    · rintro _ h3 ⟨rfl, k3, z3, v', dk, hF, hcells⟩
      refine ⟨(), rfl, ?_⟩
      dsimp only [flat, unc, unc1, List.nil_append, List.cons_append]
      refine sem_slice (sliceArr_of und151 hi5 ⟨h.size, 0, none⟩ (by omega) (by omega) _ ?_)
      refine ⟨_, _, _, rfl, ?_⟩
      rw [show ((Lib.nDigits u : Nat) : Int).toNat = Lib.nDigits u by omega]
      have hb : semW Tryd.prog (convert 142 9 (.slice (some ⟨h.size, 0, none⟩) (Lib.nDigits u) 24)) h3 fun v h' => ∃ x : HVs (flat [(false, [.string])]), v = rv false [(false, [.string])] (hvs _ x) ∧ unc (flat [(false, [.string])]) (R := T) (fun (s10 : ByteArray) => T.ret (.string s10)) x [] (fun v h' => v = .string ⟨(Lib.decDigits u).toArray⟩ ∧ Ext h h') h' := by
        unfold convert
        rw [semW_bind', semW_underlying und142, semW_bind', semW_underlying und9]
        show semW Tryd.prog (do match ← underlying 5 with
          | .int .u8 => Conv.bytesToString (.slice (some ⟨h.size, 0, none⟩) (Lib.nDigits u) 24)
          | .int .i32 => Conv.runesToString (.slice (some ⟨h.size, 0, none⟩) (Lib.nDigits u) 24)
          | _ => stuck "Convert: a slice of what to string?") h3 _
        rw [semW_bind', semW_underlying und5]
        have hl : Lib.nDigits u = (Lib.decDigits u).length := (Lib.decDigits_length u).symm
        rw [hl]
        refine bytesBack ⟨h.size, 0, none⟩ (Lib.decDigits u) 24 _ ?_ ?_
        · have : ∀ (vs : List Value) (i : Nat), (∀ j, (hj : j < vs.length) → hcell h3 ⟨h.size, i + j, none⟩ = some vs[j]) → cellsAt h3 ⟨h.size, 0, none⟩ i vs := by
            intro vs
            induction vs with
            | nil => intro i _; trivial
            | cons v vs ih =>
              intro i hh
              refine ⟨?_, ih (i + 1) fun j hj => ?_⟩
              · rw [add_box, Nat.zero_add]
                have := hh 0 (by simp)
                simpa using this
              · have := hh (j + 1) (by simpa using hj)
                rw [show i + 1 + j = i + (j + 1) by omega]
                simpa using this
          refine this _ 0 fun j hj => ?_
          rw [List.length_map] at hj
          rw [Nat.zero_add, hcells j (by omega), List.getElem_map, Lib.row_is_numeral hF j hj]
        · exact ⟨(⟨(Lib.decDigits u).toArray⟩, ()), rfl, rfl, Ch.trans e1 k3 (fun j hj hl => by simp at hj; omega)⟩
      exact hb
theorem format_hc {h : Hp} (p : Pow10 h) (u : Nat) (h2 : u < 18446744073709551616) : HC Tryd.prog 88 #[.int .u64 u, .int .i64 10] h fun v h' => v = .string ⟨(Lib.decDigits u).toArray⟩ ∧ Ext h h' := by
  refine hcr_of (args := [.int .u64 u, .int .i64 10]) mixed Tryd.func88 (by kernel_rfl) (t_strconv_FormatUint_eq u 10) ?_
  unfold t_strconv_FormatUint
  refine call_of (formatUint_hc p u h2) ?_
  rintro _ h1 ⟨rfl, e1⟩
  exact ⟨(_, ()), rfl, rfl, e1⟩
end Go.Sx

set_option linter.unusedVariables false
set_option linter.unusedSimpArgs false
set_option maxRecDepth 100000
namespace Go.Sx
open Go.Proofs
theorem join_hc {h : Hp} {b : Nat} {p : Option Addr} {l c : Nat} {xs : List ByteArray} (s : SL h b 9 1 p l c (xs.map fun s => [.string s])) (sep : ByteArray) (hN : xs.length ≤ 140737488355328)
    (hlen : (Lib.join (xs.map (·.data.toList)) sep.data.toList).length ≤ 140737488355328) :
    HC Tryd.prog 89 #[.slice p l c, .string sep] h fun v h' => v = .string ⟨(Lib.join (xs.map (·.data.toList)) sep.data.toList).toArray⟩ ∧ Ext h h' := by
  intro W hW
  subst hW
  have hl : l = xs.length := by rw [s.1, List.length_map]
  cases p with
  | none =>
    have h0 := s.2.2
    have hx : xs = [] := by have := h0.2; simpa using this
    subst hx
    simp only [List.length_nil] at hl
    subst hl
    exact (Tryd.strings_Join_none none c sep W).mono fun e w' ⟨he, hw⟩ => ⟨_, he, by rw [hw]; exact SameO.refl W, rfl, by rw [hw]; exact Ch.refl _ _⟩
  | some a =>
    obtain ⟨g, pre, rest, rfl, hbg, hlc, hbox, hr⟩ := s.2.2
    subst hl
    refine (Tryd.strings_Join g pre.length c xs sep W ?_ hbox.lt hN hlc.1 hlen).mono ?_
    · intro j x hj
      obtain ⟨hjl, rfl⟩ := List.getElem?_eq_some_iff.1 hj
      obtain ⟨a, ha, hc⟩ := s.cells (i := j) (by simpa using hjl)
      cases ha
      rw [List.getElem_map, add_box, Nat.mul_one] at hc
      have := hc.1
      rw [add_box, Nat.add_zero] at this
      exact this
    · rintro e w' ⟨rfl, hw⟩
      exact ⟨_, rfl, ⟨hw.os, hw.tape, hw.output⟩, rfl, hw.size, fun i hi _ => hw.block i hi⟩
def decB (n : Nat) : ByteArray := ⟨(Lib.decDigits n).toArray⟩
def pieceL (t : ByteArray × Nat) : ByteArray := if t.2 = 1 then t.1 else (decB t.2 ++ ⟨#[42]⟩) ++ t.1
def tailL (x : Lin) : List ByteArray := if x.num ≠ 0 ∨ x.terms = [] then [decB x.num] else []
def textL (x : Lin) : ByteArray := ⟨(Lib.join ((x.terms.map pieceL ++ tailL x).map (·.data.toList)) [43]).toArray⟩
theorem dec_size {n : Nat} (h : n < 4294967296) : (decB n).size ≤ 20 := by
  have e : (decB n).size = Lib.nDigits n := by
    show (Lib.decDigits n).toArray.size = _
    rw [List.size_toArray, Lib.decDigits_length]
  rw [e]
  by_cases h0 : n = 0
  · subst h0; rw [Lib.nDigits_small (by omega)]; omega
  · have := Lib.numDigits_eq n (by omega) (by omega)
    split at this <;> omega
theorem ba_size_append (a b : ByteArray) : (a ++ b).size = a.size + b.size := by simp
theorem piece_size {t : ByteArray × Nat} (h : t.1.size ≤ 32) (k : t.2 < 4294967296) : (pieceL t).size ≤ 53 := by
  unfold pieceL
  split
  · omega
  · have := dec_size k
    rw [ba_size_append, ba_size_append]
    have : (⟨#[42]⟩ : ByteArray).size = 1 := rfl
    omega
theorem join_length : ∀ (xs : List (List UInt8)) (m : Nat), (∀ x, x ∈ xs → x.length ≤ m) → (Lib.join xs [43]).length ≤ xs.length * (m + 1)
  | [], m, _ => by rw [Lib.join_nil]; simp
  | [x], m, h => by rw [Lib.join_one]; have := h x (by simp); simp; omega
  | x :: y :: r, m, h => by
    have ih := join_length (y :: r) m (fun z hz => h z (List.mem_cons_of_mem _ hz))
    have hx := h x (by simp)
    have e : Lib.join (x :: y :: r) [43] = x ++ [43] ++ Lib.join (y :: r) [43] := by
      unfold Lib.join
      simp [List.intercalate, List.intersperse]
    rw [e, List.length_append, List.length_append]
    simp only [List.length_cons, List.length_nil] at ih ⊢
    rw [Nat.succ_mul (r.length + 1)]
    omega
theorem und44 : Tryd.prog.underlying 44 = some (.slice 9) := by kernel_rfl
theorem strZ9 : (Tryd.prog.info? 9).map (fun i => (i.zero, i.size, i.bytes)) = some (some (.string ⟨#[]⟩), 1, 16) := by kernel_rfl
theorem text_hc {h : Hp} {p : Option Addr} {l c : Nat} {x : Lin} (v : VwT h p l x.terms) (hp10 : Pow10 h) (hl : x.terms.length ≤ 2 ^ 30) (hs : ∀ t, t ∈ x.terms → t.1.size ≤ 32 ∧ t.2 < 4294967296) (hn : x.num < 4294967296) :
    HC Tryd.prog 61 #[linV p l c x] h fun w h' => w = .string (textL x) ∧ Ext h h' := by
  refine hcr_of (args := [.agg #[.slice p l c, .int .u32 x.num]]) mixed Tryd.func61 (by kernel_rfl) (t_expr_Text_eq p l c x.num) ?_
  unfold t_expr_Text
  have hll := v.len
  have h10 := hp10.lt
  refine newB ?_
  intro h1 b1 e1 z1
  refine loads_box b1 ((p, l, c), ()) rfl ?_
  dsimp only [flat, unc, unc1, List.nil_append, List.cons_append]
  refine loop_of (cs := [(false, [.slice 0]), (false, [.int .i64])]) (fun y w h' => ∃ (i : Nat), y.2.1 = (i : Int) ∧ i ≤ x.terms.length ∧ w = x.terms.length - i ∧ Ext h1 h' ∧ y.1.2.1 = i ∧ SL h' h1.size 9 1 y.1.1 y.1.2.1 y.1.2.2 (((x.terms.take i).map pieceL).map fun s => [.string s]))
    ((none, 0, 0), (0 : Int), ()) x.terms.length rfl ⟨0, rfl, by omega, by omega, Ch.refl _ _, rfl, SL.nil _ _ _ _⟩ ?_
  rintro ⟨⟨q, m, d⟩, n8, ⟨⟩⟩ w h2 ⟨i, hi, hile, rfl, e2, hm, s2⟩
  simp only at hi hm s2
  subst hi
  subst hm
  dsimp only [flat, unc, unc1, List.nil_append, List.cons_append]
  have hz2 := e2.size
  have e02 := e1.trans e2
  have p2 := hp10.keep e02 (by simp)
  refine cond_mk (fun g1 => ?_) (fun g1 => ?_)
  · have g1 := of_decide_eq_true g1
    have hilt : m < x.terms.length := by omega
    obtain ⟨a, rfl, hc⟩ := (v.keep e02 (by simp)).cells m hilt
    have htk : x.terms.take (m + 1) = x.terms.take m ++ [x.terms[m]] := List.take_succ_eq_append_getElem hilt
    obtain ⟨hsz, hco⟩ := hs x.terms[m] (List.getElem_mem hilt)
    generalize x.terms[m] = t at hc htk hsz hco
    refine need_of ⟨by omega, by omega⟩ (osome_mk rfl ?_)
    rw [show Int.toNat (m : Int) = m by omega]
    refine loads_of (t.1, (t.2 : Int), ()) hc ?_
    dsimp only [flat, unc, unc1, List.nil_append, List.cons_append]
    refine newB ?_
    intro h3 b3 e3 z3
    refine stores_of b3 rfl (by simp) ?_
    intro h4 b4 k4 z4
    have b4 : Box h4 h2.size 80 [.string t.1, .int .u32 t.2] := b4
    have e24 : Ext h2 h4 := Ch.trans e3 k4 (fun j hj hl => by simp at hj; omega)
    have s4 := s2.keep' e24 (by simp)
    have hw : IntKind.wrap .i64 ((m : Int) + 1) = ((m + 1 : Nat) : Int) := by rw [wrap_i64 (by omega) (by omega)]; omega
    have hmap : ∀ s, pieceL t = s → ((x.terms.take (m + 1)).map pieceL).map (fun s => [Value.string s]) = ((x.terms.take m).map pieceL).map (fun s => [Value.string s]) ++ [[.string s]] := by
      rintro s rfl
      rw [htk, List.map_append, List.map_append]
      rfl
    try rw [add_box]
    refine loads_box b4 ((t.2 : Int), ()) rfl ?_
    dsimp only [flat, unc, unc1, List.nil_append, List.cons_append]
    refine cond_mk (fun g2 => ?_) (fun g2 => ?_)
    · have g2 : t.2 = 1 := by have : (t.2 : Int) = 1 := by simpa using g2
                              omega
      refine loads_box b4 (t.1, ()) rfl ?_
      dsimp only [flat, unc, unc1, List.nil_append, List.cons_append]
      refine push_of (vs := [.string t.1]) und44 strZ9 rfl (by omega) (by omega) (by kernel_rfl) rfl rfl s4 (by omega) (by omega) (by omega) ?_
      intro p' c' h7 s7 k7 hp7
      have ex7 : Ext h1 h7 := Ch.trans (e2.trans e24) k7 (fun j hj hl => by have := (s4.blk hj).1; omega)
      refine again_mk (cs := [(false, [.slice 0]), (false, [.int .i64])]) ((p', m + 1, c'), ((m + 1 : Nat) : Int), ()) (x.terms.length - (m + 1)) rfl (by omega) (congrArg (fun z => [Value.slice p' (m + 1) c', Value.int .i64 z]) hw) ⟨m + 1, rfl, by omega, rfl, ex7, rfl, ?_⟩
      rw [hmap t.1 (by unfold pieceL; rw [if_pos g2])]
      exact s7
    · have g2 : ¬ t.2 = 1 := by have : ¬ (t.2 : Int) = 1 := by simpa using g2
                                omega
      try rw [add_box]
      refine loads_box b4 ((t.2 : Int), ()) rfl ?_
      dsimp only [flat, unc, unc1, List.nil_append, List.cons_append]
      refine loads_box b4 (t.1, ()) rfl ?_
      dsimp only [flat, unc, unc1, List.nil_append, List.cons_append]
      rw [wrap_u64 (by omega) (by omega)]
      refine call_of (format_hc (p2.keep e24 (by simp)) t.2 (by omega)) ?_
      rintro _ h5 ⟨rfl, e5⟩
      refine ⟨(decB t.2, ()), rfl, ?_⟩
      dsimp only [flat, unc, unc1, List.nil_append, List.cons_append]
      have b5 := b4.keep e5 (by simp)
      have hds := dec_size hco
      have hstab : ∀ h', Ext h5 h' → T.stab h' [(⟨h2.size, 0, none⟩, [.string t.1]), ((⟨h2.size, 0, none⟩ : Addr).add 1, [.int .u32 t.2])] := fun h' e => ⟨(b5.keep e (by simp)).cells _ rfl, by rw [add_box]; exact (b5.keep e (by simp)).cells _ rfl, trivial⟩
      have hstab' : ∀ h', Ch (blkOf q) h5 h' → T.stab h' [(⟨h2.size, 0, none⟩, [.string t.1]), ((⟨h2.size, 0, none⟩ : Addr).add 1, [.int .u32 t.2])] := fun h' e => by
        have b6 := b5.keep e (fun hm => by have := (s2.blk hm).2; omega)
        exact ⟨b6.cells _ rfl, by rw [add_box]; exact b6.cells _ rfl, trivial⟩
      try rw [add_box] at hstab
      try rw [add_box] at hstab'
      try rw [add_box]
      refine ⟨hstab h5 (Ch.refl _ _), ?_⟩
      have h42 : (⟨#[42]⟩ : ByteArray).size = 1 := rfl
      refine need_of (by omega) (need_of (by rw [ba_size_append]; omega) ?_)
      have s5 := s4.keep' e5 (by simp)
      refine push_st (vs := [.string ((decB t.2 ++ ⟨#[42]⟩) ++ t.1)]) und44 strZ9 rfl (by omega) (by omega) (by kernel_rfl) rfl rfl s5 (by have := e5.size; omega) (by omega) (by omega) hstab ?_
      intro p' c' h7 s7 k7 hp7
      refine ⟨hstab' h7 k7, ?_⟩
      have ex7 : Ext h1 h7 := Ch.trans ((e2.trans e24).trans e5) k7 (fun j hj hl => by have := (s4.blk hj).1; omega)
      refine again_mk (cs := [(false, [.slice 0]), (false, [.int .i64])]) ((p', m + 1, c'), ((m + 1 : Nat) : Int), ()) (x.terms.length - (m + 1)) rfl (by omega) (congrArg (fun z => [Value.slice p' (m + 1) c', Value.int .i64 z]) hw) ⟨m + 1, rfl, by omega, rfl, ex7, rfl, ?_⟩
      rw [hmap _ (show pieceL t = (decB t.2 ++ ⟨#[42]⟩) ++ t.1 by unfold pieceL; rw [if_neg g2])]
      exact s7
  · have g1 := of_decide_eq_false g1
    have hi : m = x.terms.length := by omega
    subst hi
    rw [List.take_length] at s2
    have b2 := b1.keep e2 (by simp)
    have hsz : ∀ xs : List ByteArray, x.terms.map pieceL ++ tailL x = xs → (Lib.join (xs.map (·.data.toList)) [43]).length ≤ 140737488355328 ∧ xs.length ≤ 140737488355328 := by
      rintro xs rfl
      have h1 := join_length ((x.terms.map pieceL ++ tailL x).map (·.data.toList)) 53 (by
        intro y hy
        obtain ⟨s, hs', rfl⟩ := List.mem_map.1 hy
        rw [show s.data.toList.length = s.size by simp]
        rcases List.mem_append.1 hs' with h | h
        · obtain ⟨t, ht, rfl⟩ := List.mem_map.1 h
          exact piece_size (hs t ht).1 (hs t ht).2
        · unfold tailL at h
          split at h
          · rw [List.mem_singleton] at h
            subst h
            have := dec_size hn
            omega
          · simp at h)
      have h2 : (tailL x).length ≤ 1 := by unfold tailL; split <;> simp
      rw [List.length_map] at h1
      rw [List.length_append, List.length_map] at h1 ⊢
      have h3 : (x.terms.length + (tailL x).length) * (53 + 1) ≤ (2 ^ 30 + 1) * 54 := Nat.mul_le_mul (by omega) (by omega)
      constructor
      · omega
      · omega
    have fin : ∀ (hx : Hp) (q : Option Addr) (m d : Nat), Ext h hx → SL hx h1.size 9 1 q m d ((x.terms.map pieceL ++ tailL x).map fun s => [.string s]) → ∀ L, (T.call Tryd.prog 89 [.slice q m d, .string ⟨#[43]⟩] false [(false, [.string])] fun (s18 : ByteArray) => T.ret (.string s18)) L (fun w h' => w = .string (textL x) ∧ Ext h h') hx := by
      intro hx q m d ex sx L
      refine call_of (join_hc sx ⟨#[43]⟩ (hsz _ rfl).2 (hsz _ rfl).1) ?_
      rintro _ h9 ⟨rfl, e9⟩
      exact ⟨(textL x, ()), rfl, rfl, ex.trans e9⟩
    have put : tailL x = [decB x.num] → ∀ L, (T.loads ⟨h.size, 1, none⟩ [.int .u32] fun (n10 : Int) => T.call Tryd.prog 88 [.int .u64 (IntKind.wrap .u64 n10), .int .i64 (10 : Int)] false [(false, [.string])] fun (s11 : ByteArray) =>
        T.sem Tryd.prog (Instr.buildSlice 44 1 #[(0, .string s11)]) false [(false, [.slice 0])] fun (p12 : Option Addr) (l13 : Nat) (l14 : Nat) =>
        T.sem Tryd.prog (Builtin.append_ #[44, 44] 44 #[.slice q x.terms.length d, .slice p12 l13 l14]) false [(false, [.slice 0])] fun (p15 : Option Addr) (l16 : Nat) (l17 : Nat) =>
        T.call Tryd.prog 89 [.slice p15 l16 l17, .string ⟨#[43]⟩] false [(false, [.string])] fun (s18 : ByteArray) => T.ret (.string s18)) L (fun w h' => w = .string (textL x) ∧ Ext h h') h2 := by
      intro ht L
      refine loads_box b2 ((x.num : Int), ()) rfl ?_
      dsimp only [flat, unc, unc1, List.nil_append, List.cons_append]
      rw [wrap_u64 (by omega) (by omega)]
      refine call_of (format_hc p2 x.num (by omega)) ?_
      rintro _ h5 ⟨rfl, e5⟩
      refine ⟨(decB x.num, ()), rfl, ?_⟩
      dsimp only [flat, unc, unc1, List.nil_append, List.cons_append]
      refine push_of (vs := [.string (decB x.num)]) und44 strZ9 rfl (by omega) (by omega) (by kernel_rfl) rfl rfl (s2.keep' e5 (by simp)) (by have := e5.size; omega) (by omega) (by omega) ?_
      intro p' c' h7 s7 k7 hp7
      refine fin h7 p' (x.terms.length + 1) c' (Ch.trans (e02.trans e5) k7 (fun j hj hl => by have := (s2.blk hj).1; omega)) ?_ _
      rw [ht, List.map_append]
      exact s7
    try rw [add_box]
    refine loads_box b2 ((x.num : Int), ()) rfl ?_
    dsimp only [flat, unc, unc1, List.nil_append, List.cons_append]
    refine cond_mk (fun g2 => ?_) (fun g2 => ?_)
    · have g2 : ¬ x.num = 0 := by simpa using g2
      try rw [add_box]
      exact put (by unfold tailL; rw [if_pos (.inl g2)]) _
    · have g2 : x.num = 0 := by simpa using g2
      refine cond_mk (fun g3 => ?_) (fun g3 => ?_)
      · have g3 : x.terms = [] := by
          have : x.terms.length = 0 := by
            have : (x.terms.length : Int) = 0 := by simpa using g3
            omega
          exact List.length_eq_zero_iff.1 this
        try rw [add_box]
        exact put (by unfold tailL; rw [if_pos (.inr g3)]) _
      · have g3 : ¬ x.terms = [] := by
          intro hh
          rw [hh] at g3
          cases g3
        refine fin h2 q x.terms.length d e02 ?_ _
        have ht : tailL x = [] := by unfold tailL; rw [if_neg (by rintro (h | h); exact h g2; exact g3 h)]
        rw [ht, List.append_nil]
        exact s2
end Go.Sx

set_option linter.unusedVariables false
set_option linter.unusedSimpArgs false
set_option maxRecDepth 100000
namespace Go.Sx
open Go.Proofs
theorem wf_lexAt {s : ByteArray} {a k' : Nat} {t : Tok} (ha : a ≤ s.size) (h : lexAt s a = .tok t k') : WfT t := by
  have hsz : s.data.toList.length = s.size := by simp
  unfold lexAt at h
  split at h
  · cases h
  split at h
  · cases h
  have hlen : (s.data.toList.drop a).length = s.size - a := by rw [List.length_drop, hsz]
  split at h
  · rename_i h1 h2 h3
    split at h
    · cases h
    · rename_i h4
      cases h
      refine ⟨by simp, fun _ => ⟨rfl, ?_⟩⟩
      have h5 := rowN_le (s.data.toList.drop a) gluedL
      have h0 : (s.data.toList.drop a).getD 0 0 = s.data.toList.getD a 0 := by simp [List.getD]
      have h6 := (rowN_pos (s := s.data.toList.drop a) (set := gluedL) (by omega)).2 (by
        rw [h0]
        show (lettersL ++ digitsL).contains _ = true
        rw [glued_is, h3]; rfl)
      have e : (s.extract a (a + rowN (s.data.toList.drop a) gluedL)).data.toList = (s.data.toList.drop a).take (rowN (s.data.toList.drop a) gluedL) := by
        rw [ext_list, show a + rowN (s.data.toList.drop a) gluedL - a = rowN (s.data.toList.drop a) gluedL by omega]
      show legalL (s.extract a (a + rowN (s.data.toList.drop a) gluedL)).data.toList = !(regL (s.extract a (a + rowN (s.data.toList.drop a) gluedL)).data.toList).2.2
      rw [e]
      unfold legalL
      have l1 : ((s.data.toList.drop a).take (rowN (s.data.toList.drop a) gluedL)).length = rowN (s.data.toList.drop a) gluedL := by rw [List.length_take]; omega
      have l2 : ((s.data.toList.drop a).take (rowN (s.data.toList.drop a) gluedL)).getD 0 0 = s.data.toList.getD a 0 := by rw [← h0]; exact getD_take (by omega)
      have l3 : ((s.data.toList.drop a).take (rowN (s.data.toList.drop a) gluedL)).all (fun c => isLet c || isDig c) = true := by
        refine List.all_eq_true.2 fun c hc => ?_
        obtain ⟨i, hi, rfl⟩ := List.getElem_of_mem hc
        rw [l1] at hi
        have h7 := rowN_get hi
        have h8 : (lettersL ++ digitsL).contains ((s.data.toList.drop a).getD i 0) = true := h7
        rw [glued_is] at h8
        rw [List.getElem_take]
        rw [List.getD, List.getElem?_eq_getElem (by omega)] at h8
        exact h8
      rw [l1, l2, l3, h3, decide_eq_true (by omega), decide_eq_true (by omega)]
      rfl
  split at h
  · split at h
    · cases h
    · cases h
      exact ⟨(numL_le _).2, by simp⟩
  split at h
  · split at h
    · cases h
    · cases h
      exact ⟨by show (s.data.toList.getD (a + 1) 0).toNat < 4294967296; have := (s.data.toList.getD (a + 1) 0).toNat_lt; omega, by simp⟩
  split at h
  · cases h
    exact ⟨by simp, by simp⟩
  · cases h
theorem wf_lexF {s : ByteArray} : ∀ (f k : Nat) (acc : List Tok), k ≤ s.size → Wf acc → Wf (lexF s f k acc).1
  | 0, k, acc, hk, w => w
  | f + 1, k, acc, hk, w => by
    unfold lexF
    cases h : lexStep s k with
    | stop => exact w
    | wrong a => intro t ht; simp at ht
    | tok t k' =>
      simp only
      have h1 := lexStep_tok hk h
      have hle : k + rowN (s.data.toList.drop k) blanksL ≤ s.size := by
        have := rowN_le (s.data.toList.drop k) blanksL
        rw [List.length_drop] at this
        have hsz : s.data.toList.length = s.size := by simp
        omega
      refine wf_lexF f k' _ h1.2 ?_
      intro u hu
      rcases List.mem_append.1 hu with hu | hu
      · exact w u hu
      · rw [List.mem_singleton] at hu
        subst hu
        exact wf_lexAt hle h
theorem wf_lexS (s : ByteArray) : Wf (lexS s).1 := wf_lexF _ 0 [] (Nat.zero_le _) (by intro t ht; simp at ht)
/-! expr.Value. -/
def valN (f : ByteArray → Option Nat) : Nat → Tms → Nat × Bool
  | n, [] => (n, true)
  | n, t :: r => match f t.1 with
    | none => (0, false)
    | some v => valN f ((n + t.2 * v % 4294967296) % 4294967296) r
theorem valN_cons (f : ByteArray → Option Nat) (n : Nat) (t : ByteArray × Nat) (r : Tms) : valN f n (t :: r) = match f t.1 with
    | none => (0, false)
    | some v => valN f ((n + t.2 * v % 4294967296) % 4294967296) r := rfl
def getO (D : Tms) (s : ByteArray) : Option Nat := (D.find? fun p => decide (s = p.1)).map (·.2)
/-- A map, or none. -/
def MapV (h : Hp) (r : Option Nat) (D : Tms) : Prop := match r with
  | none => D = []
  | some g => MapB h g (vm D)
theorem MapV.keep {ws : List Nat} {h h' : Hp} {r : Option Nat} {D : Tms} (m : MapV h r D) (k : Ch ws h h') (hw : ∀ g, r = some g → g ∉ ws) : MapV h' r D := by
  cases r with
  | none => exact m
  | some g => exact MapB.keep m k (hw g rfl)
theorem lookb_of {L : Lp} {K : Value → Hp → Prop} {h : Hp} {r : Option Nat} {D : Tms} (m : MapV h r D) (s : ByteArray) {k : Int → Bool → T} (hk : k (((getO D s).getD 0 : Nat) : Int) (getO D s).isSome L K h) :
    T.sem Tryd.prog (Instr.lookup 78 (.map r) (.string s) true) true [(false, [.int .u32]), (false, [.bool])] k L K h := by
  cases r with
  | none =>
    have m : D = [] := m
    subst m
    refine lookup_nil und78 und9 info33 s true _ ?_
    exact ⟨((0 : Int), false, ()), rfl, hk⟩
  | some g =>
    refine lookup_of und78 und9 info33 m s true _ ?_
    refine ⟨((((getO D s).getD 0 : Nat) : Int), (getO D s).isSome, ()), ?_, hk⟩
    rw [if_pos rfl, look_vm]
    unfold getO
    cases D.find? fun p => decide (s = p.1) <;> rfl
theorem value_hc {h : Hp} {p : Option Addr} {l c : Nat} {x : Lin} (v : VwT h p l x.terms) {r : Option Nat} {D : Tms} (m : MapV h r D) (hl : x.terms.length ≤ 2 ^ 40) :
    HC Tryd.prog 51 #[linV p l c x, .map r] h fun w h' => w = .tuple #[.int .u32 ((valN (getO D) x.num x.terms).1 : Int), .bool (valN (getO D) x.num x.terms).2] ∧ Ext h h' := by
  refine hcr_of (args := [.agg #[.slice p l c, .int .u32 x.num], .map r]) mixed Tryd.func51 (by kernel_rfl) (t_expr_Value_eq p l c x.num r) ?_
  unfold t_expr_Value
  have hll := v.len
  refine newB ?_
  intro h1 b1 e1 z1
  rw [add_box]
  refine loads_box b1 ((x.num : Int), ()) rfl ?_
  dsimp only [flat, unc, unc1, List.nil_append, List.cons_append]
  refine loads_box b1 ((p, l, c), ()) rfl ?_
  dsimp only [flat, unc, unc1, List.nil_append, List.cons_append]
  refine loop_of (cs := [(false, [.int .u32]), (false, [.bool]), (false, [.int .u32]), (false, [.int .i64])]) (fun y w h' => ∃ (i n : Nat), y.2.2.2.1 = (i : Int) ∧ y.2.2.1 = (n : Int) ∧ i ≤ x.terms.length ∧ w = x.terms.length - i ∧ Ext h1 h' ∧ valN (getO D) x.num x.terms = valN (getO D) n (x.terms.drop i))
    ((0 : Int), false, (x.num : Int), (0 : Int), ()) x.terms.length rfl ⟨0, x.num, rfl, rfl, by omega, by omega, Ch.refl _ _, rfl⟩ ?_
  rintro ⟨n7, b8, n9, n10, ⟨⟩⟩ w h2 ⟨i, n, hi, hn, hile, rfl, e2, hv⟩
  simp only at hi hn
  subst hi
  subst hn
  dsimp only [flat, unc, unc1, List.nil_append, List.cons_append]
  have e02 := e1.trans e2
  have m2 := m.keep e02 (by simp)
  refine cond_mk (fun g1 => ?_) (fun g1 => ?_)
  · have g1 := of_decide_eq_true g1
    have hilt : i < x.terms.length := by omega
    obtain ⟨a, rfl, hc⟩ := (v.keep e02 (by simp)).cells i hilt
    have hdr : x.terms.drop i = x.terms[i] :: x.terms.drop (i + 1) := List.drop_eq_getElem_cons hilt
    generalize x.terms[i] = t at hc hdr
    rw [hdr] at hv
    refine need_of ⟨by omega, by omega⟩ (osome_mk rfl ?_)
    rw [show Int.toNat (i : Int) = i by omega]
    refine loads_of (t.1, (t.2 : Int), ()) hc ?_
    dsimp only [flat, unc, unc1, List.nil_append, List.cons_append]
    refine newB ?_
    intro h3 b3 e3 z3
    refine stores_of b3 rfl (by simp) ?_
    intro h4 b4 k4 z4
    have b4 : Box h4 h2.size 80 [.string t.1, .int .u32 t.2] := b4
    have e24 : Ext h2 h4 := Ch.trans e3 k4 (fun j hj hl => by simp at hj; omega)
    refine loads_box b4 (t.1, ()) rfl ?_
    dsimp only [flat, unc, unc1, List.nil_append, List.cons_append]
    refine lookb_of (m2.keep e24 (by simp)) t.1 ?_
    rw [valN_cons] at hv
    refine cond_mk (fun g2 => ?_) (fun g2 => ?_)
    · have g2 : getO D t.1 = none := by simpa using g2
      rw [g2] at hv
      refine ⟨?_, e02.trans e24⟩
      rw [hv]
      rfl
    · obtain ⟨u, hu⟩ : ∃ u, getO D t.1 = some u := Option.isSome_iff_exists.1 (by simpa using g2)
      rw [hu] at hv
      rw [add_box]
      refine loads_box b4 ((t.2 : Int), ()) rfl ?_
      dsimp only [flat, unc, unc1, List.nil_append, List.cons_append]
      have hw : IntKind.wrap .i64 ((i : Int) + 1) = ((i + 1 : Nat) : Int) := by rw [wrap_i64 (by omega) (by omega)]; omega
      have hw2 : IntKind.wrap .u32 ((n : Int) + IntKind.wrap .u32 ((t.2 : Int) * (((getO D t.1).getD 0 : Nat) : Int))) = (((n + t.2 * u % 4294967296) % 4294967296 : Nat) : Int) := by
        rw [hu, wrap_u32_mod, wrap_u32_mod, cast_mod, Int.natCast_add, cast_mod, Int.natCast_mul]
        rfl
      rw [hw, hw2]
      exact again_mk (cs := [(false, [.int .u32]), (false, [.bool]), (false, [.int .u32]), (false, [.int .i64])]) (n7, b8, (((n + t.2 * u % 4294967296) % 4294967296 : Nat) : Int), ((i + 1 : Nat) : Int), ()) (x.terms.length - (i + 1)) rfl (by omega) rfl ⟨i + 1, _, rfl, rfl, by omega, rfl, e2.trans e24, hv⟩
  · have g1 := of_decide_eq_false g1
    have hi : i = x.terms.length := by omega
    subst hi
    rw [List.drop_length] at hv
    refine ⟨?_, e02⟩
    rw [hv]
    rfl
/-! Texts read. -/
theorem enc_cells {h : Hp} {b : Addr} {t : Tok} (hc : cellsAt h b 0 (enc t)) : cellsAt h b 0 [.int .i64 (t.kind : Int)] ∧ cellsAt h (b.add 1) 0 [.string t.text] ∧ cellsAt h (b.add 2) 0 [.int .u32 (t.num : Int)] ∧ cellsAt h (b.add 3) 0 [.int .i64 (t.at_ : Int)] := by
  obtain ⟨h1, h2, h3, h4, h5⟩ := hc
  exact ⟨⟨h1, trivial⟩, ⟨by rw [add_add]; exact h2, trivial⟩, ⟨by rw [add_add]; exact h3, trivial⟩, ⟨by rw [add_add]; exact h4, trivial⟩⟩
def tok42Post (s : ByteArray) (h : Hp) (v : Value) (h' : Hp) : Prop :=
  ∃ p l c q m d, v = .tuple #[.slice p l c, .slice q m d, .bool (((lexS s).2.2 : Int) == 0)] ∧ SL h' h.size 35 4 p l c ((lexS s).1.map enc) ∧ SL h' h.size 105 4 q m d ((lexS s).1.map enc) ∧ Ext h h'
theorem tokens42_hc (s : ByteArray) (h : Hp) (hs : s.size ≤ 2 ^ 40) : HC Tryd.prog 42 #[.string s] h (tok42Post s h) := by
  refine hcr_of (args := [.string s]) mixed Tryd.func42 (by kernel_rfl) (t_spandrellaw4_tokens_eq s) ?_
  unfold t_spandrellaw4_tokens
  refine call_of (tokens2_hc s h hs) ?_
  rintro _ h1 ⟨q, mq, d, rfl, s1, e1⟩
  refine ⟨((q, mq, d), ((lexS s).2.1 : Int), ((lexS s).2.2 : Int), ()), rfl, ?_⟩
  dsimp only [flat, unc, unc1, List.nil_append, List.cons_append]
  have hus := lexS_len s
  unfold tok42Post
  generalize (lexS s).1 = us at s1 hus ⊢
  have hmq : mq = us.length := by rw [s1.1, List.length_map]
  have hz1 := e1.size
  refine loop_of (cs := [(false, [.slice 0]), (false, [.int .i64])]) (fun y w h' => ∃ (i : Nat), y.2.1 = (i : Int) ∧ i ≤ us.length ∧ w = us.length - i ∧ Ext h1 h' ∧ y.1.2.1 = i ∧ SL h' h1.size 35 4 y.1.1 y.1.2.1 y.1.2.2 ((us.take i).map enc))
    ((none, 0, 0), (0 : Int), ()) us.length rfl ⟨0, rfl, by omega, by omega, Ch.refl _ _, rfl, SL.nil _ _ _ _⟩ ?_
  rintro ⟨⟨p, l, c⟩, n8, ⟨⟩⟩ w h2 ⟨i, hi, hile, rfl, e2, hm, s2⟩
  simp only at hi hm s2
  subst hi
  subst hm
  dsimp only [flat, unc, unc1, List.nil_append, List.cons_append]
  have hz2 := e2.size
  have v2 := s1.keep' e2 (by simp)
  refine cond_mk (fun g1 => ?_) (fun g1 => ?_)
  · have g1 := of_decide_eq_true g1
    have hilt : l < us.length := by omega
    obtain ⟨a, rfl, hc⟩ := v2.cells (i := l) (by simpa using hilt)
    rw [List.getElem_map] at hc
    have htk : us.take (l + 1) = us.take l ++ [us[l]] := List.take_succ_eq_append_getElem hilt
    generalize us[l] = t at hc htk
    obtain ⟨c1, c2, c3, c4⟩ := enc_cells hc
    rw [show Int.toNat (l : Int) = l by omega]
    refine need_of ⟨by omega, by omega⟩ (osome_mk rfl (loads_of ((t.kind : Int), ()) c1 ?_))
    dsimp only [flat, unc, unc1, List.nil_append, List.cons_append]
    refine need_of ⟨by omega, by omega⟩ (osome_mk rfl (loads_of (t.text, ()) c2 ?_))
    dsimp only [flat, unc, unc1, List.nil_append, List.cons_append]
    refine need_of ⟨by omega, by omega⟩ (osome_mk rfl (loads_of ((t.num : Int), ()) c3 ?_))
    dsimp only [flat, unc, unc1, List.nil_append, List.cons_append]
    refine need_of ⟨by omega, by omega⟩ (osome_mk rfl (loads_of ((t.at_ : Int), ()) c4 ?_))
    dsimp only [flat, unc, unc1, List.nil_append, List.cons_append]
    have hblk : a.block < h1.size := (s1.blk (i := a.block) (by simp [blkOf])).2
    have hst : ∀ (ws : List Nat) (h' : Hp), Ch ws h2 h' → (∀ i, i ∈ ws → h1.size ≤ i) → T.stab h' [(((a.add (l * 4)).add 3), [.int .i64 (t.at_ : Int)]), (((a.add (l * 4)).add 2), [.int .u32 (t.num : Int)]), (((a.add (l * 4)).add 1), [.string t.text]), ((a.add (l * 4)), [.int .i64 (t.kind : Int)])] := by
      intro ws h' k hw
      have hb : (a.add (l * 4)).block ∉ ws := by rw [add_block]; intro hm; have := hw _ hm; omega
      exact ⟨cellsAt_keep k (by rw [add_block]; exact hb) _ _ c4, cellsAt_keep k (by rw [add_block]; exact hb) _ _ c3, cellsAt_keep k (by rw [add_block]; exact hb) _ _ c2, cellsAt_keep k hb _ _ c1, trivial⟩
    refine push_st (vs := enc t) und23 tokZ rfl (by omega) (by omega) (by kernel_rfl) rfl rfl s2 hz2 (by omega) (by omega) (fun h' e => hst [] h' e (by simp)) ?_
    intro p' c' h7 s7 k7 hp7
    refine ⟨hst (blkOf p) h7 k7 (fun i hi => (s2.blk hi).1), ?_⟩
    have hw : IntKind.wrap .i64 ((l : Int) + 1) = ((l + 1 : Nat) : Int) := by rw [wrap_i64 (by omega) (by omega)]; omega
    refine again_mk (cs := [(false, [.slice 0]), (false, [.int .i64])]) ((p', l + 1, c'), ((l + 1 : Nat) : Int), ()) (us.length - (l + 1)) rfl (by omega) (congrArg (fun z => [Value.slice p' (l + 1) c', Value.int .i64 z]) hw) ⟨l + 1, rfl, by omega, rfl, Ch.trans e2 k7 (fun j hj hl => by have := (s2.blk hj).1; omega), rfl, ?_⟩
    rw [htk, List.map_append]
    exact s7
  · have g1 := of_decide_eq_false g1
    have hi : l = us.length := by omega
    subst hi
    rw [List.take_length] at s2
    exact ⟨p, us.length, c, q, mq, d, rfl, s2.mono hz1, v2, e1.trans e2⟩
theorem read60_hc (s : ByteArray) (h : Hp) (hs : s.size ≤ 2 ^ 40) : HC Tryd.prog 60 #[.string s] h (ParseP h (parseX (lexS s).1)) := by
  refine hcr_of (args := [.string s]) mixed Tryd.func60 (by kernel_rfl) (t_spandrellaw4_read_eq s) ?_
  unfold t_spandrellaw4_read
  refine newB ?_
  intro h1 b1 e1 z1
  refine call_of (tokens42_hc s h1 hs) ?_
  rintro _ h2 ⟨p, l, c, q, m, d, rfl, s2, _, e2⟩
  refine ⟨((p, l, c), (q, m, d), (((lexS s).2.2 : Int) == 0), ()), rfl, ?_⟩
  dsimp only [flat, unc, unc1, List.nil_append, List.cons_append]
  refine call_of (parse46_hc s2.vw (fun i hi => (s2.blk hi).2) (wf_lexS s) (by have := lexS_len s; omega)) ?_
  rintro v h3 ⟨e3, hv⟩
  have b3 := (b1.keep e2 (by simp)).keep e3 (by simp)
  have hz2 := e2.size
  cases hp : parseX (lexS s).1 with
  | error e =>
    rw [hp] at hv
    have hv : v = .tuple #[.agg #[.slice none 0 0, .int .u32 0], .int .i64 (e : Int)] := hv
    subst hv
    refine ⟨((none, 0, 0), (0 : Int), (e : Int), ()), rfl, ?_⟩
    dsimp only [flat, unc, unc1, List.nil_append, List.cons_append]
    refine stores_of b3 rfl (by simp) ?_
    intro h4 b4 k4 z4
    have b4 : Box h4 h.size 69 [.slice none 0 0, .int .u32 0] := b4
    refine loads_box b4 ((none, 0, 0), (0 : Int), ()) rfl ?_
    exact ⟨Ch.trans ((e1.trans e2).trans e3) k4 (fun j hj hl => by simp at hj; omega), rfl⟩
  | ok x =>
    rw [hp] at hv
    obtain ⟨p', l', c', rfl, s3, gx⟩ := hv
    refine ⟨((p', l', c'), (x.num : Int), (0 : Int), ()), rfl, ?_⟩
    dsimp only [flat, unc, unc1, List.nil_append, List.cons_append]
    refine stores_of b3 rfl (by simp) ?_
    intro h4 b4 k4 z4
    have b4 : Box h4 h.size 69 [.slice p' l' c', .int .u32 (x.num : Int)] := b4
    refine loads_box b4 ((p', l', c'), (x.num : Int), ()) rfl ?_
    exact ⟨Ch.trans ((e1.trans e2).trans e3) k4 (fun j hj hl => by simp at hj; omega), p', l', c', rfl, (s3.keep' k4 (fun j hj => by have := (s3.blk hj).1; simp; omega)).mono (by omega), gx⟩
end Go.Sx

set_option linter.unusedVariables false
set_option linter.unusedSimpArgs false
set_option maxRecDepth 100000
namespace Go.Sx
open Go.Proofs
theorem k1 : parseX (lexS ⟨#[50, 42, 40, 97, 32, 45, 32, 51, 41, 32, 43, 32, 98, 32, 45, 32, 97]⟩).1 = .ok ⟨[(⟨#[97]⟩, 1), (⟨#[98]⟩, 1)], 4294967290⟩ := by kernel_rfl
theorem k2 : parseX (lexS ⟨#[97, 42, 98]⟩).1 = .error 21 := by kernel_rfl
theorem k3 : parseX (lexS ⟨#[40, 97, 45, 97, 41, 42, 98]⟩).1 = .ok ⟨[], 0⟩ := by kernel_rfl
theorem k4 : parseX (lexS ⟨#[97, 43]⟩).1 = .error 20 := by kernel_rfl
theorem k5 : parseX (lexS ⟨#[114, 49]⟩).1 = .error 20 := by kernel_rfl
theorem k6 : parseX (lexS ⟨#[]⟩).1 = .error 20 := by kernel_rfl
theorem k7 : parseX (lexS ⟨#[45, 32, 45, 49]⟩).1 = .ok ⟨[], 1⟩ := by kernel_rfl
/-- A text in brackets. -/
def deepT : Nat → ByteArray
  | 0 => ⟨#[49]⟩
  | n + 1 => (⟨#[40]⟩ ++ deepT n) ++ ⟨#[41]⟩
theorem k8 : parseX (lexS (deepT 32)).1 = .ok ⟨[], 1⟩ := by kernel_rfl
theorem k9 : parseX (lexS (deepT 33)).1 = .error 21 := by kernel_rfl
def decF : Nat → Nat → List UInt8
  | 0, _ => []
  | f + 1, u => if u < 10 then [UInt8.ofNat (48 + u)] else decF f (u / 10) ++ [UInt8.ofNat (48 + u % 10)]
theorem dec_decF : ∀ (f u : Nat), u < 10 ^ (f + 1) → Lib.decDigits u = decF (f + 1) u
  | 0, u, h => by
    rw [Lib.decDigits, dif_pos (by omega)]
    unfold decF
    rw [if_pos (by omega)]
  | f + 1, u, h => by
    rw [Lib.decDigits]
    unfold decF
    by_cases h10 : u < 10
    · rw [dif_pos h10, if_pos h10]
    · rw [dif_neg h10, if_neg h10, dec_decF f (u / 10) (by rw [Nat.pow_succ] at h; omega)]
theorem t1 : textL ⟨[(⟨#[97]⟩, 1), (⟨#[98]⟩, 1)], 4294967290⟩ = ⟨#[97, 43, 98, 43, 52, 50, 57, 52, 57, 54, 55, 50, 57, 48]⟩ := by
  unfold textL tailL decB
  rw [dec_decF 19 _ (by decide)]
  kernel_rfl
theorem t2 : textL ⟨[], 0⟩ = ⟨#[48]⟩ := by
  unfold textL tailL decB
  rw [dec_decF 19 _ (by decide)]
  kernel_rfl
theorem t3 : textL ⟨[(⟨#[97]⟩, 1)], 0⟩ = ⟨#[97]⟩ := by
  unfold textL tailL decB
  rw [dec_decF 19 _ (by decide)]
  kernel_rfl
section rules
variable {L : Lp} {K : Value → Hp → Prop} {h : Hp}
theorem read_err {s : ByteArray} {e : Nat} (hs : s.size ≤ 2 ^ 40) (hp : parseX (lexS s).1 = .error e) {k : Option Addr → Nat → Nat → Int → Int → T} (hk : ∀ h', Ext h h' → k none 0 0 0 e L K h') :
    T.call Tryd.prog 60 [.string s] true [(true, [.slice 80, .int .u32]), (false, [.int .i64])] k L K h := by
  refine call_of (read60_hc s h hs) ?_
  rintro v h' ⟨e', hv⟩
  rw [hp] at hv
  exact ⟨((none, 0, 0), (0 : Int), (e : Int), ()), hv, hk h' e'⟩
theorem read_ok {s : ByteArray} {x : Lin} (hs : s.size ≤ 2 ^ 40) (hp : parseX (lexS s).1 = .ok x) {k : Option Addr → Nat → Nat → Int → Int → T} (hk : ∀ h' p l c, Ext h h' → SL h' h.size 80 2 p l c (x.terms.map encT) → Good x → k p l c x.num 0 L K h') :
    T.call Tryd.prog 60 [.string s] true [(true, [.slice 80, .int .u32]), (false, [.int .i64])] k L K h := by
  refine call_of (read60_hc s h hs) ?_
  rintro v h' ⟨e', hv⟩
  rw [hp] at hv
  obtain ⟨p, l, c, rfl, s', g⟩ := hv
  exact ⟨((p, l, c), (x.num : Int), (0 : Int), ()), rfl, hk h' p l c e' s' g⟩
theorem keepL_of {a b : Value} {vs : List Value} {k : Addr → T} (hv : vs.length = 2) (hp : vs.all plainV = true) (hk : ∀ h', Box h' h.size 69 vs → Ext h h' → k ⟨h.size, 0, none⟩ L K h') : T.new [a, b] 69 (fun x => T.stores x vs (k x)) L K h := by
  refine newB ?_
  intro h1 b1 e1 z1
  refine stores_of b1 hp (by simp [hv]) ?_
  intro h2 b2 k2 z2
  refine hk h2 ?_ (Ch.trans e1 k2 (fun j hj hl => by simp at hj; omega))
  have e : setL [a, b] 0 vs = vs := by rw [setL_eq _ _ _ (by simp [hv])]; simp [hv]
  rw [e] at b2
  exact b2
theorem text_of {x : Lin} {p : Option Addr} {l c : Nat} {n : Int} {b : Nat} (s : SL h b 80 2 p l c (x.terms.map encT)) (hp : Pow10 h) (g : Good x) (hl : x.terms.length ≤ 2 ^ 30) (hn : n = (x.num : Int)) {k : ByteArray → T} (hk : ∀ h', Ext h h' → k (textL x) L K h') :
    T.call Tryd.prog 61 [.agg #[.slice p l c, .int .u32 n]] false [(false, [.string])] k L K h := by
  subst hn
  refine call_of (text_hc s.vwT hp hl (fun t ht => ⟨legal_size (g.legal t ht), (g.nf.coef t ht).2⟩) g.num) ?_
  rintro _ h1 ⟨rfl, e1⟩
  exact ⟨(textL x, ()), rfl, hk h1 e1⟩
theorem bytes_eq (a : ByteArray) (l : List UInt8) (h : a.data.toList = l) : (ByteArray.toList a == l) = true := by
  rw [Lib.toList_data, h]
  simp
end rules
theorem known44_hc {h : Hp} (hp : Pow10 h) : HC Tryd.prog 44 #[] h fun v h' => v = .bool true ∧ Ext h h' := by
  refine hcr_of (args := []) mixed Tryd.func44 (by kernel_rfl) t_spandrellaw4_known_eq ?_
  unfold t_spandrellaw4_known
  refine read_ok (by decide) k1 ?_
  intro h1 p l c e1 s1 g
  refine keepL_of rfl rfl ?_
  intro h2 b2 e2
  have e02 := e1.trans e2
  refine loads_box b2 ((p, l, c), ((4294967290 : Nat) : Int), ()) rfl ?_
  dsimp only [flat, unc, unc1, List.nil_append, List.cons_append]
  refine makeMap_of _ ?_
  intro h3 m3 e3 z3
  refine ⟨(some h2.size, ()), rfl, ?_⟩
  dsimp only [flat, unc, unc1, List.nil_append, List.cons_append]
  refine put_of (D := []) (n := 10) m3 (by decide) rfl ?_
  intro h4 m4 k4 z4
  refine put_of (n := 1) m4 (by decide) rfl ?_
  intro h5 m5 k5 z5
  have e25 : Ext h2 h5 := Ch.trans e3 (Ch.trans k4 k5 (fun j hj _ => hj)) (fun j hj hl => by simp at hj; omega)
  have s5 := (s1.keep' e2 (by simp)).keep' e25 (by simp)
  have e05 := e02.trans e25
  refine call_of (value_hc (x := ⟨[(⟨#[97]⟩, 1), (⟨#[98]⟩, 1)], 4294967290⟩) (r := some h2.size) s5.vwT m5 (by simp)) ?_
  rintro _ h6 ⟨rfl, e6⟩
  have hv : valN (getO (putN (putN [] ⟨#[97]⟩ 10) ⟨#[98]⟩ 1)) 4294967290 [(⟨#[97]⟩, 1), (⟨#[98]⟩, 1)] = (5, true) := by kernel_rfl
  rw [hv]
  refine ⟨((5 : Int), true, ()), rfl, ?_⟩
  dsimp only [flat, unc, unc1, List.nil_append, List.cons_append]
  refine cond_t rfl ?_
  refine loads_box ((b2.keep e25 (by simp)).keep e6 (by simp)) ((p, l, c), ((4294967290 : Nat) : Int), ()) rfl ?_
  dsimp only [flat, unc, unc1, List.nil_append, List.cons_append]
  refine text_of (x := ⟨[(⟨#[97]⟩, 1), (⟨#[98]⟩, 1)], 4294967290⟩) (s5.keep' e6 (by simp)) (hp.keep (e05.trans e6) (by simp)) g (by simp) rfl ?_
  intro h7 e7
  refine cond_t (bytes_eq _ _ (by rw [t1]; rfl)) ?_
  refine cond_t rfl ?_
  exact ⟨rfl, (e05.trans e6).trans e7⟩
theorem exprNumbers_hc {h : Hp} (hp : Pow10 h) : HC Tryd.prog 17 #[] h fun v h' => v = .bool true ∧ Ext h h' := by
  refine hcr_of (args := []) mixed Tryd.func17 (by kernel_rfl) t_spandrellaw4_ExprNumbers_eq ?_
  unfold t_spandrellaw4_ExprNumbers
  refine read_err (by decide) k2 ?_
  intro h1 e1
  refine keepL_of rfl rfl ?_
  intro h2 b2 e2
  refine read_ok (by decide) k3 ?_
  intro h3 p l c e3 s3 g3
  refine keepL_of rfl rfl ?_
  intro h4 b4 e4
  refine read_err (by decide) k4 ?_
  intro h5 e5
  refine keepL_of rfl rfl ?_
  intro h6 b6 e6
  refine read_err (by decide) k5 ?_
  intro h7 e7
  refine keepL_of rfl rfl ?_
  intro h8 b8 e8
  refine read_err (by decide) k6 ?_
  intro h9 e9
  refine keepL_of rfl rfl ?_
  intro h10 b10 e10
  refine read_ok (by decide) k7 ?_
  intro h11 p' l' c' e11 s11 g11
  refine keepL_of rfl rfl ?_
  intro h12 b12 e12
  have e412 : Ext h4 h12 := (((((((e5.trans e6).trans e7).trans e8).trans e9).trans e10).trans e11).trans e12)
  have e04 : Ext h h4 := (((e1.trans e2).trans e3).trans e4)
  refine call_of (named_hc _ h12) ?_
  rintro _ h13 ⟨e13, q, m, d, rfl, s13⟩
  refine ⟨((q, m, d), (0 : Int), ()), rfl, ?_⟩
  dsimp only [flat, unc, unc1, List.nil_append, List.cons_append]
  refine call_of (value_hc (x := ⟨[(⟨#[113]⟩, 1)], 0⟩) (r := none) (D := []) s13.vwT rfl (by simp)) ?_
  rintro _ h14 ⟨rfl, e14⟩
  have hv : valN (getO []) 0 [(⟨#[113]⟩, 1)] = (0, false) := by kernel_rfl
  rw [hv]
  refine ⟨((0 : Int), false, ()), rfl, ?_⟩
  dsimp only [flat, unc, unc1, List.nil_append, List.cons_append]
  have hsz : ∀ n, (deepT n).size = 2 * n + 1 := by
    intro n
    induction n with
    | zero => rfl
    | succ n ih =>
      unfold deepT
      rw [ba_size_append, ba_size_append, ih]
      have h40 : (⟨#[40]⟩ : ByteArray).size = 1 := rfl
      have h41 : (⟨#[41]⟩ : ByteArray).size = 1 := rfl
      omega
  have h40 : (⟨#[40]⟩ : ByteArray).size = 1 := rfl
  refine loop_of (cs := [(false, [.string]), (false, [.int .i64])]) (fun y w h' => ∃ i : Nat, y.2.1 = (i : Int) ∧ y.1 = deepT i ∧ i ≤ 32 ∧ w = 32 - i ∧ h' = h14) (⟨#[49]⟩, (0 : Int), ()) 32 rfl ⟨0, rfl, rfl, by omega, by omega, rfl⟩ ?_
  rintro ⟨(s43 : ByteArray), n44, ⟨⟩⟩ w h14' ⟨i, hi, hd, hile, rfl, rfl⟩
  simp only at hi hd
  subst hi
  subst hd
  dsimp only [flat, unc, unc1, List.nil_append, List.cons_append]
  have hd := hsz i
  refine cond_mk (fun g1 => ?_) (fun g1 => ?_)
  · have g1 := of_decide_eq_true g1
    refine need_of (by omega) (need_of (by rw [ba_size_append]; omega) ?_)
    have hw : IntKind.wrap .i64 ((i : Int) + 1) = ((i + 1 : Nat) : Int) := by rw [wrap_i64 (by omega) (by omega)]; omega
    rw [hw]
    exact again_mk (cs := [(false, [.string]), (false, [.int .i64])]) (deepT (i + 1), ((i + 1 : Nat) : Int), ()) (32 - (i + 1)) rfl (by omega) rfl ⟨i + 1, rfl, rfl, by omega, rfl, rfl⟩
  · have g1 := of_decide_eq_false g1
    have hi : i = 32 := by omega
    subst hi
    refine read_ok (by omega) k8 ?_
    intro h15 p3 l3 c3 e15 s15 g15
    refine keepL_of rfl rfl ?_
    intro h16 b16 e16
    refine need_of (by omega) (need_of (by rw [ba_size_append]; omega) ?_)
    refine read_err (s := deepT 33) (by have := hsz 33; omega) k9 ?_
    intro h17 e17
    refine keepL_of rfl rfl ?_
    intro h18 b18 e18
    have e1218 := ((((e13.trans e14).trans e15).trans e16).trans e17).trans e18
    have e418 := e412.trans e1218
    have e018 := e04.trans e418
    refine cond_t rfl (cond_t rfl ?_)
    refine loads_box (b4.keep e418 (by simp)) ((p, l, c), ((0 : Nat) : Int), ()) rfl ?_
    dsimp only [flat, unc, unc1, List.nil_append, List.cons_append]
    refine text_of (x := ⟨[], 0⟩) ((s3.keep' e4 (by simp)).keep' e418 (by simp)) (hp.keep e018 (by simp)) g3 (by simp) rfl ?_
    intro h19 e19
    refine cond_t (bytes_eq _ _ (by rw [t2]; rfl)) ?_
    refine cond_t rfl (cond_t rfl (cond_t rfl (cond_t rfl ?_)))
    rw [add_box]
    refine loads_box ((b12.keep e1218 (by simp)).keep e19 (by simp)) (((1 : Nat) : Int), ()) rfl ?_
    dsimp only [flat, unc, unc1, List.nil_append, List.cons_append]
    refine cond_t rfl (cond_t rfl (cond_t rfl (cond_t rfl ?_)))
    have e019 := e018.trans e19
    refine call_of (of62_hc 0 h19) ?_
    rintro _ h20 ⟨e20, rfl⟩
    refine ⟨((none, 0, 0), (0 : Int), ()), rfl, ?_⟩
    dsimp only [flat, unc, unc1, List.nil_append, List.cons_append]
    have e020 := e019.trans e20
    refine text_of (x := ⟨[], 0⟩) (b := 0) (SL.nil _ _ _ _) (hp.keep e020 (by simp)) Good.z (by simp) rfl ?_
    intro h21 e21
    refine cond_t (bytes_eq _ _ (by rw [t2]; rfl)) ?_
    have e021 := e020.trans e21
    refine call_of (named_hc _ h21) ?_
    rintro _ h22 ⟨e22, q4, m4, d4, rfl, s22⟩
    refine ⟨((q4, m4, d4), (0 : Int), ()), rfl, ?_⟩
    dsimp only [flat, unc, unc1, List.nil_append, List.cons_append]
    have e022 := e021.trans e22
    refine text_of (x := ⟨[(⟨#[97]⟩, 1)], 0⟩) s22 (hp.keep e022 (by simp)) (good_named (by decide)) (by simp) rfl ?_
    intro h23 e23
    refine cond_t (bytes_eq _ _ (by rw [t3]; rfl)) ?_
    have e023 := e022.trans e23
    refine call_boolx (known44_hc (hp.keep e023 (by simp))) ?_
    intro h24 e24
    exact ⟨rfl, e023.trans e24⟩
end Go.Sx
