/- The book of memory over terms; the law ExprKept: it answers true. Condition: as each statement says. -/
import Derived.Test.YtpbjlnlekobodaaDoorExprSO
import Derived.Test.YtpbjlnlekobodaaDoorExprY
import Derived.Test.YtpbjlnlekobodaaDoorExprZ
import Derived.Test.YtpbjlnlekobodaaDoorExprR
import Derived.Test.YtpbjlnlekobodaaDoorFrameG
set_option linter.unusedVariables false
set_option linter.unusedSimpArgs false
set_option maxRecDepth 100000
namespace Go.Sx
open Go.Proofs
theorem copyS_of {P : Program} {h : Hp} {K : Value → Hp → Prop} {t ty e : TypeId} {i : TypeInfo} (ht : P.underlying t = some (.slice e)) (hi : P.info? e = some i) {g l c : Nat} {xs vs : List Value} (b : Box h g e xs) {q : Option Addr} {m d : Nat} (hm : m ≤ l) (hv : vs.length = m * i.size)
    (hp : vs.all plainV = true) (hx : vs.length ≤ xs.length) (hq : q = none → vs = []) (hc : ∀ a, q = some a → cellsAt h a 0 vs) (hk : ∀ h', Box h' g e (setL xs 0 vs) → Ch [g] h h' → h'.size = h.size → K (goInt (m : Int)) h') :
    semW P (Builtin.copy_ #[t, t] ty #[.slice (some ⟨g, 0, none⟩) l c, .slice q m d]) h K := by
  have hmin : Nat.min m l = m := Nat.min_eq_left hm
  obtain ⟨k1, k2, k3, k4⟩ := stores_box (off := 0) vs h 0 xs b hp (by omega)
  cases q with
  | none =>
    have hv0 := hq rfl
    subst hv0
    simp [Builtin.copy_, semW_bind', semW_underlying ht, semW_sizeOf hi, Builtin.lenOf, Builtin.firstCells]
    rw [semW_map]
    refine semW_storeCells _ _ _ _ _ k1 ?_
    have := hk h b (Ch.refl _ _) rfl

    rw [hmin]
    exact this
  | some a =>
    simp [Builtin.copy_, semW_bind', semW_underlying ht, semW_sizeOf hi, Builtin.lenOf, Builtin.firstCells]


    rw [hmin]
    refine semW_loadCells (by rw [cellsOf_info hi]; exact hv) (hc a rfl) _ ?_
    rw [semW_map]
    refine semW_storeCells _ _ _ _ _ k1 ?_
    exact hk _ k2 k3 k4
theorem chunk {α : Type} (sz : Nat) : ∀ (n : Nat) (ys : List α), ys.length = n * sz → ∃ xs : List (List α), xs.length = n ∧ (∀ x, x ∈ xs → x.length = sz) ∧ xs.flatten = ys
  | 0, ys, h => ⟨[], rfl, by simp, by rw [Nat.zero_mul] at h; rw [List.length_eq_zero_iff.1 h]; rfl⟩
  | n + 1, ys, h => by
    rw [Nat.succ_mul] at h
    obtain ⟨xs, h1, h2, h3⟩ := chunk sz n (ys.drop sz) (by rw [List.length_drop]; omega)
    refine ⟨ys.take sz :: xs, by simp [h1], ?_, by rw [List.flatten_cons, h3, List.take_append_drop]⟩
    intro x hx
    rcases List.mem_cons.1 hx with rfl | hx
    · rw [List.length_take]; omega
    · exact h2 x hx
theorem SL.front {h : Hp} {b : Nat} {e : TypeId} {sz : Nat} {a : Addr} {l m c : Nat} {xs ys : List (List Value)} (s : SL h b e sz (some a) (l + m) c (xs ++ ys)) (hl : xs.length = l) : SL h b e sz (some a) l c xs := by
  obtain ⟨g, pre, rest, rfl, hbg, hlc, hbox, hr⟩ := s.2.2
  have hm : ys.length = m := by have := s.1; rw [List.length_append] at this; omega
  refine ⟨hl.symm, fun x hx => s.2.1 x (List.mem_append_left _ hx), g, pre, ys.flatten ++ rest, rfl, hbg, ⟨by omega, hlc.2⟩, ?_, ?_⟩
  · rw [List.flatten_append, List.append_assoc] at hbox
    exact hbox
  · rw [List.length_append, flatten_length ys (fun x hx => s.2.1 x (List.mem_append_right _ hx)), hm, hr, ← Nat.add_mul]
    congr 1
    omega
theorem set_mark {α : Type} {A zs : List α} {mk : α} {i : Nat} (hi : i < zs.length) : (A ++ (List.replicate i mk ++ zs.drop i)).set (A.length + i) mk = A ++ (List.replicate (i + 1) mk ++ zs.drop (i + 1)) := by
  rw [List.set_append_right _ _ (by omega), Nat.add_sub_cancel_left, List.set_append_right _ _ (by simp), List.length_replicate, Nat.sub_self, List.drop_eq_getElem_cons hi, List.set_cons_zero, List.replicate_succ', List.append_assoc]
  rfl
theorem sem_i64 {P : Program} {L : Lp} {K : Value → Hp → Prop} {h : Hp} {s : Sem Value} {k : Int → T} (hs : semW P s h fun v h' => ∃ n, v = goInt n ∧ k n L K h') : T.sem P s false [(false, [.int .i64])] k L K h :=
  semW_mono s _ _ _ (fun v h' ⟨n, hv, hk⟩ => ⟨(n, ()), hv, hk⟩) hs
end Go.Sx

set_option linter.unusedVariables false
set_option linter.unusedSimpArgs false
set_option maxRecDepth 100000
namespace Go.Sx
open Go.Proofs
theorem sameT_hc {h : Hp} {p0 p1 : Option Addr} {l0 c0 l1 c1 : Nat} {ts : Tms} (hlen : ts.length ≤ 2 ^ 48) (s0 : VwT h p0 l0 ts) (s1 : VwT h p1 l1 ts) :
    HCp Tryd.prog 86 [.slice p0 l0 c0, .slice p1 l1 c1] h (.bool true) := by
  refine hcp_of mixed Tryd.func86 (by kernel_rfl) (t_spandrelbook_Same_api_Term__eq p0 l0 c0 p1 l1 c1) ?_
  unfold t_spandrelbook_Same_api_Term_
  have e0 := s0.len
  have e1 := s1.len
  refine cond_f (by rw [e0, e1]; simp) ?_
  refine loop_of (cs := [(false, [.bool]), (false, [.int .i64])]) (fun x n h' => h' = h ∧ ∃ k : Nat, x.2.1 = (k : Int) ∧ k ≤ ts.length ∧ n = ts.length - k) (false, (0 : Int), ()) ts.length rfl ⟨rfl, 0, rfl, by omega, by omega⟩ ?_
  rintro ⟨b1, n2, ⟨⟩⟩ m h' ⟨rfl, k, hk, hle, rfl⟩
  simp only at hk
  subst hk
  dsimp only [flat, unc, unc1, List.nil_append, List.cons_append]
  refine cond_mk (fun hb => ?_) (fun hb => ⟨rfl, rfl⟩)
  have hb : (k : Int) < (l0 : Int) := of_decide_eq_true hb
  have hlt : k < ts.length := by omega
  obtain ⟨a, rfl, hc⟩ := s0.cells k hlt
  obtain ⟨a', rfl, hc'⟩ := s1.cells k hlt
  generalize ts[k] = t at hc hc'
  have hkn : Int.toNat (k : Int) = k := by omega
  rw [hkn]
  refine need_of ⟨by omega, by omega⟩ (osome_mk rfl (loads_of (t.1, (t.2 : Int), ()) hc ?_))
  refine need_of ⟨by omega, by omega⟩ (osome_mk rfl (loads_of (t.1, (t.2 : Int), ()) hc' ?_))
  refine sem_bool (b := false) (fun K' hk => cmpTrm _ _ _ _ _ _ _ _ (by rw [bytes_beq]; simpa using hk)) ?_
  refine cond_f rfl ?_
  have hw : IntKind.wrap .i64 ((k : Int) + 1) = (k : Int) + 1 := wrap_i64 (by omega) (by omega)
  exact again_mk (cs := [(false, [.bool]), (false, [.int .i64])]) (b1, (k : Int) + 1, ()) (ts.length - (k + 1)) rfl (by omega) (congrArg (fun z => [Value.bool b1, .int .i64 z]) hw) ⟨rfl, k + 1, (show ((k : Int) + 1) = ((k + 1 : Nat) : Int) from by omega), by omega, rfl⟩
theorem roomy54_hc {h : Hp} {p : Option Addr} {l c : Nat} {ts : List (ByteArray × Nat)} (hlen : l = ts.length) (hp : p = none → ts = []) (hc : ∀ a, p = some a → cellsAt h a 0 (ts.map encT).flatten) (hl : ts.length ≤ 2 ^ 40) (m1 : ByteArray) (m2 : Int) :
    HC Tryd.prog 54 #[.slice p l c, .agg #[.string m1, .int .u32 m2]] h fun w h' => Ext h h' ∧ ∃ g, w = .slice (some ⟨g, 0, none⟩) (l + 80) (l + 80) ∧ h.size ≤ g ∧ SL h' h.size 80 2 (some ⟨g, 0, none⟩) (l + 80) (l + 80) (ts.map encT ++ List.replicate 80 ([.string m1, .int .u32 m2] : List Value)) := by
  refine hcr_of (args := [.slice p l c, .agg #[.string m1, .int .u32 m2]]) mixed Tryd.func54 (by kernel_rfl) (t_spandrelbook_Roomy_api_Term__eq p l c m1 m2) ?_
  unfold t_spandrelbook_Roomy_api_Term_
  refine newB ?_
  intro h1 b1 e1 z1
  obtain ⟨i, hi, hz, hsz, hby⟩ := inf_of termZ
  have hw80 : IntKind.wrap .i64 ((l : Int) + 80) = ((l + 80 : Nat) : Int) := by rw [wrap_i64 (by omega) (by omega)]; omega
  rw [hw80]
  refine sem_slice (makeSlice_of und67 hi hz (Nat.le_refl _) (by rw [hby]; omega) (by omega) ?_)
  intro h2 b2 e2 z2
  refine ⟨_, _, _, rfl, ?_⟩
  have hfl : (ts.map encT).flatten.length = l * 2 := by
    rw [flatten_length (ts.map encT) (sz := 2) (fun x hx => by obtain ⟨t, _, rfl⟩ := List.mem_map.1 hx; rfl), List.length_map, hlen]
  have hpl : (ts.map encT).flatten.all plainV = true := by
    rw [List.all_eq_true]
    intro v hv
    obtain ⟨x, hx, hv⟩ := List.mem_flatten.1 hv
    obtain ⟨t, _, rfl⟩ := List.mem_map.1 hx
    simp only [encT, List.mem_cons, List.not_mem_nil, or_false] at hv
    rcases hv with rfl | rfl <;> rfl
  have hzl : ((List.range ((l + 80) * i.size)).map ((Value.agg #[.string ⟨#[]⟩, .int .u32 0]).cells[· % (Value.agg #[.string ⟨#[]⟩, .int .u32 0]).cells.size]!)).length = (l + 80) * 2 := by rw [List.length_map, List.length_range, hsz]
  generalize (List.range ((l + 80) * i.size)).map ((Value.agg #[.string ⟨#[]⟩, .int .u32 0]).cells[· % (Value.agg #[.string ⟨#[]⟩, .int .u32 0]).cells.size]!) = ys at b2 hzl
  have e02 := e1.trans e2
  refine sem_i64 (copyS_of und67 hi b2 (vs := (ts.map encT).flatten) (m := l) (by omega) (by rw [hfl, hsz]) hpl (by omega) (fun hh => by rw [hp hh]; rfl) (fun a ha => cellsAt_keep e02 (by simp) _ _ (hc a ha)) ?_)
  intro h3 b3 k3 z3
  refine ⟨(l : Int), rfl, ?_⟩
  rw [setL_eq _ _ _ (by omega), List.take_zero, List.nil_append, Nat.zero_add, hfl] at b3
  obtain ⟨zs, hzs1, hzs2, hzs3⟩ := chunk 2 80 (ys.drop (l * 2)) (by rw [List.length_drop, hzl, Nat.add_mul]; omega)
  rw [← hzs3, ← List.flatten_append] at b3
  have hz1 := e1.size
  have s3 : SL h3 h.size 80 2 (some ⟨h1.size, 0, none⟩) (l + 80) (l + 80) (ts.map encT ++ (List.replicate 0 [.string m1, .int .u32 m2] ++ zs.drop 0)) := by
    refine ⟨by simp [hzs1, hlen], ?_, h1.size, [], [], rfl, hz1, ⟨Nat.le_refl _, by omega⟩, by simpa using b3, by simp⟩
    intro x hx
    rcases List.mem_append.1 hx with hx | hx
    · obtain ⟨t, _, rfl⟩ := List.mem_map.1 hx; rfl
    · exact hzs2 x (by simpa using hx)
  have e03 : Ext h h3 := Ch.trans e02 k3 (fun j hj hl => by simp at hj; omega)
  have hb1 := b1.lt
  have b13 := (b1.keep e2 (by simp)).keep k3 (by simp; omega)
  refine loop_of (cs := [(false, [.int .i64])]) (fun y n h' => ∃ i : Nat, y.1 = ((l + i : Nat) : Int) ∧ i ≤ 80 ∧ n = 80 - i ∧ Ch [h1.size] h3 h' ∧ SL h' h.size 80 2 (some ⟨h1.size, 0, none⟩) (l + 80) (l + 80) (ts.map encT ++ (List.replicate i [.string m1, .int .u32 m2] ++ zs.drop i))) ((l : Int), ()) 80 rfl
    ⟨0, rfl, by omega, by omega, Ch.refl _ _, s3⟩ ?_
  rintro ⟨n8, ⟨⟩⟩ n h4 ⟨i', hi', hile, rfl, k4, s4⟩
  simp only at hi'
  subst hi'
  dsimp only [flat, unc, unc1, List.nil_append, List.cons_append]
  refine cond_mk (fun g1 => ?_) (fun g1 => ?_)
  · have g1 := of_decide_eq_true g1
    have hi80 : i' < 80 := by omega
    refine loads_box (b13.keep k4 (by simp; omega)) (m1, m2, ()) rfl ?_
    dsimp only [flat, unc, unc1, List.nil_append, List.cons_append]
    refine need_of ⟨by omega, by omega⟩ (osome_mk rfl ?_)
    rw [show Int.toNat ((l + i' : Nat) : Int) = l + i' by omega]
    refine SL.store (P := Tryd.prog) s4 (i := l + i') (by simp [hzs1]; omega) (vs := [.string m1, .int .u32 m2]) rfl rfl rfl ?_
    intro h5 s5 k5 z5
    have hA : (ts.map encT).length = l := by rw [List.length_map, hlen]
    have hst := set_mark (A := ts.map encT) (zs := zs) (mk := [.string m1, .int .u32 m2]) (i := i') (by omega)
    rw [hA] at hst
    rw [hst] at s5
    exact again_mk (cs := [(false, [.int .i64])]) (((l + (i' + 1) : Nat) : Int), ()) (80 - (i' + 1)) rfl (by omega) (congrArg (fun z => [Value.int .i64 z]) (show IntKind.wrap .i64 (((l + i' : Nat) : Int) + 1) = ((l + (i' + 1) : Nat) : Int) by rw [wrap_i64 (by omega) (by omega)]; omega)) ⟨i' + 1, rfl, by omega, rfl, Ch.trans k4 k5 (fun j hj _ => hj), s5⟩
  · have g1 := of_decide_eq_false g1
    have h80 : i' = 80 := by omega
    subst h80
    rw [show zs.drop 80 = [] from List.drop_eq_nil_of_le (by omega), List.append_nil] at s4
    exact ⟨Ch.trans e03 k4 (fun j hj hl => by simp at hj; omega), h1.size, rfl, hz1, s4⟩
theorem intact59_hc {h : Hp} {b : Nat} {a : Addr} {q : Option Addr} {l m d : Nat} {ts : List (ByteArray × Nat)} (m1 : ByteArray) (m2 : Int) (s : SL h b 80 2 (some a) (l + 80) (l + 80) (ts.map encT ++ List.replicate 80 ([.string m1, .int .u32 m2] : List Value))) (hlen : ts.length = l) (v : VwT h q m ts) (hl : l ≤ 2 ^ 40) :
    HC Tryd.prog 59 #[.slice (some a) (l + 80) (l + 80), .slice q m d, .agg #[.string m1, .int .u32 m2]] h fun w h' => w = .bool true ∧ Ext h h' := by
  refine hcr_of (args := [.slice (some a) (l + 80) (l + 80), .slice q m d, .agg #[.string m1, .int .u32 m2]]) mixed Tryd.func59 (by kernel_rfl) (t_spandrelbook_Intact_api_Term__eq (some a) (l + 80) (l + 80) q m d m1 m2) ?_
  unfold t_spandrelbook_Intact_api_Term_
  have hml : m = l := by rw [v.len]; exact hlen
  subst hml
  refine newB ?_
  intro h1 b1 e1 z1
  have e0 := e1
  have s1 := s.keep' e1 (by simp)
  have hw80 : IntKind.wrap .i64 ((m : Int) + 80) = ((m + 80 : Nat) : Int) := by rw [wrap_i64 (by omega) (by omega)]; omega
  refine join_of (cs := [(false, [.bool])]) (fun z h' => z.1 = false ∧ h1 = h') ?_ ?_
  · refine cond_f (by rw [hw80]; simp) ?_
    refine need_of ⟨by omega, by omega, by omega⟩ ?_
    have e1 : (if m + 80 = 0 then some a else Option.map (fun a => Addr.add a 0) (some a)) = some a := by
      rw [if_neg (by omega)]
      simp [Addr.add]
    rw [e1, show Int.toNat (m : Int) - 0 = m by omega, Nat.sub_zero]
    refine call_bool (sameT_hc (ts := ts) (by omega) (s1.front (by rw [List.length_map]; exact hlen)).vwT (v.keep e0 (by simp))) ?_
    exact meet_mk (cs := [(false, [.bool])]) (false, ()) rfl rfl ⟨rfl, rfl⟩
  rintro ⟨b4, ⟨⟩⟩ h1' ⟨hb4, rfl⟩
  simp only at hb4
  subst hb4
  dsimp only [flat, unc, unc1, List.nil_append, List.cons_append]
  refine cond_f rfl ?_
  refine loop_of (cs := [(false, [.bool]), (false, [.int .i64])]) (fun y n h' => ∃ i : Nat, y.2.1 = ((m + i : Nat) : Int) ∧ i ≤ 80 ∧ n = 80 - i ∧ h1 = h') (false, (m : Int), ()) 80 rfl ⟨0, rfl, by omega, by omega, rfl⟩ ?_
  rintro ⟨b8, n8, ⟨⟩⟩ n h4 ⟨i', hi', hile, rfl, rfl⟩
  simp only at hi'
  subst hi'
  dsimp only [flat, unc, unc1, List.nil_append, List.cons_append]
  refine cond_mk (fun g1 => ?_) (fun g1 => ⟨rfl, e1⟩)
  have g1 := of_decide_eq_true g1
  have hi80 : i' < 80 := by omega
  have hlt : m + i' < (ts.map encT ++ List.replicate 80 ([.string m1, .int .u32 m2] : List Value)).length := by simp; omega
  obtain ⟨a', ha', hc⟩ := s1.cells hlt
  cases ha'
  have hget : (ts.map encT ++ List.replicate 80 ([.string m1, .int .u32 m2] : List Value))[m + i'] = [.string m1, .int .u32 m2] := by
    rw [List.getElem_append_right (by rw [List.length_map]; omega), List.getElem_replicate]
  rw [hget] at hc
  refine need_of ⟨by omega, by omega⟩ (osome_mk rfl ?_)
  rw [show Int.toNat ((m + i' : Nat) : Int) = m + i' by omega]
  refine loads_of (m1, m2, ()) hc ?_
  dsimp only [flat, unc, unc1, List.nil_append, List.cons_append]
  refine loads_box b1 (m1, m2, ()) rfl ?_
  dsimp only [flat, unc, unc1, List.nil_append, List.cons_append]
  refine sem_bool (b := false) (fun K' hk => cmpTrm _ _ _ _ _ _ _ _ (by rw [bytes_beq]; simpa using hk)) ?_
  refine cond_f rfl ?_
  exact again_mk (cs := [(false, [.bool]), (false, [.int .i64])]) (b8, ((m + (i' + 1) : Nat) : Int), ()) (80 - (i' + 1)) rfl (by omega) (congrArg (fun z => [Value.bool b8, Value.int .i64 z]) (show IntKind.wrap .i64 (((m + i' : Nat) : Int) + 1) = ((m + (i' + 1) : Nat) : Int) by rw [wrap_i64 (by omega) (by omega)]; omega)) ⟨i' + 1, rfl, by omega, rfl, rfl⟩
end Go.Sx

set_option linter.unusedVariables false
set_option maxRecDepth 100000
namespace Go.Sx.TB
open Go.Sx
open Go.Proofs
theorem sameTS_hc {h : Hp} {b b' : Nat} {e e' : TypeId} {p0 p1 : Option Addr} {l0 c0 l1 c1 : Nat} {ts : Tms} (hlen : ts.length ≤ 2 ^ 48) (s0 : SL h b e 2 p0 l0 c0 (ts.map encT)) (s1 : SL h b' e' 2 p1 l1 c1 (ts.map encT)) :
    HCp Tryd.prog 86 [.slice p0 l0 c0, .slice p1 l1 c1] h (.bool true) := sameT_hc hlen s0.vwT s1.vwT
/-- A list that a book keeps, and its copy. -/
structure Ent where
  p : Option Addr
  l : Nat
  c : Nat
  q : Option Addr
  d : Nat
  ts : Tms
def Ent.one (e : Ent) : List Value := [.slice e.p e.l e.c]
def Ent.two (e : Ent) : List Value := [.slice e.q e.l e.d]
def Ent.blks (e : Ent) : List Nat := blkOf e.p ++ blkOf e.q
/-- A book in a heap: its own block, the lists, the copies; nothing shares a block. -/
structure Book (h : Hp) (gb b : Nat) (pl : Option Addr) (cl : Nat) (pw : Option Addr) (cw : Nat) (es : List Ent) : Prop where
  box : ∃ held : Int, Box h gb 89 [.slice pl es.length cl, .slice pw es.length cw, .int .i64 held, .bool false]
  ge : b ≤ gb
  one : SL h b 67 1 pl es.length cl (es.map Ent.one)
  two : SL h b 67 1 pw es.length cw (es.map Ent.two)
  ent : ∀ e, e ∈ es → SL h b 80 2 e.p e.l e.c (e.ts.map encT) ∧ SL h b 80 2 e.q e.l e.d (e.ts.map encT) ∧ e.ts.length ≤ 2 ^ 40
  gpl : gb ∉ blkOf pl
  gpw : gb ∉ blkOf pw
  plw : ∀ i, i ∈ blkOf pl → i ∉ blkOf pw
  eg : ∀ e, e ∈ es → ∀ i, i ∈ e.blks → i ≠ gb ∧ i ∉ blkOf pl ∧ i ∉ blkOf pw
  pq : ∀ e, e ∈ es → ∀ i, i ∈ blkOf e.p → i ∉ blkOf e.q
  ee : es.Pairwise fun e f => ∀ i, i ∈ e.blks → i ∉ f.blks
theorem Book.lt {h : Hp} {gb b : Nat} {pl : Option Addr} {cl : Nat} {pw : Option Addr} {cw : Nat} {es : List Ent} (B : Book h gb b pl cl pw cw es) : gb < h.size ∧ (∀ i, i ∈ blkOf pl → i < h.size) ∧ (∀ i, i ∈ blkOf pw → i < h.size) ∧ ∀ e, e ∈ es → ∀ i, i ∈ e.blks → i < h.size := by
  obtain ⟨held, hb⟩ := B.box
  refine ⟨hb.lt, fun i hi => (B.one.blk hi).2, fun i hi => (B.two.blk hi).2, fun e he i hi => ?_⟩
  rcases List.mem_append.1 hi with hi | hi
  · exact ((B.ent e he).1.blk hi).2
  · exact ((B.ent e he).2.1.blk hi).2
theorem Book.keep {ws : List Nat} {h h' : Hp} {gb b : Nat} {pl : Option Addr} {cl : Nat} {pw : Option Addr} {cw : Nat} {es : List Ent} (B : Book h gb b pl cl pw cw es) (k : Ch ws h h')
    (h1 : gb ∉ ws) (h2 : ∀ i, i ∈ blkOf pl → i ∉ ws) (h3 : ∀ i, i ∈ blkOf pw → i ∉ ws) (h4 : ∀ e, e ∈ es → ∀ i, i ∈ e.blks → i ∉ ws) : Book h' gb b pl cl pw cw es := by
  obtain ⟨held, hb⟩ := B.box
  exact ⟨⟨held, hb.keep k h1⟩, B.ge, B.one.keep' k h2, B.two.keep' k h3, fun e he => ⟨(B.ent e he).1.keep' k fun i hi => h4 e he i (List.mem_append_left _ hi), (B.ent e he).2.1.keep' k fun i hi => h4 e he i (List.mem_append_right _ hi), (B.ent e he).2.2⟩,
    B.gpl, B.gpw, B.plw, B.eg, B.pq, B.ee⟩
/-- The book's own block turns, its lists stay. -/
theorem Book.rebox {h h' : Hp} {gb b : Nat} {pl : Option Addr} {cl : Nat} {pw : Option Addr} {cw : Nat} {es : List Ent} (B : Book h gb b pl cl pw cw es) (k : Ch [gb] h h') {held : Int}
    (hb : Box h' gb 89 [.slice pl es.length cl, .slice pw es.length cw, .int .i64 held, .bool false]) : Book h' gb b pl cl pw cw es :=
  ⟨⟨held, hb⟩, B.ge, B.one.keep' k fun i hi => by simp; exact fun e => B.gpl (e ▸ hi), B.two.keep' k fun i hi => by simp; exact fun e => B.gpw (e ▸ hi),
    fun e he => ⟨(B.ent e he).1.keep' k fun i hi => by simp; exact (B.eg e he i (List.mem_append_left _ hi)).1, (B.ent e he).2.1.keep' k fun i hi => by simp; exact (B.eg e he i (List.mem_append_right _ hi)).1, (B.ent e he).2.2⟩,
    B.gpl, B.gpw, B.plw, B.eg, B.pq, B.ee⟩
theorem blkOf_add (p : Option Addr) (k : Nat) : blkOf (p.map fun a => a.add k) = blkOf p := by
  cases p with
  | none => rfl
  | some a => simp [blkOf, add_block]
/-- The book lets its first list go. -/
theorem Book.tail {h h' : Hp} {gb b : Nat} {pl : Option Addr} {cl : Nat} {pw : Option Addr} {cw : Nat} {es : List Ent} (B : Book h gb b pl cl pw cw es) (k : Ch [gb] h h') (h1 : 1 ≤ es.length) {held : Int}
    (hb : Box h' gb 89 [.slice (pl.map fun a => a.add 1) (es.length - 1) (cl - 1), .slice (pw.map fun a => a.add 1) (es.length - 1) (cw - 1), .int .i64 held, .bool false]) :
    Book h' gb b (pl.map fun a => a.add 1) (cl - 1) (pw.map fun a => a.add 1) (cw - 1) (es.drop 1) := by
  have hl : (es.drop 1).length = es.length - 1 := by rw [List.length_drop]
  have hm : ∀ e, e ∈ es.drop 1 → e ∈ es := fun e he => List.mem_of_mem_drop he
  have o1 := (B.one.drop (k := 1) h1).keep' k (fun i hi => by rw [blkOf_add] at hi; simp; exact fun e => B.gpl (e ▸ hi))
  have o2 := (B.two.drop (k := 1) h1).keep' k (fun i hi => by rw [blkOf_add] at hi; simp; exact fun e => B.gpw (e ▸ hi))
  rw [← List.map_drop] at o1 o2
  refine ⟨⟨held, by rw [hl]; exact hb⟩, B.ge, by rw [hl]; exact o1, by rw [hl]; exact o2,
    fun e he => ⟨(B.ent e (hm e he)).1.keep' k fun i hi => by simp; exact (B.eg e (hm e he) i (List.mem_append_left _ hi)).1, (B.ent e (hm e he)).2.1.keep' k fun i hi => by simp; exact (B.eg e (hm e he) i (List.mem_append_right _ hi)).1, (B.ent e (hm e he)).2.2⟩,
    by rw [blkOf_add]; exact B.gpl, by rw [blkOf_add]; exact B.gpw, by rw [blkOf_add, blkOf_add]; exact B.plw, ?_, fun e he => B.pq e (hm e he), B.ee.sublist (List.drop_sublist 1 es)⟩
  intro e he i hi
  rw [blkOf_add, blkOf_add]
  exact B.eg e (hm e he) i hi
/-- What has come of a book since a heap. -/
def BookTo (h : Hp) (gb b : Nat) (pl pw : Option Addr) (es : List Ent) (p : Option Addr) (h' : Hp) (es' : List Ent) : Prop :=
  ∃ pl' cl' pw' cw', Book h' gb b pl' cl' pw' cw' es' ∧ Ch (gb :: (blkOf pl ++ blkOf pw)) h h' ∧ (∀ i, i ∈ blkOf pl' → i ∈ blkOf pl ∨ h.size ≤ i) ∧ (∀ i, i ∈ blkOf pw' → i ∈ blkOf pw ∨ h.size ≤ i) ∧
    ∀ e, e ∈ es' → ∀ i, i ∈ e.blks → i ∈ blkOf p ∨ h.size ≤ i ∨ ∃ f, f ∈ es ∧ i ∈ f.blks
theorem chGb {h h1 h2 : Hp} {gb : Nat} {l : List Nat} (a : Ch (gb :: l) h h1) (c : Ch [gb] h1 h2) : Ch (gb :: l) h h2 := a.trans c (fun i hi _ => by simp at hi; simp [hi])
/-- Keep: behind it the book holds the list too, or fewer. -/
theorem keep_hc {h : Hp} {gb b : Nat} {pl : Option Addr} {cl : Nat} {pw : Option Addr} {cw : Nat} {es : List Ent} (B : Book h gb b pl cl pw cw es) (hlen : es.length ≤ 4000) {p : Option Addr} {l c : Nat} {ts : Tms}
    (s : SL h b 80 2 p l c (ts.map encT)) (hts : ts.length ≤ 2 ^ 40) (hfresh : ∀ i, i ∈ blkOf p → i ≠ gb ∧ i ∉ blkOf pl ∧ i ∉ blkOf pw ∧ ∀ e, e ∈ es → i ∉ e.blks) (hbs : b ≤ h.size) :
    HC Tryd.prog 55 #[.pointer (some ⟨gb, 0, none⟩), .slice p l c] h fun v h' => v = .tuple #[] ∧ ∃ es', es'.length ≤ 4000 ∧ BookTo h gb b pl pw es p h' es' := by
  refine hcr_of (args := [.pointer (some ⟨gb, 0, none⟩), .slice p l c]) mixed Tryd.func55 (by kernel_rfl) (t_spandrelbook_Book_api_Term___Keep_eq (some ⟨gb, 0, none⟩) p l c) ?_
  unfold t_spandrelbook_Book_api_Term___Keep
  have hll : l = ts.length := by rw [s.1, List.length_map]
  have hsz := B.lt
  obtain ⟨held0, hb⟩ := B.box
  refine join_of (cs := []) (fun _ h2 => ∃ p1 c1 h1, SL h1 b 67 1 p1 (es.length + 1) c1 (es.map Ent.one ++ [[.slice p l c]]) ∧ Ch (blkOf pl) h h1 ∧ (p1 = pl ∨ ∃ a, p1 = some a ∧ h.size ≤ a.block) ∧ Ch [gb] h1 h2 ∧
    Box h2 gb 89 [.slice p1 (es.length + 1) c1, .slice pw es.length cw, .int .i64 held0, .bool false]) ?_ ?_
  · refine osome_mk rfl (loads_box hb ((pl, es.length, cl), ()) rfl ?_)
    dsimp only [flat, unc, unc1, List.nil_append, List.cons_append]
    refine push_of (e := 67) (z := .slice none 0 0) (sz := 1) (by' := 24) (vs := [.slice p l c]) (by kernel_rfl) (by kernel_rfl) rfl (by omega) (by omega) (by kernel_rfl) rfl rfl B.one hbs (by omega) (by omega) ?_
    intro p1 c1 h1 o1 k1 hp1
    have hb1 := hb.keep k1 B.gpl
    refine osome_mk rfl (stores_of hb1 rfl (by simp) ?_)
    intro h2 hb2 k2 z2
    exact meet_mk (cs := []) () rfl rfl ⟨p1, c1, h1, o1, k1, hp1, k2, hb2⟩
  rintro ⟨⟩ h2 ⟨p1, c1, h1, o1, k1, hp1, k2, hb2⟩
  refine join_of (cs := []) (fun _ h' => ∃ es', es'.length ≤ 4001 ∧ BookTo h gb b pl pw es p h' es') ?_ ?_
  · refine osome_mk rfl ?_
    rw [add_box]
    refine loads_box hb2 ((pw, es.length, cw), ()) rfl ?_
    dsimp only [flat, unc, unc1, List.nil_append, List.cons_append]
    have s2 : SL h2 b 80 2 p l c (ts.map encT) := (s.keep' k1 fun i hi => (hfresh i hi).2.1).keep' k2 fun i hi => by simp; exact (hfresh i hi).1
    have hpl : (ts.map encT).flatten.all plainV = true := by
      rw [List.all_eq_true]
      intro v hv
      obtain ⟨x, hx, hv⟩ := List.mem_flatten.1 hv
      obtain ⟨t, _, rfl⟩ := List.mem_map.1 hx
      simp only [encT, List.mem_cons, List.not_mem_nil, or_false] at hv
      rcases hv with rfl | rfl <;> rfl
    have g1 := k1.size
    have g2 := k2.size
    refine copy_of (e := 80) (z := .agg #[.string ⟨#[]⟩, .int .u32 0]) (sz := 2) (by' := 24) (b' := b) (by kernel_rfl) (by kernel_rfl) rfl s2 hpl (by omega) (by omega) (by omega) ?_
    intro q d h3 sq k3 hq
    have hb3 := hb2.keep k3 (by simp)
    refine ⟨⟨hb3.cells _ rfl, trivial⟩, ?_⟩
    have g3 := k3.size
    have w3 : SL h3 b 67 1 pw es.length cw (es.map Ent.two) := ((B.two.keep' k1 fun i hi hh => B.plw i hh hi).keep' k2 fun i hi => by simp; exact fun e => B.gpw (e ▸ hi)).keep' k3 (by simp)
    refine push_st (e := 67) (z := .slice none 0 0) (sz := 1) (by' := 24) (vs := [.slice q l d]) (by kernel_rfl) (by kernel_rfl) rfl (by omega) (by omega) (by kernel_rfl) rfl rfl w3 (by omega) (by omega) (by omega) (fun h' e => ⟨(hb3.keep e (by simp)).cells _ rfl, trivial⟩) ?_
    intro p2 c2 h4 o2 k4 hp2
    have hb4 := hb3.keep k4 B.gpw
    refine osome_mk rfl ?_
    rw [add_box]
    refine stores_of hb4 rfl (by simp) ?_
    intro h5 hb5 k5 z5
    have hb5 : Box h5 gb 89 [.slice p1 (es.length + 1) c1, .slice p2 (es.length + 1) c2, .int .i64 held0, .bool false] := hb5
    refine meet_mk (cs := []) () rfl rfl ⟨es ++ [⟨p, l, c, q, d, ts⟩], by simp; omega, p1, c1, p2, c2, ?_, ?_, ?_, ?_, ?_⟩
    · -- the book
      have bp1 : ∀ i, i ∈ blkOf p1 → i ∈ blkOf pl ∨ h.size ≤ i := by
        intro i hi
        rcases hp1 with rfl | ⟨a, rfl, ha⟩
        · exact .inl hi
        · simp [blkOf] at hi; right; omega
      have bp2 : ∀ i, i ∈ blkOf p2 → i ∈ blkOf pw ∨ h3.size ≤ i := by
        intro i hi
        rcases hp2 with rfl | ⟨a, rfl, ha⟩
        · exact .inl hi
        · simp [blkOf] at hi; right; omega
      have bq : ∀ i, i ∈ blkOf q → h2.size ≤ i ∧ i < h3.size := by
        intro i hi
        refine ⟨?_, (sq.blk hi).2⟩
        rcases hq with rfl | ⟨a, rfl, ha⟩
        · simp [blkOf] at hi
        · simp [blkOf] at hi; omega
      have lp1 : ∀ i, i ∈ blkOf p1 → i < h1.size := fun i hi => (o1.blk hi).2
      have lp : ∀ i, i ∈ blkOf p → i < h.size := fun i hi => (s.blk hi).2
      have o1' : SL h5 b 67 1 p1 (es.length + 1) c1 (es.map Ent.one ++ [[.slice p l c]]) := by
        refine (((o1.keep' k2 fun i hi => ?_).keep' k3 (by simp)).keep' k4 fun i hi hh => ?_).keep' k5 fun i hi => ?_
        · simp; intro e; subst e
          rcases bp1 i hi with hh | hh
          · exact B.gpl hh
          · have := hsz.1; omega
        · rcases bp1 i hi with h' | h'
          · exact B.plw i h' hh
          · have := hsz.2.2.1 i hh; omega
        · simp; intro e; subst e
          rcases bp1 i hi with hh | hh
          · exact B.gpl hh
          · have := hsz.1; omega
      have o2' : SL h5 b 67 1 p2 (es.length + 1) c2 (es.map Ent.two ++ [[.slice q l d]]) := o2.keep' k5 fun i hi => by
        simp; intro e; subst e
        rcases bp2 i hi with hh | hh
        · exact B.gpw hh
        · have := hsz.1; omega
      have kall : ∀ {e' : TypeId} {sz : Nat} {p' : Option Addr} {l' c' : Nat} {xs : List (List Value)}, SL h b e' sz p' l' c' xs → (∀ i, i ∈ blkOf p' → i ≠ gb ∧ i ∉ blkOf pl ∧ i ∉ blkOf pw) → SL h5 b e' sz p' l' c' xs := by
        intro e' sz p' l' c' xs s' hd
        exact ((((s'.keep' k1 fun i hi => (hd i hi).2.1).keep' k2 fun i hi => by simp; exact (hd i hi).1).keep' k3 (by simp)).keep' k4 fun i hi => (hd i hi).2.2).keep' k5 fun i hi => by simp; exact (hd i hi).1
      have hsq : SL h5 b 80 2 q l d (ts.map encT) := (sq.keep' k4 fun i hi hh => by have := (bq i hi).1; have := hsz.2.2.1 i hh; omega).keep' k5 fun i hi => by
        simp; intro e; subst e; have := (bq i hi).1; have := hsz.1; omega
      have hlen1 : (es ++ [(⟨p, l, c, q, d, ts⟩ : Ent)]).length = es.length + 1 := by simp
      refine ⟨⟨held0, by rw [hlen1]; exact hb5⟩, B.ge, by rw [hlen1, List.map_append]; exact o1', by rw [hlen1, List.map_append]; exact o2', ?_, ?_, ?_, ?_, ?_, ?_, ?_⟩
      · intro e he
        rcases List.mem_append.1 he with he | he
        · have hd := B.eg e he
          exact ⟨kall (B.ent e he).1 fun i hi => hd i (List.mem_append_left _ hi), kall (B.ent e he).2.1 fun i hi => hd i (List.mem_append_right _ hi), (B.ent e he).2.2⟩
        · have he : e = ⟨p, l, c, q, d, ts⟩ := by simpa using he
          subst he
          exact ⟨kall s fun i hi => ⟨(hfresh i hi).1, (hfresh i hi).2.1, (hfresh i hi).2.2.1⟩, hsq, hts⟩
      · intro hi
        rcases bp1 gb hi with hh | hh
        · exact B.gpl hh
        · have := hsz.1; omega
      · intro hi
        rcases bp2 gb hi with hh | hh
        · exact B.gpw hh
        · have := hsz.1; omega
      · intro i hi hi2
        rcases bp1 i hi with hh | hh <;> rcases bp2 i hi2 with h' | h'
        · exact B.plw i hh h'
        · have := hsz.2.1 i hh; omega
        · have := hsz.2.2.1 i h'; omega
        · have := lp1 i hi; omega
      · intro e he i hi
        rcases List.mem_append.1 he with he | he
        · have hd := B.eg e he i hi
          have hlt := hsz.2.2.2 e he i hi
          exact ⟨hd.1, fun hh => (bp1 i hh).elim hd.2.1 (by omega), fun hh => (bp2 i hh).elim hd.2.2 (by omega)⟩
        · have he : e = ⟨p, l, c, q, d, ts⟩ := by simpa using he
          subst he
          rcases List.mem_append.1 hi with hi | hi
          · have hd := hfresh i hi
            have hlt := lp i hi
            exact ⟨hd.1, fun hh => (bp1 i hh).elim hd.2.1 (by omega), fun hh => (bp2 i hh).elim hd.2.2.1 (by omega)⟩
          · have := bq i hi
            refine ⟨by have := hsz.1; omega, fun hh => ?_, fun hh => ?_⟩
            · have := lp1 i hh; omega
            · rcases bp2 i hh with hh | hh
              · have := hsz.2.2.1 i hh; omega
              · omega
      · intro e he i hi
        rcases List.mem_append.1 he with he | he
        · exact B.pq e he i hi
        · have he : e = ⟨p, l, c, q, d, ts⟩ := by simpa using he
          subst he
          intro hh
          have := (bq i hh).1
          have := lp i hi
          omega
      · refine List.pairwise_append.2 ⟨B.ee, by simp, ?_⟩
        intro e he f hf i hi hh
        have hf : f = ⟨p, l, c, q, d, ts⟩ := by simpa using hf
        subst hf
        rcases List.mem_append.1 hh with hh | hh
        · exact (hfresh i hh).2.2.2 e he hi
        · have := (bq i hh).1
          have := hsz.2.2.2 e he i hi
          omega
    · refine Ch.trans (Ch.trans (Ch.trans (Ch.trans (k1.mono fun i hi _ => by simp [hi]) k2 fun i hi _ => by simp at hi; simp [hi]) k3 (by simp)) k4 fun i hi _ => by simp [hi]) k5 fun i hi _ => by simp at hi; simp [hi]
    · intro i hi
      rcases hp1 with rfl | ⟨a, rfl, ha⟩
      · exact .inl hi
      · simp [blkOf] at hi; right; omega
    · intro i hi
      rcases hp2 with rfl | ⟨a, rfl, ha⟩
      · exact .inl hi
      · simp [blkOf] at hi; right; omega
    · intro e he i hi
      rcases List.mem_append.1 he with he | he
      · exact .inr (.inr ⟨e, he, hi⟩)
      · have he : e = ⟨p, l, c, q, d, ts⟩ := by simpa using he
        subst he
        rcases List.mem_append.1 hi with hi | hi
        · exact .inl hi
        · right; left
          rcases hq with rfl | ⟨a, rfl, ha⟩
          · simp [blkOf] at hi
          · simp [blkOf] at hi; omega
  · rintro ⟨⟩ h1 ⟨es1, hl1, pl1, cl1, pw1, cw1, B1, k1, a1, a2, a3⟩
    obtain ⟨held, hb⟩ := B1.box
    refine osome_mk rfl ?_
    rw [add_box]
    refine loads_box hb (held, ()) rfl ?_
    dsimp only [flat, unc, unc1, List.nil_append, List.cons_append]
    refine osome_mk rfl ?_
    rw [add_box]
    refine stores_of hb rfl (by simp) ?_
    intro h2 hb2 k2 z2
    refine loop_of (cs := []) (fun _ n h' => ∃ es', es'.length ≤ 4001 ∧ n = es'.length ∧ BookTo h gb b pl pw es p h' es') () es1.length rfl ⟨es1, hl1, rfl, pl1, cl1, pw1, cw1, B1.rebox k2 hb2, chGb k1 k2, a1, a2, a3⟩ ?_
    clear hb k2 hb2 z2 B1 k1 a1 a2 a3 hl1 es1
    rintro ⟨⟩ m h3 ⟨es1, hl1, rfl, hB⟩
    refine join_of (cs := []) (fun _ h' => ∃ es', es'.length = es1.length ∧ 1 < es'.length ∧ BookTo h gb b pl pw es p h' es') ?_ ?_
    · have hB0 := hB
      obtain ⟨pl1, cl1, pw1, cw1, B1, k1, a1, a2, a3⟩ := hB
      obtain ⟨held, hb⟩ := B1.box
      refine osome_mk rfl (loads_box hb ((pl1, es1.length, cl1), ()) rfl ?_)
      dsimp only [flat, unc, unc1, List.nil_append, List.cons_append]
      refine cond_mk (fun g1 => ?_) (fun g1 => ?_)
      · have g1 := of_decide_eq_true g1
        refine osome_mk rfl ?_
        rw [add_box]
        refine loads_box hb (held, ()) rfl ?_
        dsimp only [flat, unc, unc1, List.nil_append, List.cons_append]
        have mt : ∀ L, (T.again 1 []) [L, fun vs h' => ∃ y : HVs (flat []), vs = parts [] (hvs _ y) ∧ ∃ es', es'.length = es1.length ∧ 1 < es'.length ∧ BookTo h gb b pl pw es p h' es'] (fun v h' => v = .tuple #[] ∧ ∃ es', es'.length ≤ 4000 ∧ BookTo h gb b pl pw es p h' es') h3 :=
          fun L => meet_mk (cs := []) () rfl rfl ⟨es1, rfl, by omega, hB0⟩
        refine cond_mk (fun g2 => mt _) (fun g2 => ?_)
        refine osome_mk rfl (loads_box hb ((pl1, es1.length, cl1), ()) rfl ?_)
        dsimp only [flat, unc, unc1, List.nil_append, List.cons_append]
        refine cond_mk (fun g3 => mt _) (fun g3 => ?_)
        have g3 := of_decide_eq_false g3
        exact ⟨rfl, es1, by omega, hB0⟩
      · have g1 := of_decide_eq_false g1
        exact ⟨rfl, es1, by omega, hB0⟩
    · rintro ⟨⟩ h4 ⟨es2, hl2, hg2, hB⟩
      refine join_of (cs := []) (fun _ h' => ∃ es', es'.length = es1.length ∧ 1 < es'.length ∧ BookTo h gb b pl pw es p h' es') ?_ ?_
      · obtain ⟨pl1, cl1, pw1, cw1, B1, k1, a1, a2, a3⟩ := hB
        obtain ⟨held, hb⟩ := B1.box
        refine osome_mk rfl ?_
        rw [add_box]
        refine loads_box hb (false, ()) rfl ?_
        dsimp only [flat, unc, unc1, List.nil_append, List.cons_append]
        refine cond_f rfl (osome_mk rfl (loads_box hb ((pl1, es2.length, cl1), ()) rfl ?_))
        dsimp only [flat, unc, unc1, List.nil_append, List.cons_append]
        obtain ⟨q1, hq1, c1⟩ := B1.one.cells (i := 0) (by rw [List.length_map]; omega)
        obtain ⟨q2, hq2, c2⟩ := B1.two.cells (i := 0) (by rw [List.length_map]; omega)
        rw [List.getElem_map] at c1 c2
        have hent := B1.ent es2[0] (List.getElem_mem (by omega))
        generalize es2[0] = e at c1 c2 hent
        refine need_of ⟨by omega, by omega⟩ (osome_mk hq1 (loads_of ((e.p, e.l, e.c), ()) c1 ?_))
        dsimp only [flat, unc, unc1, List.nil_append, List.cons_append]
        refine osome_mk rfl ?_
        rw [add_box]
        refine loads_box hb ((pw1, es2.length, cw1), ()) rfl ?_
        dsimp only [flat, unc, unc1, List.nil_append, List.cons_append]
        refine need_of ⟨by omega, by omega⟩ (osome_mk hq2 (loads_of ((e.q, e.l, e.d), ()) c2 ?_))
        dsimp only [flat, unc, unc1, List.nil_append, List.cons_append]
        refine call_bool (sameTS_hc (by have := hent.2.2; omega) hent.1 hent.2.1) ?_
        refine ⟨⟨hb.cells _ rfl, hb.cells _ rfl, ?_, trivial⟩, ?_⟩
        · exact hb.cells _ rfl
        refine osome_mk rfl ?_
        rw [add_box]
        refine stores_of hb rfl (by simp) ?_
        intro h5 hb5 k5 z5
        exact meet_mk (cs := []) () rfl rfl ⟨es2, hl2, hg2, pl1, cl1, pw1, cw1, B1.rebox k5 hb5, chGb k1 k5, a1, a2, a3⟩
      · clear hB hl2 hg2 es2
        rintro ⟨⟩ h5 ⟨es2, hl2, hg2, pl1, cl1, pw1, cw1, B0, k0, a1, a2, a3⟩
        obtain ⟨held5, hb5⟩ := B0.box
        refine osome_mk rfl ?_
        rw [add_box]
        refine loads_box hb5 (held5, ()) rfl ?_
        dsimp only [flat, unc, unc1, List.nil_append, List.cons_append]
        refine osome_mk rfl (loads_box hb5 ((pl1, es2.length, cl1), ()) rfl ?_)
        dsimp only [flat, unc, unc1, List.nil_append, List.cons_append]
        obtain ⟨q1, hq1, c1⟩ := B0.one.cells (i := 0) (by rw [List.length_map]; omega)
        rw [List.getElem_map] at c1
        generalize es2[0] = e at c1
        refine need_of ⟨by omega, by omega⟩ (osome_mk hq1 (loads_of ((e.p, e.l, e.c), ()) c1 ?_))
        dsimp only [flat, unc, unc1, List.nil_append, List.cons_append]
        refine osome_mk rfl ?_
        rw [add_box]
        refine stores_of hb5 rfl (by simp) ?_
        intro h6 hb6 k6 z6
        have B1 := B0.rebox k6 hb6
        have k1 := chGb k0 k6
        obtain ⟨held, hb⟩ := B1.box
        have hcap : ∀ {p' : Option Addr} {c' : Nat} {xs : List (List Value)}, SL h6 b 67 1 p' es2.length c' xs → es2.length ≤ c' := by
          intro p' c' xs s'
          cases p' with
          | none =>
            have h1 := s'.2.2.2
            have h2 := s'.1
            rw [h1, List.length_nil] at h2; omega
          | some a => obtain ⟨_, _, _, _, _, hh, _⟩ := s'.2.2; exact hh.1
        have hc1 := hcap B1.one
        have hc2 := hcap B1.two
        refine osome_mk rfl (loads_box hb ((pl1, es2.length, cl1), ()) rfl ?_)
        dsimp only [flat, unc, unc1, List.nil_append, List.cons_append]
        refine need_of ⟨by omega, by omega, by omega⟩ (osome_mk rfl ?_)
        rw [if_neg (by omega)]
        refine stores_of hb rfl (by simp) ?_
        intro h7 hb7 k7 z7
        have hb7 : Box h7 gb 89 [.slice (pl1.map fun a => a.add 1) (es2.length - 1) (cl1 - 1), .slice pw1 es2.length cw1, .int .i64 held, .bool false] := hb7
        refine osome_mk rfl ?_
        rw [add_box]
        refine loads_box hb7 ((pw1, es2.length, cw1), ()) rfl ?_
        dsimp only [flat, unc, unc1, List.nil_append, List.cons_append]
        refine need_of ⟨by omega, by omega, by omega⟩ (osome_mk rfl ?_)
        rw [if_neg (by omega), add_box]
        refine stores_of hb7 rfl (by simp) ?_
        intro h8 hb8 k8 z8
        have hb8 : Box h8 gb 89 [.slice (pl1.map fun a => a.add 1) (es2.length - 1) (cl1 - 1), .slice (pw1.map fun a => a.add 1) (es2.length - 1) (cw1 - 1), .int .i64 held, .bool false] := hb8
        have k78 : Ch [gb] h6 h8 := k7.trans k8 (fun i hi _ => hi)
        refine again_mk (cs := []) () (es2.length - 1) rfl (by omega) rfl ⟨es2.drop 1, by simp; omega, by simp, _, _, _, _, B1.tail k78 (by omega) hb8, chGb k1 k78, ?_, ?_, fun e he => a3 e (List.mem_of_mem_drop he)⟩
        · rw [blkOf_add]; exact a1
        · rw [blkOf_add]; exact a2
end Go.Sx.TB

set_option linter.unusedVariables false
set_option maxRecDepth 100000
namespace Go.Sx.TB
open Go.Sx
open Go.Proofs
/-- What lay below a place lies there as it did. -/
def Since (b : Nat) (h h' : Hp) : Prop := h.size ≤ h'.size ∧ ∀ i, i < b → i < h.size → h'[i]? = h[i]?
theorem Since.of {ws : List Nat} {b : Nat} {h h' : Hp} (k : Ch ws h h') (hw : ∀ i, i ∈ ws → i < h.size → b ≤ i) : Since b h h' :=
  ⟨k.size, fun i hi hl => k.same i hl fun hm => by have := hw i hm hl; omega⟩
theorem Since.trans {b : Nat} {h h1 h2 : Hp} (a : Since b h h1) (c : Since b h1 h2) : Since b h h2 :=
  ⟨Nat.le_trans a.1 c.1, fun i hi hl => (c.2 i hi (Nat.lt_of_lt_of_le hl a.1)).trans (a.2 i hi hl)⟩
theorem Since.ext {h h1 h2 : Hp} (a : Ext h h1) (c : Since h.size h1 h2) : Ext h h2 :=
  ⟨Nat.le_trans a.size c.1, fun i hi _ => (c.2 i hi (Nat.lt_of_lt_of_le hi a.size)).trans (a.same i hi (by simp))⟩
/-- Stays: each list is as its copy. -/
theorem stays_hc {h : Hp} {gb b : Nat} {pl : Option Addr} {cl : Nat} {pw : Option Addr} {cw : Nat} {es : List Ent} (B : Book h gb b pl cl pw cw es) (hlen : es.length ≤ 4000) :
    HC Tryd.prog 87 #[.pointer (some ⟨gb, 0, none⟩)] h fun v h' => v = .bool true ∧ Book h' gb b pl cl pw cw es ∧ Ch [gb] h h' := by
  refine hcr_of (args := [.pointer (some ⟨gb, 0, none⟩)]) mixed Tryd.func87 (by kernel_rfl) (t_spandrelbook_Book_api_Term___Stays_eq (some ⟨gb, 0, none⟩)) ?_
  unfold t_spandrelbook_Book_api_Term___Stays
  refine loop_of (cs := [(false, [.int .i64])]) (fun x n h' => ∃ i : Nat, x.1 = (i : Int) ∧ i ≤ es.length ∧ n = es.length - i ∧ Book h' gb b pl cl pw cw es ∧ Ch [gb] h h') ((0 : Int), ()) es.length rfl ⟨0, rfl, by omega, by omega, B, Ch.refl _ _⟩ ?_
  clear B
  rintro ⟨n1, ⟨⟩⟩ m h1 ⟨i, hi, hile, rfl, B, k1⟩
  simp only at hi
  subst hi
  dsimp only [flat, unc, unc1, List.nil_append, List.cons_append]
  obtain ⟨held, hb⟩ := B.box
  refine osome_mk rfl (loads_box hb ((pl, es.length, cl), ()) rfl ?_)
  dsimp only [flat, unc, unc1, List.nil_append, List.cons_append]
  refine cond_mk (fun g1 => ?_) (fun g1 => ?_)
  · have g1 := of_decide_eq_true g1
    have hlt : i < es.length := by omega
    refine osome_mk rfl ?_
    rw [add_box]
    refine loads_box hb (false, ()) rfl ?_
    dsimp only [flat, unc, unc1, List.nil_append, List.cons_append]
    refine cond_f rfl (osome_mk rfl (loads_box hb ((pl, es.length, cl), ()) rfl ?_))
    dsimp only [flat, unc, unc1, List.nil_append, List.cons_append]
    obtain ⟨q1, hq1, c1⟩ := B.one.cells (i := i) (by rw [List.length_map]; omega)
    obtain ⟨q2, hq2, c2⟩ := B.two.cells (i := i) (by rw [List.length_map]; omega)
    rw [List.getElem_map] at c1 c2
    have hent := B.ent es[i] (List.getElem_mem hlt)
    generalize es[i] = e at c1 c2 hent
    rw [show Int.toNat (i : Int) = i by omega]
    refine need_of ⟨by omega, by omega⟩ (osome_mk hq1 (loads_of ((e.p, e.l, e.c), ()) c1 ?_))
    dsimp only [flat, unc, unc1, List.nil_append, List.cons_append]
    refine osome_mk rfl ?_
    rw [add_box]
    refine loads_box hb ((pw, es.length, cw), ()) rfl ?_
    dsimp only [flat, unc, unc1, List.nil_append, List.cons_append]
    refine need_of ⟨by omega, by omega⟩ (osome_mk hq2 (loads_of ((e.q, e.l, e.d), ()) c2 ?_))
    refine call_bool (sameTS_hc (by have := hent.2.2; omega) hent.1 hent.2.1) ?_
    refine ⟨⟨hb.cells _ rfl, hb.cells _ rfl, hb.cells _ rfl, trivial⟩, ?_⟩
    refine osome_mk rfl ?_
    rw [add_box]
    refine stores_of hb rfl (by simp) ?_
    intro h5 hb5 k5 z5
    have hw : IntKind.wrap .i64 ((i : Int) + 1) = ((i + 1 : Nat) : Int) := by rw [wrap_i64 (by omega) (by omega)]; omega
    exact again_mk (cs := [(false, [.int .i64])]) (((i + 1 : Nat) : Int), ()) (es.length - (i + 1)) rfl (by omega) (congrArg (fun z => [Value.int .i64 z]) hw) ⟨i + 1, rfl, by omega, rfl, B.rebox k5 hb5, k1.trans k5 (fun j hj _ => hj)⟩
  · refine osome_mk rfl ?_
    rw [add_box]
    refine loads_box hb (false, ()) rfl ?_
    exact ⟨rfl, B, k1⟩
/-- The mark of a place. -/
def markB : ByteArray := ⟨#[109, 97, 114, 107]⟩
def mkN (i j : Int) : Int := IntKind.wrap .u32 ((IntKind.wrap .u32 ((IntKind.wrap .u32 i) * (65536 : Int))) + (IntKind.wrap .u32 j))
def mkL (k j : Nat) : List Value := [.string markB, .int .u32 (mkN k j)]
/-- A list's whole room, of which so much is marked. -/
def Room (h : Hp) (b : Nat) (p : Option Addr) (c k m : Nat) : Prop :=
  match p with
  | none => c = 0
  | some a => ∃ g o cells, a = ⟨g, o, none⟩ ∧ b ≤ g ∧ c < 9223372036854775808 ∧ Box h g 80 cells ∧ o + c * 2 ≤ cells.length ∧ ∀ j, j < m → (cells.drop (o + j * 2)).take 2 = mkL k j
theorem Room.of_SL {h : Hp} {b : Nat} {p : Option Addr} {l c : Nat} {xs : List (List Value)} (s : SL h b 80 2 p l c xs) (k : Nat) : Room h b p c k 0 := by
  cases p with
  | none => exact s.2.2.1
  | some a =>
    obtain ⟨g, pre, rest, rfl, hbg, hlc, hbox, hr⟩ := s.2.2
    have hx := flatten_length xs s.2.1
    have := s.1
    refine ⟨g, pre.length, _, rfl, hbg, hlc.2, hbox, ?_, fun j hj => by omega⟩
    rw [List.length_append, List.length_append, hx, hr, ← this]
    omega
theorem Room.keep {ws : List Nat} {h h' : Hp} {b : Nat} {p : Option Addr} {c k m : Nat} (r : Room h b p c k m) (kk : Ch ws h h') (hw : ∀ i, i ∈ blkOf p → i ∉ ws) : Room h' b p c k m := by
  cases p with
  | none => exact r
  | some a =>
    obtain ⟨g, o, cells, rfl, hbg, hc, hbox, hr, hm⟩ := r
    exact ⟨g, o, cells, rfl, hbg, hc, hbox.keep kk (hw g (by simp [blkOf])), hr, hm⟩
theorem setL_take {cells vs : List Value} {o n : Nat} (hv : vs.length = n) (h : o + n ≤ cells.length) : ((setL cells o vs).drop o).take n = vs := by
  rw [setL_eq _ _ _ (by omega), List.append_assoc]
  rw [List.drop_append_of_le_length (by rw [List.length_take]; omega), List.drop_of_length_le (by rw [List.length_take]; omega), List.nil_append, List.take_append_of_le_length (by omega), List.take_of_length_le (by omega)]
theorem setL_before {cells vs : List Value} {o o' n : Nat} (h : o + vs.length ≤ cells.length) (h' : o' + n ≤ o) : ((setL cells o vs).drop o').take n = (cells.drop o').take n := by
  rw [setL_eq _ _ _ (by omega), List.append_assoc]
  rw [List.drop_append_of_le_length (by rw [List.length_take]; omega), List.take_append_of_le_length (by rw [List.length_drop, List.length_take]; omega)]
  rw [List.drop_take, List.take_take, Nat.min_eq_left (by omega)]
theorem mark_hc (i j : Int) (h : Hp) : HC Tryd.prog 58 #[.int .i64 i, .int .i64 j] h fun v h' => v = .agg #[.string markB, .int .u32 (mkN i j)] ∧ Ext h h' := by
  refine hcr_of (args := [.int .i64 i, .int .i64 j]) mixed Tryd.func58 (by kernel_rfl) (t_spandrellaw4_mark_eq i j) ?_
  unfold t_spandrellaw4_mark
  refine newB ?_
  intro h1 b1 e1 z1
  refine need_of (by decide) ?_
  refine stores_of b1 rfl (by simp) ?_
  intro h2 b2 k2 z2
  have b2 : Box h2 h.size 80 [.string markB, .int .u32 (mkN i j)] := b2
  refine loads_box b2 (markB, mkN i j, ()) rfl ?_
  exact ⟨rfl, Ch.trans e1 k2 (fun i hi hl => by simp at hi; omega)⟩
/-- The state of a book while it is marked. -/
structure Marking (h : Hp) (gb b : Nat) (pl : Option Addr) (cl : Nat) (es : List Ent) (i m : Nat) : Prop where
  box : ∃ (v w : Value), Box h gb 89 [.slice pl es.length cl, v, w, .bool false]
  one : SL h b 67 1 pl es.length cl (es.map Ent.one)
  room : ∀ k, (hk : k < es.length) → Room h b es[k].p es[k].c k (if k < i then es[k].c else if k = i then m else 0)
theorem Marking.keep {ws : List Nat} {h h' : Hp} {gb b : Nat} {pl : Option Addr} {cl : Nat} {es : List Ent} {i m : Nat} (M : Marking h gb b pl cl es i m) (k : Ch ws h h') (h1 : gb ∉ ws) (h2 : ∀ i, i ∈ blkOf pl → i ∉ ws) (h3 : ∀ e, e ∈ es → ∀ i, i ∈ e.blks → i ∉ ws) :
    Marking h' gb b pl cl es i m := by
  obtain ⟨v, w, hb⟩ := M.box
  exact ⟨⟨v, w, hb.keep k h1⟩, M.one.keep' k h2, fun j hj => (M.room j hj).keep k fun x hx => h3 es[j] (List.getElem_mem hj) x (List.mem_append_left _ hx)⟩
theorem apart_hc {h : Hp} {gb b : Nat} {pl : Option Addr} {cl : Nat} {pw : Option Addr} {cw : Nat} {es : List Ent} (B : Book h gb b pl cl pw cw es) (hlen : es.length ≤ 4000) (hbs : b ≤ h.size) :
    HC Tryd.prog 57 #[.pointer (some ⟨gb, 0, none⟩), .func (Fn.func 58) #[] #[]] h fun v h' => v = .bool true ∧ Since b h h' := by
  refine hcr_of (args := [.pointer (some ⟨gb, 0, none⟩), .func (Fn.func 58) #[] #[]]) mixed Tryd.func57 (by kernel_rfl) (t_spandrelbook_Book_api_Term___Apart_s58_eq (some ⟨gb, 0, none⟩)) ?_
  unfold t_spandrelbook_Book_api_Term___Apart_s58
  refine call_of (stays_hc B hlen) ?_
  rintro _ h0 ⟨rfl, B0, k0⟩
  refine ⟨(true, ()), rfl, ?_⟩
  dsimp only [flat, unc, unc1, List.nil_append, List.cons_append]
  refine cond_f rfl ?_
  have s0 : Since b h h0 := Since.of k0 fun i hi _ => by simp at hi; subst hi; exact B.ge
  have M0 : Marking h0 gb b pl cl es 0 0 := by
    obtain ⟨held, hb⟩ := B0.box
    refine ⟨⟨_, _, hb⟩, B0.one, fun k hk => ?_⟩
    have := Room.of_SL (B0.ent es[k] (List.getElem_mem hk)).1 k
    rw [if_neg (by omega)]
    by_cases h : k = 0
    · rw [if_pos h]; exact this
    · rw [if_neg h]; exact this
  have hsz : h.size ≤ h0.size := k0.size
  have gpl := B.gpl
  have eg := B.eg
  have hge := B.ge
  have hpw : ∀ i j (hi : i < es.length) (hj : j < es.length), i ≠ j → ∀ x, x ∈ es[i].blks → x ∉ es[j].blks := by
    intro i j hi hj hij x hx
    rcases Nat.lt_or_ge i j with h1 | h1
    · exact (List.pairwise_iff_getElem.1 B.ee) i j hi hj h1 x hx
    · intro hx2
      exact (List.pairwise_iff_getElem.1 B.ee) j i hj hi (by omega) x hx2 hx
  have hlt := B.lt
  clear B B0
  -- the marking
  refine loop_of (cs := [(false, [.int .i64])]) (fun x n h' => ∃ i : Nat, x.1 = (i : Int) ∧ i ≤ es.length ∧ n = es.length - i ∧ Marking h' gb b pl cl es i 0 ∧ Since b h h' ∧ h.size ≤ h'.size) ((0 : Int), ()) es.length rfl ⟨0, rfl, by omega, by omega, M0, s0, hsz⟩ ?_
  clear M0 s0 hsz k0 h0
  rintro ⟨n1, ⟨⟩⟩ m0 h1 ⟨i, hi, hile, rfl, M, s1, z1⟩
  simp only at hi
  subst hi
  dsimp only [flat, unc, unc1, List.nil_append, List.cons_append]
  obtain ⟨v, w, hb⟩ := M.box
  refine osome_mk rfl (loads_box hb ((pl, es.length, cl), ()) rfl ?_)
  dsimp only [flat, unc, unc1, List.nil_append, List.cons_append]
  refine cond_mk (fun g1 => ?_) (fun g1 => ?_)
  · have g1 := of_decide_eq_true g1
    have hilt : i < es.length := by omega
    obtain ⟨q1, hq1, c1⟩ := M.one.cells (i := i) (by rw [List.length_map]; omega)
    rw [List.getElem_map] at c1
    rw [show Int.toNat (i : Int) = i by omega]
    refine osome_mk rfl (loads_box hb ((pl, es.length, cl), ()) rfl ?_)
    dsimp only [flat, unc, unc1, List.nil_append, List.cons_append]
    refine need_of ⟨by omega, by omega⟩ (osome_mk hq1 (loads_of ((es[i].p, es[i].l, es[i].c), ()) c1 ?_))
    dsimp only [flat, unc, unc1, List.nil_append, List.cons_append]
    refine osome_mk rfl (loads_box hb ((pl, es.length, cl), ()) rfl ?_)
    dsimp only [flat, unc, unc1, List.nil_append, List.cons_append]
    refine need_of ⟨by omega, by omega⟩ (osome_mk hq1 (loads_of ((es[i].p, es[i].l, es[i].c), ()) c1 ?_))
    dsimp only [flat, unc, unc1, List.nil_append, List.cons_append]
    refine need_of ⟨by omega, by omega, by omega⟩ ?_
    clear hb c1 hq1 q1
    refine loop_of (cs := [(false, [.int .i64])]) (fun x n h' => ∃ j : Nat, x.1 = (j : Int) ∧ j ≤ es[i].c ∧ n = es[i].c - j ∧ Marking h' gb b pl cl es i j ∧ Since b h h' ∧ h.size ≤ h'.size) ((0 : Int), ()) es[i].c rfl ⟨0, rfl, by omega, by omega, M, s1, z1⟩ ?_
    clear M s1 z1 v w
    rintro ⟨n2, ⟨⟩⟩ m1 h2 ⟨j, hj, hjle, rfl, M, s2, z2⟩
    simp only at hj
    subst hj
    dsimp only [flat, unc, unc1, List.nil_append, List.cons_append]
    refine cond_mk (fun g2 => ?_) (fun g2 => ?_)
    · have g2 := of_decide_eq_true g2
      have hjlt : j < es[i].c := by omega
      refine callv_of (cap := []) (by kernel_rfl) rfl (mark_hc i j h2) ?_
      rintro _ h3 ⟨rfl, e3⟩
      refine ⟨(markB, mkN i j, ()), rfl, ?_⟩
      dsimp only [flat, unc, unc1, List.nil_append, List.cons_append]
      have M3 := M.keep e3 (by simp) (by simp) (by simp)
      refine need_of ⟨by omega, by omega⟩ ?_
      have hroom := M3.room i hilt
      rw [if_neg (by omega), if_pos rfl] at hroom
      cases hp : es[i].p with
      | none =>
        rw [hp] at hroom
        have : es[i].c = 0 := hroom
        omega
      | some a =>
        rw [hp] at hroom
        obtain ⟨g, o, cells, rfl, hbg, hcm, hbox, hr, hm⟩ := hroom
        have hgb : g ∈ es[i].blks := by unfold Ent.blks; rw [hp]; simp [blkOf]
        rw [if_neg (by omega)]
        refine osome_mk (a := ⟨g, o, none⟩) (by rw [Option.map_some, add_box, Nat.add_zero]) ?_
        rw [add_box, show Int.toNat (j : Int) = j by omega]
        refine stores_of hbox rfl (by simp; omega) ?_
        intro h4 hb4 k4 z4
        have hw : IntKind.wrap .i64 ((j : Int) + 1) = ((j + 1 : Nat) : Int) := by rw [wrap_i64 (by omega) (by omega)]; omega
        have hcl : (setL cells (o + j * 2) (mkL i j)).length = cells.length := setL_length _ _ _
        refine again_mk (cs := [(false, [.int .i64])]) (((j + 1 : Nat) : Int), ()) (es[i].c - (j + 1)) rfl (by omega) (congrArg (fun z => [Value.int .i64 z]) hw) ⟨j + 1, rfl, by omega, rfl, ?_, ?_, ?_⟩
        · obtain ⟨v, w, hb⟩ := M3.box
          refine ⟨⟨v, w, hb.keep k4 ?_⟩, M3.one.keep' k4 fun x hx => ?_, fun k hk => ?_⟩
          · simp; exact fun e => (eg es[i] (List.getElem_mem hilt) g hgb).1 e.symm
          · simp; intro e; subst e; exact (eg es[i] (List.getElem_mem hilt) x hgb).2.1 hx
          · by_cases hki : k = i
            · subst hki
              rw [if_neg (by omega), if_pos rfl, hp]
              refine ⟨g, o, _, rfl, hbg, hcm, hb4, by rw [setL_length]; exact hr, fun j' hj' => ?_⟩
              by_cases hjj : j' = j
              · subst hjj
                exact setL_take rfl (by omega)
              · rw [← hm j' (by omega)]
                exact setL_before (vs := mkL k j) (by show _ + 2 ≤ _; omega) (by omega)
            · have := M3.room k hk
              rw [if_neg hki] at this ⊢
              refine this.keep k4 fun x hx => ?_
              simp; intro e; subst e
              exact hpw k i hk hilt hki x (List.mem_append_left _ hx) hgb
        · exact (s2.trans (Since.of e3 (by simp))).trans (Since.of k4 fun x hx _ => by simp at hx; subst hx; exact hbg)
        · have := e3.size; have := k4.size; omega
    · have g2 := of_decide_eq_false g2
      have hj : j = es[i].c := by omega
      subst hj
      have hw : IntKind.wrap .i64 ((i : Int) + 1) = ((i + 1 : Nat) : Int) := by rw [wrap_i64 (by omega) (by omega)]; omega
      refine again_mk (cs := [(false, [.int .i64])]) (((i + 1 : Nat) : Int), ()) (es.length - (i + 1)) rfl (by omega) (congrArg (fun z => [Value.int .i64 z]) hw) ⟨i + 1, rfl, by omega, rfl, ⟨M.box, M.one, fun k hk => ?_⟩, s2, z2⟩
      have := M.room k hk
      by_cases hki : k < i
      · rw [if_pos hki] at this
        rw [if_pos (by omega)]; exact this
      · rw [if_neg hki] at this
        by_cases hke : k = i
        · subst hke
          rw [if_pos rfl] at this
          rw [if_pos (by omega)]; exact this
        · rw [if_neg hke] at this
          rw [if_neg (by omega)]
          by_cases hk1 : k = i + 1
          · rw [if_pos hk1]; exact this
          · rw [if_neg hk1]; exact this
  · have g1 := of_decide_eq_false g1
    have hi : i = es.length := by omega
    subst hi
    clear hb
    -- the look
    refine loop_of (cs := [(false, [.bool]), (false, [.int .i64])]) (fun x n h' => ∃ i : Nat, x.2.1 = (i : Int) ∧ i ≤ es.length ∧ n = es.length - i ∧ Marking h' gb b pl cl es es.length 0 ∧ Since b h h' ∧ h.size ≤ h'.size) (false, (0 : Int), ()) es.length rfl ⟨0, rfl, by omega, by omega, M, s1, z1⟩ ?_
    clear M s1 z1 v w
    rintro ⟨b7, n8, ⟨⟩⟩ m0 h2 ⟨i, hi, hile', rfl, M, s1, z1⟩
    simp only at hi
    subst hi
    dsimp only [flat, unc, unc1, List.nil_append, List.cons_append]
    obtain ⟨v, w, hb⟩ := M.box
    refine osome_mk rfl (loads_box hb ((pl, es.length, cl), ()) rfl ?_)
    dsimp only [flat, unc, unc1, List.nil_append, List.cons_append]
    refine cond_mk (fun g2 => ?_) (fun g2 => ?_)
    · have g2 := of_decide_eq_true g2
      have hilt : i < es.length := by omega
      obtain ⟨q1, hq1, c1⟩ := M.one.cells (i := i) (by rw [List.length_map]; omega)
      rw [List.getElem_map] at c1
      rw [show Int.toNat (i : Int) = i by omega]
      refine osome_mk rfl (loads_box hb ((pl, es.length, cl), ()) rfl ?_)
      dsimp only [flat, unc, unc1, List.nil_append, List.cons_append]
      refine need_of ⟨by omega, by omega⟩ (osome_mk hq1 (loads_of ((es[i].p, es[i].l, es[i].c), ()) c1 ?_))
      dsimp only [flat, unc, unc1, List.nil_append, List.cons_append]
      refine osome_mk rfl (loads_box hb ((pl, es.length, cl), ()) rfl ?_)
      dsimp only [flat, unc, unc1, List.nil_append, List.cons_append]
      refine need_of ⟨by omega, by omega⟩ (osome_mk hq1 (loads_of ((es[i].p, es[i].l, es[i].c), ()) c1 ?_))
      dsimp only [flat, unc, unc1, List.nil_append, List.cons_append]
      refine need_of ⟨by omega, by omega, by omega⟩ ?_
      clear hb c1 hq1 q1
      refine loop_of (cs := [(false, [.bool]), (false, [.int .i64])]) (fun x n h' => ∃ j : Nat, x.2.1 = (j : Int) ∧ j ≤ es[i].c ∧ n = es[i].c - j ∧ Marking h' gb b pl cl es es.length 0 ∧ Since b h h' ∧ h.size ≤ h'.size) (b7, (0 : Int), ()) es[i].c rfl ⟨0, rfl, by omega, by omega, M, s1, z1⟩ ?_
      clear M s1 z1 v w
      rintro ⟨b29, n30, ⟨⟩⟩ m1 h3 ⟨j, hj, hjle, rfl, M, s2, z2⟩
      simp only at hj
      subst hj
      dsimp only [flat, unc, unc1, List.nil_append, List.cons_append]
      refine cond_mk (fun g3 => ?_) (fun g3 => ?_)
      · have g3 := of_decide_eq_true g3
        have hjlt : j < es[i].c := by omega
        refine need_of ⟨by omega, by omega⟩ ?_
        have hroom := M.room i hilt
        rw [if_pos hilt] at hroom
        cases hp : es[i].p with
        | none =>
          rw [hp] at hroom
          have : es[i].c = 0 := hroom
          omega
        | some a =>
          rw [hp] at hroom
          obtain ⟨g, o, cells, rfl, hbg, hcm, hbox, hr, hm⟩ := hroom
          rw [if_neg (by omega)]
          refine osome_mk (a := ⟨g, o, none⟩) (by rw [Option.map_some, add_box, Nat.add_zero]) ?_
          rw [add_box, show Int.toNat (j : Int) = j by omega]
          refine loads_box hbox (markB, mkN i j, ()) (hm j hjlt) ?_
          dsimp only [flat, unc, unc1, List.nil_append, List.cons_append]
          refine callv_of (cap := []) (by kernel_rfl) rfl (mark_hc i j h3) ?_
          rintro _ h4 ⟨rfl, e4⟩
          refine ⟨(markB, mkN i j, ()), rfl, ?_⟩
          dsimp only [flat, unc, unc1, List.nil_append, List.cons_append]
          refine ⟨⟨(hbox.keep e4 (by simp)).cells _ (hm j hjlt), trivial⟩, ?_⟩
          refine sem_bool (b := false) (fun K' hk => cmpTrm _ _ _ _ _ _ _ _ (by rw [bytes_beq]; simpa using hk)) ?_
          refine cond_f rfl ?_
          have hw : IntKind.wrap .i64 ((j : Int) + 1) = ((j + 1 : Nat) : Int) := by rw [wrap_i64 (by omega) (by omega)]; omega
          exact again_mk (cs := [(false, [.bool]), (false, [.int .i64])]) (b29, ((j + 1 : Nat) : Int), ()) (es[i].c - (j + 1)) rfl (by omega) (congrArg (fun z => [Value.bool b29, .int .i64 z]) hw)
            ⟨j + 1, rfl, by omega, rfl, M.keep e4 (by simp) (by simp) (by simp), s2.trans (Since.of e4 (by simp)), by have := e4.size; omega⟩
      · have hw : IntKind.wrap .i64 ((i : Int) + 1) = ((i + 1 : Nat) : Int) := by rw [wrap_i64 (by omega) (by omega)]; omega
        exact again_mk (cs := [(false, [.bool]), (false, [.int .i64])]) (b29, ((i + 1 : Nat) : Int), ()) (es.length - (i + 1)) rfl (by omega) (congrArg (fun z => [Value.bool b29, .int .i64 z]) hw) ⟨i + 1, rfl, by omega, rfl, M, s2, z2⟩
    · refine osome_mk rfl (stores_of hb rfl (by simp) ?_)
      intro h3 hb3 k3 z3
      refine osome_mk rfl ?_
      rw [add_box]
      refine stores_of hb3 rfl (by simp [setL]) ?_
      intro h4 hb4 k4 z4
      refine osome_mk rfl ?_
      rw [add_box]
      refine stores_of hb4 rfl (by simp [setL]) ?_
      intro h5 hb5 k5 z5
      have hs : ∀ {a c : Hp}, Ch [gb] a c → Since b a c := fun k => Since.of k fun x hx _ => by simp at hx; subst hx; exact hge
      exact ⟨rfl, ((s1.trans (hs k3)).trans (hs k4)).trans (hs k5)⟩
end Go.Sx.TB

set_option linter.unusedVariables false
set_option linter.unusedSimpArgs false
set_option maxRecDepth 100000
namespace Go.Sx.TB
open Go.Sx
open Go.Proofs
theorem Since.toExt {h h' : Hp} (s : Since h.size h h') : Ext h h' := ⟨s.1, fun i hi _ => s.2 i hi hi⟩
theorem BookTo.since {h h' : Hp} {gb b : Nat} {pl pw p : Option Addr} {es es' : List Ent} (t : BookTo h gb b pl pw es p h' es') (hgb : b ≤ gb) (hpl : ∀ i, i ∈ blkOf pl → b ≤ i) (hpw : ∀ i, i ∈ blkOf pw → b ≤ i) : Since b h h' := by
  obtain ⟨_, _, _, _, _, k, _⟩ := t
  refine Since.of k fun i hi _ => ?_
  rcases List.mem_cons.1 hi with rfl | hi
  · exact hgb
  · rcases List.mem_append.1 hi with hi | hi
    · exact hpl i hi
    · exact hpw i hi
theorem Book.empty {h : Hp} {gb b : Nat} (hb : Box h gb 89 [.slice none 0 0, .slice none 0 0, .int .i64 0, .bool false]) (hge : b ≤ gb) : Book h gb b none 0 none 0 [] :=
  ⟨⟨0, hb⟩, hge, SL.nil _ _ _ _, SL.nil _ _ _ _, by simp, by simp [blkOf], by simp [blkOf], by simp [blkOf], by simp, by simp, List.Pairwise.nil⟩
theorem few43_hc (s : ByteArray) (n : Nat) (h : Hp) : HCp Tryd.prog 43 [.string s, .int .i64 (n : Int)] h (.string (if n < s.size then s.extract 0 n else s)) := by
  refine hcp_of mixed Tryd.func43 (by kernel_rfl) (t_spandrellaw4_few_eq s n) ?_
  unfold t_spandrellaw4_few
  refine cond_mk (fun g1 => ?_) (fun g1 => ?_)
  · have g1 := of_decide_eq_true g1
    refine need_of ⟨by omega, by omega, by omega⟩ ?_
    rw [show Int.toNat (n : Int) = n by omega, if_pos (by omega)]
    exact ⟨rfl, rfl⟩
  · have g1 := of_decide_eq_false g1
    rw [if_neg (by omega)]
    exact ⟨rfl, rfl⟩
theorem few_size (s : ByteArray) (n : Nat) : (if n < s.size then s.extract 0 n else s).size ≤ n := by
  split
  · rw [ext_size]; omega
  · omega
/-- The state while lists are kept. -/
def KS (hB : Hp) (n9 : Nat) (pt : Option Addr) (lt ct : Nat) (ts : List Tok) (h' : Hp) : Prop :=
  Since hB.size hB h' ∧ n9 ≤ h'.size ∧ SL h' hB.size 35 4 pt lt ct (ts.map enc) ∧ ∃ pl cl pw cw es, Book h' hB.size hB.size pl cl pw cw es ∧ es.length ≤ 4000 ∧ (∀ i, i ∈ blkOf pl → n9 ≤ i) ∧ (∀ i, i ∈ blkOf pw → n9 ≤ i)
section rules
variable {L : Lp} {K : Value → Hp → Prop} {h : Hp}
theorem KS.keep {hB : Hp} {n9 : Nat} {pt : Option Addr} {lt ct : Nat} {ts : List Tok} {h h' : Hp} (S : KS hB n9 pt lt ct ts h) (e : Ext h h') : KS hB n9 pt lt ct ts h' := by
  obtain ⟨s, hn, t, pl, cl, pw, cw, es, B, hes, h1, h2⟩ := S
  have hz := e.size
  exact ⟨s.trans (Since.of e (by simp)), by omega, t.keep' e (by simp), pl, cl, pw, cw, es, B.keep e (by simp) (by simp) (by simp) (by simp), hes, h1, h2⟩
theorem keep_of {hB : Hp} {n9 : Nat} {pt : Option Addr} {lt ct : Nat} {ts : List Tok} {h h' : Hp} {k : T} (S : KS hB n9 pt lt ct ts h) (hpt : ∀ i, i ∈ blkOf pt → hB.size < i ∧ i < n9) (e : Ext h h') {p : Option Addr} {l c : Nat} {us : Tms} (s : SL h' h.size 80 2 p l c (us.map encT)) (hl : us.length ≤ 2 ^ 40)
    (hk : ∀ h3, KS hB n9 pt lt ct ts h3 → k L K h3) : T.call Tryd.prog 55 [.pointer (some ⟨hB.size, 0, none⟩), .slice p l c] true [] k L K h' := by
  have hn0 : n9 ≤ h.size := S.2.1
  have hlt : ∀ pl cl pw cw es, Book h hB.size hB.size pl cl pw cw es → hB.size < h.size ∧ (∀ i, i ∈ blkOf pl → i < h.size) ∧ (∀ i, i ∈ blkOf pw → i < h.size) ∧ ∀ e, e ∈ es → ∀ i, i ∈ e.blks → i < h.size := fun _ _ _ _ _ B => B.lt
  obtain ⟨sB, hn, t, pl, cl, pw, cw, es, B, hes, h1, h2⟩ := S
  have hb := B.lt
  have B' := B.keep e (by simp) (by simp) (by simp) (by simp)
  have hz := e.size
  have sB' : Since hB.size hB h' := sB.trans (Since.of e (by simp))
  have hsz : hB.size ≤ h'.size := sB'.1
  refine call_of (keep_hc B' hes (s.mono (by omega)) hl (fun x hx => ?_) (by omega)) ?_
  · have hx := (s.blk hx).1
    refine ⟨by have := hb.1; omega, fun hh => ?_, fun hh => ?_, fun e he hh => ?_⟩
    · have := hb.2.1 x hh; omega
    · have := hb.2.2.1 x hh; omega
    · have := hb.2.2.2 e he x hh; omega
  · rintro _ h4 ⟨rfl, es', hes', hto⟩
    refine ⟨(), rfl, hk h4 ?_⟩
    have s4 := hto.since (Nat.le_refl _) (fun x hx => (B'.one.blk hx).1) (fun x hx => (B'.two.blk hx).1)
    obtain ⟨pl', cl', pw', cw', B4, k4, a1, a2, _⟩ := hto
    have hz4 := s4.1
    refine ⟨sB'.trans s4, by omega, (t.keep' e (by simp)).keep' k4 (fun j hj hm => ?_), pl', cl', pw', cw', es', B4, hes', fun i hi => ?_, fun i hi => ?_⟩
    · have hj := hpt j hj
      rcases List.mem_cons.1 hm with rfl | hm
      · omega
      · rcases List.mem_append.1 hm with hm | hm
        · have := h1 j hm; omega
        · have := h2 j hm; omega
    · rcases a1 i hi with hh | hh
      · exact h1 i hh
      · omega
    · rcases a2 i hi with hh | hh
      · exact h2 i hh
      · omega
theorem addB_of {p q : Option Addr} {l m c d : Nat} {x y : Lin} {k : Option Addr → Nat → Nat → Int → T} (vx : VwT h p l x.terms) (vy : VwT h q m y.terms) (hp : ∀ i, i ∈ blkOf p → i < h.size) (hq : ∀ i, i ∈ blkOf q → i < h.size) (gx : Good x) (gy : Good y)
    (hl : x.terms.length + y.terms.length ≤ 2 ^ 40) (hk : ∀ h' p' l' c', Ext h h' → SL h' h.size 80 2 p' l' c' ((linA x y).terms.map encT) → k p' l' c' ((linA x y).num : Int) L K h') :
    T.call Tryd.prog 52 [.agg #[.slice p l c, .int .u32 (x.num : Int)], .agg #[.slice q m d, .int .u32 (y.num : Int)]] false [(true, [.slice 80, .int .u32])] k L K h := by
  refine call_of (add_hc vx vy hp hq hl gx.size gy.size) ?_
  rintro _ h' ⟨e, p', l', c', rfl, s⟩
  rw [linAdd_eq gx.nf gy.nf] at s ⊢
  exact ⟨((p', l', c'), ((linA x y).num : Int), ()), rfl, hk h' p' l' c' e s⟩
theorem timesB_of {p : Option Addr} {l c : Nat} {x : Lin} {n : Nat} {k : Option Addr → Nat → Nat → Int → T} (vx : VwT h p l x.terms) (gx : Good x)
    (hl : x.terms.length ≤ 2 ^ 40) (hk : ∀ h' p' l' c', Ext h h' → SL h' h.size 80 2 p' l' c' ((linT x n).terms.map encT) → k p' l' c' ((linT x n).num : Int) L K h') :
    T.call Tryd.prog 53 [.agg #[.slice p l c, .int .u32 (x.num : Int)], .int .u32 (n : Int)] false [(true, [.slice 80, .int .u32])] k L K h := by
  refine call_of (times_hc vx hl gx.size n) ?_
  rintro _ h' ⟨e, p', l', c', rfl, s⟩
  rw [linTimes_eq gx.nf] at s ⊢
  exact ⟨((p', l', c'), ((linT x n).num : Int), ()), rfl, hk h' p' l' c' e s⟩
end rules
theorem exprKept_hc {h : Hp} {p q : Option Addr} {l c m d N M : Nat} {x y : Lin} (v : LinIn h p l c x N) (u : LinIn h q m d y M) (s : ByteArray) (hp : Pow10 h) (hx : x.terms.length ≤ 2 ^ 30) (hy : y.terms.length ≤ 2 ^ 30) :
    HC Tryd.prog 16 #[linV p l c x, linV q m d y, .string s] h fun z h' => z = .bool true ∧ Ext h h' := by
  refine hcr_of (args := [.agg #[.slice p l c, .int .u32 x.num], .agg #[.slice q m d, .int .u32 y.num], .string s]) mixed Tryd.func16 (by kernel_rfl) (t_spandrellaw4_ExprKept_eq p l c x.num q m d y.num s) ?_
  unfold t_spandrellaw4_ExprKept
  have hll := v.vw.len
  have hmm := u.vw.len
  have hfin : ∀ h', Ext h h' → T.call Tryd.prog 44 [] false [(false, [.bool])] (fun (b : Bool) => T.ret (.bool b)) [] (fun w h' => w = .bool true ∧ Ext h h') h' := by
    intro h' e
    refine call_boolx (known44_hc (hp.keep e (by simp))) ?_
    intro h2 e2
    exact ⟨rfl, e.trans e2⟩
  refine newB ?_
  intro h1 b1 e1 z1
  refine newB ?_
  intro h2 b2 e2 z2
  have b1 := b1.keep e2 (by simp)
  have e02 := e1.trans e2
  refine loads_box b1 ((p, l, c), (x.num : Int), ()) rfl ?_
  dsimp only [flat, unc, unc1, List.nil_append, List.cons_append]
  refine call_boolx (right50_hc (v.vw.keep e02 (by simp)) (by omega) (fun t ht => (v.names t ht).1)) ?_
  intro h3 e3
  have e03 := e02.trans e3
  refine cond_mk (fun g1 => hfin h3 e03) (fun g1 => ?_)
  have g1 : rtR none x.terms = true := by simpa using g1
  have gx := rt_good g1 v.coefs v.num
  refine loads_box (b2.keep e3 (by simp)) ((q, m, d), (y.num : Int), ()) rfl ?_
  dsimp only [flat, unc, unc1, List.nil_append, List.cons_append]
  refine call_boolx (right50_hc (u.vw.keep e03 (by simp)) (by omega) (fun t ht => (u.names t ht).1)) ?_
  intro h4 e4
  have e04 := e03.trans e4
  have e24 := e3.trans e4
  refine cond_mk (fun g2 => hfin h4 e04) (fun g2 => ?_)
  have g2 : rtR none y.terms = true := by simpa using g2
  have gy := rt_good g2 u.coefs u.num
  have b1 := b1.keep e24 (by simp)
  have b2 := b2.keep e24 (by simp)
  refine loads_box b1 ((p, l, c), ()) rfl ?_
  dsimp only [flat, unc, unc1, List.nil_append, List.cons_append]
  have v4 := v.vw.keep e04 (by simp)
  refine call_of (roomy54_hc (ts := x.terms) hll (fun hh => ?_) (fun a ha => by subst ha; exact v4.flat) (by omega) ⟨#[98, 101, 104, 105, 110, 100]⟩ 0) ?_
  · subst hh
    cases ht : x.terms with
    | nil => rfl
    | cons t r =>
      obtain ⟨a, ha, _⟩ := v4.cells 0 (by rw [ht]; simp)
      cases ha
  rintro _ h5 ⟨e5, g, rfl, hg, r5⟩
  refine ⟨((some ⟨g, 0, none⟩, l + 80, l + 80), ()), rfl, ?_⟩
  dsimp only [flat, unc, unc1, List.nil_append, List.cons_append]
  have e05 := e04.trans e5
  have b1 := b1.keep e5 (by simp)
  have b2 := b2.keep e5 (by simp)
  refine loads_box b1 ((p, l, c), ()) rfl ?_
  dsimp only [flat, unc, unc1, List.nil_append, List.cons_append]
  refine need_of ⟨by omega, by omega, by omega⟩ ?_
  rw [add_box]
  refine loads_box b1 ((x.num : Int), ()) rfl ?_
  dsimp only [flat, unc, unc1, List.nil_append, List.cons_append]
  refine newB ?_
  intro h6 b6 e6 z6
  have b1 := b1.keep e6 (by simp)
  have b2 := b2.keep e6 (by simp)
  refine ⟨⟨b1.cells _ rfl, b1.cells _ rfl, trivial⟩, ?_⟩
  have ea : (if l + 80 = 0 then some (⟨g, 0, none⟩ : Addr) else Option.map (fun a => Addr.add a 0) (some ⟨g, 0, none⟩)) = some ⟨g, 0, none⟩ := by
    rw [if_neg (by omega)]
    simp [Addr.add]
  rw [ea, show Int.toNat (l : Int) - 0 = l by omega, Nat.sub_zero]
  refine stores_of b6 rfl (by simp) ?_
  intro h7 b7 k7 z7
  have b7 : Box h7 h5.size 69 [.slice (some ⟨g, 0, none⟩) l (l + 80), .int .u32 (x.num : Int)] := b7
  have e57 : Ext h5 h7 := Ch.trans e6 k7 (fun j hj hl => by simp at hj; omega)
  have hbl1 := b1.lt
  have hz5 : h2.size ≤ h5.size := (e24.trans e5).size
  have b1 := b1.keep k7 (by simp; omega)
  have b2 := b2.keep k7 (by simp; omega)
  have e07 := e05.trans e57
  have r7 := r5.keep' e57 (by simp)
  have f7 := r7.front (by rw [List.length_map]; exact hll.symm)
  have vf := f7.vwT
  refine newB ?_
  intro h8 b8 e8 z8
  refine call_str (few43_hc s 200 h8) ?_
  have hsz := few_size s 200
  generalize (if 200 < s.size then s.extract 0 200 else s) = w at hsz
  refine call_of (tokens42_hc w h8 (by omega)) ?_
  rintro _ h9 ⟨pt, lt, ct, q', m', d', rfl, t9, _, e9⟩
  refine ⟨((pt, lt, ct), (q', m', d'), (((lexS w).2.2 : Int) == 0), ()), rfl, ?_⟩
  dsimp only [flat, unc, unc1, List.nil_append, List.cons_append]
  have hwf := wf_lexS w
  have hlen := lexS_len w
  generalize (lexS w).1 = ts at t9 hwf hlen
  have hz9 := e9.size
  have hpt : ∀ i, i ∈ blkOf pt → h7.size < i ∧ i < h9.size := fun i hi => by have := t9.blk hi; omega
  have S9 : KS h7 h9.size pt lt ct ts h9 := ⟨Since.of (e8.trans e9) (by simp), Nat.le_refl _, t9.mono (by omega), none, 0, none, 0, [], (Book.empty b8 (Nat.le_refl _)).keep e9 (by simp) (by simp) (by simp) (by simp), by simp, by simp [blkOf], by simp [blkOf]⟩
  refine loop_of (cs := [(false, [.int .i64])]) (fun z n h' => ∃ i : Nat, z.1 = (i : Int) ∧ i ≤ 2 ∧ n = 2 - i ∧ KS h7 h9.size pt lt ct ts h') ((0 : Int), ()) 2 rfl ⟨0, rfl, by omega, by omega, S9⟩ ?_
  rintro ⟨n3, ⟨⟩⟩ n h10 ⟨i, hi, hile, rfl, S⟩
  simp only at hi
  subst hi
  dsimp only [flat, unc, unc1, List.nil_append, List.cons_append]
  have ext : ∀ h', KS h7 h9.size pt lt ct ts h' → Ext h7 h' := fun h' S => S.1.toExt
  have hb7 : ∀ h', Ext h7 h' → Box h' h5.size 69 [.slice (some ⟨g, 0, none⟩) l (l + 80), .int .u32 (x.num : Int)] ∧ Box h' h1.size 69 [.slice q m d, .int .u32 (y.num : Int)] ∧ VwT h' (some ⟨g, 0, none⟩) l x.terms ∧ VwT h' q m y.terms ∧ (∀ i, i ∈ blkOf (some (⟨g, 0, none⟩ : Addr)) → i < h'.size) ∧ (∀ i, i ∈ blkOf q → i < h'.size) := fun h' e => by
    have hz := e.size
    have h07 := e07.size
    exact ⟨b7.keep e (by simp), b2.keep e (by simp), vf.keep e (by simp), (u.vw.keep e07 (by simp)).keep e (by simp), fun i hi => by have := (f7.blk hi).2; omega, fun i hi => by have := u.blk i hi; omega⟩
  refine cond_mk (fun g3 => ?_) (fun g3 => ?_)
  · have g3 := of_decide_eq_true g3
    obtain ⟨bi, by', vi, vy, ki, ky⟩ := hb7 h10 (ext h10 S)
    refine loads_box bi ((some ⟨g, 0, none⟩, l, l + 80), (x.num : Int), ()) rfl ?_
    dsimp only [flat, unc, unc1, List.nil_append, List.cons_append]
    refine loads_box by' ((q, m, d), (y.num : Int), ()) rfl ?_
    dsimp only [flat, unc, unc1, List.nil_append, List.cons_append]
    refine addB_of vi vy ki ky gx gy (by omega) ?_
    intro h11 p1 l1 c1 e11 s11
    have hla : (linA x y).terms.length ≤ 2 ^ 31 := by
      have := addM_length x.terms y.terms
      show (addM x.terms y.terms).length ≤ _
      omega
    refine keep_of S hpt e11 s11 (by omega) ?_
    intro h12 S12
    obtain ⟨bi, by', vi, vy, ki, ky⟩ := hb7 h12 (ext h12 S12)
    refine loads_box bi ((some ⟨g, 0, none⟩, l, l + 80), (x.num : Int), ()) rfl ?_
    dsimp only [flat, unc, unc1, List.nil_append, List.cons_append]
    refine addB_of (y := linZ) (q := none) (m := 0) (d := 0) vi ⟨rfl, fun i hi => by simp [linZ] at hi⟩ ki (by simp [blkOf]) gx Good.z (by simp [linZ]; omega) ?_
    intro h13 p2 l2 c2 e13 s13
    have hlz : (linA x linZ).terms.length ≤ 2 ^ 30 := by
      have := addM_length x.terms []
      show (addM x.terms []).length ≤ _
      simp at this
      omega
    refine keep_of S12 hpt e13 s13 (by omega) ?_
    intro h14 S14
    obtain ⟨bi, by', vi, vy, ki, ky⟩ := hb7 h14 (ext h14 S14)
    refine loads_box bi ((some ⟨g, 0, none⟩, l, l + 80), (x.num : Int), ()) rfl ?_
    dsimp only [flat, unc, unc1, List.nil_append, List.cons_append]
    refine timesB_of (n := 1) vi gx (by omega) ?_
    intro h15 p3 l3 c3 e15 s15
    have hlt : (linT x 1).terms.length ≤ 2 ^ 30 := by
      have := timesN_length 1 x.terms
      show (timesN 1 x.terms).length ≤ _
      omega
    refine keep_of S14 hpt e15 s15 (by omega) ?_
    intro h16 S16
    refine call_of (named_hc ⟨#[97]⟩ h16) ?_
    rintro _ h17 ⟨e17, p4, l4, c4, rfl, s17⟩
    refine ⟨((p4, l4, c4), (0 : Int), ()), rfl, ?_⟩
    dsimp only [flat, unc, unc1, List.nil_append, List.cons_append]
    refine keep_of S16 hpt e17 s17 (by simp) ?_
    intro h18 S18
    have t18 := S18.2.2.1
    refine call_of (parse46_hc t18.vw (fun i hi => (t18.blk hi).2) hwf (by omega)) ?_
    rintro w3 h19 ⟨e19, v19⟩
    have hv : ∃ (z : Lin) (p5 : Option Addr) (l5 c5 : Nat) (e : Int), w3 = Value.tuple #[linV p5 l5 c5 z, .int .i64 e] ∧ SL h19 h18.size 80 2 p5 l5 c5 (z.terms.map encT) ∧ z.terms.length ≤ 2 ^ 40 := by
      cases hpx : parseX ts with
      | error e =>
        rw [hpx] at v19
        exact ⟨linZ, none, 0, 0, e, v19, SL.nil _ _ _ _, by simp [linZ]⟩
      | ok z =>
        rw [hpx] at v19
        obtain ⟨p', l', c', hv, sx, _⟩ := v19
        refine ⟨z, p', l', c', 0, hv, sx, ?_⟩
        have := sumD_fine 32 ts hwf
        unfold parseX at hpx
        cases hsd : sumD 32 ts with
        | error e => rw [hsd] at hpx; cases hpx
        | ok zz =>
          obtain ⟨y', r⟩ := zz
          rw [hsd] at hpx this
          simp only at hpx
          split at hpx
          · cases hpx
            obtain ⟨_, _, _, hl⟩ := this
            omega
          · cases hpx
    obtain ⟨z, p5, l5, c5, e, rfl, s19, hzl⟩ := hv
    refine ⟨((p5, l5, c5), (z.num : Int), e, ()), rfl, ?_⟩
    dsimp only [flat, unc, unc1, List.nil_append, List.cons_append]
    refine newB ?_
    intro h20 b20 e20 z20
    refine stores_of b20 rfl (by simp) ?_
    intro h21 b21 k21 z21
    have b21 : Box h21 h19.size 69 [.slice p5 l5 c5, .int .u32 (z.num : Int)] := b21
    have e1921 : Ext h19 h21 := Ch.trans e20 k21 (fun j hj hl => by simp at hj; omega)
    refine loads_box b21 ((p5, l5, c5), ()) rfl ?_
    dsimp only [flat, unc, unc1, List.nil_append, List.cons_append]
    refine keep_of S18 hpt (e19.trans e1921) (s19.keep' e1921 (by simp)) hzl ?_
    intro h22 S22
    have hw : IntKind.wrap .i64 ((i : Int) + 1) = ((i + 1 : Nat) : Int) := by rw [wrap_i64 (by omega) (by omega)]; omega
    exact again_mk (cs := [(false, [.int .i64])]) (((i + 1 : Nat) : Int), ()) (2 - (i + 1)) rfl (by omega) (congrArg (fun z => [Value.int .i64 z]) hw) ⟨i + 1, rfl, by omega, rfl, S22⟩
  · obtain ⟨sB, hn, t, pl, cl, pw, cw, es, B, hes, _, _⟩ := S
    refine call_of (apart_hc B hes sB.1) ?_
    rintro _ h11 ⟨rfl, s11⟩
    refine ⟨(true, ()), rfl, ?_⟩
    dsimp only [unc, unc1, flat, List.nil_append, List.cons_append]
    refine cond_t rfl ?_
    have e711 : Ext h7 h11 := (sB.trans s11).toExt
    refine loads_box (b1.keep e711 (by simp)) ((p, l, c), ()) rfl ?_
    dsimp only [flat, unc, unc1, List.nil_append, List.cons_append]
    refine call_boolx (intact59_hc (ts := x.terms) ⟨#[98, 101, 104, 105, 110, 100]⟩ 0 (r7.keep' e711 (by simp)) hll.symm ((v.vw.keep e07 (by simp)).keep e711 (by simp)) (by omega)) ?_
    intro h12 e12
    refine cond_t rfl ?_
    exact hfin h12 ((e07.trans e711).trans e12)
end Go.Sx.TB
