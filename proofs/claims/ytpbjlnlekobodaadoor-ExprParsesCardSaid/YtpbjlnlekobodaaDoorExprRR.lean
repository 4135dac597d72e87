/- Copies of lists with room behind them, over heaps. Condition: 2^40 elements at most. -/
import Derived.Test.YtpbjlnlekobodaaDoorExprSO
import Derived.Test.YtpbjlnlekobodaaDoorExprX
import Derived.Test.YtpbjlnlekobodaaDoorLexR
set_option linter.unusedVariables false
set_option linter.unusedSimpArgs false
set_option maxRecDepth 100000
namespace Go.Sx
open Go.Proofs
theorem copyS_of {P : Program} {h : Hp} {K : Value → Hp → Prop} {t ty e : TypeId} {i : TypeInfo} (ht : P.underlying t = some (.slice e)) (hi : P.info? e = some i) {g l c : Nat} {xs vs : List Value} (b : Box h g e xs) {q : Option Addr} {m d : Nat} (hm : m ≤ l) (hv : vs.length = m * i.size)
    (hp : vs.all plainV = true) (hx : vs.length ≤ xs.length) (hq : q = none → vs = []) (hc : ∀ a, q = some a → cellsAt h a 0 vs) (hk : ∀ h', Box h' g e (setL xs 0 vs) → Ch [g] h h' → h'.size = h.size → K (goInt (m : Int)) h') :
    semW P (Builtin.copy_ #[t, t] ty #[.slice (some ⟨g, 0, none⟩) l c, .slice q m d]) h K := by
  have hmin : Nat.min m l = m := Nat.min_eq_left hm
  obtain ⟨k1, k2, k3, k4⟩ := stores_box (off := 0) vs h 0 xs b hp (by omega)
  cases q with
  | none =>
    have hv0 := hq rfl
    subst hv0
    simp [Builtin.copy_, semW_bind', semW_underlying ht, semW_sizeOf hi, Builtin.lenOf, Builtin.firstCells]
    rw [semW_map]
    refine semW_storeCells _ _ _ _ _ k1 ?_
    have := hk h b (Ch.refl _ _) rfl

    rw [hmin]
    exact this
  | some a =>
    simp [Builtin.copy_, semW_bind', semW_underlying ht, semW_sizeOf hi, Builtin.lenOf, Builtin.firstCells]


    rw [hmin]
    refine semW_loadCells (by rw [cellsOf_info hi]; exact hv) (hc a rfl) _ ?_
    rw [semW_map]
    refine semW_storeCells _ _ _ _ _ k1 ?_
    exact hk _ k2 k3 k4
theorem chunk {α : Type} (sz : Nat) : ∀ (n : Nat) (ys : List α), ys.length = n * sz → ∃ xs : List (List α), xs.length = n ∧ (∀ x, x ∈ xs → x.length = sz) ∧ xs.flatten = ys
  | 0, ys, h => ⟨[], rfl, by simp, by rw [Nat.zero_mul] at h; rw [List.length_eq_zero_iff.1 h]; rfl⟩
  | n + 1, ys, h => by
    rw [Nat.succ_mul] at h
    obtain ⟨xs, h1, h2, h3⟩ := chunk sz n (ys.drop sz) (by rw [List.length_drop]; omega)
    refine ⟨ys.take sz :: xs, by simp [h1], ?_, by rw [List.flatten_cons, h3, List.take_append_drop]⟩
    intro x hx
    rcases List.mem_cons.1 hx with rfl | hx
    · rw [List.length_take]; omega
    · exact h2 x hx
theorem SL.front {h : Hp} {b : Nat} {e : TypeId} {sz : Nat} {a : Addr} {l m c : Nat} {xs ys : List (List Value)} (s : SL h b e sz (some a) (l + m) c (xs ++ ys)) (hl : xs.length = l) : SL h b e sz (some a) l c xs := by
  obtain ⟨g, pre, rest, rfl, hbg, hlc, hbox, hr⟩ := s.2.2
  have hm : ys.length = m := by have := s.1; rw [List.length_append] at this; omega
  refine ⟨hl.symm, fun x hx => s.2.1 x (List.mem_append_left _ hx), g, pre, ys.flatten ++ rest, rfl, hbg, ⟨by omega, hlc.2⟩, ?_, ?_⟩
  · rw [List.flatten_append, List.append_assoc] at hbox
    exact hbox
  · rw [List.length_append, flatten_length ys (fun x hx => s.2.1 x (List.mem_append_right _ hx)), hm, hr, ← Nat.add_mul]
    congr 1
    omega
theorem set_mark {α : Type} {A zs : List α} {mk : α} {i : Nat} (hi : i < zs.length) : (A ++ (List.replicate i mk ++ zs.drop i)).set (A.length + i) mk = A ++ (List.replicate (i + 1) mk ++ zs.drop (i + 1)) := by
  rw [List.set_append_right _ _ (by omega), Nat.add_sub_cancel_left, List.set_append_right _ _ (by simp), List.length_replicate, Nat.sub_self, List.drop_eq_getElem_cons hi, List.set_cons_zero, List.replicate_succ', List.append_assoc]
  rfl
theorem sem_i64 {P : Program} {L : Lp} {K : Value → Hp → Prop} {h : Hp} {s : Sem Value} {k : Int → T} (hs : semW P s h fun v h' => ∃ n, v = goInt n ∧ k n L K h') : T.sem P s false [(false, [.int .i64])] k L K h :=
  semW_mono s _ _ _ (fun v h' ⟨n, hv, hk⟩ => ⟨(n, ()), hv, hk⟩) hs
end Go.Sx

set_option linter.unusedVariables false
set_option linter.unusedSimpArgs false
set_option maxRecDepth 100000
namespace Go.Sx
open Go.Proofs
theorem roomy45_hc {h : Hp} {p : Option Addr} {l c : Nat} {ts : List Tok} (hlen : l = ts.length) (hp : p = none → ts = []) (hc : ∀ a, p = some a → cellsAt h a 0 (ts.map enc).flatten) (hl : ts.length ≤ 2 ^ 40) (m1 : Int) (m2 : ByteArray) (m3 m4 : Int) :
    HC Tryd.prog 45 #[.slice p l c, .agg #[.int .i64 m1, .string m2, .int .u32 m3, .int .i64 m4]] h fun w h' => Ext h h' ∧ ∃ g, w = .slice (some ⟨g, 0, none⟩) (l + 80) (l + 80) ∧ h.size ≤ g ∧ SL h' h.size 35 4 (some ⟨g, 0, none⟩) (l + 80) (l + 80) (ts.map enc ++ List.replicate 80 ([.int .i64 m1, .string m2, .int .u32 m3, .int .i64 m4] : List Value)) := by
  refine hcr_of (args := [.slice p l c, .agg #[.int .i64 m1, .string m2, .int .u32 m3, .int .i64 m4]]) mixed Tryd.func45 (by kernel_rfl) (t_spandrelbook_Roomy_lex_Token__eq p l c m1 m2 m3 m4) ?_
  unfold t_spandrelbook_Roomy_lex_Token_
  refine newB ?_
  intro h1 b1 e1 z1
  obtain ⟨i, hi, hz, hsz, hby⟩ := inf_of tokZ
  have hw80 : IntKind.wrap .i64 ((l : Int) + 80) = ((l + 80 : Nat) : Int) := by rw [wrap_i64 (by omega) (by omega)]; omega
  rw [hw80]
  refine sem_slice (makeSlice_of und23 hi hz (Nat.le_refl _) (by rw [hby]; omega) (by omega) ?_)
  intro h2 b2 e2 z2
  refine ⟨_, _, _, rfl, ?_⟩
  have hfl : (ts.map enc).flatten.length = l * 4 := by
    rw [flatten_length (ts.map enc) (sz := 4) (fun x hx => by obtain ⟨t, _, rfl⟩ := List.mem_map.1 hx; rfl), List.length_map, hlen]
  have hpl : (ts.map enc).flatten.all plainV = true := by
    rw [List.all_eq_true]
    intro v hv
    obtain ⟨x, hx, hv⟩ := List.mem_flatten.1 hv
    obtain ⟨t, _, rfl⟩ := List.mem_map.1 hx
    simp only [enc, List.mem_cons, List.not_mem_nil, or_false] at hv
    rcases hv with rfl | rfl | rfl | rfl <;> rfl
  have hzl : ((List.range ((l + 80) * i.size)).map ((Value.agg #[.int .i64 0, .string ⟨#[]⟩, .int .u32 0, .int .i64 0]).cells[· % (Value.agg #[.int .i64 0, .string ⟨#[]⟩, .int .u32 0, .int .i64 0]).cells.size]!)).length = (l + 80) * 4 := by rw [List.length_map, List.length_range, hsz]
  generalize (List.range ((l + 80) * i.size)).map ((Value.agg #[.int .i64 0, .string ⟨#[]⟩, .int .u32 0, .int .i64 0]).cells[· % (Value.agg #[.int .i64 0, .string ⟨#[]⟩, .int .u32 0, .int .i64 0]).cells.size]!) = ys at b2 hzl
  have e02 := e1.trans e2
  refine sem_i64 (copyS_of und23 hi b2 (vs := (ts.map enc).flatten) (m := l) (by omega) (by rw [hfl, hsz]) hpl (by omega) (fun hh => by rw [hp hh]; rfl) (fun a ha => cellsAt_keep e02 (by simp) _ _ (hc a ha)) ?_)
  intro h3 b3 k3 z3
  refine ⟨(l : Int), rfl, ?_⟩
  rw [setL_eq _ _ _ (by omega), List.take_zero, List.nil_append, Nat.zero_add, hfl] at b3
  obtain ⟨zs, hzs1, hzs2, hzs3⟩ := chunk 4 80 (ys.drop (l * 4)) (by rw [List.length_drop, hzl, Nat.add_mul]; omega)
  rw [← hzs3, ← List.flatten_append] at b3
  have hz1 := e1.size
  have s3 : SL h3 h.size 35 4 (some ⟨h1.size, 0, none⟩) (l + 80) (l + 80) (ts.map enc ++ (List.replicate 0 [.int .i64 m1, .string m2, .int .u32 m3, .int .i64 m4] ++ zs.drop 0)) := by
    refine ⟨by simp [hzs1, hlen], ?_, h1.size, [], [], rfl, hz1, ⟨Nat.le_refl _, by omega⟩, by simpa using b3, by simp⟩
    intro x hx
    rcases List.mem_append.1 hx with hx | hx
    · obtain ⟨t, _, rfl⟩ := List.mem_map.1 hx; rfl
    · exact hzs2 x (by simpa using hx)
  have e03 : Ext h h3 := Ch.trans e02 k3 (fun j hj hl => by simp at hj; omega)
  have hb1 := b1.lt
  have b13 := (b1.keep e2 (by simp)).keep k3 (by simp; omega)
  refine loop_of (cs := [(false, [.int .i64])]) (fun y n h' => ∃ i : Nat, y.1 = ((l + i : Nat) : Int) ∧ i ≤ 80 ∧ n = 80 - i ∧ Ch [h1.size] h3 h' ∧ SL h' h.size 35 4 (some ⟨h1.size, 0, none⟩) (l + 80) (l + 80) (ts.map enc ++ (List.replicate i [.int .i64 m1, .string m2, .int .u32 m3, .int .i64 m4] ++ zs.drop i))) ((l : Int), ()) 80 rfl
    ⟨0, rfl, by omega, by omega, Ch.refl _ _, s3⟩ ?_
  rintro ⟨n8, ⟨⟩⟩ n h4 ⟨i', hi', hile, rfl, k4, s4⟩
  simp only at hi'
  subst hi'
  dsimp only [flat, unc, unc1, List.nil_append, List.cons_append]
  refine cond_mk (fun g1 => ?_) (fun g1 => ?_)
  · have g1 := of_decide_eq_true g1
    have hi80 : i' < 80 := by omega
    refine loads_box (b13.keep k4 (by simp; omega)) (m1, m2, m3, m4, ()) rfl ?_
    dsimp only [flat, unc, unc1, List.nil_append, List.cons_append]
    refine need_of ⟨by omega, by omega⟩ (osome_mk rfl ?_)
    rw [show Int.toNat ((l + i' : Nat) : Int) = l + i' by omega]
    refine SL.store (P := Tryd.prog) s4 (i := l + i') (by simp [hzs1]; omega) (vs := [.int .i64 m1, .string m2, .int .u32 m3, .int .i64 m4]) rfl rfl rfl ?_
    intro h5 s5 k5 z5
    have hA : (ts.map enc).length = l := by rw [List.length_map, hlen]
    have hst := set_mark (A := ts.map enc) (zs := zs) (mk := [.int .i64 m1, .string m2, .int .u32 m3, .int .i64 m4]) (i := i') (by omega)
    rw [hA] at hst
    rw [hst] at s5
    exact again_mk (cs := [(false, [.int .i64])]) (((l + (i' + 1) : Nat) : Int), ()) (80 - (i' + 1)) rfl (by omega) (congrArg (fun z => [Value.int .i64 z]) (show IntKind.wrap .i64 (((l + i' : Nat) : Int) + 1) = ((l + (i' + 1) : Nat) : Int) by rw [wrap_i64 (by omega) (by omega)]; omega)) ⟨i' + 1, rfl, by omega, rfl, Ch.trans k4 k5 (fun j hj _ => hj), s5⟩
  · have g1 := of_decide_eq_false g1
    have h80 : i' = 80 := by omega
    subst h80
    rw [show zs.drop 80 = [] from List.drop_eq_nil_of_le (by omega), List.append_nil] at s4
    exact ⟨Ch.trans e03 k4 (fun j hj hl => by simp at hj; omega), h1.size, rfl, hz1, s4⟩
theorem intact49_hc {h : Hp} {b : Nat} {a : Addr} {q : Option Addr} {l m d : Nat} {ts : List Tok} (m1 : Int) (m2 : ByteArray) (m3 m4 : Int) (s : SL h b 35 4 (some a) (l + 80) (l + 80) (ts.map enc ++ List.replicate 80 ([.int .i64 m1, .string m2, .int .u32 m3, .int .i64 m4] : List Value))) (hlen : ts.length = l) (v : ∃ b, SL h b 35 4 q m d (ts.map enc)) (hl : l ≤ 2 ^ 40) :
    HC Tryd.prog 49 #[.slice (some a) (l + 80) (l + 80), .slice q m d, .agg #[.int .i64 m1, .string m2, .int .u32 m3, .int .i64 m4]] h fun w h' => w = .bool true ∧ Ext h h' := by
  refine hcr_of (args := [.slice (some a) (l + 80) (l + 80), .slice q m d, .agg #[.int .i64 m1, .string m2, .int .u32 m3, .int .i64 m4]]) mixed Tryd.func49 (by kernel_rfl) (t_spandrelbook_Intact_lex_Token__eq (some a) (l + 80) (l + 80) q m d m1 m2 m3 m4) ?_
  unfold t_spandrelbook_Intact_lex_Token_
  have hml : m = l := by obtain ⟨b, v⟩ := v; rw [v.1, List.length_map]; exact hlen
  subst hml
  refine newB ?_
  intro h1 b1 e1 z1
  have e0 := e1
  have s1 := s.keep' e1 (by simp)
  have hw80 : IntKind.wrap .i64 ((m : Int) + 80) = ((m + 80 : Nat) : Int) := by rw [wrap_i64 (by omega) (by omega)]; omega
  refine join_of (cs := [(false, [.bool])]) (fun z h' => z.1 = false ∧ h1 = h') ?_ ?_
  · refine cond_f (by rw [hw80]; simp) ?_
    refine need_of ⟨by omega, by omega, by omega⟩ ?_
    have e1 : (if m + 80 = 0 then some a else Option.map (fun a => Addr.add a 0) (some a)) = some a := by
      rw [if_neg (by omega)]
      simp [Addr.add]
    rw [e1, show Int.toNat (m : Int) - 0 = m by omega, Nat.sub_zero]
    refine call_bool (by obtain ⟨b', v⟩ := v; exact bookSame_hc (ts := ts) (by omega) (s1.front (by rw [List.length_map]; exact hlen)) (v.keep' e0 (by simp))) ?_
    exact meet_mk (cs := [(false, [.bool])]) (false, ()) rfl rfl ⟨rfl, rfl⟩
  rintro ⟨b4, ⟨⟩⟩ h1' ⟨hb4, rfl⟩
  simp only at hb4
  subst hb4
  dsimp only [flat, unc, unc1, List.nil_append, List.cons_append]
  refine cond_f rfl ?_
  refine loop_of (cs := [(false, [.bool]), (false, [.int .i64])]) (fun y n h' => ∃ i : Nat, y.2.1 = ((m + i : Nat) : Int) ∧ i ≤ 80 ∧ n = 80 - i ∧ h1 = h') (false, (m : Int), ()) 80 rfl ⟨0, rfl, by omega, by omega, rfl⟩ ?_
  rintro ⟨b8, n8, ⟨⟩⟩ n h4 ⟨i', hi', hile, rfl, rfl⟩
  simp only at hi'
  subst hi'
  dsimp only [flat, unc, unc1, List.nil_append, List.cons_append]
  refine cond_mk (fun g1 => ?_) (fun g1 => ⟨rfl, e1⟩)
  have g1 := of_decide_eq_true g1
  have hi80 : i' < 80 := by omega
  have hlt : m + i' < (ts.map enc ++ List.replicate 80 ([.int .i64 m1, .string m2, .int .u32 m3, .int .i64 m4] : List Value)).length := by simp; omega
  obtain ⟨a', ha', hc⟩ := s1.cells hlt
  cases ha'
  have hget : (ts.map enc ++ List.replicate 80 ([.int .i64 m1, .string m2, .int .u32 m3, .int .i64 m4] : List Value))[m + i'] = [.int .i64 m1, .string m2, .int .u32 m3, .int .i64 m4] := by
    rw [List.getElem_append_right (by rw [List.length_map]; omega), List.getElem_replicate]
  rw [hget] at hc
  refine need_of ⟨by omega, by omega⟩ (osome_mk rfl ?_)
  rw [show Int.toNat ((m + i' : Nat) : Int) = m + i' by omega]
  refine loads_of (m1, m2, m3, m4, ()) hc ?_
  dsimp only [flat, unc, unc1, List.nil_append, List.cons_append]
  refine loads_box b1 (m1, m2, m3, m4, ()) rfl ?_
  dsimp only [flat, unc, unc1, List.nil_append, List.cons_append]
  refine sem_bool (b := false) (fun K' hk => cmpTok _ _ _ _ _ _ _ _ _ _ _ _ (by rw [bytes_beq]; simpa using hk)) ?_
  refine cond_f rfl ?_
  exact again_mk (cs := [(false, [.bool]), (false, [.int .i64])]) (b8, ((m + (i' + 1) : Nat) : Int), ()) (80 - (i' + 1)) rfl (by omega) (congrArg (fun z => [Value.bool b8, Value.int .i64 z]) (show IntKind.wrap .i64 (((m + i' : Nat) : Int) + 1) = ((m + (i' + 1) : Nat) : Int) by rw [wrap_i64 (by omega) (by omega)]; omega)) ⟨i' + 1, rfl, by omega, rfl, rfl⟩
end Go.Sx
