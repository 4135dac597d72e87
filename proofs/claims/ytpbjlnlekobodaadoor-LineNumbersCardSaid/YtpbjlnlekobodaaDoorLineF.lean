/- The document's parser answers as the plain one; LineParses answers true, over heaps. Condition: the error variables hold interface values. -/
import Derived.Test.YtpbjlnlekobodaaDoorLineC
set_option linter.unusedVariables false
set_option linter.unusedSimpArgs false
set_option linter.deprecated false
set_option maxRecDepth 100000
namespace Go.Sx
open Go.Proofs
theorem tokZ2 : (Tryd.prog.info? 105).map (fun i => (i.zero, i.size, i.bytes)) = some (some (.agg #[.int .i64 0, .string ⟨#[]⟩, .int .u32 0, .int .i64 0]), 4, 40) := by kernel_rfl
theorem slZ2 : (Tryd.prog.info? 27).map (fun i => (i.zero, i.size, i.bytes)) = some (some (.slice none 0 0), 1, 24) := by kernel_rfl
theorem und51 : Tryd.prog.underlying 51 = some (.slice 27) := by kernel_rfl
theorem und27 : Tryd.prog.underlying 27 = some (.slice 105) := by kernel_rfl
theorem sameArg_hc {h : Hp} {b b' : Nat} {e e' : TypeId} {p0 p1 : Option Addr} {l0 c0 l1 c1 : Nat} {ts : List Tok} (hlen : ts.length ≤ 2 ^ 48) (s0 : SL h b e 4 p0 l0 c0 (ts.map enc)) (s1 : SL h b' e' 4 p1 l1 c1 (ts.map enc)) :
    HCp Tryd.prog 75 [.slice p0 l0 c0, .slice p1 l1 c1] h (.bool true) := by
  refine hcp_of mixed Tryd.func75 (by kernel_rfl) (t_spandrellaw3_sameArg_eq p0 l0 c0 p1 l1 c1) ?_
  unfold t_spandrellaw3_sameArg
  have e0 : l0 = ts.length := by rw [s0.1, List.length_map]
  have e1 : l1 = ts.length := by rw [s1.1, List.length_map]
  refine cond_f (by rw [e0, e1]; simp) ?_
  refine loop_of (cs := [(false, [.bool]), (false, [.int .i64])]) (fun x n h' => h' = h ∧ ∃ k : Nat, x.2.1 = (k : Int) ∧ k ≤ ts.length ∧ n = ts.length - k) (false, (0 : Int), ()) ts.length rfl ⟨rfl, 0, rfl, by omega, by omega⟩ ?_
  rintro ⟨b1, n2, ⟨⟩⟩ m h' ⟨rfl, k, hk, hle, rfl⟩
  simp only at hk
  subst hk
  dsimp only [flat, unc, unc1, List.nil_append, List.cons_append]
  refine cond_mk (fun hb => ?_) (fun hb => ⟨rfl, rfl⟩)
  have hb : (k : Int) < (l0 : Int) := of_decide_eq_true hb
  have hlt : k < ts.length := by omega
  obtain ⟨a, rfl, hc⟩ := s0.cells (i := k) (by simpa using hlt)
  obtain ⟨a', rfl, hc'⟩ := s1.cells (i := k) (by simpa using hlt)
  rw [List.getElem_map] at hc hc'
  generalize ts[k] = t at hc hc'
  have hkn : Int.toNat (k : Int) = k := by omega
  rw [hkn]
  obtain ⟨q0, q1, q2, q3, _⟩ := hc'
  refine need_of ⟨by omega, by omega⟩ (osome_mk rfl (loads_of ((t.kind : Int), t.text, (t.num : Int), (t.at_ : Int), ()) hc ?_))
  refine need_of ⟨by omega, by omega⟩ (osome_mk rfl (loads_of ((t.kind : Int), ()) ⟨q0, trivial⟩ ?_))
  refine need_of ⟨by omega, by omega⟩ (osome_mk rfl (loads_of (t.text, ()) ⟨q1, trivial⟩ ?_))
  refine need_of ⟨by omega, by omega⟩ (osome_mk rfl (loads_of ((t.num : Int), ()) ⟨q2, trivial⟩ ?_))
  refine need_of ⟨by omega, by omega⟩ (osome_mk rfl (loads_of ((t.at_ : Int), ()) ⟨q3, trivial⟩ ?_))
  refine sem_bool (b := false) (fun K' hk => cmpTok _ _ _ _ _ _ _ _ _ _ _ _ (by rw [bytes_beq]; simpa using hk)) ?_
  refine ⟨⟨⟨q3, trivial⟩, ⟨q2, trivial⟩, ⟨q1, trivial⟩, ⟨q0, trivial⟩, trivial⟩, ?_⟩
  refine cond_f rfl ?_
  have hw : IntKind.wrap .i64 ((k : Int) + 1) = (k : Int) + 1 := wrap_i64 (by omega) (by omega)
  exact again_mk (cs := [(false, [.bool]), (false, [.int .i64])]) (b1, (k : Int) + 1, ()) (ts.length - (k + 1)) rfl (by omega) (congrArg (fun z => [Value.bool b1, .int .i64 z]) hw) ⟨rfl, k + 1, (show ((k : Int) + 1) = ((k + 1 : Nat) : Int) from by omega), by omega, rfl⟩
theorem sameLine_hc {h : Hp} {b b' : Nat} {p p' : Option Addr} {c c' : Nat} {al al' : List In} {s0 s1 : ByteArray} (A : Args h b 23 35 p c al) (A' : Args h b' 27 105 p' c' al') (hts : al.map In.ts = al'.map In.ts) (hlen : al.length ≤ 2 ^ 40) (hle : ∀ a, a ∈ al → a.ts.length ≤ 2 ^ 40) :
    HC Tryd.prog 36 #[.agg #[.string s0, .string s1, .slice p al.length c], .agg #[.string s0, .string s1, .slice p' al'.length c']] h fun v h' => v = .bool true ∧ Ext h h' := by
  refine hcr_of (args := [.agg #[.string s0, .string s1, .slice p al.length c], .agg #[.string s0, .string s1, .slice p' al'.length c']]) mixed Tryd.func36 (by kernel_rfl) (t_spandrellaw3_same_eq s0 s1 p al.length c s0 s1 p' al'.length c') ?_
  unfold t_spandrellaw3_same
  have hl : al'.length = al.length := by
    have := congrArg List.length hts
    simpa using this.symm
  refine newB ?_
  intro h1 b1 e1 z1
  refine newB ?_
  intro h2 b2 e2 z2
  have c1 := b1.keep e2 (by simp)
  have A2 := (A.keep e1 (by simp) (by simp)).keep e2 (by simp) (by simp)
  have A2' := (A'.keep e1 (by simp) (by simp)).keep e2 (by simp) (by simp)
  refine loads_box c1 (s0, ()) rfl ?_
  dsimp only [unc, unc1, flat, List.nil_append, List.cons_append]
  refine loads_box b2 (s0, ()) rfl ?_
  dsimp only [unc, unc1, flat, List.nil_append, List.cons_append]
  refine cond_f (by simp) ?_
  rw [add_box, add_box]
  refine loads_box c1 (s1, ()) rfl ?_
  dsimp only [unc, unc1, flat, List.nil_append, List.cons_append]
  refine loads_box b2 (s1, ()) rfl ?_
  dsimp only [unc, unc1, flat, List.nil_append, List.cons_append]
  refine cond_f (by simp) ?_
  rw [add_box, add_box]
  refine loads_box c1 ((p, al.length, c), ()) rfl ?_
  dsimp only [unc, unc1, flat, List.nil_append, List.cons_append]
  refine loads_box b2 ((p', al'.length, c'), ()) rfl ?_
  dsimp only [unc, unc1, flat, List.nil_append, List.cons_append]
  refine cond_f (by rw [hl]; simp) ?_
  refine loop_of (cs := [(false, [.bool]), (false, [.int .i64])]) (fun x n h' => h' = h2 ∧ ∃ k : Nat, x.2.1 = (k : Int) ∧ k ≤ al.length ∧ n = al.length - k) (false, (0 : Int), ()) al.length rfl ⟨rfl, 0, rfl, by omega, by omega⟩ ?_
  rintro ⟨b3, n3, ⟨⟩⟩ m h3 ⟨rfl, k, hk, hkle, rfl⟩
  simp only at hk
  subst hk
  dsimp only [flat, unc, unc1, List.nil_append, List.cons_append]
  refine loads_box c1 ((p, al.length, c), ()) rfl ?_
  dsimp only [unc, unc1, flat, List.nil_append, List.cons_append]
  refine cond_mk (fun g1 => ?_) (fun g1 => ⟨rfl, e1.trans e2⟩)
  have g1 := of_decide_eq_true g1
  have hlt : k < al.length := by omega
  have hlt' : k < al'.length := by omega
  obtain ⟨a, rfl, hc⟩ := A2.out.cells (i := k) (by rw [List.length_map]; exact hlt)
  obtain ⟨a', rfl, hc'⟩ := A2'.out.cells (i := k) (by rw [List.length_map]; exact hlt')
  rw [List.getElem_map] at hc hc'
  have hq := A2.inn al[k] (List.getElem_mem hlt)
  have hq' := A2'.inn al'[k] (List.getElem_mem hlt')
  have hqb := hle al[k] (List.getElem_mem hlt)
  have hqt : al'[k].ts = al[k].ts := by
    have h1 : (al'.map In.ts)[k]'(by simpa using hlt') = al'[k].ts := by simp
    have h2 : (al.map In.ts)[k]'(by simpa using hlt) = al[k].ts := by simp
    rw [← h1, ← h2]
    congr 1
    exact hts.symm
  generalize al[k] = q at hc hq hqb hqt
  generalize al'[k] = q' at hc' hq' hqt
  rw [hqt] at hq'
  rw [show Int.toNat (k : Int) = k by omega]
  refine loads_box c1 ((some a, al.length, c), ()) rfl ?_
  dsimp only [unc, unc1, flat, List.nil_append, List.cons_append]
  refine need_of ⟨by omega, by omega⟩ (osome_mk rfl (loads_of ((q.p, q.l, q.c), ()) hc ?_))
  dsimp only [unc, unc1, flat, List.nil_append, List.cons_append]
  refine loads_box b2 ((some a', al'.length, c'), ()) rfl ?_
  dsimp only [unc, unc1, flat, List.nil_append, List.cons_append]
  refine need_of ⟨by omega, by omega⟩ (osome_mk rfl (loads_of ((q'.p, q'.l, q'.c), ()) hc' ?_))
  dsimp only [unc, unc1, flat, List.nil_append, List.cons_append]
  refine call_bool (sameArg_hc (by omega) hq hq') ?_
  refine ⟨⟨b2.cells _ rfl, c1.cells _ rfl, trivial⟩, ?_⟩
  refine cond_f rfl ?_
  have hw : IntKind.wrap .i64 ((k : Int) + 1) = ((k + 1 : Nat) : Int) := by rw [wrap_i64 (by omega) (by omega)]; omega
  exact again_mk (cs := [(false, [.bool]), (false, [.int .i64])]) (b3, ((k + 1 : Nat) : Int), ()) (al.length - (k + 1)) rfl (by omega) (congrArg (fun z => [Value.bool b3, .int .i64 z]) hw) ⟨rfl, k + 1, rfl, by omega, rfl⟩
abbrev parCs : List Comp := [(false, [.int .i64]), (false, [.int .i64]), (false, [.int .i64]), (false, [.slice 0])]
/-- Where the document's parser stands among the arguments. -/
def parI (n k1 g7 : Nat) (us : List Tok) (lb op : ByteArray) (h : Hp) (x : HVs (flat parCs)) (m : Nat) (h' : Hp) : Prop :=
  ∃ (i : Nat) (dn : List In) (cu : In) (pa : Option Addr) (ca : Nat), x.2.2.1 = ((k1 + i : Nat) : Int) ∧ i ≤ us.length ∧ m = us.length - i ∧ Ch [g7] h h' ∧ Box h' g7 53 [.string lb, .string op, .slice pa dn.length ca] ∧ Args h' h.size 27 105 pa ca dn ∧
    x.2.2.2.1 = (cu.p, cu.l, cu.c) ∧ SL h' h.size 105 4 cu.p cu.l cu.c (cu.ts.map enc) ∧ (∀ j, j ∈ blkOf cu.p → j ∉ blkOf pa) ∧ (∀ a, a ∈ dn → ∀ j, j ∈ blkOf a.p → j ∉ blkOf cu.p) ∧
    argsS n us [] [] = argsS n (us.drop i) (dn.map In.ts) cu.ts ∧ dn.length ≤ i ∧ cu.ts.length ≤ i
theorem parse2_hc (s : ByteArray) (h : Hp) (hs : s.size ≤ 2 ^ 40) : HC Tryd.prog 35 #[.string s] h (parsePost 27 105 s h) := by
  refine hcr_of (args := [.string s]) mixed Tryd.func35 (by kernel_rfl) (t_spandrelref3_Parse_eq s) ?_
  unfold t_spandrelref3_Parse
  refine newB ?_
  intro h1 b1 e1 z1
  refine call_of (tokens2_hc s h1 hs) ?_
  rintro _ h2 ⟨p2, l3, l4, rfl, sl, e2⟩
  refine ⟨((p2, l3, l4), ((lexS s).2.1 : Int), ((lexS s).2.2 : Int), ()), rfl, ?_⟩
  dsimp only [unc, unc1, flat, List.nil_append, List.cons_append]
  have b2 := b1.keep e2 (by simp)
  have e12 := e1.trans e2
  have hlen := lexS_len s
  have hz2 := e2.size
  have hE : ∀ {hh h' : Hp}, Ext h hh → Ch [h.size] hh h' → Ext h h' := fun e k => Ch.trans e k (fun i hi hl => by simp at hi; omega)
  refine cond_mk (fun g1 => ?_) (fun g1 => ?_)
  · have g1 : ((lexS s).2.2 : Int) ≠ 0 := by simpa using g1
    have hp : parseS s = (lnNil, (lexS s).2.1, (lexS s).2.2) := by unfold parseS; rw [if_pos (by omega)]
    refine stores_of b2 rfl (by simp) ?_
    intro h3 b3 k3 z3
    have b3 : Box h3 h.size 53 [.string ⟨#[]⟩, .string ⟨#[]⟩, .slice none 0 0] := b3
    refine loads_box b3 ((⟨#[]⟩ : ByteArray), (⟨#[]⟩ : ByteArray), (none, 0, 0), ()) rfl ?_
    exact ⟨hE e12 k3, none, 0, [], by rw [hp]; rfl, Args.nil _ _ _ _, by rw [hp]; rfl⟩
  have g1 : ((lexS s).2.2 : Int) = 0 := by simpa using g1
  have hp : parseS s = parseL s.size (lexS s).1 := by unfold parseS; rw [if_neg (by omega)]
  have vw := sl.vw
  have hblk : ∀ i, i ∈ blkOf p2 → h1.size ≤ i ∧ i < h2.size := fun i hi => sl.blk hi
  clear sl
  generalize (lexS s).1 = ts at hp vw hlen
  unfold parsePost
  rw [hp]
  refine newB ?_
  intro h3 b7 e3 z3
  have hz1 := z1
  have vw3 := vw.keep e3 (by simp)
  have hl3 := vw.len
  have hcap := vw.cap
  refine join_of (cs := [(false, [.int .i64])]) (fun y h' => ∃ (k : Nat) (lb : ByteArray), y.1 = (k : Int) ∧ k ≤ ts.length ∧ parseL s.size ts = parseT s.size lb (ts.drop k) ∧ Box h' h2.size 53 [.string lb, .string ⟨#[]⟩, .slice none 0 0] ∧ Ch [h2.size] h3 h') ?_ ?_
  · have plain : ∀ {L : Lp} {K : Value → Hp → Prop} {h' : Hp}, Ext h3 h' → labB ts = false → (T.again 0 [.int .i64 (0 : Int)]) ((fun vs h' => ∃ y : HVs (flat [(false, [.int .i64])]), vs = parts [(false, [.int .i64])] (hvs _ y) ∧ ∃ (k : Nat) (lb : ByteArray), y.1 = (k : Int) ∧ k ≤ ts.length ∧ parseL s.size ts = parseT s.size lb (ts.drop k) ∧ Box h' h2.size 53 [.string lb, .string ⟨#[]⟩, .slice none 0 0] ∧ Ch [h2.size] h3 h') :: L) K h' := by
      intro L K h' e hlab
      refine meet_mk (cs := [(false, [.int .i64])]) ((0 : Int), ()) rfl rfl ⟨0, ⟨#[]⟩, rfl, by omega, ?_, b7.keep e (by simp), e.mono (by simp)⟩
      unfold parseL
      rw [if_neg (by rw [hlab]; simp), List.drop_zero]
    refine cond_mk (fun g2 => ?_) (fun g2 => ?_)
    · have g2 := of_decide_eq_true g2
      match ts, hl3 with
      | [], hl3 => simp at hl3; omega
      | [_], hl3 => simp at hl3; omega
      | t :: u :: r, hl3 =>
        obtain ⟨a, rfl, c0⟩ := vw3.cells 0 (by simp)
        obtain ⟨a', ha', c1⟩ := vw3.cells 1 (by simp)
        cases ha'
        have c0 : cellsAt h3 (a.add (0 * 4)) 0 (enc t) := c0
        have c1 : cellsAt h3 (a.add (1 * 4)) 0 (enc u) := c1
        refine need_of ⟨by omega, by omega⟩ (osome_mk rfl (loads_of ((t.kind : Int), ()) ⟨c0.1, trivial⟩ ?_))
        dsimp only [unc, unc1, flat, List.nil_append, List.cons_append]
        refine cond_mk (fun g3 => ?_) (fun g3 => ?_)
        · have g3 : (t.kind : Int) = 1 := eq_of_beq g3
          refine need_of ⟨by omega, by omega⟩ (osome_mk rfl (loads_of ((u.kind : Int), u.text, (u.num : Int), (u.at_ : Int), ()) c1 ?_))
          refine call_boolx (sign_hc u 58 h3) ?_
          intro h4 e4
          refine cond_mk (fun g4 => ?_) (fun g4 => ?_)
          · have c0' := cellsAt_keep e4 (by simp) _ _ c0
            refine need_of ⟨by omega, by omega⟩ (osome_mk rfl (loads_of (t.text, ()) ⟨c0'.2.1, trivial⟩ ?_))
            refine stores_of (b7.keep e4 (by simp)) rfl (by simp) ?_
            intro h5 b5 k5 z5
            have e35 : Ch [h2.size] h3 h5 := Ch.trans (e4.mono (by simp)) k5 (fun i hi _ => hi)
            refine meet_mk (cs := [(false, [.int .i64])]) ((2 : Int), ()) rfl rfl ⟨2, t.text, rfl, by simp, ?_, b5, e35⟩
            unfold parseL
            rw [if_pos (by show (decide (t.kind = 1) && isS u 58) = true; rw [g4, decide_eq_true (by omega)]; rfl)]
            rfl
          · exact plain e4 (labB_false (by rintro _ _ _ hh h1 h2; injection hh with q1 q2; injection q2 with q2 _; subst q1 q2; rw [h2] at g4; cases g4))
        · have g3 : (t.kind : Int) ≠ 1 := ne_of_beq_false g3
          exact plain (Ch.refl _ _) (labB_false (by rintro _ _ _ hh h1 h2; injection hh with q1 q2; subst q1; omega))
    · have g2 := of_decide_eq_false g2
      exact plain (Ch.refl _ _) (labB_false (by rintro t u r rfl h1 h2; simp at hl3; omega))
  · rintro ⟨n8, ⟨⟩⟩ h4 ⟨k, lb, hk, hkle, hpl, b4, k4⟩
    simp only at hk
    subst hk
    dsimp only [unc, unc1, flat, List.nil_append, List.cons_append]
    rw [hpl]
    have v4 := vw3.keep k4 (fun i hi => by have := (hblk i hi).2; simp; omega)
    have hne : h.size ≠ h2.size := by omega
    have a4 : Box h4 h.size 53 [.string ⟨#[]⟩, .string ⟨#[]⟩, .slice none 0 0] := (b2.keep e3 (by simp)).keep k4 (by simp; omega)
    have e04 : Ext h h4 := Ch.trans (e12.trans e3) k4 (fun i hi hl => by simp at hi; omega)
    have hz4 := k4.size
    have hz3 := e3.size
    have hL : (ts.drop k).length = ts.length - k := List.length_drop
    -- the line goes out
    have out : ∀ {hh : Hp} {L : Lp} {op : ByteArray} {al : List In} {p : Option Addr} {c nn : Nat}, nn = al.length → (∃ v w u, Box hh h.size 53 [v, w, u]) → Box hh h2.size 53 [.string lb, .string op, .slice p nn c] → Ext h hh → Args hh h4.size 27 105 p c al → parseT s.size lb (ts.drop k) = (⟨lb, op, al.map In.ts⟩, 0, 0) →
        (T.loads ⟨h2.size, 0, none⟩ [.string, .string, .slice 27] <| fun (s11 : ByteArray) (s12 : ByteArray) (p13 : Option Addr) (l14 : Nat) (l15 : Nat) =>
          T.stores ⟨h.size, 0, none⟩ [.string s11, .string s12, .slice p13 l14 l15] <|
          T.loads ⟨h.size, 0, none⟩ [.string, .string, .slice 27] <| fun (s16 : ByteArray) (s17 : ByteArray) (p18 : Option Addr) (l19 : Nat) (l20 : Nat) =>
          T.ret (.tuple #[.agg #[.string s16, .string s17, .slice p18 l19 l20], .int .i64 (0 : Int), .int .i64 (0 : Int)])) L
          (fun v h' => Ext h h' ∧ ∃ p c al, v = .tuple #[.agg #[.string (parseT s.size lb (ts.drop k)).1.label, .string (parseT s.size lb (ts.drop k)).1.op, .slice p al.length c], .int .i64 (parseT s.size lb (ts.drop k)).2.1, .int .i64 (parseT s.size lb (ts.drop k)).2.2] ∧ Args h' h.size 27 105 p c al ∧ al.map In.ts = (parseT s.size lb (ts.drop k)).1.args) hh := by
      rintro hh L op al p c nn rfl ⟨v, w, u, bb⟩ b7' e A hpt
      refine loads_box b7' (lb, op, (p, al.length, c), ()) rfl ?_
      refine stores_of bb rfl (by simp) ?_
      intro h' b' k' z'
      have b' : Box h' h.size 53 [.string lb, .string op, .slice p al.length c] := b'
      refine loads_box b' (lb, op, (p, al.length, c), ()) rfl ?_
      rw [hpt]
      exact ⟨hE e k', p, c, al, rfl, (A.keep k' (fun i hi => by have := (A.out.blk hi).1; simp; omega) (fun x hx i hi => by have := ((A.inn x hx).blk hi).1; simp; omega)).mono (by omega), rfl⟩
    -- a refusal
    have refuse : ∀ {hh : Hp} {L : Lp} {aa : Nat}, (∃ v w u, Box hh h.size 53 [v, w, u]) → Ext h hh → parseT s.size lb (ts.drop k) = (lnNil, aa, 20) →
        (T.stores ⟨h.size, 0, none⟩ [.string ⟨#[]⟩, .string ⟨#[]⟩, .slice none 0 0] <|
          T.loads ⟨h.size, 0, none⟩ [.string, .string, .slice 27] <| fun (s16 : ByteArray) (s17 : ByteArray) (p18 : Option Addr) (l19 : Nat) (l20 : Nat) =>
          T.ret (.tuple #[.agg #[.string s16, .string s17, .slice p18 l19 l20], .int .i64 (aa : Int), .int .i64 (20 : Int)])) L
          (fun v h' => Ext h h' ∧ ∃ p c al, v = .tuple #[.agg #[.string (parseT s.size lb (ts.drop k)).1.label, .string (parseT s.size lb (ts.drop k)).1.op, .slice p al.length c], .int .i64 (parseT s.size lb (ts.drop k)).2.1, .int .i64 (parseT s.size lb (ts.drop k)).2.2] ∧ Args h' h.size 27 105 p c al ∧ al.map In.ts = (parseT s.size lb (ts.drop k)).1.args) hh := by
      rintro hh L aa ⟨v, w, u, bb⟩ e hpt
      refine stores_of bb rfl (by simp) ?_
      intro h' b' k' z'
      have b' : Box h' h.size 53 [.string ⟨#[]⟩, .string ⟨#[]⟩, .slice none 0 0] := b'
      refine loads_box b' ((⟨#[]⟩ : ByteArray), (⟨#[]⟩ : ByteArray), (none, 0, 0), ()) rfl ?_
      rw [hpt]
      exact ⟨hE e k', none, 0, [], rfl, Args.nil _ _ _ _, rfl⟩
    refine cond_mk (fun g2 => ?_) (fun g2 => ?_)
    · have g2 : (k : Int) = (l3 : Int) := eq_of_beq g2
      have : ts.drop k = [] := List.drop_eq_nil_of_le (by omega)
      exact out (al := []) rfl ⟨_, _, _, a4⟩ b4 e04 (Args.nil _ _ _ _) (by rw [this]; rfl)
    have g2 : (k : Int) ≠ (l3 : Int) := ne_of_beq_false g2
    have hklt : k < ts.length := by omega
    have hdr : ts.drop k = ts[k] :: ts.drop (k + 1) := List.drop_eq_getElem_cons hklt
    obtain ⟨a, rfl, c0⟩ := v4.cells k hklt
    have ab := hblk a.block (by simp [blkOf])
    have hus : (ts.drop (k + 1)).length = ts.length - (k + 1) := List.length_drop
    have hget : ∀ i (hi : i < (ts.drop (k + 1)).length), cellsAt h4 (a.add ((k + 1 + i) * 4)) 0 (enc (ts.drop (k + 1))[i]) := by
      intro i hi
      obtain ⟨a', ha', hc⟩ := v4.cells (k + 1 + i) (by omega)
      cases ha'
      rw [List.getElem_drop]
      exact hc
    generalize ts[k] = t at c0 hdr
    generalize ts.drop (k + 1) = us at hdr hus hget
    rw [show Int.toNat (k : Int) = k by omega]
    refine need_of ⟨by omega, by omega⟩ (osome_mk rfl (loads_of ((t.kind : Int), ()) ⟨c0.1, trivial⟩ ?_))
    dsimp only [unc, unc1, flat, List.nil_append, List.cons_append]
    refine cond_mk (fun g3 => ?_) (fun g3 => ?_)
    · have g3 : (t.kind : Int) ≠ 1 := by simpa using g3
      have hpt : parseT s.size lb (ts.drop k) = (lnNil, t.at_, 20) := by rw [hdr]; simp only [parseT]; rw [if_pos (by omega)]
      refine need_of ⟨by omega, by omega⟩ (osome_mk rfl (loads_of ((t.at_ : Int), ()) ⟨c0.2.2.2.1, trivial⟩ ?_))
      dsimp only [unc, unc1, flat, List.nil_append, List.cons_append]
      refine stores_of a4 rfl (by simp) ?_
      intro h5 b5 k5 z5
      have b5 : Box h5 h.size 53 [.string ⟨#[]⟩, .string ⟨#[]⟩, .slice none 0 0] := b5
      have c5 := cellsAt_keep k5 (by rw [add_block]; simp; omega) _ _ c0
      refine ⟨⟨⟨c5.2.2.2.1, trivial⟩, trivial⟩, ?_⟩
      refine loads_box b5 ((⟨#[]⟩ : ByteArray), (⟨#[]⟩ : ByteArray), (none, 0, 0), ()) rfl ?_
      rw [hpt]
      exact ⟨hE e04 k5, none, 0, [], rfl, Args.nil _ _ _ _, rfl⟩
    have g3 : (t.kind : Int) = 1 := by simpa using g3
    have hpt : parseT s.size lb (ts.drop k) = match argsA s.size us with
        | .error a => (lnNil, a, 20)
        | .ok l => (⟨lb, t.text, l⟩, 0, 0) := by rw [hdr]; simp only [parseT]; rw [if_neg (by omega)]; cases argsA s.size us <;> rfl
    refine need_of ⟨by omega, by omega⟩ (osome_mk rfl (loads_of (t.text, ()) ⟨c0.2.1, trivial⟩ ?_))
    dsimp only [unc, unc1, flat, List.nil_append, List.cons_append]
    rw [add_box]
    refine stores_of b4 rfl (by simp) ?_
    intro h5 b5 k5 z5
    have b5 : Box h5 h2.size 53 [.string lb, .string t.text, .slice none 0 0] := b5
    have a5 := a4.keep k5 (by simp; omega)
    have e05 : Ext h h5 := Ch.trans e04 k5 (fun i hi hl => by simp at hi; omega)
    have hz5 := k5.size
    have hget5 : ∀ i (hi : i < us.length), cellsAt h5 (a.add ((k + 1 + i) * 4)) 0 (enc us[i]) := fun i hi => cellsAt_keep k5 (by rw [add_block]; simp; omega) _ _ (hget i hi)
    have hw : IntKind.wrap .i64 ((k : Int) + 1) = ((k + 1 : Nat) : Int) := by rw [wrap_i64 (by omega) (by omega)]; omega
    rw [hw]
    refine cond_mk (fun g4 => ?_) (fun g4 => ?_)
    · have g4 : ((k + 1 : Nat) : Int) = (l3 : Int) := eq_of_beq g4
      have : us = [] := List.eq_nil_of_length_eq_zero (by omega)
      refine out (al := []) rfl ⟨_, _, _, a5⟩ b5 e05 (Args.nil _ _ _ _) ?_
      rw [hpt, this]; rfl
    have g4 : ((k + 1 : Nat) : Int) ≠ (l3 : Int) := ne_of_beq_false g4
    have hune : us ≠ [] := fun hh => by rw [hh] at hus; simp at hus; omega
    have hAA : argsA s.size us = argsS s.size us [] [] := by unfold argsA; rw [if_neg hune]
    refine loop_of (cs := parCs) (parI s.size (k + 1) h2.size us lb t.text h5) ((0 : Int), (0 : Int), ((k + 1 : Nat) : Int), (none, 0, 0), ()) us.length rfl
      ⟨0, [], ⟨none, 0, 0, []⟩, none, 0, rfl, by omega, by omega, Ch.refl _ _, b5, Args.nil _ _ _ _, rfl, SL.nil _ _ _ _, by simp [blkOf], by simp, rfl, by simp, by simp⟩ ?_
    rintro ⟨n13, n14, n15, ⟨p16, l17, l18⟩, ⟨⟩⟩ m h6 ⟨i, dn, cu, pa, ca, hi, hile, rfl, k6, b6, A6, hcu, sc, d1, d2, hrec, hdn, hcl⟩
    simp only at hi hcu
    injection hcu with q1 q2
    injection q2 with q2 q3
    subst hi q1 q2 q3
    dsimp only [parCs, unc, unc1, flat, List.nil_append, List.cons_append]
    have a6 := a5.keep k6 (by simp; omega)
    have e06 : Ext h h6 := Ch.trans e05 k6 (fun j hj hl => by simp at hj; omega)
    have hz6 := k6.size
    have hcul : cu.l = cu.ts.length := by rw [sc.1, List.length_map]
    refine cond_mk (fun g5 => ?_) (fun g5 => ?_)
    · have g5 := of_decide_eq_true g5
      have hilt : i < us.length := by omega
      have c6 := cellsAt_keep k6 (by rw [add_block]; simp; omega) _ _ (hget5 i hilt)
      have hdi : us.drop i = us[i] :: us.drop (i + 1) := List.drop_eq_getElem_cons hilt
      rw [hdi] at hrec
      generalize us[i] = x at c6 hrec
      rw [show Int.toNat ((k + 1 + i : Nat) : Int) = k + 1 + i by omega]
      refine need_of ⟨by omega, by omega⟩ (osome_mk rfl (loads_of ((x.kind : Int), x.text, (x.num : Int), (x.at_ : Int), ()) c6 ?_))
      dsimp only [unc, unc1, flat, List.nil_append, List.cons_append]
      refine newB ?_
      intro h7 b7 e7 z7
      refine stores_of b7 rfl (by simp) ?_
      intro h8 b8 k8 z8
      have b8 : Box h8 h6.size 105 (enc x) := b8
      have e68 : Ext h6 h8 := Ch.trans e7 k8 (fun j hj hl => by simp at hj; omega)
      have hld : ∀ {hh : Hp} {L : Lp} {K : Value → Hp → Prop} {kk : Int → ByteArray → Int → Int → T}, Ext h8 hh → kk x.kind x.text x.num x.at_ L K hh → T.loads (⟨h6.size, 0, none⟩ : Addr) [.int .i64, .string, .int .u32, .int .i64] kk L K hh := by
        intro hh L K kk e hk
        exact loads_box (b8.keep e (by simp)) ((x.kind : Int), x.text, (x.num : Int), (x.at_ : Int), ()) rfl hk
      refine join_of (cs := [(false, [.bool])]) (fun y h' => y.1 = (isS x 58 || (isS x 44 && decide (cu.ts = []))) ∧ Ext h8 h') ?_ ?_
      · refine hld (Ch.refl _ _) ?_
        refine call_boolx (sign_hc x 58 h8) ?_
        intro h9 e9
        refine cond_mk (fun g6 => ?_) (fun g6 => ?_)
        · exact meet_mk (cs := [(false, [.bool])]) (true, ()) rfl rfl ⟨by rw [g6]; rfl, e9⟩
        · refine hld e9 ?_
          refine call_boolx (sign_hc x 44 h9) ?_
          intro h10 e10
          refine cond_mk (fun g7 => ?_) (fun g7 => ?_)
          · refine meet_mk (cs := [(false, [.bool])]) (((cu.l : Int) == 0), ()) rfl rfl ⟨?_, e9.trans e10⟩
            show ((cu.l : Int) == 0) = _
            rw [g6, g7, Bool.false_or, Bool.true_and, hcul]
            by_cases hh : cu.ts = []
            · rw [hh]; rfl
            · have : cu.ts.length ≠ 0 := fun h0 => hh (List.eq_nil_of_length_eq_zero h0)
              rw [decide_eq_false hh]
              simp only [beq_eq_false_iff_ne, ne_eq]
              omega
          · exact meet_mk (cs := [(false, [.bool])]) (false, ()) rfl rfl ⟨by rw [g6, g7]; rfl, e9.trans e10⟩
      · rintro ⟨b25, ⟨⟩⟩ h9 ⟨hb25, e9⟩
        simp only at hb25
        subst hb25
        dsimp only [flat, unc, unc1, List.nil_append, List.cons_append]
        have e69 := e68.trans e9
        have a9 := a6.keep e69 (by simp)
        have b9 := b6.keep e69 (by simp)
        have A9 := A6.keep e69 (by simp) (by simp)
        have s9 := sc.keep e69 (by simp)
        have hz9 := e69.size
        refine cond_mk (fun g6 => ?_) (fun g6 => ?_)
        · rw [add_box]
          refine loads_box (b8.keep e9 (by simp)) ((x.at_ : Int), ()) rfl ?_
          dsimp only [unc, unc1, flat, List.nil_append, List.cons_append]
          have hA : parseT s.size lb (ts.drop k) = (lnNil, x.at_, 20) := by
            rw [hpt, hAA, hrec]
            simp only [argsS]
            rw [if_pos g6]
          have hb8 := b8.keep e9 (by simp)
          refine stores_of a9 rfl (by simp) ?_
          intro h10 b10 k10 z10
          have b10 : Box h10 h.size 53 [.string ⟨#[]⟩, .string ⟨#[]⟩, .slice none 0 0] := b10
          refine ⟨⟨(hb8.keep k10 (by simp; omega)).cells _ rfl, trivial⟩, ?_⟩
          refine loads_box b10 ((⟨#[]⟩ : ByteArray), (⟨#[]⟩ : ByteArray), (none, 0, 0), ()) rfl ?_
          rw [hA]
          exact ⟨hE (e06.trans e69) k10, none, 0, [], rfl, Args.nil _ _ _ _, rfl⟩
        · rw [show argsS s.size (x :: us.drop (i + 1)) (dn.map In.ts) cu.ts = if isS x 44 = true then argsS s.size (us.drop (i + 1)) (dn.map In.ts ++ [cu.ts]) [] else argsS s.size (us.drop (i + 1)) (dn.map In.ts) (cu.ts ++ [x]) by
            conv => lhs; unfold argsS
            rw [if_neg (by rw [g6]; simp)]] at hrec
          refine hld e9 ?_
          refine call_boolx (sign_hc x 44 h9) ?_
          intro h10 e10
          have hw2 : IntKind.wrap .i64 (((k + 1 + i : Nat) : Int) + 1) = ((k + 1 + (i + 1) : Nat) : Int) := by rw [wrap_i64 (by omega) (by omega)]; omega
          have e610 := e69.trans e10
          have b10 := b9.keep e10 (by simp)
          have A10 := A9.keep e10 (by simp) (by simp)
          have s10 := s9.keep e10 (by simp)
          have k510 : Ch [h2.size] h5 h10 := Ch.trans k6 e610 (by simp)
          have hz10 := k510.size
          refine cond_mk (fun g7 => ?_) (fun g7 => ?_)
          · rw [if_pos g7] at hrec
            rw [add_box]
            refine loads_box b10 ((pa, dn.length, ca), ()) rfl ?_
            dsimp only [unc, unc1, flat, List.nil_append, List.cons_append]
            refine push_of (e := 27) (vs := [.slice cu.p cu.l cu.c]) und51 slZ2 rfl (by omega) (by omega) (by kernel_rfl) rfl rfl A10.out hz10 (by omega) (by omega) ?_
            intro p' c' h11 o11 k11 hp11
            have b11 := b10.keep k11 (fun hh => by have := (A10.out.blk hh).1; have := b5.lt; omega)
            refine stores_of b11 rfl (by simp) ?_
            intro h12 b12 k12 z12
            have A11 := A10.snoc (a := cu) hz10 o11 k11 hp11 s10 d1 d2
            have h2lt := b5.lt
            refine again_mk (cs := parCs) (n13, n14, ((k + 1 + (i + 1) : Nat) : Int), (none, 0, 0), ()) (us.length - (i + 1)) rfl (by omega) (by rw [hw2]; rfl) ?_
            refine ⟨i + 1, dn ++ [cu], ⟨none, 0, 0, []⟩, p', c', rfl, by omega, rfl, ?_, by rw [List.length_append]; exact b12, A11.keep k12 (fun j hj => by have := (A11.out.blk hj).1; simp; omega) (fun y hy j hj => by have := ((A11.inn y hy).blk hj).1; simp; omega), rfl, SL.nil _ _ _ _, by simp [blkOf], by simp [blkOf], ?_, by simp; omega, by simp⟩
            · exact Ch.trans (Ch.trans k510 k11 (fun j hj hl => by have := (A10.out.blk hj).1; omega)) k12 (fun j hj _ => hj)
            · rw [hrec, List.map_append]; rfl
          · rw [if_neg (by rw [g7]; simp)] at hrec
            refine hld (e9.trans e10) ?_
            refine push_of (e := 105) (vs := enc x) und27 tokZ2 rfl (by omega) (by omega) (by kernel_rfl) rfl rfl s10 hz10 (by omega) (by omega) ?_
            intro p7 c7 h11 o11 k11 hp11
            have h2lt := b5.lt
            have hp' : ∀ j, j ∈ blkOf p7 → j ∈ blkOf cu.p ∨ h10.size ≤ j := by
              intro j hj
              rcases hp11 with rfl | ⟨y, rfl, hy⟩
              · exact .inl hj
              · simp [blkOf] at hj; right; omega
            refine again_mk (cs := parCs) (n13, n14, ((k + 1 + (i + 1) : Nat) : Int), (p7, cu.l + 1, c7), ()) (us.length - (i + 1)) rfl (by omega) (by rw [hw2]; rfl) ?_
            refine ⟨i + 1, dn, ⟨p7, cu.l + 1, c7, cu.ts ++ [x]⟩, pa, ca, rfl, by omega, rfl, ?_, b10.keep k11 (fun hh => by have := (s10.blk hh).1; omega), A10.keep k11 (fun j hj hh => d1 j hh hj) (fun y hy j hj hh => d2 y hy j hj hh), rfl, by rw [List.map_append]; exact o11, ?_, ?_, hrec, by omega, by simp; omega⟩
            · exact Ch.trans k510 k11 (fun j hj hl => by have := (s10.blk hj).1; omega)
            · intro j hj hh
              rcases hp' j hj with h1 | h1
              · exact d1 j h1 hh
              · have := (A10.out.blk hh).2; omega
            · intro y hy j hj hh
              rcases hp' j hh with h1 | h1
              · exact d2 y hy j hj h1
              · have := ((A10.inn y hy).blk hj).2; omega
    · have g5 := of_decide_eq_false g5
      have hi : i = us.length := by omega
      subst hi
      rw [List.drop_length] at hrec
      have hA : argsA s.size us = if cu.ts = [] then .error s.size else .ok (dn.map In.ts ++ [cu.ts]) := by
        rw [hAA, hrec]
        rfl
      refine cond_mk (fun g6 => ?_) (fun g6 => ?_)
      · have g6 : (cu.l : Int) = 0 := eq_of_beq g6
        refine refuse (aa := s.size) ⟨_, _, _, a6⟩ e06 ?_
        rw [hpt, hA, if_pos (List.eq_nil_of_length_eq_zero (by omega))]
      · have g6 : (cu.l : Int) ≠ 0 := ne_of_beq_false g6
        rw [if_neg (fun hh => by rw [hh] at hcul; simp at hcul; omega)] at hA
        rw [hA] at hpt
        rw [add_box]
        refine loads_box b6 ((pa, dn.length, ca), ()) rfl ?_
        dsimp only [unc, unc1, flat, List.nil_append, List.cons_append]
        refine push_of (e := 27) (vs := [.slice cu.p cu.l cu.c]) und51 slZ2 rfl (by omega) (by omega) (by kernel_rfl) rfl rfl A6.out hz6 (by omega) (by omega) ?_
        intro p' c' h11 o11 k11 hp11
        have h2lt := b5.lt
        have b11 := b6.keep k11 (fun hh => by have := (A6.out.blk hh).1; omega)
        refine stores_of b11 rfl (by simp) ?_
        intro h12 b12 k12 z12
        have A11 := A6.snoc (a := cu) hz6 o11 k11 hp11 sc d1 d2
        have A12 := A11.keep k12 (fun j hj => by have := (A11.out.blk hj).1; simp; omega) (fun y hy j hj => by have := ((A11.inn y hy).blk hj).1; simp; omega)
        have a12 := (a6.keep k11 (fun hh => by have := (A6.out.blk hh).1; omega)).keep k12 (by simp; omega)
        have e12' : Ext h h12 := Ch.trans (Ch.trans e06 k11 (fun j hj hl => by have := (A6.out.blk hj).1; omega)) k12 (fun j hj hl => by simp at hj; omega)
        refine out (op := t.text) (al := dn ++ [cu]) (nn := dn.length + 1) (by simp) ⟨_, _, _, a12⟩ b12 e12' (A12.mono (by omega)) ?_
        rw [hpt, List.map_append]
        rfl
theorem lineParses_hc (s : ByteArray) (h : Hp) (hl : Laid h) : HC Tryd.prog 9 #[.string s] h fun v h' => v = .bool true ∧ Ext h h' := by
  refine hcr_of (args := [.string s]) mixed Tryd.func9 (by kernel_rfl) (t_spandrellaw3_LineParses_eq s) ?_
  unfold t_spandrellaw3_LineParses
  refine call_str (few3_hc s 1000 h (by omega)) ?_
  obtain ⟨s1, hs1⟩ : ∃ s1, s1 = s.extract 0 (min (Int.toNat 1000) s.size) := ⟨_, rfl⟩
  rw [← hs1]
  have hz : s1.size ≤ 1000 := by rw [hs1, ext_size]; omega
  clear hs1
  refine call_of (parse_hc s1 h (by omega) hl) ?_
  rintro _ h1 ⟨e1, p, c, al, rfl, A1, hal⟩
  refine ⟨((parseS s1).1.label, (parseS s1).1.op, (p, al.length, c), ((parseS s1).2.1 : Int), ((parseS s1).2.2 : Int), ()), rfl, ?_⟩
  dsimp only [unc, unc1, flat, List.nil_append, List.cons_append]
  refine newB ?_
  intro h2 b2 e2 z2
  refine stores_of b2 rfl (by simp) ?_
  intro h3 b3 k3 z3
  have b3 : Box h3 h1.size 48 [.string (parseS s1).1.label, .string (parseS s1).1.op, .slice p al.length c] := b3
  have e13 : Ext h1 h3 := Ch.trans e2 k3 (fun i hi hl => by simp at hi; omega)
  refine call_of (parse2_hc s1 h3 (by omega)) ?_
  rintro _ h4 ⟨e4, p', c', al', rfl, A4, hal'⟩
  refine ⟨((parseS s1).1.label, (parseS s1).1.op, (p', al'.length, c'), ((parseS s1).2.1 : Int), ((parseS s1).2.2 : Int), ()), rfl, ?_⟩
  dsimp only [unc, unc1, flat, List.nil_append, List.cons_append]
  refine newB ?_
  intro h5 b5 e5 z5
  refine stores_of b5 rfl (by simp) ?_
  intro h6 b6 k6 z6
  have b6 : Box h6 h4.size 53 [.string (parseS s1).1.label, .string (parseS s1).1.op, .slice p' al'.length c'] := b6
  have e46 : Ext h4 h6 := Ch.trans e5 k6 (fun i hi hl => by simp at hi; omega)
  have e06 : Ext h h6 := ((e1.trans e13).trans e4).trans e46
  have c3 := (b3.keep e4 (by simp)).keep e46 (by simp)
  refine loads_box c3 ((parseS s1).1.label, (parseS s1).1.op, (p, al.length, c), ()) rfl ?_
  dsimp only [unc, unc1, flat, List.nil_append, List.cons_append]
  refine loads_box b6 ((parseS s1).1.label, (parseS s1).1.op, (p', al'.length, c'), ()) rfl ?_
  dsimp only [unc, unc1, flat, List.nil_append, List.cons_append]
  have hb := parseS_bound s1
  refine call_boolx (sameLine_hc (A1.keep (e13.trans (e4.trans e46)) (by simp) (by simp)) (A4.keep e46 (by simp) (by simp)) (hal.trans hal'.symm) ?_ ?_) ?_
  · have := congrArg List.length hal
    rw [List.length_map] at this
    rw [this]
    have := hb.2
    omega
  · intro a ha
    have := hb.1 a.ts (by rw [← hal]; exact List.mem_map.2 ⟨a, ha, rfl⟩)
    omega
  · intro h7 e7
    refine cond_t rfl (cond_t (by simp) (cond_t (by simp) ?_))
    exact known3_end hl (e06.trans e7)
end Go.Sx
