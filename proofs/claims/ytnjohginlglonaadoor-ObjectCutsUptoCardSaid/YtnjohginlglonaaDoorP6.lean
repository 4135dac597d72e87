/- Contracts over heaps, and plain laws, for the functions that the laws of chapter 10 call, part 6: Units held against units, over heaps. Lists of units over heaps: are there too many things?; a number brought between two others. A refusal in words, its number; is an error the refusal that is expected? Asked: the table of powers of ten, as it is laid. Is an error the refusal that is expected? Asked: the table of powers of ten, as it is laid. Bytes over heaps; chapter 10's runs. ObjectNumbers over heaps. ObjectBack, ObjectCuts over heaps. ObjectBack, ObjectCuts over heaps, joined. What is handed in, opened: structs, lists; over any program. Condition: as each statement says. -/
import Derived.Test.YtnjohginlglonaaDoorP5
import Derived.Test.YtnjohginlglonaaDoorObjTa
import Derived.Test.YtnjohginlglonaaDoorObjIs
import Derived.Test.YtnjohginlglonaaDoorObjShelf
import Derived.Test.YtnjohginlglonaaDoorP4
import Derived.Test.YtnjohginlglonaaDoorSxU
import Derived.Test.YtnjohginlglonaaDoorObjTb
import Derived.Lib.ItoaLen
import Derived.Test.YtnjohginlglonaaDoorRows
import Derived.ProofKit
import Derived.LaidMore
import Derived.LaidLaws
import Derived.OpenShut
import Derived.ChangeSame
import Derived.ChangeStays
import Derived.ChangeOld
import Derived.ChangeSlices
import Derived.ChangeMaps5
import Derived.JoinedCond
import Derived.Lib.LaidTab
import Derived.Stop.Joined
set_option linter.unusedVariables false
set_option linter.unusedSimpArgs false
set_option maxRecDepth 100000
namespace Go.Sx.Ob
open Go.Proofs
theorem itm_ext {x y : Itm} (r1 : x.kind = y.kind) (r2 : x.name = y.name) (r3 : x.inst = y.inst) (r4 : x.e = y.e) (r5 : x.n = y.n) : x = y := by
  cases x
  cases y
  simp_all
theorem unt_ext {x y : Unt} (r1 : x.text = y.text) (r2 : x.data = y.data) (r3 : x.equs = y.equs) (r4 : x.globs = y.globs) : x = y := by
  cases x
  cases y
  simp_all
theorem cond_sw {L : Lp} {K : Value → Hp → Prop} {h : Hp} {b : Bool} {t u : T} (hu : b = false → u L K h) (ht : b = true → t L K h) : (cond b t u) L K h := cond_mk ht hu
def sameT (l0 l1 : Nat) (body : Int → T → T) : T :=
 cond ((l0 : Int) != (l1 : Int))
  (T.ret (.bool false))
  (T.loop [(false, [.bool]), (false, [.int .i64])] [.bool false, .int .i64 (0 : Int)] <| fun (b2 : Bool) (n3 : Int) =>
  cond (decide (n3 < (l0 : Int)))
   (body n3 (T.again 0 [.bool b2, .int .i64 (IntKind.wrap .i64 (n3 + (1 : Int)))]))
   (T.ret (.bool true)))
theorem getE {α : Type} {xs ys : List α} (e : xs = ys) {i : Nat} (h1 : i < xs.length) (h2 : i < ys.length) : xs[i] = ys[i] := by
  subst e
  rfl
theorem cellsAt_add {h : Hp} {a : Addr} : ∀ (vs : List Value) (o i : Nat), cellsAt h a (o + i) vs → cellsAt h (a.add o) i vs
  | [], _, _, _ => trivial
  | v :: vs, o, i, hc => ⟨by rw [add_add]; exact hc.1, cellsAt_add vs o (i + 1) hc.2⟩
/-- The answer whether two things are the same. -/
def Eqw {α : Type} (x y : α) (h : Hp) (w : Value) (h' : Hp) : Prop := ∃ b : Bool, w = .bool b ∧ (b = true ↔ x = y) ∧ Ext h h'
theorem sameT_of {α : Type} {xs ys : List α} {l0 l1 : Nat} (h0 : l0 = xs.length) (h1 : l1 = ys.length) (hm : xs.length ≤ 2 ^ 60) {body : Int → T → T} {h : Hp}
    (hb : ∀ (L : Lp) (h' : Hp) (i : Nat) (hi : i < xs.length) (hj : i < ys.length) (k : T), Ext h h' → (xs[i] = ys[i] → ∀ h'', Ext h h'' → k L (Eqw xs ys h) h'') → (xs[i] ≠ ys[i] → ∀ h'', Ext h h'' → Eqw xs ys h (.bool false) h'') → body (i : Int) k L (Eqw xs ys h) h') :
    sameT l0 l1 body [] (Eqw xs ys h) h := by
  subst h0 h1
  unfold sameT
  refine cond_mk (fun q => ?_) (fun q => ?_)
  · refine ⟨false, rfl, ⟨fun h => (by cases h), fun e => ?_⟩, Ch.refl _ _⟩
    rw [e] at q
    simp at q
  have q : xs.length = ys.length := by
    have : (((xs.length : Nat) : Int) == ((ys.length : Nat) : Int)) = true := by
      simpa using q
    exact eqN_t this
  refine loop_of (cs := [(false, [.bool]), (false, [.int .i64])]) (fun y m h' => ∃ i : Nat, y.1 = false ∧ y.2.1 = (i : Int) ∧ m = xs.length - i ∧ i ≤ xs.length ∧ Ext h h' ∧ ∀ j, (hj : j < i) → (h1 : j < xs.length) → (h2 : j < ys.length) → xs[j] = ys[j]) (false, (0 : Int), ()) xs.length rfl
    ⟨0, rfl, rfl, rfl, by omega, Ch.refl _ _, fun j hj => by omega⟩ ?_
  rintro ⟨b2, n3, ⟨⟩⟩ m h1 ⟨i, hy1, hy2, rfl, hi, e1, hj⟩
  simp only at hy1 hy2
  subst hy1 hy2
  dsimp only [flat, unc, unc1, List.nil_append, List.cons_append]
  refine cond_mk (fun r => ?_) (fun r => ?_)
  · have r := of_decide_eq_true r
    refine hb _ h1 i (by omega) (by omega) _ e1 (fun he h2 e2 => ?_) (fun hne h2 e2 => ?_)
    · rw [wrap_i64 (by omega) (by omega)]
      refine again_mk (cs := [(false, [.bool]), (false, [.int .i64])]) (false, ((i + 1 : Nat) : Int), ()) (xs.length - (i + 1)) rfl (by omega) rfl ?_
      refine ⟨i + 1, rfl, rfl, rfl, by omega, e2, fun j hj' a b => ?_⟩
      by_cases hji : j < i
      · exact hj j hji a b
      · have : j = i := by omega
        subst this
        exact he
    · exact ⟨false, rfl, ⟨fun h => (by cases h), fun e => absurd (getE e (by omega) (by omega)) hne⟩, e2⟩
  · have r := of_decide_eq_false r
    refine ⟨true, rfl, ⟨fun _ => ?_, fun _ => rfl⟩, e1⟩
    exact List.ext_getElem q fun j a b => hj j (by omega) a b
theorem beqL (s t : ByteArray) : (ByteArray.toList s == ByteArray.toList t) = decide (s = t) := by
  rw [ByteArray.toList_eq, ByteArray.toList_eq]
  by_cases h : s = t
  · rw [decide_eq_true h, h]; simp
  · rw [decide_eq_false h]
    have : ¬ s.data.toList = t.data.toList := fun e => h (ba_ext e)
    simpa using this
theorem linB_iff (x y : Lin) : linB x y = true ↔ x = y := by
  obtain ⟨a, b⟩ := x
  obtain ⟨c, d⟩ := y
  unfold linB
  simp
  exact and_comm
theorem sameStr_hc {h : Hp} {p q : Option Addr} {l c m d : Nat} {xs ys : List ByteArray} (v : VwS h p l xs) (w : VwS h q m ys) : HC Tryd.prog 26 #[.slice p l c, .slice q m d] h (Eqw xs ys h) := by
  refine hcr_of (args := [.slice p l c, .slice q m d]) mixed Tryd.func26 (by kernel_rfl) (t_spandrelbook_Same_string__eq p l c q m d) ?_
  refine sameT_of (body := fun n3 k => T.need (((0 : Int) ≤ n3) ∧ (n3 < (l : Int))) <|
   T.osome p <| fun (a4 : Addr) =>
   T.loads (a4.add ((Int.toNat n3) * 1)) [.string] <| fun (s5 : ByteArray) =>
   T.need (((0 : Int) ≤ n3) ∧ (n3 < (m : Int))) <|
   T.osome q <| fun (a6 : Addr) =>
   T.loads (a6.add ((Int.toNat n3) * 1)) [.string] <| fun (s7 : ByteArray) =>
   cond (!((ByteArray.toList s5) == (ByteArray.toList s7)))
    (T.ret (.bool false)) k) v.len w.len v.many ?_
  intro L h' i hi hj k e1 hk hn
  have vl := v.len
  have wl := w.len
  obtain ⟨a, rfl, hc, _⟩ := (v.keep e1).cells i hi
  obtain ⟨b, rfl, hd, _⟩ := (w.keep e1).cells i hj
  refine need_of ⟨by omega, by omega⟩ ?_
  refine osome_mk rfl ?_
  refine loads_of (xs[i], ()) hc ?_
  dsimp only [flat, unc, unc1, List.nil_append, List.cons_append]
  refine need_of ⟨by omega, by omega⟩ ?_
  refine osome_mk rfl ?_
  refine loads_of (ys[i], ()) hd ?_
  dsimp only [flat, unc, unc1, List.nil_append, List.cons_append]
  rw [beqL]
  refine cond_mk (fun r => ?_) (fun r => ?_)
  · exact hn (by simpa using r) h' e1
  · exact hk (by simpa using r) h' e1
theorem sameByte_hc {h : Hp} {p q : Option Addr} {l c m d : Nat} {xs ys : Bt} (v : VwB h p l xs) (w : VwB h q m ys) (hl : xs.length ≤ 2 ^ 60) : HC Tryd.prog 12 #[.slice p l c, .slice q m d] h (Eqw xs ys h) := by
  refine hcr_of (args := [.slice p l c, .slice q m d]) mixed Tryd.func12 (by kernel_rfl) (t_spandrelbook_Same_byte__eq p l c q m d) ?_
  refine sameT_of (body := fun n3 k => T.need (((0 : Int) ≤ n3) ∧ (n3 < (l : Int))) <|
   T.osome p <| fun (a4 : Addr) =>
   T.loads (a4.add ((Int.toNat n3) * 1)) [.int .u8] <| fun (n5 : Int) =>
   T.need (((0 : Int) ≤ n3) ∧ (n3 < (m : Int))) <|
   T.osome q <| fun (a6 : Addr) =>
   T.loads (a6.add ((Int.toNat n3) * 1)) [.int .u8] <| fun (n7 : Int) =>
   cond (n5 != n7)
    (T.ret (.bool false)) k) v.len w.len hl ?_
  intro L h' i hi hj k e1 hk hn
  have vl := v.len
  have wl := w.len
  obtain ⟨a, rfl, hc⟩ := (v.keep e1).cells i hi
  obtain ⟨b, rfl, hd⟩ := (w.keep e1).cells i hj
  refine need_of ⟨by omega, by omega⟩ ?_
  refine osome_mk rfl ?_
  refine loads_of (((xs[i].toNat : Nat) : Int), ()) hc ?_
  dsimp only [flat, unc, unc1, List.nil_append, List.cons_append]
  refine need_of ⟨by omega, by omega⟩ ?_
  refine osome_mk rfl ?_
  refine loads_of (((ys[i].toNat : Nat) : Int), ()) hd ?_
  dsimp only [flat, unc, unc1, List.nil_append, List.cons_append]
  refine cond_mk (fun r => ?_) (fun r => ?_)
  · refine hn (fun e => ?_) h' e1
    rw [e] at r
    simp at r
  · refine hk ?_ h' e1
    have : (((xs[i].toNat : Nat) : Int) == ((ys[i].toNat : Nat) : Int)) = true := by simpa using r
    exact UInt8.toNat_inj.1 (eqN_t this)
theorem sameEqus_hc {h : Hp} {p q : Option Addr} {l c m d : Nat} {xs ys : List Eqn} (v : VwE h p l xs) (w : VwE h q m ys) : HC Tryd.prog 25 #[.slice p l c, .slice q m d] h (Eqw xs ys h) := by
  refine hcr_of (args := [.slice p l c, .slice q m d]) mixed Tryd.func25 (by kernel_rfl) (t_spandrelkeep_SameEqus_eq p l c q m d) ?_
  refine sameT_of (body := fun n3 k => T.need (((0 : Int) ≤ n3) ∧ (n3 < (l : Int))) <|
   T.osome p <| fun (a4 : Addr) =>
   T.loads (a4.add ((Int.toNat n3) * 3)) [.string] <| fun (s5 : ByteArray) =>
   T.need (((0 : Int) ≤ n3) ∧ (n3 < (m : Int))) <|
   T.osome q <| fun (a6 : Addr) =>
   T.loads (a6.add ((Int.toNat n3) * 3)) [.string] <| fun (s7 : ByteArray) =>
    cond (!((ByteArray.toList s5) == (ByteArray.toList s7)))
    (T.ret (.bool false))
    (T.need (((0 : Int) ≤ n3) ∧ (n3 < (l : Int))) <|
    T.osome p <| fun (a8 : Addr) =>
    T.loads ((a8.add ((Int.toNat n3) * 3)).add 1) [.slice 86, .int .u32] <| fun (p9 : Option Addr) (l10 : Nat) (l11 : Nat) (n12 : Int) =>
    T.need (((0 : Int) ≤ n3) ∧ (n3 < (m : Int))) <|
    T.osome q <| fun (a13 : Addr) =>
    T.loads ((a13.add ((Int.toNat n3) * 3)).add 1) [.slice 86, .int .u32] <| fun (p14 : Option Addr) (l15 : Nat) (l16 : Nat) (n17 : Int) =>
    T.call Tryd.prog 46 [.agg #[.slice p9 l10 l11, .int .u32 n12], .agg #[.slice p14 l15 l16, .int .u32 n17]] false [(false, [.bool])] <| fun (b18 : Bool) =>
    T.stable [((a6.add ((Int.toNat n3) * 3)), [.string s7]), ((a4.add ((Int.toNat n3) * 3)), [.string s5])] <|
    cond (!b18)
     (T.ret (.bool false)) k)) v.len w.len v.many ?_
  intro L h' i hi hj k e1 hk hn
  have vl := v.len
  have wl := w.len
  obtain ⟨a, p1, l1, c1, rfl, hc, va, _⟩ := (v.keep e1).cells i hi
  obtain ⟨b, q1, m1, d1, rfl, hd, wa, _⟩ := (w.keep e1).cells i hj
  refine need_of ⟨by omega, by omega⟩ ?_
  refine osome_mk rfl ?_
  refine loads_of (xs[i].1, ()) ⟨hc.1, trivial⟩ ?_
  dsimp only [flat, unc, unc1, List.nil_append, List.cons_append]
  refine need_of ⟨by omega, by omega⟩ ?_
  refine osome_mk rfl ?_
  refine loads_of (ys[i].1, ()) ⟨hd.1, trivial⟩ ?_
  dsimp only [flat, unc, unc1, List.nil_append, List.cons_append]
  rw [beqL]
  refine cond_mk (fun r => ?_) (fun r => ?_)
  · have r : ¬ xs[i].1 = ys[i].1 := by simpa using r
    exact hn (fun e => r (by rw [e])) h' e1
  have r : xs[i].1 = ys[i].1 := by simpa using r
  refine need_of ⟨by omega, by omega⟩ ?_
  refine osome_mk rfl ?_
  refine loads_of ((p1, l1, c1), (xs[i].2.num : Int), ()) (cellsAt_add _ 1 0 hc.2) ?_
  dsimp only [flat, unc, unc1, List.nil_append, List.cons_append]
  refine need_of ⟨by omega, by omega⟩ ?_
  refine osome_mk rfl ?_
  refine loads_of ((q1, m1, d1), (ys[i].2.num : Int), ()) (cellsAt_add _ 1 0 hd.2) ?_
  dsimp only [flat, unc, unc1, List.nil_append, List.cons_append]
  refine call_of (same48_hc (c := c1) (d := d1) va.vw wa.vw va.many) ?_
  rintro _ h2 ⟨rfl, e2⟩
  refine ⟨(linB xs[i].2 ys[i].2, ()), rfl, ?_⟩
  dsimp only [flat, unc, unc1, List.nil_append, List.cons_append]
  refine ⟨⟨⟨hcell_keep hd.1 e2 (by simp), trivial⟩, ⟨hcell_keep hc.1 e2 (by simp), trivial⟩, trivial⟩, ?_⟩
  refine cond_mk (fun u => ?_) (fun u => ?_)
  · have u : linB xs[i].2 ys[i].2 = false := by simpa using u
    refine hn (fun e => ?_) h2 (e1.trans e2)
    rw [(linB_iff _ _).2 (by rw [e])] at u
    cases u
  · have u : linB xs[i].2 ys[i].2 = true := by simpa using u
    exact hk (Prod.ext r ((linB_iff _ _).1 u)) h2 (e1.trans e2)
theorem cmpInsE (x y : Operand) (i j : Ins) (h : Hp) (K : Value → Hp → Prop) (hk : K (.bool (decide (i = j))) h) :
    semW Tryd.prog (Sx.cmpS (BinOp.eql) 77 x y (.agg (insC i).toArray) (.agg (insC j).toArray)) h K := by
  refine cmpS_eql ins77 (by kernel_rfl) (by kernel_rfl) (by kernel_rfl) K ?_
  have he : (flds Tryd.prog 77).all (eqF (insC i).toArray (insC j).toArray) = (i.op == j.op && (i.a == j.a && (i.b == j.b && (i.n == j.n && (i.form == j.form && true))))) := by
    rw [← Array.all_toList]
    kernel_rfl
  rw [he, Bool.and_true]
  have : (i.op == j.op && (i.a == j.a && (i.b == j.b && (i.n == j.n && i.form == j.form)))) = decide (i = j) := by
    rcases i with ⟨a1, a2, a3, a4, a5⟩
    rcases j with ⟨c1, c2, c3, c4, c5⟩
    simp only [beqD, Ins.mk.injEq]
    by_cases h1 : a1 = c1 <;> by_cases h2 : a2 = c2 <;> by_cases h3 : a3 = c3 <;> by_cases h4 : a4 = c4 <;> by_cases h5 : a5 = c5 <;> simp [h1, h2, h3, h4, h5]
  rw [this]
  exact hk
theorem sameItem_hc {h : Hp} {p q : Option Addr} {l c m d : Nat} {x y : Itm} (v : LinAt h p l x.e) (w : LinAt h q m y.e) : HC Tryd.prog 45 #[itmV p l c x, itmV q m d y] h (Eqw x y h) := by
  refine hcr_of (args := [itmV p l c x, itmV q m d y]) mixed Tryd.func45 (by kernel_rfl) (t_spandrelkeep_SameItem_eq x.kind x.name x.inst.op x.inst.a x.inst.b x.inst.n x.inst.form p l c x.e.num x.n y.kind y.name y.inst.op y.inst.a y.inst.b y.inst.n y.inst.form q m d y.e.num y.n) ?_
  unfold t_spandrelkeep_SameItem
  refine newB ?_
  intro h1 b1 e1 z1
  refine newB ?_
  intro h2 b2 e2 z2
  have b1 : Box h2 h.size 79 (encI p l c x) := b1.keep e2 (by simp)
  have b2 : Box h2 h1.size 79 (encI q m d y) := b2
  have e := e1.trans e2
  have no : ∀ h', Ext h h' → x ≠ y → Eqw x y h (.bool false) h' := fun h' e hn => ⟨false, rfl, ⟨fun h => (by cases h), fun e => absurd e hn⟩, e⟩
  simp only [add_box]
  refine loads_box b1 (x.kind, ()) rfl ?_
  dsimp only [flat, unc, unc1, List.nil_append, List.cons_append]
  refine loads_box b2 (y.kind, ()) rfl ?_
  dsimp only [flat, unc, unc1, List.nil_append, List.cons_append]
  refine cond_sw (fun r1 => ?_) (fun r1 => ?_)
  · have r1 : ¬ x.kind = y.kind := by simpa using r1
    exact no h2 e (fun e => r1 (by rw [e]))
  have r1 : x.kind = y.kind := by simpa using r1
  refine loads_box b1 (x.name, ()) rfl ?_
  dsimp only [flat, unc, unc1, List.nil_append, List.cons_append]
  refine loads_box b2 (y.name, ()) rfl ?_
  dsimp only [flat, unc, unc1, List.nil_append, List.cons_append]
  rw [beqL]
  refine cond_sw (fun r2 => ?_) (fun r2 => ?_)
  · have r2 : ¬ x.name = y.name := by simpa using r2
    exact no h2 e (fun e => r2 (by rw [e]))
  have r2 : x.name = y.name := by simpa using r2
  refine loads_box b1 (x.inst.op, x.inst.a, x.inst.b, x.inst.n, x.inst.form, ()) rfl ?_
  dsimp only [flat, unc, unc1, List.nil_append, List.cons_append]
  refine loads_box b2 (y.inst.op, y.inst.a, y.inst.b, y.inst.n, y.inst.form, ()) rfl ?_
  dsimp only [flat, unc, unc1, List.nil_append, List.cons_append]
  refine sem_bool (fun K' hK => cmpInsE _ _ x.inst y.inst h2 K' hK) ?_
  refine cond_sw (fun r3 => ?_) (fun r3 => ?_)
  · have r3 : ¬ x.inst = y.inst := by simpa using r3
    exact no h2 e (fun e => r3 (by rw [e]))
  have r3 : x.inst = y.inst := by simpa using r3
  refine loads_box b1 ((p, l, c), (x.e.num : Int), ()) rfl ?_
  dsimp only [flat, unc, unc1, List.nil_append, List.cons_append]
  refine loads_box b2 ((q, m, d), (y.e.num : Int), ()) rfl ?_
  dsimp only [flat, unc, unc1, List.nil_append, List.cons_append]
  refine call_of (same48_hc (c := c) (d := d) (v.keep e).vw (w.keep e).vw v.many) ?_
  rintro _ h3 ⟨rfl, e3⟩
  refine ⟨(linB x.e y.e, ()), rfl, ?_⟩
  dsimp only [flat, unc, unc1, List.nil_append, List.cons_append]
  refine cond_sw (fun r4 => ?_) (fun r4 => ?_)
  · refine no h3 (e.trans e3) (fun e => ?_)
    rw [(linB_iff _ _).2 (by rw [e])] at r4
    cases r4
  have r4 := (linB_iff _ _).1 r4
  refine loads_box (b1.keep e3 (by simp)) (x.n, ()) rfl ?_
  dsimp only [flat, unc, unc1, List.nil_append, List.cons_append]
  refine loads_box (b2.keep e3 (by simp)) (y.n, ()) rfl ?_
  refine ⟨x.n == y.n, rfl, ⟨fun r5 => ?_, fun e => by rw [e]; simp⟩, e.trans e3⟩
  have r5 : x.n = y.n := by simpa using r5
  exact itm_ext r1 r2 r3 r4 r5
theorem sameItems_hc {h : Hp} {p q : Option Addr} {l c m d : Nat} {xs ys : List Itm} (v : VwI h p l xs) (w : VwI h q m ys) : HC Tryd.prog 24 #[.slice p l c, .slice q m d] h (Eqw xs ys h) := by
  refine hcr_of (args := [.slice p l c, .slice q m d]) mixed Tryd.func24 (by kernel_rfl) (t_spandrelkeep_SameItems_eq p l c q m d) ?_
  refine sameT_of (body := fun n3 k => T.need (((0 : Int) ≤ n3) ∧ (n3 < (l : Int))) <|
   T.osome p <| fun (a4 : Addr) =>
   T.loads (a4.add ((Int.toNat n3) * 10)) [.int .i64, .string, .int .i64, .int .i64, .int .i64, .int .i32, .int .i64, .slice 86, .int .u32, .int .i64] <| fun (n5 : Int) (s6 : ByteArray) (n7 : Int) (n8 : Int) (n9 : Int) (n10 : Int) (n11 : Int) (p12 : Option Addr) (l13 : Nat) (l14 : Nat) (n15 : Int) (n16 : Int) =>
   T.need (((0 : Int) ≤ n3) ∧ (n3 < (m : Int))) <|
   T.osome q <| fun (a17 : Addr) =>
   T.loads (a17.add ((Int.toNat n3) * 10)) [.int .i64, .string, .int .i64, .int .i64, .int .i64, .int .i32, .int .i64, .slice 86, .int .u32, .int .i64] <| fun (n18 : Int) (s19 : ByteArray) (n20 : Int) (n21 : Int) (n22 : Int) (n23 : Int) (n24 : Int) (p25 : Option Addr) (l26 : Nat) (l27 : Nat) (n28 : Int) (n29 : Int) =>
   T.call Tryd.prog 45 [.agg #[.int .i64 n5, .string s6, .int .i64 n7, .int .i64 n8, .int .i64 n9, .int .i32 n10, .int .i64 n11, .slice p12 l13 l14, .int .u32 n15, .int .i64 n16], .agg #[.int .i64 n18, .string s19, .int .i64 n20, .int .i64 n21, .int .i64 n22, .int .i32 n23, .int .i64 n24, .slice p25 l26 l27, .int .u32 n28, .int .i64 n29]] false [(false, [.bool])] <| fun (b30 : Bool) =>
   cond (!b30)
    (T.ret (.bool false)) k) v.len w.len v.many ?_
  intro L h' i hi hj k e1 hk hn
  have vl := v.len
  have wl := w.len
  obtain ⟨a, p1, l1, c1, rfl, hc, va⟩ := (v.keep e1).cells i hi
  obtain ⟨b, q1, m1, d1, rfl, hd, wa⟩ := (w.keep e1).cells i hj
  refine need_of ⟨by omega, by omega⟩ ?_
  refine osome_mk rfl ?_
  refine loads_of (xs[i].kind, xs[i].name, xs[i].inst.op, xs[i].inst.a, xs[i].inst.b, xs[i].inst.n, xs[i].inst.form, (p1, l1, c1), (xs[i].e.num : Int), xs[i].n, ()) hc ?_
  dsimp only [flat, unc, unc1, List.nil_append, List.cons_append]
  refine need_of ⟨by omega, by omega⟩ ?_
  refine osome_mk rfl ?_
  refine loads_of (ys[i].kind, ys[i].name, ys[i].inst.op, ys[i].inst.a, ys[i].inst.b, ys[i].inst.n, ys[i].inst.form, (q1, m1, d1), (ys[i].e.num : Int), ys[i].n, ()) hd ?_
  dsimp only [flat, unc, unc1, List.nil_append, List.cons_append]
  refine call_of (sameItem_hc (c := c1) (d := d1) va.lin wa.lin) ?_
  rintro _ h2 ⟨b, rfl, hb, e2⟩
  refine ⟨(b, ()), rfl, ?_⟩
  dsimp only [flat, unc, unc1, List.nil_append, List.cons_append]
  refine cond_mk (fun u => ?_) (fun u => ?_)
  · have u : b = false := by simpa using u
    refine hn (fun e => ?_) h2 (e1.trans e2)
    rw [hb.2 e] at u
    cases u
  · have u : b = true := by simpa using u
    exact hk (hb.1 u) h2 (e1.trans e2)
theorem sameUnit_hc {h : Hp} {a b c d a' b' c' d' : Sli} {u v : Unt} (x : UntAt h a b c d u) (y : UntAt h a' b' c' d' v) : HC Tryd.prog 11 #[untV a b c d, untV a' b' c' d'] h (Eqw u v h) := by
  refine hcr_of (args := [untV a b c d, untV a' b' c' d']) mixed Tryd.func11 (by kernel_rfl) (t_spandrelkeep_SameUnit_eq a.p a.l a.c b.p b.l b.c c.p c.l c.c d.p d.l d.c a'.p a'.l a'.c b'.p b'.l b'.c c'.p c'.l c'.c d'.p d'.l d'.c) ?_
  unfold t_spandrelkeep_SameUnit
  refine newB ?_
  intro h1 b1 e1 z1
  refine newB ?_
  intro h2 b2 e2 z2
  have b1 : Box h2 h.size 30 [a.v, b.v, c.v, d.v] := b1.keep e2 (by simp)
  have b2 : Box h2 h1.size 30 [a'.v, b'.v, c'.v, d'.v] := b2
  have e := e1.trans e2
  have no : ∀ h', Ext h h' → u ≠ v → Eqw u v h (.bool false) h' := fun h' e hn => ⟨false, rfl, ⟨fun h => (by cases h), fun e => absurd e hn⟩, e⟩
  simp only [add_box]
  refine loads_box b1 ((a.p, a.l, a.c), ()) rfl ?_
  dsimp only [flat, unc, unc1, List.nil_append, List.cons_append]
  refine loads_box b2 ((a'.p, a'.l, a'.c), ()) rfl ?_
  dsimp only [flat, unc, unc1, List.nil_append, List.cons_append]
  refine call_of (sameItems_hc (x.text.keep e) (y.text.keep e)) ?_
  rintro _ h3 ⟨r1, rfl, i1, e3⟩
  refine ⟨(r1, ()), rfl, ?_⟩
  dsimp only [flat, unc, unc1, List.nil_append, List.cons_append]
  have e := e.trans e3
  have b1 := b1.keep e3 (by simp)
  have b2 := b2.keep e3 (by simp)
  refine cond_sw (fun q1 => ?_) (fun q1 => ?_)
  · refine no _ e (fun e => ?_)
    rw [i1.2 (by rw [e])] at q1
    cases q1
  have i1 := i1.1 q1
  refine loads_box b1 ((b.p, b.l, b.c), ()) rfl ?_
  dsimp only [flat, unc, unc1, List.nil_append, List.cons_append]
  refine loads_box b2 ((b'.p, b'.l, b'.c), ()) rfl ?_
  dsimp only [flat, unc, unc1, List.nil_append, List.cons_append]
  refine call_of (sameItems_hc (x.data.keep e) (y.data.keep e)) ?_
  rintro _ h4 ⟨r2, rfl, i2, e4⟩
  refine ⟨(r2, ()), rfl, ?_⟩
  dsimp only [flat, unc, unc1, List.nil_append, List.cons_append]
  have e := e.trans e4
  have b1 := b1.keep e4 (by simp)
  have b2 := b2.keep e4 (by simp)
  refine cond_sw (fun q2 => ?_) (fun q2 => ?_)
  · refine no _ e (fun e => ?_)
    rw [i2.2 (by rw [e])] at q2
    cases q2
  have i2 := i2.1 q2
  refine loads_box b1 ((c.p, c.l, c.c), ()) rfl ?_
  dsimp only [flat, unc, unc1, List.nil_append, List.cons_append]
  refine loads_box b2 ((c'.p, c'.l, c'.c), ()) rfl ?_
  dsimp only [flat, unc, unc1, List.nil_append, List.cons_append]
  refine call_of (sameEqus_hc (x.equs.keep e) (y.equs.keep e)) ?_
  rintro _ h5 ⟨r3, rfl, i3, e5⟩
  refine ⟨(r3, ()), rfl, ?_⟩
  dsimp only [flat, unc, unc1, List.nil_append, List.cons_append]
  have e := e.trans e5
  have b1 := b1.keep e5 (by simp)
  have b2 := b2.keep e5 (by simp)
  refine cond_sw (fun q3 => ?_) (fun q3 => ?_)
  · refine no _ e (fun e => ?_)
    rw [i3.2 (by rw [e])] at q3
    cases q3
  have i3 := i3.1 q3
  refine loads_box b1 ((d.p, d.l, d.c), ()) rfl ?_
  dsimp only [flat, unc, unc1, List.nil_append, List.cons_append]
  refine loads_box b2 ((d'.p, d'.l, d'.c), ()) rfl ?_
  dsimp only [flat, unc, unc1, List.nil_append, List.cons_append]
  refine call_of (sameStr_hc (x.globs.keep e) (y.globs.keep e)) ?_
  rintro _ h6 ⟨r4, rfl, i4, e6⟩
  refine ⟨(r4, ()), rfl, ?_⟩
  refine ⟨r4, rfl, ⟨fun q => ?_, fun e => i4.2 (by rw [e])⟩, e.trans e6⟩
  have i4 := i4.1 q
  exact unt_ext i1 i2 i3 i4
end Go.Sx.Ob

set_option linter.unusedVariables false
set_option linter.unusedSimpArgs false
set_option maxRecDepth 100000
namespace Go.Sx.Ob
open Go.Proofs
structure VwU (h : Hp) (p : Option Addr) (l : Nat) (us : List Unt) : Prop where
  len : l = us.length
  many : us.length ≤ 2 ^ 60
  cells : ∀ i, (hi : i < us.length) → ∃ a sa sb sc sd, p = some a ∧ cellsAt h (a.add (i * 4)) 0 [Sli.v sa, Sli.v sb, Sli.v sc, Sli.v sd] ∧ UntAt h sa sb sc sd us[i]
theorem VwU.keep {h h' : Hp} {p : Option Addr} {l : Nat} {us : List Unt} (v : VwU h p l us) (k : Ext h h') : VwU h' p l us :=
  ⟨v.len, v.many, fun i hi => by
    obtain ⟨a, sa, sb, sc, sd, ha, hc, hv⟩ := v.cells i hi
    exact ⟨a, sa, sb, sc, sd, ha, cellsAt_keep k (by simp) _ _ hc, hv.keep k⟩⟩
def bigB (u : Unt) : Bool := decide (600 < u.text.length) || decide (300 < u.data.length) || decide (100 < u.equs.length)
def sizeU (u : Unt) : Nat := u.text.length + u.data.length + u.equs.length
def sizes (us : List Unt) : Nat := (us.map sizeU).sum
def largeR (us : List Unt) : Bool := (us.take 65).any bigB || decide (900 < sizes (us.take 65))
theorem any_take {α : Type} (f : α → Bool) (l : List α) {i n : Nat} (hi : i < l.length) (hn : i < n) (h : f l[i] = true) : (l.take n).any f = true := by
  rw [List.any_eq_true]
  exact ⟨l[i], List.mem_take_iff_getElem.2 ⟨i, by omega, rfl⟩, h⟩
theorem sizes_step (us : List Unt) {i : Nat} (hi : i < us.length) : sizes (us.take (i + 1)) = sizes (us.take i) + sizeU us[i] := by
  unfold sizes
  rw [List.take_succ_eq_append_getElem hi, List.map_append, List.sum_append]
  simp
theorem large_hc {h : Hp} {p : Option Addr} {l c : Nat} {us : List Unt} (v : VwU h p l us) : HCp Tryd.prog 10 [.slice p l c] h (.bool (largeR us)) := by
  refine hcp_of mixed Tryd.func10 (by kernel_rfl) (t_spandrelkeep_Large_eq p l c) ?_
  unfold t_spandrelkeep_Large
  have hl := v.len
  have hm := v.many
  refine loop_of (cs := [(false, [.bool]), (false, [.int .i64]), (false, [.int .i64])]) (fun y m h' => ∃ i : Nat, y.1 = false ∧ y.2.1 = ((sizes (us.take i) : Nat) : Int) ∧ y.2.2.1 = (i : Int) ∧ m = l - i ∧ i ≤ l ∧ i ≤ 65 ∧ h' = h ∧ (us.take i).any bigB = false ∧ sizes (us.take i) ≤ i * 1000) (false, (0 : Int), (0 : Int), ()) l rfl
    ⟨0, rfl, rfl, rfl, rfl, by omega, by omega, rfl, rfl, by simp [sizes]⟩ ?_
  rintro ⟨b1, n2, n3, ⟨⟩⟩ m h1 ⟨i, hy1, hy2, hy3, rfl, hi, hi65, rfl, hb, hs⟩
  simp only at hy1 hy2 hy3
  subst hy1 hy2 hy3
  dsimp only [flat, unc, unc1, List.nil_append, List.cons_append]
  have fin : (l ≤ i ∨ 65 ≤ i) → (T.ret (.bool (decide (((sizes (us.take i) : Nat) : Int) > (900 : Int))))) [Jl (cs := [(false, [.bool]), (false, [.int .i64]), (false, [.int .i64])]) (fun y m h' => ∃ i : Nat, y.1 = false ∧ y.2.1 = ((sizes (us.take i) : Nat) : Int) ∧ y.2.2.1 = (i : Int) ∧ m = l - i ∧ i ≤ l ∧ i ≤ 65 ∧ h' = h1 ∧ (us.take i).any bigB = false ∧ sizes (us.take i) ≤ i * 1000) (l - i)] (fun v' h' => v' = .bool (largeR us) ∧ h' = h1) h1 := by
    intro hh
    have : us.take i = us.take 65 := by
      by_cases h65 : i = 65
      · rw [h65]
      · rw [List.take_of_length_le (by omega), List.take_of_length_le (by omega)]
    refine ⟨?_, rfl⟩
    unfold largeR
    rw [← this, hb, Bool.false_or]
    congr 1
    by_cases g : 900 < sizes (us.take i)
    · rw [decide_eq_true g, decide_eq_true (by omega)]
    · rw [decide_eq_false g, decide_eq_false (by omega)]
  refine cond_sw (fun r => ?_) (fun r => ?_)
  · have r := of_decide_eq_false r
    exact fin (by omega)
  have r := of_decide_eq_true r
  refine cond_sw (fun w => ?_) (fun w => ?_)
  · have w := of_decide_eq_false w
    exact fin (by omega)
  have w := of_decide_eq_true w
  clear fin
  have hiu : i < us.length := by omega
  obtain ⟨a, sa, sb, sc, sd, rfl, hc, hv⟩ := v.cells i hiu
  have na := hv.text.len
  have nb := hv.data.len
  have nc := hv.equs.len
  have ca : cellsAt h1 (a.add (i * 4)) 0 [Sli.v sa] := ⟨hc.1, trivial⟩
  have cb : cellsAt h1 ((a.add (i * 4)).add 1) 0 [Sli.v sb] := cellsAt_add _ 1 0 ⟨hc.2.1, trivial⟩
  have cc : cellsAt h1 ((a.add (i * 4)).add 2) 0 [Sli.v sc] := cellsAt_add _ 2 0 ⟨hc.2.2.1, trivial⟩
  have big : bigB us[i] = true → (T.ret (.bool true)) [Jl (cs := [(false, [.bool]), (false, [.int .i64]), (false, [.int .i64])]) (fun y m h' => ∃ i : Nat, y.1 = false ∧ y.2.1 = ((sizes (us.take i) : Nat) : Int) ∧ y.2.2.1 = (i : Int) ∧ m = l - i ∧ i ≤ l ∧ i ≤ 65 ∧ h' = h1 ∧ (us.take i).any bigB = false ∧ sizes (us.take i) ≤ i * 1000) (l - i)] (fun v' h' => v' = .bool (largeR us) ∧ h' = h1) h1 := by
    intro hg
    refine ⟨?_, rfl⟩
    unfold largeR
    rw [any_take bigB us hiu (by omega) hg]
    rfl
  refine need_of ⟨by omega, by omega⟩ (osome_mk rfl ?_)
  refine loads_of ((sa.p, sa.l, sa.c), ()) ca ?_
  dsimp only [flat, unc, unc1, List.nil_append, List.cons_append]
  refine cond_mk (fun g => ?_) (fun g1 => ?_)
  · have g := of_decide_eq_true g
    refine big ?_
    unfold bigB
    rw [decide_eq_true (by omega)]
    rfl
  have g1 := of_decide_eq_false g1
  refine need_of ⟨by omega, by omega⟩ (osome_mk rfl ?_)
  refine loads_of ((sb.p, sb.l, sb.c), ()) cb ?_
  dsimp only [flat, unc, unc1, List.nil_append, List.cons_append]
  refine cond_mk (fun g => ?_) (fun g2 => ?_)
  · have g := of_decide_eq_true g
    refine big ?_
    unfold bigB
    rw [decide_eq_true (show 300 < us[i].data.length by omega)]
    simp
  have g2 := of_decide_eq_false g2
  refine need_of ⟨by omega, by omega⟩ (osome_mk rfl ?_)
  refine loads_of ((sc.p, sc.l, sc.c), ()) cc ?_
  dsimp only [flat, unc, unc1, List.nil_append, List.cons_append]
  refine cond_mk (fun g => ?_) (fun g3 => ?_)
  · have g := of_decide_eq_true g
    refine big ?_
    unfold bigB
    rw [decide_eq_true (show 100 < us[i].equs.length by omega)]
    simp
  have g3 := of_decide_eq_false g3
  refine need_of ⟨by omega, by omega⟩ (osome_mk rfl ?_)
  refine loads_of ((sa.p, sa.l, sa.c), ()) ca ?_
  dsimp only [flat, unc, unc1, List.nil_append, List.cons_append]
  refine need_of ⟨by omega, by omega⟩ (osome_mk rfl ?_)
  refine loads_of ((sb.p, sb.l, sb.c), ()) cb ?_
  dsimp only [flat, unc, unc1, List.nil_append, List.cons_append]
  refine need_of ⟨by omega, by omega⟩ (osome_mk rfl ?_)
  refine loads_of ((sc.p, sc.l, sc.c), ()) cc ?_
  dsimp only [flat, unc, unc1, List.nil_append, List.cons_append]
  rw [wrap_i64 (x := ((sizes (us.take i) : Nat) : Int) + (sa.l : Int)) (by omega) (by omega), wrap_i64 (x := ((sizes (us.take i) : Nat) : Int) + (sa.l : Int) + (sb.l : Int)) (by omega) (by omega), wrap_i64 (x := ((sizes (us.take i) : Nat) : Int) + (sa.l : Int) + (sb.l : Int) + (sc.l : Int)) (by omega) (by omega), wrap_i64 (x := (i : Int) + 1) (by omega) (by omega)]
  have hst := sizes_step us hiu
  have hsz : sizeU us[i] = sa.l + sb.l + sc.l := by unfold sizeU; omega
  refine again_mk (cs := [(false, [.bool]), (false, [.int .i64]), (false, [.int .i64])]) (false, ((sizes (us.take (i + 1)) : Nat) : Int), ((i + 1 : Nat) : Int), ()) (l - (i + 1)) rfl (by omega) ?_ ?_
  · show [Value.bool false, Value.int .i64 (((sizes (us.take i) : Nat) : Int) + (sa.l : Int) + (sb.l : Int) + (sc.l : Int)), Value.int .i64 ((i : Int) + 1)] = [Value.bool false, Value.int .i64 ((sizes (us.take (i + 1)) : Nat) : Int), Value.int .i64 ((i + 1 : Nat) : Int)]
    rw [hst, hsz]
    congr 3
    omega
  · refine ⟨i + 1, rfl, rfl, rfl, rfl, by omega, by omega, rfl, ?_, by omega⟩
    rw [List.take_succ_eq_append_getElem hiu, List.any_append, hb, Bool.false_or]
    unfold bigB
    simp only [List.any_cons, List.any_nil, Bool.or_false, Bool.or_eq_false_iff, decide_eq_false_iff_not]
    omega
theorem within_hc (h : Hp) (n : Int) (hn : Sm n) {m : Nat} (h0 : 0 < m) (hm : m ≤ 2 ^ 60) : HC Tryd.prog 13 #[.int .i64 n, .int .i64 0, .int .i64 ((m : Int) - 1)] h fun w h' => ∃ r : Nat, r < m ∧ w = .int .i64 r ∧ h' = h := by
  refine hcr_of (args := [.int .i64 n, .int .i64 0, .int .i64 ((m : Int) - 1)]) mixed Tryd.func13 (by kernel_rfl) (t_spandrelbook_Within_eq n 0 ((m : Int) - 1)) ?_
  unfold t_spandrelbook_Within
  rw [wrap_i64 (x := (m : Int) - 1 - 0) (by omega) (by omega), wrap_i64 (x := (m : Int) - 1 - 0 + 1) (by omega) (by omega), show (m : Int) - 1 - 0 + 1 = m by omega]
  have t1 := Int.tmod_lt_of_pos n (b := (m : Int)) (by omega)
  have t2 : -(m : Int) < Int.tmod n m := by
    by_cases g : 0 ≤ n
    · have := Int.tmod_nonneg (m : Int) g
      omega
    · have e : Int.tmod n m = -(Int.tmod (-n) m) := by rw [Int.neg_tmod, Int.neg_neg]
      have := Int.tmod_lt_of_pos (-n) (b := (m : Int)) (by omega)
      omega
  refine need_of (by omega) ?_
  refine cond_mk (fun g => ?_) (fun g => ?_)
  · have g := of_decide_eq_true g
    rw [wrap_i64 (x := Int.tmod n m + ((m : Int) - 1)) (by omega) (by omega), wrap_i64 (x := Int.tmod n m + ((m : Int) - 1) - 0) (by omega) (by omega), wrap_i64 (x := Int.tmod n m + ((m : Int) - 1) - 0 + 1) (by omega) (by omega), wrap_i64 (by omega) (by omega)]
    exact ⟨(0 + (Int.tmod n m + ((m : Int) - 1) - 0 + 1)).toNat, by omega, by congr 1; omega, rfl⟩
  · have g := of_decide_eq_false g
    rw [wrap_i64 (by omega) (by omega)]
    exact ⟨(0 + Int.tmod n m).toNat, by omega, by congr 1; omega, rfl⟩
end Go.Sx.Ob

set_option linter.unusedVariables false
set_option linter.unusedSimpArgs false
set_option maxRecDepth 100000
namespace Go.Sx.Ob
open Go.Proofs
theorem SL.flat {h : Hp} {b : Nat} {e : TypeId} {sz : Nat} {a : Addr} {l c : Nat} {xs : List (List Value)} (s : SL h b e sz (some a) l c xs) : cellsAt h a 0 xs.flatten := by
  obtain ⟨g, pre, rest, rfl, hbg, hlc, hbox, hr⟩ := s.2.2
  refine hbox.cells _ ?_
  rw [List.drop_left, List.take_left]
/-- The table of the powers of ten lies where it was laid. -/
def Pow10 (h : Hp) : Prop := ∃ e f, h[1]? = some (.cells (Lib.pow10Tab.map fun z => Value.int .u64 z).toArray e f)
theorem Pow10.keep {ws : List Nat} {h h' : Hp} (p : Pow10 h) (k : Ch ws h h') (hw : 1 ∉ ws) : Pow10 h' := by
  obtain ⟨e, f, hp⟩ := p
  exact ⟨e, f, k.get hp hw⟩
theorem tab_of {W : World} {name : String} (hg : Tryd.prog.globalNamed name = some 1) (p : Pow10 W.heap) : Lib.TabIs Tryd.prog W name .u64 Lib.pow10Tab := by
  obtain ⟨e, f, hp⟩ := p
  unfold Lib.TabIs World.var?
  rw [hg]
  show (match W.heap[1]? with | some (.cells cs _ _) => some cs | _ => none) = _
  rw [hp]
theorem itoa_hc {h : Hp} (p : Pow10 h) (n : Nat) (hn : n ≤ 2 ^ 60) : HC Tryd.prog 41 #[.int .i64 n] h fun v h' => ∃ s : ByteArray, v = .string s ∧ s.size ≤ 1000 ∧ Ext h h' := by
  intro W hW
  subst hW
  refine (Tryd.strconv_Itoa n (by omega) (by omega) W (tab_of (by kernel_rfl) p)).mono ?_
  rintro e w' ⟨he, k, os, rfl⟩
  refine ⟨_, he, ⟨rfl, rfl, rfl⟩, _, rfl, ?_, ?_⟩
  · show (Lib.itoa (n : Int)).toArray.size ≤ 1000
    have := Lib.itoa_length_le (n : Int) (by omega) (by omega)
    simp
    omega
  · refine ⟨by show W.heap.size ≤ (W.heap ++ os).size; simp, fun i hi _ => ?_⟩
    show (W.heap ++ os)[i]? = _
    rw [Array.getElem?_append_left hi]
theorem und22' : Tryd.prog.underlying 22 = some (.slice 5) := by kernel_rfl
theorem und5' : Tryd.prog.underlying 5 = some (.int .u8) := by kernel_rfl
theorem und9' : Tryd.prog.underlying 9 = some .string := by kernel_rfl
theorem toStr_of {L : Lp} {K : Value → Hp → Prop} {h : Hp} {b : Nat} {p : Option Addr} {l c : Nat} {bs : List UInt8} {k : ByteArray → T} (s : SL h b 5 1 p l c (byC bs)) (h0 : bs ≠ []) (hk : k ⟨bs.toArray⟩ L K h) :
    T.sem Tryd.prog (convert 22 9 (.slice p l c)) false [(false, [.string])] k L K h := by
  show semW Tryd.prog (convert 22 9 (.slice p l c)) h _
  unfold convert
  rw [semW_bind', semW_underlying und22', semW_bind', semW_underlying und9']
  show semW Tryd.prog (do match ← underlying 5 with
    | .int .u8 => Conv.bytesToString (.slice p l c)
    | .int .i32 => Conv.runesToString (.slice p l c)
    | _ => stuck "Convert: a slice of what to string?") h _
  rw [semW_bind', semW_underlying und5']
  cases p with
  | none =>
    have h1 : byC bs = [] := s.2.2.2
    have : bs = [] := by simpa [byC] using h1
    exact absurd this h0
  | some a =>
    have hl : l = bs.length := by rw [s.1, byC_length]
    subst hl
    have hf := SL.flat s
    rw [byC_flat] at hf
    exact bytesBack a bs c _ hf ⟨(⟨bs.toArray⟩, ()), rfl, hk⟩
theorem digitV (n : Nat) : IntKind.wrap .u8 (IntKind.wrap .i64 ((48 : Int) + (Int.tmod (n : Int) (10 : Int)))) = ((UInt8.ofNat (48 + n % 10)).toNat : Int) := by
  have e : Int.tmod (n : Int) 10 = ((n % 10 : Nat) : Int) := by
    rw [Int.tmod_eq_emod_of_nonneg (by omega)]
    rfl
  rw [e, wrap_i64 (by omega) (by omega), wrap_u8 (by omega) (by omega)]
  simp
  omega
theorem append_none {P : Program} {h : Hp} {t ty e : TypeId} {i : TypeInfo} (ht : P.underlying t = some (.slice e)) (hi : P.info? e = some i) (a : Addr) (l : Nat) (K : Value → Hp → Prop) (hk : K (.slice (some a) l l) h) :
    semW P (Builtin.append_ #[t, t] ty #[.slice (some a) l l, .slice none 0 0]) h K := by
  simp [Builtin.append_, semW_bind', semW_underlying ht, semW_sizeOf hi, cellsOf_info hi, Builtin.lenOf, Builtin.firstCells]
  rw [semW_map]
  exact hk
theorem errno_hc (h : Hp) (n : Nat) (hn : n < 10 ^ 18) : HC Tryd.prog 42 #[.int .i64 n] h fun v h' => ∃ s : ByteArray, v = .string s ∧ s.size ≤ 1000 ∧ Ext h h' := by
  refine hcr_of (args := [.int .i64 n]) mixed Tryd.func42 (by kernel_rfl) (t__api_Errno__Error_eq n) ?_
  unfold t__api_Errno__Error
  refine cond_mk (fun _ => ⟨_, rfl, by decide, Ch.refl _ _⟩) (fun _ => ?_)
  refine cond_mk (fun _ => ⟨_, rfl, by decide, Ch.refl _ _⟩) (fun _ => ?_)
  refine cond_mk (fun _ => ⟨_, rfl, by decide, Ch.refl _ _⟩) (fun _ => ?_)
  refine cond_mk (fun _ => ⟨_, rfl, by decide, Ch.refl _ _⟩) (fun _ => ?_)
  refine cond_f (by rw [decide_eq_false_iff_not]; omega) ?_
  refine loop_of (cs := [(false, [.int .i64]), (false, [.slice 0])]) (fun y m h' => ∃ (k : Nat) (bs : List UInt8) (p : Option Addr) (c : Nat), y = ((k : Int), (p, bs.length, c), ()) ∧ m = k + (if bs = [] then 1 else 0) ∧ bs.length ≤ 20 ∧ k ≤ n ∧ k < 10 ^ (20 - bs.length) ∧ SL h' h.size 5 1 p bs.length c (byC bs) ∧ Ext h h') ((n : Int), (none, 0, 0), ()) (n + 1) rfl
    ⟨n, [], none, 0, rfl, rfl, by simp, Nat.le_refl _, Nat.lt_of_lt_of_le hn (Nat.pow_le_pow_right (by omega) (by simp)), SL.nil _ _ _ _, Ch.refl _ _⟩ ?_
  rintro ⟨n6, ⟨p7, l8, l9⟩, ⟨⟩⟩ m h1 ⟨k, bs, p, c, hy, hm, hbl, hkn, hkl, sl, e1⟩
  cases hy
  dsimp only [flat, unc, unc1, List.nil_append, List.cons_append]
  have hz1 := e1.size
  have step : (0 < k ∨ bs = []) → (T.need ((10 : Int) ≠ (0 : Int)) <|
       T.sem Tryd.prog (Instr.buildSlice 22 1 #[(0, .int .u8 (IntKind.wrap .u8 (IntKind.wrap .i64 ((48 : Int) + (Int.tmod (k : Int) (10 : Int))))))]) false [(false, [.slice 0])] <| fun (p5 : Option Addr) (l6 : Nat) (l7 : Nat) =>
       T.sem Tryd.prog (Builtin.append_ #[22, 22] 22 #[.slice p5 l6 l7, .slice p7 bs.length l9]) false [(false, [.slice 0])] <| fun (p8 : Option Addr) (l9 : Nat) (l10 : Nat) =>
       T.need ((10 : Int) ≠ (0 : Int)) <|
       T.again 0 [.int .i64 (IntKind.wrap .i64 (Int.tdiv (k : Int) (10 : Int))), .slice p8 l9 l10]) [Jl (cs := [(false, [.int .i64]), (false, [.slice 0])]) (fun y m h' => ∃ (k : Nat) (bs : List UInt8) (p : Option Addr) (c : Nat), y = ((k : Int), (p, bs.length, c), ()) ∧ m = k + (if bs = [] then 1 else 0) ∧ bs.length ≤ 20 ∧ k ≤ n ∧ k < 10 ^ (20 - bs.length) ∧ SL h' h.size 5 1 p bs.length c (byC bs) ∧ Ext h h') m] (fun v h' => ∃ s : ByteArray, v = .string s ∧ s.size ≤ 1000 ∧ Ext h h') h1 := by
    intro hs
    have hk20 : bs.length < 20 := by
      rcases hs with hs | hs
      · by_cases g : bs.length < 20
        · exact g
        · have : 20 - bs.length = 0 := by omega
          rw [this] at hkl
          simp at hkl
          omega
      · rw [hs]; simp
    refine need_of (by decide) ?_
    rw [digitV]
    refine lit_of und22 byZ (by omega) (by omega) (fill1 ((UInt8.ofNat (48 + k % 10)).toNat : Int)) ?_
    intro h2 b2 e2 z2
    have s2 : SL h2 h1.size 5 1 (some ⟨h1.size, 0, none⟩) 1 1 (byC [UInt8.ofNat (48 + k % 10)]) :=
      ⟨rfl, byC_len _, h1.size, [], [], rfl, Nat.le_refl _, ⟨by omega, by omega⟩, b2, by simp⟩
    have sl2 := sl.keep e2 (by simp)
    obtain ⟨i5, hi5, hz5, hs5, hb5⟩ := inf_of byZ
    have fin : ∀ (bs' : List UInt8) (p' : Option Addr) (c' : Nat) (h3 : Hp), bs' = UInt8.ofNat (48 + k % 10) :: bs → SL h3 h1.size 5 1 p' bs'.length c' (byC bs') → Ext h1 h3 → (T.need ((10 : Int) ≠ (0 : Int)) <|
       T.again 0 [.int .i64 (IntKind.wrap .i64 (Int.tdiv (k : Int) (10 : Int))), .slice p' bs'.length c']) [Jl (cs := [(false, [.int .i64]), (false, [.slice 0])]) (fun y m h' => ∃ (k : Nat) (bs : List UInt8) (p : Option Addr) (c : Nat), y = ((k : Int), (p, bs.length, c), ()) ∧ m = k + (if bs = [] then 1 else 0) ∧ bs.length ≤ 20 ∧ k ≤ n ∧ k < 10 ^ (20 - bs.length) ∧ SL h' h.size 5 1 p bs.length c (byC bs) ∧ Ext h h') m] (fun v h' => ∃ s : ByteArray, v = .string s ∧ s.size ≤ 1000 ∧ Ext h h') h3 := by
      intro bs' p' c' h3 hbs s3 e3
      refine need_of (by decide) ?_
      have hdiv : Int.tdiv (k : Int) (10 : Int) = ((k / 10 : Nat) : Int) := by
        rw [Int.tdiv_eq_ediv_of_nonneg (by omega)]
        rfl
      rw [hdiv, wrap_i64 (by omega) (by omega)]
      refine again_mk (cs := [(false, [.int .i64]), (false, [.slice 0])]) (((k / 10 : Nat) : Int), (p', bs'.length, c'), ()) (k / 10) rfl ?_ rfl ?_
      · rw [hm]
        rcases hs with hs | hs
        · omega
        · rw [if_pos hs]; omega
      · refine ⟨k / 10, bs', p', c', rfl, ?_, ?_, by omega, ?_, s3.mono (by omega), e1.trans e3⟩
        · rw [if_neg (by rw [hbs]; simp)]; rfl
        · rw [hbs]; simp; omega
        · rw [hbs, List.length_cons]
          have : 10 ^ (20 - bs.length) = 10 ^ (20 - (bs.length + 1)) * 10 := by
            rw [← Nat.pow_succ]
            congr 1
            omega
          rw [this] at hkl
          omega
    have hl7 : bs.length = (byC bs).length := (byC_length bs).symm
    cases p7 with
    | none =>
      have hb1 : byC bs = [] := sl2.2.2.2
      have hb3 : l9 = 0 := sl2.2.2.1
      have : bs = [] := by simpa [byC] using hb1
      subst this hb3
      refine sem_slice (append_none und22 hi5 _ 1 _ ?_)
      exact ⟨_, 1, 1, rfl, fin [UInt8.ofNat (48 + k % 10)] _ 1 h2 rfl s2 e2⟩
    | some a7 =>
      refine sem_slice (append_of (i := i5) und22 hi5 hz5 (by rw [hs5]; rfl) (by rw [hs5]; exact s2) (ys := byC bs) hl7 (by rw [hs5]; exact byC_len bs) (SL.flat sl2) (byC_plain bs) (by rw [hb5]; omega) (by omega) (by omega) ?_)
      intro p' c' h3 s3 k3 hp'
      refine ⟨p', 1 + bs.length, c', rfl, ?_⟩
      have hlen : 1 + bs.length = (UInt8.ofNat (48 + k % 10) :: bs).length := by simp; omega
      rw [hlen]
      refine fin _ p' c' h3 rfl ?_ (e2.st k3 (Nat.le_refl _))
      rw [← hlen]
      rw [hs5] at s3
      exact s3
  refine cond_mk (fun q => ?_) (fun q => ?_)
  · have q := of_decide_eq_true q
    exact step (.inl (by omega))
  · refine cond_mk (fun w => ?_) (fun w => ?_)
    · have w : bs.length = 0 := eqN_t w
      exact step (.inr (List.eq_nil_of_length_eq_zero w))
    · have w : ¬ bs.length = 0 := eqN_f w
      refine toStr_of sl (fun e => w (by rw [e]; rfl)) ?_
      have hsz : (⟨bs.toArray⟩ : ByteArray).size = bs.length := by show bs.toArray.size = _; simp
      refine need_of (by rw [hsz]; omega) ?_
      refine ⟨_, rfl, ?_, e1⟩
      rw [ByteArray.size_append, hsz]
      show 8 + bs.length ≤ 1000
      omega
end Go.Sx.Ob

set_option linter.unusedVariables false
set_option linter.unusedSimpArgs false
set_option maxRecDepth 100000
namespace Go.Sx.Ob
open Go.Proofs
theorem is_hc {h : Hp} {a : Nat} {x n : Int} (b : Box h a 62 [.int .i64 x, .int .i64 n]) : HCp Tryd.prog 23 [.iface 60 (ptr a), .iface 23 (.int .i64 n)] h (.bool true) := by
  intro W hW
  subst hW
  refine (Go.Proofs.YtnjohginlglonaaDoor.errorsIs a n W ?_).mono ?_
  · rw [cell_heap, b.cell]
    rfl
  · rintro e w' ⟨he, rfl⟩
    exact ⟨_, he, SameO.refl _, rfl, rfl⟩
theorem unwrap_hc {h : Hp} {a : Nat} {x n : Int} (b : Box h a 62 [.int .i64 x, .int .i64 n]) : HCp Tryd.prog 22 [ptr a] h (.iface 23 (.int .i64 n)) := by
  refine hcp_of mixed Tryd.func22 (by kernel_rfl) (t_object_Refusal__Unwrap_eq (some ⟨a, 0, none⟩)) ?_
  unfold t_object_Refusal__Unwrap
  refine osome_mk rfl ?_
  rw [add_box]
  refine loads_box b (n, ()) rfl ?_
  exact ⟨rfl, rfl⟩
theorem error_hc {h : Hp} (p : Pow10 h) {a x n : Nat} (hx : x ≤ 2 ^ 60) (hn : n < 10 ^ 18) (b : Box h a 62 [.int .i64 (x : Int), .int .i64 (n : Int)]) : HC Tryd.prog 20 #[ptr a] h fun v h' => ∃ s : ByteArray, v = .string s ∧ s.data.toList ≠ [] ∧ Ext h h' := by
  refine hcr_of (args := [ptr a]) mixed Tryd.func20 (by kernel_rfl) (t_object_Refusal__Error_eq (some ⟨a, 0, none⟩)) ?_
  unfold t_object_Refusal__Error
  refine osome_mk rfl ?_
  refine loads_box b ((x : Int), ()) rfl ?_
  dsimp only [flat, unc, unc1, List.nil_append, List.cons_append]
  refine osome_mk rfl ?_
  rw [add_box]
  refine loads_box b ((n : Int), ()) rfl ?_
  dsimp only [flat, unc, unc1, List.nil_append, List.cons_append]
  refine call_of (itoa_hc p x hx) ?_
  rintro _ h1 ⟨s, rfl, hs, e1⟩
  refine ⟨(s, ()), rfl, ?_⟩
  dsimp only [flat, unc, unc1, List.nil_append, List.cons_append]
  have b1 := b.keep e1 (by simp)
  refine ⟨⟨b1.cells _ rfl, trivial⟩, ?_⟩
  have z5 : (⟨#[98, 121, 116, 101, 32]⟩ : ByteArray).size = 5 := rfl
  have z2 : (⟨#[58, 32]⟩ : ByteArray).size = 2 := rfl
  refine need_of (by omega) (need_of (by rw [ByteArray.size_append, z5]; omega) ?_)
  refine call_of (errno_hc h1 n hn) ?_
  rintro _ h2 ⟨t, rfl, ht, e2⟩
  refine ⟨(t, ()), rfl, ?_⟩
  dsimp only [flat, unc, unc1, List.nil_append, List.cons_append]
  refine ⟨⟨(b1.keep e2 (by simp)).cells _ rfl, trivial⟩, ?_⟩
  refine need_of (by rw [ByteArray.size_append, ByteArray.size_append, z5, z2]; omega) ?_
  refine ⟨_, rfl, ?_, e1.trans e2⟩
  intro h0
  have := congrArg List.length h0
  simp at this
theorem eqIN (o : Nat) (t : TypeId) (u : Value) (h : Hp) (K : Value → Hp → Prop) : semW Tryd.prog (Sx.cmpS (BinOp.eql) 32 (Operand.tmp o) (Operand.const Value.nilIface) (.iface t u) .nilIface) h K = K (.bool false) h := by kernel_rfl
theorem eqNN (o : Nat) (h : Hp) (K : Value → Hp → Prop) : semW Tryd.prog (Sx.cmpS (BinOp.eql) 32 (Operand.tmp o) (Operand.const Value.nilIface) .nilIface .nilIface) h K = K (.bool true) h := by kernel_rfl
theorem neIN (o : Nat) (t : TypeId) (u : Value) (h : Hp) (K : Value → Hp → Prop) : semW Tryd.prog (Sx.cmpS (BinOp.neq) 32 (Operand.tmp o) (Operand.const Value.nilIface) (.iface t u) .nilIface) h K = K (.bool true) h := by kernel_rfl
theorem neNN (o : Nat) (h : Hp) (K : Value → Hp → Prop) : semW Tryd.prog (Sx.cmpS (BinOp.neq) 32 (Operand.tmp o) (Operand.const Value.nilIface) .nilIface .nilIface) h K = K (.bool false) h := by kernel_rfl
theorem eqEE (n : Int) (o u : Nat) (h : Hp) (K : Value → Hp → Prop) : semW Tryd.prog (Sx.cmpS (BinOp.eql) 32 (Operand.tmp o) (Operand.tmp u) (.iface 23 (.int .i64 n)) (.iface 23 (.int .i64 n))) h K = K (.bool (n == n)) h := by kernel_rfl
theorem asR (a : Addr) (h : Hp) (K : Value → Hp → Prop) : semW Tryd.prog (Instr.typeAssert (.iface 60 (.pointer (some a))) 32 60 true) h K = K (.tuple #[.pointer (some a), .bool true]) h := by kernel_rfl
theorem asN (h : Hp) (K : Value → Hp → Prop) : semW Tryd.prog (Instr.typeAssert .nilIface 32 60 true) h K = K (.tuple #[.pointer none, .bool false]) h := by kernel_rfl
theorem sameErr_hc (h : Hp) (n : Int) : HCp Tryd.prog 21 [.iface 23 (.int .i64 n), .iface 23 (.int .i64 n)] h (.bool true) := by
  refine hcp_of mixed Tryd.func21 (by kernel_rfl) (t_spandrellaw10_sameErr_eq _ _) ?_
  unfold t_spandrellaw10_sameErr
  refine sem_bool (fun K' hK => by rw [eqIN]; exact hK) ?_
  refine cond_f rfl ?_
  refine sem_bool (fun K' hK => by rw [eqIN]; exact hK) ?_
  refine cond_f rfl ?_
  refine sem_bool (b := true) (fun K' hK => by rw [eqEE]; simpa using hK) ?_
  exact ⟨rfl, rfl⟩
/-- What is expected: why 0: no error. -/
def wants (a w : Nat) (e : Option (Nat × Nat)) : Bool := if w = 0 then decide (e = none) else decide (e = some (a, w))
theorem refused_hc {h : Hp} (p : Pow10 h) {ev : Value} {e : Option (Nat × Nat)} (v : ErrAt h ev e) (hs : ∀ q, e = some q → q.1 ≤ 2 ^ 60 ∧ q.2 < 10 ^ 18) (a w : Nat) :
    HC Tryd.prog 8 #[ev, .agg #[.int .i64 (a : Int), .int .i64 (w : Int)]] h fun r h' => r = .bool (wants a w e) ∧ Ext h h' := by
  refine hcr_of (args := [ev, .agg #[.int .i64 (a : Int), .int .i64 (w : Int)]]) mixed Tryd.func8 (by kernel_rfl) (t_spandrellaw10_refused_eq ev a w) ?_
  unfold t_spandrellaw10_refused
  refine newB ?_
  intro h1 b1 e1 z1
  rw [add_box]
  refine loads_box b1 ((w : Int), ()) rfl ?_
  dsimp only [flat, unc, unc1, List.nil_append, List.cons_append]
  cases e with
  | none =>
    have v : ev = .nilIface := v
    subst v
    refine cond_mk (fun q => ?_) (fun q => ?_)
    · have q : w = 0 := eqN_t q
      refine sem_bool (fun K' hK => by rw [eqNN]; exact hK) ?_
      exact ⟨by unfold wants; rw [if_pos q]; rfl, e1⟩
    · have q : ¬ w = 0 := eqN_f q
      show semW _ _ _ _
      rw [asN]
      refine ⟨(none, false, ()), rfl, ?_⟩
      dsimp only [flat, unc, unc1, List.nil_append, List.cons_append]
      refine cond_f rfl ?_
      exact ⟨by unfold wants; rw [if_neg q]; rfl, e1⟩
  | some er =>
    obtain ⟨ax, rfl, bx⟩ := v
    obtain ⟨hs1, hs2⟩ := hs er rfl
    have bx1 := bx.keep e1 (by simp)
    refine cond_mk (fun q => ?_) (fun q => ?_)
    · have q : w = 0 := eqN_t q
      refine sem_bool (fun K' hK => by rw [eqIN]; exact hK) ?_
      exact ⟨by unfold wants; rw [if_pos q]; rfl, e1⟩
    have q : ¬ w = 0 := eqN_f q
    have ww : wants a w (some er) = decide (er = (a, w)) := by
      unfold wants
      rw [if_neg q]
      simp
    show semW _ _ _ _
    rw [asR]
    refine ⟨(some ⟨ax, 0, none⟩, true, ()), rfl, ?_⟩
    dsimp only [flat, unc, unc1, List.nil_append, List.cons_append]
    refine cond_t rfl ?_
    refine cond_t rfl ?_
    refine osome_mk rfl ?_
    refine loads_box bx1 ((er.1 : Int), ()) rfl ?_
    dsimp only [flat, unc, unc1, List.nil_append, List.cons_append]
    refine loads_box b1 ((a : Int), ()) rfl ?_
    dsimp only [flat, unc, unc1, List.nil_append, List.cons_append]
    refine cond_sw (fun r => ?_) (fun r => ?_)
    · have r : ¬ er.1 = a := eqN_f r
      exact ⟨by rw [ww, decide_eq_false (fun e => r (by rw [e]))], e1⟩
    have r : er.1 = a := eqN_t r
    refine osome_mk rfl ?_
    rw [add_box]
    refine loads_box bx1 ((er.2 : Int), ()) rfl ?_
    dsimp only [flat, unc, unc1, List.nil_append, List.cons_append]
    refine loads_box b1 ((w : Int), ()) rfl ?_
    dsimp only [flat, unc, unc1, List.nil_append, List.cons_append]
    refine cond_sw (fun s => ?_) (fun s => ?_)
    · have s : ¬ er.2 = w := eqN_f s
      exact ⟨by rw [ww, decide_eq_false (fun e => s (by rw [e]))], e1⟩
    have s : er.2 = w := eqN_t s
    have ok : wants a w (some er) = true := by
      rw [ww]
      exact decide_eq_true (Prod.ext r s)
    rw [ok]
    have p1 := p.keep e1 (by simp)
    refine call_of (error_hc p1 hs1 hs2 bx1) ?_
    rintro _ h2 ⟨t, rfl, ht, e2⟩
    refine ⟨(t, ()), rfl, ?_⟩
    dsimp only [flat, unc, unc1, List.nil_append, List.cons_append]
    have b12 := b1.keep e2 (by simp)
    have bx2 := bx1.keep e2 (by simp)
    refine ⟨⟨b12.cells _ rfl, bx2.cells _ rfl, b12.cells _ rfl, bx2.cells _ rfl, trivial⟩, ?_⟩
    refine cond_t (by rw [ByteArray.toList_eq]; simpa using ht) ?_
    refine osome_mk rfl ?_
    refine loads_box bx2 ((er.2 : Int), ()) rfl ?_
    dsimp only [flat, unc, unc1, List.nil_append, List.cons_append]
    refine call_p (unwrap_hc bx2) (.iface 23 (.int .i64 (er.2 : Int)), ()) rfl ?_
    dsimp only [flat, unc, unc1, List.nil_append, List.cons_append]
    refine ⟨⟨bx2.cells _ rfl, b12.cells _ rfl, bx2.cells _ rfl, b12.cells _ rfl, bx2.cells _ rfl, trivial⟩, ?_⟩
    refine call_bool (sameErr_hc h2 er.2) ?_
    refine ⟨⟨bx2.cells _ rfl, b12.cells _ rfl, bx2.cells _ rfl, b12.cells _ rfl, bx2.cells _ rfl, trivial⟩, ?_⟩
    refine cond_t rfl ?_
    refine loads_box b12 ((w : Int), ()) rfl ?_
    dsimp only [flat, unc, unc1, List.nil_append, List.cons_append]
    rw [s] at bx2
    refine call_bool (is_hc bx2) ?_
    refine ⟨⟨b12.cells _ rfl, bx2.cells _ (by rw [s]; rfl), b12.cells _ rfl, bx2.cells _ (by rw [s]; rfl), b12.cells _ rfl, bx2.cells _ rfl, trivial⟩, ?_⟩
    exact ⟨rfl, e1.trans e2⟩
end Go.Sx.Ob

set_option linter.unusedVariables false
set_option linter.unusedSimpArgs false
set_option maxRecDepth 100000
namespace Go.Sx.Ob
open Go.Proofs
theorem byC_get (bs : Bt) {i : Nat} (hi : i < bs.length) : (byC bs)[i]'(by rw [byC_length]; exact hi) = [.int .u8 (bs[i].toNat : Int)] := by
  unfold byC
  rw [List.getElem_map]
theorem SL.vwB {h : Hp} {b : Nat} {p : Option Addr} {l c : Nat} {bs : Bt} (s : SL h b 5 1 p l c (byC bs)) : VwB h p l bs :=
  ⟨by rw [s.1, byC_length], fun i hi => by
    obtain ⟨a, ha, hc⟩ := SL.at_ s (i := i) (by rw [byC_length]; exact hi)
    rw [byC_get bs hi] at hc
    exact ⟨a, ha, hc⟩⟩
theorem SL.capL {h : Hp} {b : Nat} {e : TypeId} {sz : Nat} {p : Option Addr} {l c : Nat} {xs : List (List Value)} (s : SL h b e sz p l c xs) : l ≤ c := by
  cases p with
  | none =>
    have h2 := s.2.2.2
    have h3 := s.1
    rw [h2] at h3
    simp at h3
    omega
  | some a =>
    obtain ⟨g, pre, rest, rfl, hbg, hlc, _⟩ := s.2.2
    exact hlc.1
theorem VwB.take {h : Hp} {p : Option Addr} {l : Nat} {bs : Bt} (v : VwB h p l bs) {n : Nat} (hn : n ≤ l) : VwB h p n (bs.take n) := by
  have hl := v.len
  refine ⟨by rw [List.length_take]; omega, fun i hi => ?_⟩
  rw [List.length_take] at hi
  obtain ⟨a, ha, hc⟩ := v.cells i (by omega)
  rw [List.getElem_take]
  exact ⟨a, ha, hc⟩
theorem cellsAt_bytes {h : Hp} {a : Addr} : ∀ (bs : Bt) (k : Nat), (∀ i, (hi : i < bs.length) → cellsAt h (a.add ((k + i) * 1)) 0 [.int .u8 (bs[i].toNat : Int)]) → cellsAt h a k (byC bs).flatten
  | [], _, _ => trivial
  | t :: us, k, hc => by
    have h0 := hc 0 (by simp)
    obtain ⟨h1, _⟩ := h0
    rw [add_add] at h1
    refine ⟨by simpa using h1, cellsAt_bytes us (k + 1) fun i hi => ?_⟩
    have := hc (i + 1) (by simpa using hi)
    rw [show k + (i + 1) = k + 1 + i by omega] at this
    exact this
theorem VwB.flat {h : Hp} {a : Addr} {l : Nat} {bs : Bt} (v : VwB h (some a) l bs) : cellsAt h a 0 (byC bs).flatten := by
  refine cellsAt_bytes bs 0 fun i hi => ?_
  obtain ⟨a', e, hc⟩ := v.cells i hi
  cases e
  rw [Nat.zero_add]
  exact hc
theorem vwB_flat {h : Hp} {a : Addr} {bs : Bt} (hc : cellsAt h a 0 (byC bs).flatten) : VwB h (some a) bs.length bs := by
  have key : ∀ (bs : Bt) (k : Nat), cellsAt h a k (byC bs).flatten → ∀ i, (hi : i < bs.length) → cellsAt h (a.add ((k + i) * 1)) 0 [.int .u8 (bs[i].toNat : Int)] := by
    intro bs
    induction bs with
    | nil => intro k _ i hi; simp at hi
    | cons t us ih =>
      intro k hc i hi
      obtain ⟨h1, h2⟩ := hc
      cases i with
      | zero => exact ⟨by rw [add_add]; simpa using h1, trivial⟩
      | succ i =>
        have := ih (k + 1) h2 i (by simpa using hi)
        rw [show k + (i + 1) = k + 1 + i by omega]
        exact this
  refine ⟨rfl, fun i hi => ⟨a, rfl, ?_⟩⟩
  have := key bs 0 hc i hi
  rw [Nat.zero_add] at this
  exact this
/-- append(l, m...) of bytes. -/
theorem appB_of {L : Lp} {K : Value → Hp → Prop} {h : Hp} {k : Option Addr → Nat → Nat → T} {b : Nat} {p : Option Addr} {l c : Nat} {xs : Bt} (s : SL h b 5 1 p l c (byC xs)) {q : Option Addr} {m d : Nat} {us : Bt} (v : VwB h q m us) (hq0 : q = none → d = 0)
    (hl : l + m ≤ 2 ^ 40) (hb : b ≤ h.size)
    (hk : ∀ p' c' h', SL h' b 5 1 p' (l + m) c' (byC (xs ++ us)) → Ch (blkOf p) h h' → (p' = p ∨ ∃ a, p' = some a ∧ h.size ≤ a.block) → k p' (l + m) c' L K h') :
    T.sem Tryd.prog (Builtin.append_ #[22, 22] 22 #[.slice p l c, .slice q m d]) false [(false, [.slice 0])] k L K h := by
  obtain ⟨i, hi, hz, hsz, hby⟩ := inf_of byZ
  refine sem_slice ?_
  cases q with
  | none =>
    have h0 : m = 0 := by
      have := v.len
      cases us with
      | nil => exact this
      | cons t us => obtain ⟨a, ha, _⟩ := v.cells 0 (by simp); cases ha
    have h1 : us = [] := by
      have := v.len
      exact List.length_eq_zero_iff.1 (by omega)
    subst h0 h1
    have hd := hq0 rfl
    subst hd
    have hc0 : l ≤ c := SL.capL s
    simp [Builtin.append_, semW_bind', semW_underlying und22, semW_sizeOf hi, cellsOf_info hi, Builtin.lenOf, Builtin.firstCells, hc0]
    have hfin : ∃ p' l' c', Value.slice p l c = .slice p' l' c' ∧ k p' l' c' L K h := ⟨p, l, c, rfl, by simpa using hk p c h (by simpa using s) (Ch.refl _ _) (.inl rfl)⟩
    cases p with
    | none => exact hfin
    | some a => exact hfin
  | some a =>
    refine append_of und22 hi hz (by rw [hsz]; rfl) (by rw [hsz]; exact s) (ys := byC us) (by rw [byC_length]; exact v.len) (by rw [hsz]; exact byC_len us) v.flat (byC_plain us) (by rw [hby]; omega) (by omega) hb ?_
    intro p' c' h' s' k' hp'
    rw [hsz, ← byC_append] at s'
    exact ⟨_, _, _, rfl, hk p' c' h' s' k' hp'⟩
/-- []byte of a text that is written out. -/
theorem lit_conv {L : Lp} {K : Value → Hp → Prop} {h : Hp} {k : Option Addr → Nat → Nat → T} {n : Nat} {parts : Array (Nat × Value)} (bs : Bt) (hn : n = bs.length) (h0 : n ≠ 0) (hs : n ≤ 100)
    (hf : Instr.fill (fun j => some (j * 1, 1)) ((Array.range (n * 1)).map ((Value.int .u8 0).cells[· % (Value.int .u8 0).cells.size]!)) parts.toList = some ((byC bs).flatten : List Value).toArray)
    (hk : ∀ h' p c, VwB h' p n bs → n ≤ c → Ext h h' → k p n c L K h') :
    T.sem Tryd.prog (Instr.buildSlice 22 n parts) false [(false, [.slice 0])] (fun p l c => T.sem Tryd.prog (convert 22 22 (.slice p l c)) false [(false, [.slice 0])] k) L K h := by
  refine lit_of und22 byZ (by omega) (by omega) hf ?_
  intro h1 b1 e1 z1
  refine sem_slice (conv_of b1 ?_)
  intro h2 c2 k2 z2
  have v := vwB_flat c2
  rw [← hn] at v
  exact ⟨_, _, _, rfl, hk h2 _ _ v (Nat.le_refl _) (e1.st k2 (Nat.le_refl _))⟩
theorem readE_ok {full : Bt} {u v : Unt} {e : Option (Nat × Nat)} (h : ReadE full u e) (hr : readR full = .ok v) : e = none ∧ u = v := by
  cases e with
  | none =>
    have h : readR full = .ok u := h
    rw [h] at hr
    cases hr
    exact ⟨rfl, rfl⟩
  | some e =>
    obtain ⟨h, _⟩ := h
    rw [h] at hr
    cases hr
theorem readE_err {full : Bt} {u : Unt} {q : Nat × Nat} {e : Option (Nat × Nat)} (h : ReadE full u e) (hr : readR full = .error q) : e = some q ∧ u = unt0 := by
  cases e with
  | none =>
    have h : readR full = .ok u := h
    rw [h] at hr
    cases hr
  | some e =>
    obtain ⟨h, h2⟩ := h
    rw [h] at hr
    cases hr
    exact ⟨rfl, h2⟩
theorem UntAt.zero (h : Hp) : UntAt h sl0 sl0 sl0 sl0 unt0 := ⟨⟨rfl, by decide, fun i hi => by cases hi⟩, ⟨rfl, by decide, fun i hi => by cases hi⟩, ⟨rfl, by decide, fun i hi => by cases hi⟩, ⟨rfl, by decide, fun i hi => by cases hi⟩⟩
theorem wr0 : wrE unt0 = 0 := by decide
theorem rd0 : readR (wUnt unt0) = .ok unt0 := by rfl
theorem rdM : readR [83, 80, 65, 77] = .error (3, 15) := by rfl
theorem fillM : Instr.fill (fun j => some (j * 1, 1)) ((Array.range (4 * 1)).map ((Value.int .u8 0).cells[· % (Value.int .u8 0).cells.size]!)) [(0, .int .u8 (83 : Int)), (1, .int .u8 (80 : Int)), (2, .int .u8 (65 : Int)), (3, .int .u8 (77 : Int))] = some ((byC [83, 80, 65, 77]).flatten : List Value).toArray := by kernel_rfl
/-- A unit that was read is put aside. -/
theorem aside {L : Lp} {K : Value → Hp → Prop} {h : Hp} {a b c d : Sli} {k : Addr → T} (hk : ∀ h', Box h' h.size 30 [a.v, b.v, c.v, d.v] → Ext h h' → k ⟨h.size, 0, none⟩ L K h') :
    (T.new [.slice none 0 0, .slice none 0 0, .slice none 0 0, .slice none 0 0] 30 fun x => T.stores x [.slice a.p a.l a.c, .slice b.p b.l b.c, .slice c.p c.l c.c, .slice d.p d.l d.c] (k x)) L K h := by
  refine newB ?_
  intro h1 b1 e1 z1
  refine stores_of b1 rfl (by simp) ?_
  intro h2 b2 k2 z2
  exact hk h2 b2 (e1.st k2 (Nat.le_refl _))
theorem known_hc {h : Hp} (t : Tab h) (p : Pow10 h) : HC Tryd.prog 9 #[] h fun w h' => w = .bool true ∧ Ext h h' := by
  refine hcr_of (args := []) mixed Tryd.func9 (by kernel_rfl) t_spandrellaw10_known_eq ?_
  unfold t_spandrellaw10_known
  refine call_of (write_hc (a := sl0) (b := sl0) (c := sl0) (d := sl0) t (UntAt.zero h) (by decide)) ?_
  rintro _ h1 ⟨s, rfl, _, hs, e1⟩
  rw [wr0] at hs ⊢
  have sl := hs rfl
  refine ⟨((s.p, s.l, s.c), (0 : Int), ()), rfl, ?_⟩
  dsimp only [flat, unc, unc1, List.nil_append, List.cons_append]
  refine call_of (read_hc (t.keep e1 (by simp)) (SL.vwB sl) (SL.capL sl) (by decide)) ?_
  rintro _ h2 ⟨a, b, c, d, ev, u, e, rfl, own, ea, re, _, e2⟩
  obtain ⟨rfl, rfl⟩ := readE_ok re rd0
  have ea : ev = .nilIface := ea
  subst ea
  refine ⟨((a.p, a.l, a.c), (b.p, b.l, b.c), (c.p, c.l, c.c), (d.p, d.l, d.c), .nilIface, ()), rfl, ?_⟩
  dsimp only [flat, unc, unc1, List.nil_append, List.cons_append]
  refine aside ?_
  intro h3 b3 e3
  refine lit_conv [83, 80, 65, 77] rfl (by decide) (by decide) fillM ?_
  intro h4 q m v4 hm e4
  have e04 := ((e1.trans e2).trans e3).trans e4
  refine call_of (read_hc (t.keep e04 (by simp)) v4 hm (by decide)) ?_
  rintro _ h5 ⟨a', b', c', d', ev', u', e', rfl, own', ea', re', _, e5⟩
  obtain ⟨rfl, rfl⟩ := readE_err re' rdM
  refine ⟨((a'.p, a'.l, a'.c), (b'.p, b'.l, b'.c), (c'.p, c'.l, c'.c), (d'.p, d'.l, d'.c), ev', ()), rfl, ?_⟩
  dsimp only [flat, unc, unc1, List.nil_append, List.cons_append]
  refine aside ?_
  intro h6 b6 e6
  refine cond_t rfl ?_
  have sl6 := (((((sl.keep e2 (by simp)).keep e3 (by simp)).keep e4 (by simp)).keep e5 (by simp)).keep e6 (by simp))
  refine toStr_of sl6 (by decide) ?_
  refine cond_t (by rw [ByteArray.toList_eq]; decide) ?_
  refine sem_bool (fun K' hK => by rw [eqNN]; exact hK) ?_
  refine cond_t rfl ?_
  have e36 := (e4.trans e5).trans e6
  refine loads_box (b3.keep e36 (by simp)) ((a.p, a.l, a.c), (b.p, b.l, b.c), (c.p, c.l, c.c), (d.p, d.l, d.c), ()) rfl ?_
  dsimp only [flat, unc, unc1, List.nil_append, List.cons_append]
  refine call_of (sameUnit_hc (a' := sl0) (b' := sl0) (c' := sl0) (d' := sl0) ((own.keep (e3.trans e36) (by simp)).at) (UntAt.zero h6)) ?_
  rintro _ h7 ⟨r, rfl, hr, e7⟩
  have hr := hr.2 rfl
  subst hr
  refine ⟨(true, ()), rfl, ?_⟩
  dsimp only [flat, unc, unc1, List.nil_append, List.cons_append]
  refine cond_t rfl ?_
  have e07 := ((e04.trans e5).trans e6).trans e7
  have ea7 : ErrAt h7 ev' (some (3, 15)) := by
    obtain ⟨x, h1, h2⟩ := ea'
    exact ⟨x, h1, (h2.keep e6 (by simp)).keep e7 (by simp)⟩
  refine call_boolx (refused_hc (p.keep e07 (by simp)) ea7 (fun q hq => by cases hq; decide) 3 15) ?_
  intro h8 e8
  exact ⟨rfl, e07.trans e8⟩
end Go.Sx.Ob

set_option linter.unusedVariables false
set_option linter.unusedSimpArgs false
set_option maxRecDepth 100000
namespace Go.Sx.Ob
open Go.Proofs
theorem ErrAt.keep {h h' : Hp} {w : Value} {e : Option (Nat × Nat)} (v : ErrAt h w e) (k : Ext h h') : ErrAt h' w e := by
  cases e with
  | none => exact v
  | some e =>
    obtain ⟨a, h1, h2⟩ := v
    exact ⟨a, h1, h2.keep k (by simp)⟩
def ga : Unt := { unt0 with globs := [⟨#[97]⟩] }
theorem wrGa : wrE ga = 31 := by decide
theorem rd12 : readR ((wUnt unt0).take 12) = .error (12, 10) := by rfl
theorem rd13 : readR (wUnt unt0 ++ [0]) = .error (13, 14) := by rfl
theorem rdN : readR [] = .error (0, 15) := by rfl
theorem rdF : readR [83, 80, 65, 78, 1, 1, 0, 9] = .error (7, 31) := by rfl
theorem rdG : readR [83, 80, 65, 78, 1, 1, 32] = .error (5, 4) := by rfl
theorem rdI : readR [83, 80, 65, 78, 1, 1, 0, 2, 0] = .error (9, 10) := by rfl
theorem rdH (l : Bt) (h : l.length = 1048577) : readR l = .error (0, 3) := by
  unfold readR
  rw [if_pos (by omega)]
theorem fillF : Instr.fill (fun j => some (j * 1, 1)) ((Array.range (8 * 1)).map ((Value.int .u8 0).cells[· % (Value.int .u8 0).cells.size]!)) [(0, .int .u8 (83 : Int)), (1, .int .u8 (80 : Int)), (2, .int .u8 (65 : Int)), (3, .int .u8 (78 : Int)), (4, .int .u8 (1 : Int)), (5, .int .u8 (1 : Int)), (6, .int .u8 (0 : Int)), (7, .int .u8 (9 : Int))] = some ((byC [83, 80, 65, 78, 1, 1, 0, 9]).flatten : List Value).toArray := by kernel_rfl
theorem fillG : Instr.fill (fun j => some (j * 1, 1)) ((Array.range (7 * 1)).map ((Value.int .u8 0).cells[· % (Value.int .u8 0).cells.size]!)) [(0, .int .u8 (83 : Int)), (1, .int .u8 (80 : Int)), (2, .int .u8 (65 : Int)), (3, .int .u8 (78 : Int)), (4, .int .u8 (1 : Int)), (5, .int .u8 (1 : Int)), (6, .int .u8 (32 : Int))] = some ((byC [83, 80, 65, 78, 1, 1, 32]).flatten : List Value).toArray := by kernel_rfl
theorem fillI : Instr.fill (fun j => some (j * 1, 1)) ((Array.range (9 * 1)).map ((Value.int .u8 0).cells[· % (Value.int .u8 0).cells.size]!)) [(0, .int .u8 (83 : Int)), (1, .int .u8 (80 : Int)), (2, .int .u8 (65 : Int)), (3, .int .u8 (78 : Int)), (4, .int .u8 (1 : Int)), (5, .int .u8 (1 : Int)), (6, .int .u8 (0 : Int)), (7, .int .u8 (2 : Int)), (8, .int .u8 (0 : Int))] = some ((byC [83, 80, 65, 78, 1, 1, 0, 2, 0]).flatten : List Value).toArray := by kernel_rfl
theorem fill97 : Instr.fill (fun j => some (j * 1, 1)) ((Array.range (1 * 1)).map ((Value.string ⟨#[]⟩).cells[· % (Value.string ⟨#[]⟩).cells.size]!)) [(0, .string ⟨#[97]⟩)] = some ([.string ⟨#[97]⟩] : List Value).toArray := by kernel_rfl
/-- Bytes are read that are no unit. -/
theorem bad_of {L : Lp} {K : Value → Hp → Prop} {h : Hp} (t : Tab h) {p : Option Addr} {l c : Nat} {full : Bt} (v : VwB h p l full) (hc : l ≤ c) (hl : full.length ≤ 2 ^ 60) {q : Nat × Nat} (hr : readR full = .error q) {k : Value → T}
    (hk : ∀ h' ev, ErrAt h' ev (some q) → Ext h h' → k ev L K h') :
    (T.call Tryd.prog 7 [.slice p l c] true [(true, [.slice 79, .slice 79, .slice 57, .slice 9]), (false, [.interface #[("Error", 69)]])] <| fun (p5 : Option Addr) (l6 : Nat) (l7 : Nat) (p8 : Option Addr) (l9 : Nat) (l10 : Nat) (p11 : Option Addr) (l12 : Nat) (l13 : Nat) (p14 : Option Addr) (l15 : Nat) (l16 : Nat) (v17 : Value) =>
  T.new [.slice none 0 0, .slice none 0 0, .slice none 0 0, .slice none 0 0] 30 <| fun (a18 : Addr) =>
  T.stores a18 [.slice p5 l6 l7, .slice p8 l9 l10, .slice p11 l12 l13, .slice p14 l15 l16] (k v17)) L K h := by
  refine call_of (read_hc t v hc hl) ?_
  rintro _ h1 ⟨a, b, c, d, ev, u, e, rfl, own, ea, re, _, e1⟩
  obtain ⟨rfl, rfl⟩ := readE_err re hr
  refine ⟨((a.p, a.l, a.c), (b.p, b.l, b.c), (c.p, c.l, c.c), (d.p, d.l, d.c), ev, ()), rfl, ?_⟩
  dsimp only [flat, unc, unc1, List.nil_append, List.cons_append]
  refine aside ?_
  intro h2 b2 e2
  exact hk h2 ev (ea.keep e2) (e1.trans e2)
theorem Ch.st2 {h a b : Hp} {ws : List Nat} (e : Ext h a) (k : Ch ws a b) (hw : ∀ i, i ∈ ws → h.size ≤ i) : Ext h b := Ch.trans e k (fun i hi hl => by have := hw i hi; omega)
theorem make_big {L : Lp} {K : Value → Hp → Prop} {h : Hp} {n : Nat} (hn : n ≤ 2 ^ 40) {k : Option Addr → Nat → Nat → T} (hk : ∀ h', VwB h' (some ⟨h.size, 0, none⟩) n (List.replicate n 0) → Ext h h' → k (some ⟨h.size, 0, none⟩) n n L K h') :
    T.sem Tryd.prog (Instr.makeSlice 22 (.int .i64 (n : Int)) (.int .i64 (n : Int))) false [(false, [.slice 0])] k L K h := by
  obtain ⟨i5, hi5, hz5, hs5, hb5⟩ := inf_of byZ
  refine sem_slice (makeSlice_of (l := n) (c := n) und22 hi5 hz5 (Nat.le_refl _) (by rw [hb5]; omega) (by omega) ?_)
  intro h14 b14 e14 z14
  refine ⟨_, _, _, rfl, hk h14 ⟨by rw [List.length_replicate], fun i hi => ⟨_, rfl, ?_⟩⟩ e14⟩
  rw [List.length_replicate] at hi
  rw [add_box]
  refine b14.cells _ ?_
  rw [hs5, List.getElem_replicate]
  show List.take 1 (List.drop (0 + i * 1) _) = _
  rw [Nat.zero_add, Nat.mul_one, ← List.map_drop, ← List.map_take]
  have : (List.drop i (List.range (n * 1))).take 1 = [i] := by
    rw [Nat.mul_one]
    apply List.ext_getElem
    · simp
      omega
    · intro j h1 h2
      simp at h2
      subst h2
      simp
  rw [this]
  show [(#[Value.int .u8 0])[i % 1]!] = _
  rw [Nat.mod_one]
  rfl
theorem numbers_hc {h : Hp} (t : Tab h) (p : Pow10 h) : HC Tryd.prog 3 #[] h fun w h' => w = .bool true ∧ Ext h h' := by
  refine hcr_of (args := []) mixed Tryd.func3 (by kernel_rfl) t_spandrellaw10_ObjectNumbers_eq ?_
  unfold t_spandrellaw10_ObjectNumbers
  refine call_of (write_hc (a := sl0) (b := sl0) (c := sl0) (d := sl0) t (UntAt.zero h) (by decide)) ?_
  rintro _ h1 ⟨s, rfl, _, hs, e1⟩
  rw [wr0] at hs ⊢
  have sl := hs rfl
  have hlen : s.l = 13 := by rw [sl.1, byC_length]; rfl
  obtain ⟨sp, s_l, sc⟩ := s
  simp only at hlen
  subst hlen
  have hcap : 13 ≤ sc := SL.capL sl
  refine ⟨((sp, 13, sc), (0 : Int), ()), rfl, ?_⟩
  dsimp only [flat, unc, unc1, List.nil_append, List.cons_append]
  refine cond_f rfl ?_
  refine need_of ⟨by omega, by omega, by show (12 : Int) ≤ (sc : Int); omega⟩ ?_
  obtain ⟨sa, rfl⟩ : ∃ sa, sp = some sa := by
    cases sp with
    | none => have h0 : sc = 0 := sl.2.2.1; omega
    | some sa => exact ⟨sa, rfl⟩
  have hsl : (if sc = 0 then some sa else Option.map (fun a => Addr.add a 0) (some sa)) = some sa := by
    rw [if_neg (show ¬ sc = 0 by omega)]
    simp [Addr.add]
  rw [hsl]
  refine bad_of (t.keep e1 (by simp)) ((SL.vwB sl).take (n := 12) (by show 12 ≤ 13; omega)) (by show (12 : Nat) ≤ sc - 0; omega) (by decide) rd12 ?_
  intro h2 va ea e2
  have e02 := e1.trans e2
  refine lit0_of und22 byZ ?_
  intro h3 s3 e3
  have e03 := e02.trans e3
  refine appB_of (xs := []) s3 (us := wUnt unt0) ((SL.vwB sl).keep (e2.trans e3)) (fun h => by cases h) (by omega) (by have := e3.size; omega) ?_
  intro p4 c4 h4 s4 k4 hp4
  have e34 : Ext h2 h4 := Ch.st2 e3 k4 (fun i hi => (Sx.SL.blk s3 hi).1)
  have e04 := e02.trans e34
  refine push_of (vs := [.int .u8 0]) und22 byZ rfl (by omega) (by omega) (fill1 0) rfl rfl s4 (by have := e34.size; omega) (by omega) (by omega) ?_
  intro p5 c5 h5 s5 k5 hp5
  have e35 : Ext h2 h5 := Ch.st2 e34 k5 (fun i hi => (Sx.SL.blk s4 hi).1)
  have e05 := e02.trans e35
  have s5 : SL h5 h2.size 5 1 p5 (0 + 13 + 1) c5 (byC (wUnt unt0 ++ [0])) := s5
  refine bad_of (t.keep e05 (by simp)) (SL.vwB s5) (SL.capL s5) (by decide) rd13 ?_
  intro h6 vb eb e6
  have e06 := e05.trans e6
  have ea := (ea.keep e35).keep e6
  refine bad_of (full := []) (t.keep e06 (by simp)) ⟨rfl, fun i hi => by cases hi⟩ (Nat.le_refl _) (by decide) rdN ?_
  intro h7 vd ed e7
  have e07 := e06.trans e7
  have ea := ea.keep e7
  have eb := eb.keep e7
  refine lit_of und28 strZ (by omega) (by omega) fill97 ?_
  intro h8 b8 e8 z8
  have e08 := e07.trans e8
  have vg : VwS h8 (some ⟨h7.size, 0, none⟩) 1 ga.globs := ⟨rfl, by decide, fun i hi => by
    have hi : i < 1 := hi
    obtain rfl : i = 0 := by omega
    exact ⟨_, rfl, b8.cells _ rfl, by show (⟨#[97]⟩ : ByteArray).size ≤ maxLen; decide⟩⟩
  refine call_of (write_hc (a := sl0) (b := sl0) (c := sl0) (d := ⟨some ⟨h7.size, 0, none⟩, 1, 1⟩) (t.keep e08 (by simp)) (u := ga) ⟨⟨rfl, by decide, fun i hi => by cases hi⟩, ⟨rfl, by decide, fun i hi => by cases hi⟩, ⟨rfl, by decide, fun i hi => by cases hi⟩, vg⟩ (by decide)) ?_
  rintro _ h9 ⟨s', rfl, _, _, e9⟩
  rw [wrGa]
  refine ⟨((s'.p, s'.l, s'.c), (31 : Int), ()), rfl, ?_⟩
  dsimp only [flat, unc, unc1, List.nil_append, List.cons_append]
  have e09 := e08.trans e9
  have ea := (ea.keep e8).keep e9
  have eb := (eb.keep e8).keep e9
  have ed := (ed.keep e8).keep e9
  refine lit_conv [83, 80, 65, 78, 1, 1, 0, 9] rfl (by decide) (by decide) fillF ?_
  intro h10 p10 c10 v10 hc10 e10
  refine bad_of (t.keep (e09.trans e10) (by simp)) v10 hc10 (by decide) rdF ?_
  intro h11 vf ef e11
  have e011 := (e09.trans e10).trans e11
  have ea := (ea.keep e10).keep e11
  have eb := (eb.keep e10).keep e11
  have ed := (ed.keep e10).keep e11
  refine lit_conv [83, 80, 65, 78, 1, 1, 32] rfl (by decide) (by decide) fillG ?_
  intro h12 p12 c12 v12 hc12 e12
  refine bad_of (t.keep (e011.trans e12) (by simp)) v12 hc12 (by decide) rdG ?_
  intro h13 vg2 eg e13
  have e013 := (e011.trans e12).trans e13
  have ea := (ea.keep e12).keep e13
  have eb := (eb.keep e12).keep e13
  have ed := (ed.keep e12).keep e13
  have ef := (ef.keep e12).keep e13
  have n1 : (1048577 : Int) = ((1048577 : Nat) : Int) := rfl
  rw [n1]
  refine make_big (by omega) ?_
  intro h14 v14 e14
  refine bad_of (t.keep (e013.trans e14) (by simp)) v14 (Nat.le_refl _) (by rw [List.length_replicate]; omega) (rdH _ (by rw [List.length_replicate])) ?_
  intro h15 vh eh e15
  have e015 := (e013.trans e14).trans e15
  have ea := (ea.keep e14).keep e15
  have eb := (eb.keep e14).keep e15
  have ed := (ed.keep e14).keep e15
  have ef := (ef.keep e14).keep e15
  have eg := (eg.keep e14).keep e15
  refine lit_conv [83, 80, 65, 78, 1, 1, 0, 2, 0] rfl (by decide) (by decide) fillI ?_
  intro h16 p16 c16 v16 hc16 e16
  refine bad_of (t.keep (e015.trans e16) (by simp)) v16 hc16 (by decide) rdI ?_
  intro h17 vi ei e17
  have e017 := (e015.trans e16).trans e17
  have ea := (ea.keep e16).keep e17
  have eb := (eb.keep e16).keep e17
  have ed := (ed.keep e16).keep e17
  have ef := (ef.keep e16).keep e17
  have eg := (eg.keep e16).keep e17
  have eh := (eh.keep e16).keep e17
  have sm : ∀ (q : Nat × Nat) (r : Nat × Nat), r.1 ≤ 2 ^ 60 ∧ r.2 < 10 ^ 18 → some r = some q → q.1 ≤ 2 ^ 60 ∧ q.2 < 10 ^ 18 := fun q r h e => by cases e; exact h
  refine call_boolx (refused_hc (p.keep e017 (by simp)) ea (fun q => sm q _ (by decide)) 12 10) ?_
  intro g1 f1
  refine cond_t rfl ?_
  refine call_boolx (refused_hc (p.keep (e017.trans f1) (by simp)) (eb.keep f1) (fun q => sm q _ (by decide)) 13 14) ?_
  intro g2 f2
  have f2 := f1.trans f2
  refine cond_t rfl ?_
  refine call_boolx (refused_hc (p.keep (e017.trans f2) (by simp)) (ed.keep f2) (fun q => sm q _ (by decide)) 0 15) ?_
  intro g3 f3
  have f3 := f2.trans f3
  refine cond_t rfl ?_
  refine cond_t rfl ?_
  refine call_boolx (refused_hc (p.keep (e017.trans f3) (by simp)) (ef.keep f3) (fun q => sm q _ (by decide)) 7 31) ?_
  intro g4 f4
  have f4 := f3.trans f4
  refine cond_t rfl ?_
  refine call_boolx (refused_hc (p.keep (e017.trans f4) (by simp)) (eg.keep f4) (fun q => sm q _ (by decide)) 5 4) ?_
  intro g5 f5
  have f5 := f4.trans f5
  refine cond_t rfl ?_
  refine call_boolx (refused_hc (p.keep (e017.trans f5) (by simp)) (eh.keep f5) (fun q => sm q _ (by decide)) 0 3) ?_
  intro g6 f6
  have f6 := f5.trans f6
  refine cond_t rfl ?_
  refine call_boolx (refused_hc (p.keep (e017.trans f6) (by simp)) (ei.keep f6) (fun q => sm q _ (by decide)) 9 10) ?_
  intro g7 f7
  have f7 := e017.trans (f6.trans f7)
  refine cond_t rfl ?_
  refine call_boolx (known_hc (t.keep f7 (by simp)) (p.keep f7 (by simp))) ?_
  intro g8 f8
  exact ⟨rfl, f7.trans f8⟩
end Go.Sx.Ob

set_option linter.unusedVariables false
set_option linter.unusedSimpArgs false
set_option maxRecDepth 100000
namespace Go.Sx.Ob
open Go.Proofs
/-- Numbers of 32 bits. -/
structure LinNum (x : Lin) : Prop where
  coef : ∀ t, t ∈ x.terms → t.2 < 4294967296
  num : x.num < 4294967296
structure UntNum (u : Unt) : Prop where
  text : ∀ x, x ∈ u.text → LinNum x.e
  data : ∀ x, x ∈ u.data → LinNum x.e
  equs : ∀ x, x ∈ u.equs → LinNum x.2
theorem itemsOk_all (sec : Nat) : ∀ (l : List Itm) (D : List ByteArray), itemsOk sec D l = true → ∀ x, x ∈ l → itmR x sec = true
  | y :: l, D, h, x, hx => by
    unfold itemsOk at h
    rw [Bool.and_eq_true] at h
    rcases List.mem_cons.1 hx with rfl | hx
    · have := h.1
      unfold itmOk at this
      rw [Bool.and_eq_true] at this
      exact this.1
    · exact itemsOk_all sec l _ h.2 x hx
theorem linSm_of {x : Lin} (n : LinNum x) (h : bigL x = false) : LinSm x := by
  unfold bigL at h
  rw [decide_eq_false_iff_not] at h
  exact ⟨by omega, n.coef, n.num⟩
theorem itmSm_of {x : Itm} {sec : Nat} (n : LinNum x.e) (h : itmR x sec = true) (hb : bigI x = false) : LinSm x.e := by
  have z : isZ x.e = true → LinSm x.e := fun hz => by
    rw [isZ_eq hz]
    exact ⟨by decide, by simp [lin0], by decide⟩
  unfold bigI at hb
  unfold itmR at h
  by_cases k1 : x.kind = 1
  · rw [if_pos k1] at h
    simp only [Bool.and_eq_true] at h
    exact z h.1.2
  rw [if_neg k1] at h
  by_cases k2 : x.kind = 2
  · rw [if_pos k2] at h
    simp only [Bool.and_eq_true] at h
    by_cases hw : wnt x.inst.op = true
    · rw [decide_eq_true k2, hw] at hb
      simp only [Bool.true_and, Bool.true_or] at hb
      exact linSm_of n hb
    · rw [insR_z h.1.1.2 hw]
      exact ⟨by decide, by simp [lin0], by decide⟩
  rw [if_neg k2] at h
  by_cases k3 : x.kind = 3
  · rw [if_pos k3] at h
    simp only [Bool.and_eq_true] at h
    exact z h.2
  rw [if_neg k3] at h
  by_cases k4 : x.kind = 4
  · rw [if_pos k4] at h
    simp only [Bool.and_eq_true] at h
    exact z h.1.2
  rw [if_neg k4] at h
  by_cases k5 : x.kind = 5
  · rw [if_pos k5] at h
    simp only [Bool.and_eq_true] at h
    exact z h.2
  rw [if_neg k5] at h
  by_cases k6 : x.kind = 6
  · rw [decide_eq_true k6] at hb
    simp only [Bool.or_true, Bool.true_and] at hb
    exact linSm_of n hb
  rw [if_neg k6] at h
  by_cases k7 : x.kind = 7
  · rw [if_pos k7] at h
    simp only [Bool.and_eq_true] at h
    exact z h.2
  rw [if_neg k7] at h
  cases h
theorem untSm_of {u : Unt} (n : UntNum u) (h : untR u = 0) (hb : bigU u = false) : UntSm u := by
  obtain ⟨_, ok⟩ := untR_z h
  unfold untOk at ok
  simp only [Bool.and_eq_true] at ok
  unfold bigU at hb
  simp only [Bool.or_eq_false_iff, List.any_eq_false] at hb
  refine ⟨fun x hx => itmSm_of (n.text x hx) (itemsOk_all 0 _ _ ok.1.1.1 x hx) (by simpa using hb.1 x hx), fun x hx => itmSm_of (n.data x hx) (itemsOk_all 1 _ _ ok.1.1.2 x hx) (by simpa using hb.2.1 x hx), fun x hx => linSm_of (n.equs x hx) (by simpa using hb.2.2 x hx)⟩
theorem wrE_ok {u : Unt} (n : UntNum u) (h : wrE u = 0) : untR u = 0 ∧ UntSm u ∧ (wUnt u).length ≤ 1048576 := by
  unfold wrE at h
  split at h
  · cases h
  · split at h
    · cases h
    · split at h
      · cases h
      · rename_i h1 h2 h3
        have h1 : untR u = 0 := by omega
        exact ⟨h1, untSm_of n h1 (by simpa using h2), by omega⟩
theorem wrE_of {u : Unt} (h : untR u = 0) (s : UntSm u) (hl : (wUnt u).length ≤ 1048576) : wrE u = 0 := by
  unfold wrE
  rw [if_neg (by omega)]
  have hb : bigU u = false := by
    unfold bigU
    simp only [Bool.or_eq_false_iff, List.any_eq_false]
    have g : ∀ x : Lin, LinSm x → bigL x = false := fun x hx => by
      unfold bigL
      rw [decide_eq_false_iff_not]
      have := hx.many
      omega
    refine ⟨fun x hx => ?_, fun x hx => ?_, fun x hx => ?_⟩
    · unfold bigI; rw [g _ (s.text x hx)]; simp
    · unfold bigI; rw [g _ (s.data x hx)]; simp
    · rw [g _ (s.equs x hx)]; simp
  rw [hb, if_neg (by simp), if_neg (by omega)]
theorem rd_ok {u : Unt} (h : untR u = 0) (s : UntSm u) (hl : (wUnt u).length ≤ 1048576) : readR (wUnt u) = .ok u := by
  unfold readR
  rw [if_neg (by omega)]
  have := unitR_app h s []
  rw [List.append_nil, if_pos rfl] at this
  rw [this]
theorem rd_take {u : Unt} (h : untR u = 0) (s : UntSm u) {k : Nat} (hk : k < (wUnt u).length) : ∃ q, readR ((wUnt u).take k) = .error q := by
  unfold readR
  split
  · exact ⟨_, rfl⟩
  · cases hq : unitR ((wUnt u).take k) with
    | error e => exact ⟨_, rfl⟩
    | ok q => exact absurd hq (unitR_take h s hk)
theorem rd_more {u : Unt} (h : untR u = 0) (s : UntSm u) {t : Bt} (ht : t ≠ []) : ∃ q, readR (wUnt u ++ t) = .error q := by
  unfold readR
  split
  · exact ⟨_, rfl⟩
  · rw [unitR_app h s t, if_neg ht]
    exact ⟨_, rfl⟩
theorem rd_back {b : Bt} {v : Unt} (hl : b.length ≤ 1048576) (h : readR b = .ok v) : b = wUnt v ∧ untR v = 0 ∧ UntSm v := by
  unfold readR at h
  rw [if_neg (by omega)] at h
  cases hq : unitR b with
  | error e => rw [hq] at h; cases h
  | ok q =>
    rw [hq] at h
    cases h
    obtain ⟨w, r⟩ := q
    obtain ⟨h1, _, h2, h3⟩ := unitR_ok hq
    exact ⟨h1, h2, h3⟩
def backT (pp10 : Option Addr) (ll10 cc10 : Nat) : T :=
 (T.call Tryd.prog 7 [.slice pp10 ll10 cc10] true [(true, [.slice 79, .slice 79, .slice 57, .slice 9]), (false, [.interface #[("Error", 69)]])] <| fun (p35 : Option Addr) (l36 : Nat) (l37 : Nat) (p38 : Option Addr) (l39 : Nat) (l40 : Nat) (p41 : Option Addr) (l42 : Nat) (l43 : Nat) (p44 : Option Addr) (l45 : Nat) (l46 : Nat) (v47 : Value) =>
    T.new [.slice none 0 0, .slice none 0 0, .slice none 0 0, .slice none 0 0] 30 <| fun (a48 : Addr) =>
    T.stores a48 [.slice p35 l36 l37, .slice p38 l39 l40, .slice p41 l42 l43, .slice p44 l45 l46] <|
    T.sem Tryd.prog (Sx.cmpS (BinOp.neq) 32 (Operand.tmp 47) (Operand.const Value.nilIface) v47 .nilIface) false [(false, [.bool])] <| fun (b49 : Bool) =>
    cond b49
     (T.loads a48 [.slice 79, .slice 79, .slice 57, .slice 9] <| fun (p50 : Option Addr) (l51 : Nat) (l52 : Nat) (p53 : Option Addr) (l54 : Nat) (l55 : Nat) (p56 : Option Addr) (l57 : Nat) (l58 : Nat) (p59 : Option Addr) (l60 : Nat) (l61 : Nat) =>
     T.call Tryd.prog 11 [.agg #[.slice p50 l51 l52, .slice p53 l54 l55, .slice p56 l57 l58, .slice p59 l60 l61], .agg #[.slice none 0 0, .slice none 0 0, .slice none 0 0, .slice none 0 0]] false [(false, [.bool])] <| fun (b62 : Bool) =>
     cond b62
      (T.call Tryd.prog 9 [] false [(false, [.bool])] <| fun (b63 : Bool) =>
      T.ret (.bool b63))
      (T.ret (.bool false)))
     (T.loads a48 [.slice 79, .slice 79, .slice 57, .slice 9] <| fun (p50 : Option Addr) (l51 : Nat) (l52 : Nat) (p53 : Option Addr) (l54 : Nat) (l55 : Nat) (p56 : Option Addr) (l57 : Nat) (l58 : Nat) (p59 : Option Addr) (l60 : Nat) (l61 : Nat) =>
     T.call Tryd.prog 6 [.agg #[.slice p50 l51 l52, .slice p53 l54 l55, .slice p56 l57 l58, .slice p59 l60 l61]] true [(false, [.slice 5]), (false, [.int .i64])] <| fun (p62 : Option Addr) (l63 : Nat) (l64 : Nat) (n65 : Int) =>
     cond (n65 == (0 : Int))
      (T.call Tryd.prog 12 [.slice p62 l63 l64, .slice pp10 ll10 cc10] false [(false, [.bool])] <| fun (b66 : Bool) =>
      cond b66
       (T.call Tryd.prog 9 [] false [(false, [.bool])] <| fun (b67 : Bool) =>
       T.ret (.bool b67))
       (T.ret (.bool false)))
      (T.ret (.bool false))))
def cutsT (p46 : Option Addr) (l47 l48 : Nat) (n2 : Int) (pp30 : Option Addr) (ll30 cc30 : Nat) : T :=
 (T.call Tryd.prog 13 [.int .i64 n2, .int .i64 (0 : Int), .int .i64 (IntKind.wrap .i64 ((l47 : Int) - (1 : Int)))] false [(false, [.int .i64])] <| fun (n66 : Int) =>
     T.need (((0 : Int) ≤ (0 : Int)) ∧ (((0 : Int) ≤ n66) ∧ (n66 ≤ (l48 : Int)))) <|
     T.call Tryd.prog 7 [.slice (if (l48 = 0) then p46 else (Option.map (fun a => Addr.add a 0) p46)) ((Int.toNat n66) - 0) (l48 - 0)] true [(true, [.slice 79, .slice 79, .slice 57, .slice 9]), (false, [.interface #[("Error", 69)]])] <| fun (p67 : Option Addr) (l68 : Nat) (l69 : Nat) (p70 : Option Addr) (l71 : Nat) (l72 : Nat) (p73 : Option Addr) (l74 : Nat) (l75 : Nat) (p76 : Option Addr) (l77 : Nat) (l78 : Nat) (v79 : Value) =>
     T.new [.slice none 0 0, .slice none 0 0, .slice none 0 0, .slice none 0 0] 30 <| fun (a80 : Addr) =>
     T.stores a80 [.slice p67 l68 l69, .slice p70 l71 l72, .slice p73 l74 l75, .slice p76 l77 l78] <|
     T.sem Tryd.prog (Instr.buildSlice 22 0 #[]) false [(false, [.slice 0])] <| fun (p81 : Option Addr) (l82 : Nat) (l83 : Nat) =>
     T.sem Tryd.prog (Builtin.append_ #[22, 22] 22 #[.slice p81 l82 l83, .slice p46 l47 l48]) false [(false, [.slice 0])] <| fun (p84 : Option Addr) (l85 : Nat) (l86 : Nat) =>
     T.sem Tryd.prog (Builtin.append_ #[22, 22] 22 #[.slice p84 l85 l86, .slice pp30 ll30 cc30]) false [(false, [.slice 0])] <| fun (p87 : Option Addr) (l88 : Nat) (l89 : Nat) =>
     T.call Tryd.prog 7 [.slice p87 l88 l89] true [(true, [.slice 79, .slice 79, .slice 57, .slice 9]), (false, [.interface #[("Error", 69)]])] <| fun (p90 : Option Addr) (l91 : Nat) (l92 : Nat) (p93 : Option Addr) (l94 : Nat) (l95 : Nat) (p96 : Option Addr) (l97 : Nat) (l98 : Nat) (p99 : Option Addr) (l100 : Nat) (l101 : Nat) (v102 : Value) =>
     T.new [.slice none 0 0, .slice none 0 0, .slice none 0 0, .slice none 0 0] 30 <| fun (a103 : Addr) =>
     T.stores a103 [.slice p90 l91 l92, .slice p93 l94 l95, .slice p96 l97 l98, .slice p99 l100 l101] <|
     T.sem Tryd.prog (Sx.cmpS (BinOp.neq) 32 (Operand.tmp 71) (Operand.const Value.nilIface) v79 .nilIface) false [(false, [.bool])] <| fun (b104 : Bool) =>
     cond b104
      (T.sem Tryd.prog (Sx.cmpS (BinOp.eql) 32 (Operand.tmp 74) (Operand.const Value.nilIface) v102 .nilIface) false [(false, [.bool])] <| fun (b105 : Bool) =>
      cond (b105 == ((ll30 : Int) == (0 : Int)))
       (T.call Tryd.prog 9 [] false [(false, [.bool])] <| fun (b106 : Bool) =>
       T.ret (.bool b106))
       (T.ret (.bool false)))
      (T.ret (.bool false)))
theorem backT_of {L : Lp} {h0 h : Hp} (t : Tab h) (p : Pow10 h) (e0 : Ext h0 h) {q : Option Addr} {m cc : Nat} {bs : Bt} (v : VwB h q m bs) (hc : m ≤ cc) (hl : bs.length ≤ 3000) : backT q m cc L (fun w h' => w = .bool true ∧ Ext h0 h') h := by
  unfold backT
  refine call_of (read_hc t v hc (by omega)) ?_
  rintro _ h1 ⟨a, b, c, d, ev, u, e, rfl, own, ea, re, hz, e1⟩
  refine ⟨((a.p, a.l, a.c), (b.p, b.l, b.c), (c.p, c.l, c.c), (d.p, d.l, d.c), ev, ()), rfl, ?_⟩
  dsimp only [flat, unc, unc1, List.nil_append, List.cons_append]
  refine aside ?_
  intro h2 b2 e2
  have e12 := e1.trans e2
  cases e with
  | some er =>
    obtain ⟨ax, rfl, bx⟩ := ea
    obtain ⟨_, rfl⟩ := re
    refine sem_bool (fun K' hK => by rw [neIN]; exact hK) ?_
    refine cond_t rfl ?_
    refine loads_box b2 ((a.p, a.l, a.c), (b.p, b.l, b.c), (c.p, c.l, c.c), (d.p, d.l, d.c), ()) rfl ?_
    dsimp only [flat, unc, unc1, List.nil_append, List.cons_append]
    refine call_of (sameUnit_hc (a' := sl0) (b' := sl0) (c' := sl0) (d' := sl0) ((own.keep e2 (by simp)).at) (UntAt.zero h2)) ?_
    rintro _ h3 ⟨r, rfl, hr, e3⟩
    have hr := hr.2 rfl
    subst hr
    refine ⟨(true, ()), rfl, ?_⟩
    dsimp only [flat, unc, unc1, List.nil_append, List.cons_append]
    refine cond_t rfl ?_
    have e13 := e12.trans e3
    refine call_boolx (known_hc (t.keep e13 (by simp)) (p.keep e13 (by simp))) ?_
    intro h4 e4
    exact ⟨rfl, (e0.trans e13).trans e4⟩
  | none =>
    have ea : ev = .nilIface := ea
    subst ea
    have re : readR bs = .ok u := re
    obtain ⟨rfl, h1, h2'⟩ := rd_back (by omega) re
    have hw := wrE_of h1 h2' (by omega)
    refine sem_bool (fun K' hK => by rw [neNN]; exact hK) ?_
    refine cond_f rfl ?_
    refine loads_box b2 ((a.p, a.l, a.c), (b.p, b.l, b.c), (c.p, c.l, c.c), (d.p, d.l, d.c), ()) rfl ?_
    dsimp only [flat, unc, unc1, List.nil_append, List.cons_append]
    refine call_of (write_hc (a := a) (b := b) (c := c) (d := d) (t.keep e12 (by simp)) ((own.keep e2 (by simp)).at) (by omega)) ?_
    rintro _ h3 ⟨s, rfl, _, hs, e3⟩
    rw [hw] at hs ⊢
    have sl := hs rfl
    refine ⟨((s.p, s.l, s.c), (0 : Int), ()), rfl, ?_⟩
    dsimp only [flat, unc, unc1, List.nil_append, List.cons_append]
    refine cond_t rfl ?_
    have e13 := e12.trans e3
    refine call_of (sameByte_hc (c := s.c) (d := cc) (SL.vwB sl) (v.keep e13) (by omega)) ?_
    rintro _ h4 ⟨r, rfl, hr, e4⟩
    have hr := hr.2 rfl
    subst hr
    refine ⟨(true, ()), rfl, ?_⟩
    dsimp only [flat, unc, unc1, List.nil_append, List.cons_append]
    refine cond_t rfl ?_
    have e14 := e13.trans e4
    refine call_boolx (known_hc (t.keep e14 (by simp)) (p.keep e14 (by simp))) ?_
    intro h5 e5
    exact ⟨rfl, (e0.trans e14).trans e5⟩
end Go.Sx.Ob

set_option linter.unusedVariables false
set_option linter.unusedSimpArgs false
set_option maxRecDepth 100000
namespace Go.Sx.Ob
open Go.Proofs
theorem und40 : Tryd.prog.underlying 40 = some (.slice 30) := by kernel_rfl
theorem untZ : (Tryd.prog.info? 30).map (fun i => (i.zero, i.size, i.bytes)) = some (some (.agg #[.slice none 0 0, .slice none 0 0, .slice none 0 0, .slice none 0 0]), 4, 96) := by kernel_rfl
theorem fillU1 (p1 : Option Addr) (l1 c1 : Nat) (p2 : Option Addr) (l2 c2 : Nat) (p3 : Option Addr) (l3 c3 : Nat) (p4 : Option Addr) (l4 c4 : Nat) : Instr.fill (fun j => some (j * 4, 4)) ((Array.range (1 * 4)).map ((Value.agg #[.slice none 0 0, .slice none 0 0, .slice none 0 0, .slice none 0 0]).cells[· % (Value.agg #[.slice none 0 0, .slice none 0 0, .slice none 0 0, .slice none 0 0]).cells.size]!)) [(0, .agg #[.slice p1 l1 c1, .slice p2 l2 c2, .slice p3 l3 c3, .slice p4 l4 c4])] = some ([.slice p1 l1 c1, .slice p2 l2 c2, .slice p3 l3 c3, .slice p4 l4 c4] : List Value).toArray := by kernel_rfl
theorem fillU2 (p1 : Option Addr) (l1 c1 : Nat) (p2 : Option Addr) (l2 c2 : Nat) (p3 : Option Addr) (l3 c3 : Nat) (p4 : Option Addr) (l4 c4 : Nat) (q1 : Option Addr) (m1 d1 : Nat) (q2 : Option Addr) (m2 d2 : Nat) (q3 : Option Addr) (m3 d3 : Nat) (q4 : Option Addr) (m4 d4 : Nat) : Instr.fill (fun j => some (j * 4, 4)) ((Array.range (2 * 4)).map ((Value.agg #[.slice none 0 0, .slice none 0 0, .slice none 0 0, .slice none 0 0]).cells[· % (Value.agg #[.slice none 0 0, .slice none 0 0, .slice none 0 0, .slice none 0 0]).cells.size]!)) [(0, .agg #[.slice p1 l1 c1, .slice p2 l2 c2, .slice p3 l3 c3, .slice p4 l4 c4]), (1, .agg #[.slice q1 m1 d1, .slice q2 m2 d2, .slice q3 m3 d3, .slice q4 m4 d4])] = some ([.slice p1 l1 c1, .slice p2 l2 c2, .slice p3 l3 c3, .slice p4 l4 c4, .slice q1 m1 d1, .slice q2 m2 d2, .slice q3 m3 d3, .slice q4 m4 d4] : List Value).toArray := by kernel_rfl
theorem back_hc {h : Hp} (t : Tab h) (p : Pow10 h) {a b c d : Sli} {u : Unt} (x : UntAt h a b c d u) (n : UntNum u) (hw : (wUnt u).length ≤ 2 ^ 39) {q : Option Addr} {m cc : Nat} {bs : Bt} (v : VwB h q m bs) (hc : m ≤ cc) :
    HC Tryd.prog 4 #[untV a b c d, .slice q m cc] h fun w h' => w = .bool true ∧ Ext h h' := by
  refine hcr_of (args := [untV a b c d, .slice q m cc]) mixed Tryd.func4 (by kernel_rfl) (t_spandrellaw10_ObjectBack_eq a.p a.l a.c b.p b.l b.c c.p c.l c.c d.p d.l d.c q m cc) ?_
  unfold t_spandrellaw10_ObjectBack
  have hml := v.len
  refine newB ?_
  intro h1 b1 e1 z1
  have b1 : Box h1 h.size 30 [a.v, b.v, c.v, d.v] := b1
  refine loads_box b1 ((a.p, a.l, a.c), (b.p, b.l, b.c), (c.p, c.l, c.c), (d.p, d.l, d.c), ()) rfl ?_
  dsimp only [flat, unc, unc1, List.nil_append, List.cons_append]
  refine lit_of und40 untZ (by omega) (by omega) (fillU1 a.p a.l a.c b.p b.l b.c c.p c.l c.c d.p d.l d.c) ?_
  intro h2 b2 e2 z2
  have e02 := e1.trans e2
  have vu : VwU h2 (some ⟨h1.size, 0, none⟩) 1 [u] := ⟨rfl, by show 1 ≤ 2 ^ 60; decide, fun i hi => by
    have hi : i < 1 := hi
    obtain rfl : i = 0 := by omega
    exact ⟨_, a, b, c, d, rfl, b2.cells _ rfl, x.keep e02⟩⟩
  refine call_bool (large_hc vu) ?_
  have known : (T.call Tryd.prog 9 [] false [(false, [.bool])] <| fun (b19 : Bool) => T.ret (.bool b19)) [] (fun w h' => w = .bool true ∧ Ext h h') h2 := by
    refine call_boolx (known_hc (t.keep e02 (by simp)) (p.keep e02 (by simp))) ?_
    intro h3 e3
    exact ⟨rfl, e02.trans e3⟩
  refine cond_mk (fun _ => known) (fun _ => ?_)
  refine cond_mk (fun _ => known) (fun g => ?_)
  have g := of_decide_eq_false g
  have b12 := b1.keep e2 (by simp)
  refine loads_box b12 ((a.p, a.l, a.c), (b.p, b.l, b.c), (c.p, c.l, c.c), (d.p, d.l, d.c), ()) rfl ?_
  dsimp only [flat, unc, unc1, List.nil_append, List.cons_append]
  refine call_of (write_hc (a := a) (b := b) (c := c) (d := d) (t.keep e02 (by simp)) (x.keep e02) (by omega)) ?_
  rintro _ h3 ⟨s, rfl, _, hs, e3⟩
  refine ⟨((s.p, s.l, s.c), (((wrE u : Nat)) : Int), ()), rfl, ?_⟩
  dsimp only [flat, unc, unc1, List.nil_append, List.cons_append]
  have e03 := e02.trans e3
  refine cond_mk (fun r => ?_) (fun r => ?_)
  · have r : wrE u = 0 := eqN_t r
    have sl := hs r
    obtain ⟨o1, o2, o3⟩ := wrE_ok n r
    refine call_of (read_hc (t.keep e03 (by simp)) (SL.vwB sl) (SL.capL sl) (by omega)) ?_
    rintro _ h4 ⟨a', b', c', d', ev, u', e, rfl, own, ea, re, _, e4⟩
    obtain ⟨rfl, rfl⟩ := readE_ok re (rd_ok o1 o2 o3)
    have ea : ev = .nilIface := ea
    subst ea
    refine ⟨((a'.p, a'.l, a'.c), (b'.p, b'.l, b'.c), (c'.p, c'.l, c'.c), (d'.p, d'.l, d'.c), .nilIface, ()), rfl, ?_⟩
    dsimp only [flat, unc, unc1, List.nil_append, List.cons_append]
    refine aside ?_
    intro h5 b5 e5
    refine sem_bool (fun K' hK => by rw [neNN]; exact hK) ?_
    refine cond_f rfl ?_
    have e35 := e4.trans e5
    have e05 := e03.trans e35
    refine loads_box ((b12.keep e3 (by simp)).keep e35 (by simp)) ((a.p, a.l, a.c), (b.p, b.l, b.c), (c.p, c.l, c.c), (d.p, d.l, d.c), ()) rfl ?_
    dsimp only [flat, unc, unc1, List.nil_append, List.cons_append]
    refine loads_box b5 ((a'.p, a'.l, a'.c), (b'.p, b'.l, b'.c), (c'.p, c'.l, c'.c), (d'.p, d'.l, d'.c), ()) rfl ?_
    dsimp only [flat, unc, unc1, List.nil_append, List.cons_append]
    refine call_of (sameUnit_hc (x.keep e05) ((own.keep e5 (by simp)).at)) ?_
    rintro _ h6 ⟨r6, rfl, hr6, e6⟩
    have hr6 := hr6.2 rfl
    subst hr6
    refine ⟨(true, ()), rfl, ?_⟩
    dsimp only [flat, unc, unc1, List.nil_append, List.cons_append]
    refine cond_f rfl ?_
    have e06 := e05.trans e6
    exact backT_of (t.keep e06 (by simp)) (p.keep e06 (by simp)) e06 (v.keep e06) hc (by omega)
  · exact backT_of (t.keep e03 (by simp)) (p.keep e03 (by simp)) e03 (v.keep e03) hc (by omega)
theorem cutsT_of {L : Lp} {h0 h : Hp} (t : Tab h) (p : Pow10 h) (e0 : Ext h0 h) {b0 : Nat} {sp : Option Addr} {sl sc : Nat} {u : Unt} (s : SL h b0 5 1 sp sl sc (byC (wUnt u))) (o1 : untR u = 0) (o2 : UntSm u) (o3 : (wUnt u).length ≤ 1048576) (n2 : Int) (hn : Sm n2)
    {q : Option Addr} {m cc : Nat} {bs : Bt} (v : VwB h q m bs) (hq : q = none → cc = 0) (hl : bs.length ≤ 2 ^ 39) : cutsT sp sl sc n2 q m cc L (fun w h' => w = .bool true ∧ Ext h0 h') h := by
  unfold cutsT
  have hlen : sl = (wUnt u).length := by rw [s.1, byC_length]
  have h5 : 5 ≤ (wUnt u).length := by
    unfold wUnt
    rw [List.length_append]
    show 5 ≤ 5 + _
    omega
  have hcap := SL.capL s
  have hml := v.len
  rw [wrap_i64 (by omega) (by omega)]
  refine call_of (within_hc h n2 hn (m := sl) (by omega) (by omega)) ?_
  rintro _ _ ⟨k, hk, rfl, rfl⟩
  refine ⟨((k : Int), ()), rfl, ?_⟩
  dsimp only [flat, unc, unc1, List.nil_append, List.cons_append]
  refine need_of ⟨by omega, by omega, by omega⟩ ?_
  obtain ⟨sa, rfl⟩ : ∃ sa, sp = some sa := by
    cases sp with
    | none => have h0 : sc = 0 := s.2.2.1; omega
    | some sa => exact ⟨sa, rfl⟩
  have hsl : (if sc = 0 then some sa else Option.map (fun a => Addr.add a 0) (some sa)) = some sa := by
    rw [if_neg (show ¬ sc = 0 by omega)]
    simp [Addr.add]
  rw [hsl, show Int.toNat (k : Int) - 0 = k by simp, Nat.sub_zero]
  obtain ⟨er, her⟩ := rd_take o1 o2 (k := k) (by omega)
  refine bad_of t ((SL.vwB s).take (n := k) (by omega)) (by omega) (by rw [List.length_take]; omega) her ?_
  intro h2 va ea e2
  refine lit0_of und22 byZ ?_
  intro h3 s3 e3
  refine appB_of (xs := []) s3 (us := wUnt u) ((SL.vwB s).keep (e2.trans e3)) (fun h => by cases h) (by omega) (by have := e3.size; omega) ?_
  intro p4 c4 h4 s4 k4 hp4
  have e34 : Ext h2 h4 := Ch.st2 e3 k4 (fun i hi => (Sx.SL.blk s3 hi).1)
  have s4 : SL h4 h2.size 5 1 p4 (0 + sl) c4 (byC (wUnt u)) := s4
  refine appB_of s4 (us := bs) (v.keep (e2.trans e34)) hq (by omega) (by have := e34.size; omega) ?_
  intro p5 c5 h5 s5 k5 hp5
  have e35 : Ext h2 h5 := Ch.st2 e34 k5 (fun i hi => (Sx.SL.blk s4 hi).1)
  have e25 := e2.trans e35
  refine call_of (read_hc (t.keep e25 (by simp)) (SL.vwB s5) (SL.capL s5) (by rw [List.length_append]; omega)) ?_
  rintro _ h6 ⟨a', b', c', d', ev, u', e, rfl, own, eb, re, _, e6⟩
  refine ⟨((a'.p, a'.l, a'.c), (b'.p, b'.l, b'.c), (c'.p, c'.l, c'.c), (d'.p, d'.l, d'.c), ev, ()), rfl, ?_⟩
  dsimp only [flat, unc, unc1, List.nil_append, List.cons_append]
  refine aside ?_
  intro h7 b7 e7
  obtain ⟨ax, rfl, bx⟩ := ea
  refine sem_bool (fun K' hK => by rw [neIN]; exact hK) ?_
  refine cond_t rfl ?_
  have e27 := (e25.trans e6).trans e7
  have fin : (T.call Tryd.prog 9 [] false [(false, [.bool])] <| fun (b105 : Bool) => T.ret (.bool b105)) L (fun w h' => w = .bool true ∧ Ext h0 h') h7 := by
    refine call_boolx (known_hc (t.keep e27 (by simp)) (p.keep e27 (by simp))) ?_
    intro h8 e8
    exact ⟨rfl, (e0.trans e27).trans e8⟩
  by_cases hb : bs = []
  · subst hb
    have hm0 : m = 0 := hml
    subst hm0
    rw [List.append_nil] at re
    obtain ⟨rfl, rfl⟩ := readE_ok re (rd_ok o1 o2 o3)
    have eb : ev = .nilIface := eb
    subst eb
    refine sem_bool (fun K' hK => by rw [eqNN]; exact hK) ?_
    refine cond_t rfl ?_
    exact fin
  · obtain ⟨er2, her2⟩ := rd_more o1 o2 hb
    obtain ⟨rfl, rfl⟩ := readE_err re her2
    obtain ⟨ay, rfl, bY⟩ := eb
    refine sem_bool (fun K' hK => by rw [eqIN]; exact hK) ?_
    have : ¬ m = 0 := fun e => hb (List.eq_nil_of_length_eq_zero (by omega))
    have hf : (((m : Nat) : Int) == (0 : Int)) = false := neK (c := 0) this
    rw [hf]
    refine cond_t rfl ?_
    exact fin
theorem cuts_hc {h : Hp} (t : Tab h) (p : Pow10 h) {a b c d : Sli} {u : Unt} (x : UntAt h a b c d u) (n : UntNum u) (hw : (wUnt u).length ≤ 2 ^ 39) {a' b' c' d' : Sli} {w : Unt} (y : UntAt h a' b' c' d' w) (n' : UntNum w) (hw' : (wUnt w).length ≤ 2 ^ 39)
    (n2 : Int) (hn : Sm n2) {q : Option Addr} {m cc : Nat} {bs : Bt} (v : VwB h q m bs) (hq : q = none → cc = 0) (hl : bs.length ≤ 2 ^ 39) :
    HC Tryd.prog 5 #[untV a b c d, untV a' b' c' d', .int .i64 n2, .slice q m cc] h fun w h' => w = .bool true ∧ Ext h h' := by
  refine hcr_of (args := [untV a b c d, untV a' b' c' d', .int .i64 n2, .slice q m cc]) mixed Tryd.func5 (by kernel_rfl) (t_spandrellaw10_ObjectCuts_eq a.p a.l a.c b.p b.l b.c c.p c.l c.c d.p d.l d.c a'.p a'.l a'.c b'.p b'.l b'.c c'.p c'.l c'.c d'.p d'.l d'.c n2 q m cc) ?_
  unfold t_spandrellaw10_ObjectCuts
  refine newB ?_
  intro h1 b1 e1 z1
  refine newB ?_
  intro h2 b2 e2 z2
  have b1 : Box h2 h.size 30 [a.v, b.v, c.v, d.v] := b1.keep e2 (by simp)
  have b2 : Box h2 h1.size 30 [a'.v, b'.v, c'.v, d'.v] := b2
  refine loads_box b1 ((a.p, a.l, a.c), (b.p, b.l, b.c), (c.p, c.l, c.c), (d.p, d.l, d.c), ()) rfl ?_
  dsimp only [flat, unc, unc1, List.nil_append, List.cons_append]
  refine loads_box b2 ((a'.p, a'.l, a'.c), (b'.p, b'.l, b'.c), (c'.p, c'.l, c'.c), (d'.p, d'.l, d'.c), ()) rfl ?_
  dsimp only [flat, unc, unc1, List.nil_append, List.cons_append]
  refine lit_of und40 untZ (by omega) (by omega) (fillU2 a.p a.l a.c b.p b.l b.c c.p c.l c.c d.p d.l d.c a'.p a'.l a'.c b'.p b'.l b'.c c'.p c'.l c'.c d'.p d'.l d'.c) ?_
  intro h3 b3 e3 z3
  have e03 := (e1.trans e2).trans e3
  have vu : VwU h3 (some ⟨h2.size, 0, none⟩) 2 [u, w] := ⟨rfl, by show 2 ≤ 2 ^ 60; decide, fun i hi => by
    have hi : i < 2 := hi
    have : i = 0 ∨ i = 1 := by omega
    rcases this with rfl | rfl
    · exact ⟨_, a, b, c, d, rfl, b3.cells _ rfl, x.keep e03⟩
    · exact ⟨_, a', b', c', d', rfl, by rw [add_box]; exact b3.cells _ rfl, y.keep e03⟩⟩
  refine call_bool (large_hc vu) ?_
  refine cond_mk (fun _ => ?_) (fun _ => ?_)
  · refine call_boolx (known_hc (t.keep e03 (by simp)) (p.keep e03 (by simp))) ?_
    intro h4 e4
    exact ⟨rfl, e03.trans e4⟩
  have b1 := b1.keep e3 (by simp)
  have b2 := b2.keep e3 (by simp)
  refine loads_box b1 ((a.p, a.l, a.c), (b.p, b.l, b.c), (c.p, c.l, c.c), (d.p, d.l, d.c), ()) rfl ?_
  dsimp only [flat, unc, unc1, List.nil_append, List.cons_append]
  refine call_of (write_hc (a := a) (b := b) (c := c) (d := d) (t.keep e03 (by simp)) (x.keep e03) (by omega)) ?_
  rintro _ h4 ⟨s, rfl, _, hs, e4⟩
  refine ⟨((s.p, s.l, s.c), (((wrE u : Nat)) : Int), ()), rfl, ?_⟩
  dsimp only [flat, unc, unc1, List.nil_append, List.cons_append]
  have e04 := e03.trans e4
  have b1 := b1.keep e4 (by simp)
  have b2 := b2.keep e4 (by simp)
  refine loads_box b2 ((a'.p, a'.l, a'.c), (b'.p, b'.l, b'.c), (c'.p, c'.l, c'.c), (d'.p, d'.l, d'.c), ()) rfl ?_
  dsimp only [flat, unc, unc1, List.nil_append, List.cons_append]
  refine call_of (write_hc (a := a') (b := b') (c := c') (d := d') (t.keep e04 (by simp)) (y.keep e04) (by omega)) ?_
  rintro _ h5 ⟨s', rfl, _, hs', e5⟩
  refine ⟨((s'.p, s'.l, s'.c), (((wrE w : Nat)) : Int), ()), rfl, ?_⟩
  dsimp only [flat, unc, unc1, List.nil_append, List.cons_append]
  have e05 := e04.trans e5
  have b1 := b1.keep e5 (by simp)
  have b2 := b2.keep e5 (by simp)
  refine cond_mk (fun _ => ?_) (fun r => ?_)
  · refine call_boolx (known_hc (t.keep e05 (by simp)) (p.keep e05 (by simp))) ?_
    intro h6 e6
    exact ⟨rfl, e05.trans e6⟩
  have r : wrE u = 0 := eqN_t (b := 0) (by simpa using r)
  obtain ⟨o1, o2, o3⟩ := wrE_ok n r
  have sl := (hs r).keep e5 (by simp)
  have hlen : s.l = (wUnt u).length := by rw [sl.1, byC_length]
  have h5 : 5 ≤ (wUnt u).length := by
    unfold wUnt
    rw [List.length_append]
    show 5 ≤ 5 + _
    omega
  refine cond_f (neK (c := 0) (by omega)) ?_
  refine cond_mk (fun r' => ?_) (fun _ => ?_)
  · have r' : wrE w = 0 := eqN_t r'
    obtain ⟨o1', o2', o3'⟩ := wrE_ok n' r'
    refine loads_box b1 ((a.p, a.l, a.c), (b.p, b.l, b.c), (c.p, c.l, c.c), (d.p, d.l, d.c), ()) rfl ?_
    dsimp only [flat, unc, unc1, List.nil_append, List.cons_append]
    refine loads_box b2 ((a'.p, a'.l, a'.c), (b'.p, b'.l, b'.c), (c'.p, c'.l, c'.c), (d'.p, d'.l, d'.c), ()) rfl ?_
    dsimp only [flat, unc, unc1, List.nil_append, List.cons_append]
    refine call_of (sameUnit_hc (x.keep e05) (y.keep e05)) ?_
    rintro _ h6 ⟨r6, rfl, hr6, e6⟩
    refine ⟨(r6, ()), rfl, ?_⟩
    dsimp only [flat, unc, unc1, List.nil_append, List.cons_append]
    have sl6 := sl.keep e6 (by simp)
    refine call_of (sameByte_hc (c := s.c) (d := s'.c) (SL.vwB sl6) (SL.vwB (((hs' r').keep e6 (by simp)))) (by omega)) ?_
    rintro _ h7 ⟨r7, rfl, hr7, e7⟩
    refine ⟨(r7, ()), rfl, ?_⟩
    dsimp only [flat, unc, unc1, List.nil_append, List.cons_append]
    have h67 : r6 = r7 := by
      have : r6 = true ↔ r7 = true := hr6.trans ((⟨fun e => by rw [e], fun e => wUnt_inj o1 o2 o1' o2' e⟩ : u = w ↔ wUnt u = wUnt w).trans hr7.symm)
      cases r6 <;> cases r7 <;> simp_all
    subst h67
    refine cond_f (by simp) ?_
    have e07 := (e05.trans e6).trans e7
    exact cutsT_of (t.keep e07 (by simp)) (p.keep e07 (by simp)) e07 (sl6.keep e7 (by simp)) o1 o2 o3 n2 hn (v.keep e07) hq hl
  · exact cutsT_of (t.keep e05 (by simp)) (p.keep e05 (by simp)) e05 sl o1 o2 o3 n2 hn (v.keep e05) hq hl
end Go.Sx.Ob

set_option linter.unusedVariables false
set_option linter.unusedSimpArgs false
set_option maxRecDepth 100000
namespace Go.Sx.Ob
open Go.Proofs Go.Proofs.YtnjohginlglonaaDoor
open Go.ChangeShapes Go.WideShapes Go.ChangeAt Go.WideMaps Go.WideElems Go.RowKit
def flds2 (P : Program) (t : TypeId) : Option (List (TypeId × Nat)) := (P.underlying t).bind fun d => match d with | .struct fs => some (fs.toList.map fun f => (f.type, f.offset)) | _ => none
section
variable {H : Type} {enc : TypeId × Value → H} {P : Program} {W : World} {base fuel : Nat} {sp : Nat → Bool} {held : Bool} {t : TypeId} {cs : List Value} {y : DataW H × List MemPlace}
theorem open_struct {l : List (TypeId × Nat)} (hu : flds2 P t = some l) (h : DataW.trod enc P W base sp held fuel t cs = some y) :
    ∃ (xs : List (DataW H × List MemPlace)) (n : Nat), y.1 = .agg (xs.map (·.1)) ∧ cs.length = P.cellsOf t ∧ xs.length = l.length ∧ ∀ (i : Nat) (p : TypeId × Nat), l[i]? = some p → ∃ x, xs[i]? = some x ∧ DataW.trod enc P W base sp held n p.1 ((cs.drop p.2).take (P.cellsOf p.1)) = some x := by
  unfold flds2 at hu
  cases hd : P.underlying t with
  | none => rw [hd] at hu; cases hu
  | some d =>
    rw [hd] at hu
    simp only [Option.bind_some] at hu
    split at hu
    · rename_i fs
      simp only [Option.some.injEq] at hu
      obtain ⟨xs, n, _, hy, hl, hlen, hf⟩ := DataW.trod_struct hd h
      refine ⟨xs, n, by rw [hy], hl, by rw [← hu, List.length_map, hlen, Array.length_toList], fun i p hp => ?_⟩
      rw [← hu, List.getElem?_map, Option.map_eq_some_iff] at hp
      obtain ⟨f, hf1, rfl⟩ := hp
      rw [Array.getElem?_toList] at hf1
      have h1 := hf i f hf1
      cases hx : xs[i]? with
      | none =>
        rw [List.getElem?_eq_none_iff] at hx
        have : i < fs.size := by
          by_cases g : i < fs.size
          · exact g
          · rw [Array.getElem?_eq_none (by omega)] at hf1
            cases hf1
        omega
      | some x => rw [hx] at h1; exact ⟨x, rfl, h1⟩
    · cases hu
theorem cellsAt_of {h : Hp} {a : Addr} : ∀ (vs : List Value) (i : Nat), (∀ j, (hj : j < vs.length) → hcell h (a.add (i + j)) = some vs[j]) → cellsAt h a i vs
  | [], _, _ => trivial
  | v :: vs, i, hh => ⟨by have := hh 0 (by simp); rw [Nat.add_zero] at this; exact this, cellsAt_of vs (i + 1) fun j hj => by
    have := hh (j + 1) (by simpa using hj)
    rw [show i + 1 + j = i + (j + 1) by omega]
    simpa using this⟩
theorem cellsN {a : Addr} {n : Nat} (h : W.cells? base a n = some cs) : cs.length = n ∧ cellsAt W.heap a 0 cs := by
  unfold World.cells? at h
  split at h
  · have hl : cs.length = n := by simpa using Lib.mapM_length h
    refine ⟨hl, cellsAt_of cs 0 fun j hj => ?_⟩
    obtain ⟨b, hb, hf⟩ := Lib.mapM_at h j j (List.getElem?_range (by omega))
    rw [List.getElem?_eq_getElem hj] at hb
    cases hb
    rw [Nat.zero_add, ← cell_heap]
    exact hf
  · cases h
theorem choose_list {α : Type} (Q : Nat → α → Prop) : ∀ n, (∀ i, i < n → ∃ x, Q i x) → ∃ l : List α, l.length = n ∧ ∀ i (hi : i < l.length), Q i l[i]
  | 0, _ => ⟨[], rfl, fun i hi => by simp at hi⟩
  | n + 1, h => by
    obtain ⟨l, hl, hp⟩ := choose_list Q n (fun i hi => h i (by omega))
    obtain ⟨x, hx⟩ := h n (by omega)
    refine ⟨l ++ [x], by simp [hl], fun i hi => ?_⟩
    by_cases hin : i < l.length
    · rw [List.getElem_append_left hin]
      exact hp i hin
    · have hi' : i = n := by simp at hi; omega
      subst hi'
      rw [List.getElem_append_right (by omega)]
      simpa using hx
/-- The bulk of a list whose things have these bulks. -/
theorem bulk_sum {ds : List (DataW H)} {ks : List Nat} (hl : ds.length = ks.length) (h : ∀ i, (hi : i < ks.length) → (hj : i < ds.length) → ks[i] = Rows.uptoBulk ds[i]) : Rows.uptoBulkAll ds = ks.sum := by
  induction ds generalizing ks with
  | nil =>
    cases ks with
    | nil => rfl
    | cons k ks => simp at hl
  | cons d ds ih =>
    cases ks with
    | nil => simp at hl
    | cons k ks =>
      have h0 := h 0 (by simp) (by simp)
      simp only [List.getElem_cons_zero] at h0
      have := ih (ks := ks) (by simpa using hl) (fun i hi hj => h (i + 1) (by simpa using hi) (by simpa using hj))
      unfold Rows.uptoBulkAll
      rw [this, List.sum_cons, h0]
/-- What is known of a list that lies in memory: each thing, its cells, its bulk. -/
structure LsIn {α : Type} (Q : α → List Value → Nat → Prop) (h : Hp) (sz : Nat) (p : Option Addr) (l c : Nat) (us : List α) (ks : List Nat) : Prop where
  len : l = us.length
  lenk : ks.length = us.length
  cells : ∀ i, (hi : i < us.length) → (hk : i < ks.length) → ∃ a cs, p = some a ∧ cellsAt h (a.add (i * sz)) 0 cs ∧ Q us[i] cs ks[i]
  cap : l ≤ c
  capm : c ≤ maxLen
  nil : p = none → c = 0
theorem open_slice {α : Type} {e : TypeId} {sz : Nat} (hu : P.underlying t = some (.slice e)) (hc : P.cellsOf e = sz) (Q : α → List Value → Nat → Prop)
    (hel : ∀ (cs : List Value) (y : DataW H × List MemPlace) (n : Nat), DataW.trod enc P W base sp held n e cs = some y → ∃ x : α, Q x cs (Rows.uptoBulk y.1))
    (h : DataW.trod enc P W base sp held fuel t cs = some y) :
    ∃ (p : Option Addr) (l c : Nat) (us : List α) (ks : List Nat), cs = [.slice p l c] ∧ LsIn Q W.heap sz p l c us ks ∧ ks.sum + 1 ≤ Rows.uptoBulk y.1 := by
  rcases DataW.trod_slice hu h with ⟨e0, hy0⟩ | ⟨a, len, cap, elems, rest, n, _, e0, hy0, hbase, hlc, hcm, hlen, hev, _, _⟩
  · refine ⟨none, 0, 0, [], [], e0, ⟨rfl, rfl, fun i hi => by simp at hi, Nat.le_refl _, Nat.zero_le _, fun _ => rfl⟩, ?_⟩
    rw [hy0]
    simp only [Rows.uptoBulk]
    decide
  · have each : ∀ i, i < len → ∃ x : α × Nat, ∃ cs', cellsAt W.heap (a.add (i * sz)) 0 cs' ∧ Q x.1 cs' x.2 ∧ ∃ y, elems[i]? = some y ∧ x.2 = Rows.uptoBulk y.1 := by
      intro i hi
      have he := hev i hi
      cases hy : elems[i]? with
      | none => rw [List.getElem?_eq_none_iff] at hy; omega
      | some y =>
        rw [hy, hc] at he
        simp only [Option.bind_eq_some_iff] at he
        obtain ⟨cs', hcs, htr⟩ := he
        obtain ⟨hl, hcell⟩ := cellsN hcs
        obtain ⟨x, hx⟩ := hel _ _ _ htr
        exact ⟨(x, Rows.uptoBulk y.1), cs', hcell, hx, y, rfl, rfl⟩
    obtain ⟨xs, hxl, hxs⟩ := choose_list _ len each
    refine ⟨some a, len, cap, xs.map (·.1), xs.map (·.2), e0, ⟨by rw [List.length_map, hxl], by rw [List.length_map, List.length_map], fun i hi hk => ?_, hlc, hcm, fun h => by cases h⟩, ?_⟩
    · rw [List.length_map] at hi
      obtain ⟨cs', h1, h2, _⟩ := hxs i hi
      rw [List.getElem_map, List.getElem_map]
      exact ⟨a, cs', rfl, h1, h2⟩
    · have := bulk_sum (ds := elems.map (·.1)) (ks := xs.map (·.2)) (by rw [List.length_map, List.length_map, hlen, hxl]) (fun i hi hj => by
        rw [List.length_map] at hi hj
        obtain ⟨cs', _, _, y, hy, hk⟩ := hxs i hi
        rw [List.getElem?_eq_getElem hj] at hy
        rw [List.getElem_map, List.getElem_map, hk, Option.some.inj hy])
      rw [hy0]
      simp only [Rows.uptoBulk]
      rw [this]
      omega
end
/-- What a call over heaps is, of a world: a call that leaves what was there. -/
theorem calls_of {P : Program} {f : FuncId} {args : Array Value} {W : World} {R : Value → Hp → Prop} (h : HC P f args W.heap R) (he : ∀ v h', R v h' → Ext W.heap h') : Calls P f args W fun e w' => ∃ v, e = .returned v ∧ Below W.heap.size W w' ∧ R v w'.heap := by
  refine (h W rfl).mono fun e w' ⟨v, hv, hs, hr⟩ => ⟨v, hv, ⟨hs.os, hs.tape, hs.output, (he v _ hr).size, fun k hk => (he v _ hr).same k hk (by simp)⟩, hr⟩
theorem below_same {W W' : World} (hB : Below W.heap.size W W') {p : MemPlace} (hp : p.block < W.heap.size) : W.sameAt W' p := by
  cases p with
  | cell b off =>
    show W'.cell? _ = W.cell? _
    unfold World.cell?
    rw [hB.block b hp]
  | map b => exact hB.block b hp
end Go.Sx.Ob
