/- A framework of our own, part L: the rules by which a tree is proved. No condition. -/
import Derived.Test.YtmdncdaladplkaaGreatDoorSxF
import Derived.Lib.Bytealg
import Derived.Lib.IndexAny
set_option linter.unusedVariables false
set_option linter.unusedSimpArgs false
set_option linter.deprecated false
namespace Go.Sx

section rules
variable {P : Program} {L : Lp} {K : Value → Hp → Prop} {h : Hp}

/-- A call that only computes. -/
def HCp (P : Program) (f : FuncId) (args : List Value) (h : Hp) (v : Value) : Prop := HC P f args.toArray h fun v' h' => v' = v ∧ h' = h
theorem call_of {f : FuncId} {args : List Value} {tup : Bool} {cs : List Comp} {k : Cur (flat cs) T} {R : Value → Hp → Prop} (hc : HC P f args.toArray h R)
    (hk : ∀ v h', R v h' → ∃ x, v = rv tup cs (hvs _ x) ∧ unc _ k x L K h') : T.call P f args tup cs k L K h := hc.mono hk
theorem call_p {f : FuncId} {args : List Value} {tup : Bool} {cs : List Comp} {k : Cur (flat cs) T} {v : Value} (hc : HCp P f args h v) (x : HVs (flat cs)) (hx : v = rv tup cs (hvs _ x))
    (hk : unc _ k x L K h) : T.call P f args tup cs k L K h := call_of hc fun v' h' ⟨h1, h2⟩ => ⟨x, h1.trans hx, by rw [h2]; exact hk⟩
theorem call_int {f : FuncId} {args : List Value} {i : IntKind} {n : Int} {k : Int → T} (hc : HCp P f args h (.int i n)) (hk : k n L K h) : T.call P f args false [(false, [.int i])] k L K h :=
  call_p hc (n, ()) rfl hk
theorem call_bool {f : FuncId} {args : List Value} {b : Bool} {k : Bool → T} (hc : HCp P f args h (.bool b)) (hk : k b L K h) : T.call P f args false [(false, [.bool])] k L K h :=
  call_p hc (b, ()) rfl hk
theorem call_str {f : FuncId} {args : List Value} {s : ByteArray} {k : ByteArray → T} (hc : HCp P f args h (.string s)) (hk : k s L K h) : T.call P f args false [(false, [.string])] k L K h :=
  call_p hc (s, ()) rfl hk
theorem call_ii {f : FuncId} {args : List Value} {i j : IntKind} {n m : Int} {k : Int → Int → T} (hc : HCp P f args h (.tuple #[.int i n, .int j m])) (hk : k n m L K h) :
    T.call P f args true [(false, [.int i]), (false, [.int j])] k L K h := call_p hc (n, m, ()) rfl hk
theorem call_ibb {f : FuncId} {args : List Value} {i : IntKind} {n : Int} {b c : Bool} {k : Int → Bool → Bool → T} (hc : HCp P f args h (.tuple #[.int i n, .bool b, .bool c])) (hk : k n b c L K h) :
    T.call P f args true [(false, [.int i]), (false, [.bool]), (false, [.bool])] k L K h := call_p hc (n, b, c, ()) rfl hk
theorem call_boolx {f : FuncId} {args : List Value} {b : Bool} {k : Bool → T} {R : Hp → Prop} (hc : HC P f args.toArray h fun v h' => v = .bool b ∧ R h') (hk : ∀ h', R h' → k b L K h') : T.call P f args false [(false, [.bool])] k L K h :=
  call_of hc fun v h' ⟨h1, h2⟩ => ⟨(b, ()), h1, hk h' h2⟩
/-- A call of a value that is a function's: the function's contract. -/
theorem callv_of {f : FuncId} {cap args all : List Value} {tup : Bool} {cs : List Comp} {k : Cur (flat cs) T} {R : Value → Hp → Prop} (hb : hasBody P f = true) (ha : all = args ++ cap) (hc : HC P f all.toArray h R)
    (hk : ∀ v h', R v h' → ∃ x, v = rv tup cs (hvs _ x) ∧ unc _ k x L K h') : T.callv P (.func (.func f) #[] cap.toArray) args tup cs k L K h := by
  subst ha
  refine ⟨f, #[], cap.toArray, rfl, by simpa using call_of hc hk, ?_⟩
  unfold hasBody at hb
  cases hf : P.funcs[f]? with
  | none => rw [hf] at hb; cases hb
  | some fn =>
    rw [hf] at hb
    exact ⟨fn, rfl, by simp_all, by simp_all⟩
theorem need_of {p : Prop} {t : T} (hp : p) (ht : t L K h) : T.need p t L K h := ⟨hp, ht⟩
theorem cond_mk {b : Bool} {t u : T} (ht : b = true → t L K h) (hu : b = false → u L K h) : (cond b t u) L K h := by
  cases b
  · exact hu rfl
  · exact ht rfl
theorem cond_t {b : Bool} {t u : T} (hb : b = true) (ht : t L K h) : (cond b t u) L K h := by subst hb; exact ht
theorem cond_f {b : Bool} {t u : T} (hb : b = false) (hu : u L K h) : (cond b t u) L K h := by subst hb; exact hu
/-- What a loop's head may be come back to with. -/
def Jl {cs : List Comp} (I : HVs (flat cs) → Nat → Hp → Prop) (n : Nat) : List Value → Hp → Prop := fun vs h'' => ∃ m, m < n ∧ ∃ y, vs = parts cs (hvs _ y) ∧ I y m h''
theorem loop_of {cs : List Comp} {init : List Value} {body : Cur (flat cs) T} (I : HVs (flat cs) → Nat → Hp → Prop) (x0 : HVs (flat cs)) (n0 : Nat) (hx : init = parts cs (hvs _ x0)) (h0 : I x0 n0 h)
    (hb : ∀ x n h', I x n h' → unc _ body x (L ++ [Jl I n]) K h') : T.loop cs init body L K h := ⟨I, ⟨x0, n0, hx, h0⟩, hb⟩
theorem again_mk {lv : Nat} {vs : List Value} {cs : List Comp} {I : HVs (flat cs) → Nat → Hp → Prop} {n : Nat} (y : HVs (flat cs)) (m : Nat) (hL : L[lv]? = some (Jl I n)) (hm : m < n) (hy : vs = parts cs (hvs _ y)) (hI : I y m h) :
    T.again lv vs L K h := by
  unfold T.again
  rw [hL]
  exact ⟨m, hm, y, hy, hI⟩
theorem loads_of {a : Addr} {ds : List TypeDesc} {k : Cur ds T} (x : HVs ds) (hc : cellsAt h a 0 (hvs _ x)) (hk : unc _ k x L K h) : T.loads a ds k L K h := ⟨x, hc, hk⟩
theorem osome_mk {p : Option Addr} {k : Addr → T} {a : Addr} (hp : p = some a) (hk : k a L K h) : T.osome p k L K h := by subst hp; exact hk
theorem hcp_of {f : FuncId} {fn : Func} {cuts : List Nat} {args : List Value} {v : Value} {t : T} (hm : P.follows .mixedOrders = true) (hf : P.funcs[f]? = some fn) (hl : Nat.ble args.length fn.ntmps = true)
    (he : xfun P cuts fn args = t) (ht : t [] (fun v' h' => v' = v ∧ h' = h) h) : HCp P f args h v := hc_of hm hf hl (by rw [he]; exact ht)
theorem hcp_calls {f : FuncId} {args : List Value} {v : Value} (hc : ∀ w : World, Calls P f args.toArray w fun e w' => e = .returned v ∧ w' = w) : HCp P f args h v :=
  fun w hw => (hc w).mono fun e w' ⟨h1, h2⟩ => ⟨v, h1, by rw [h2]; exact SameO.refl w, rfl, by rw [h2]; exact hw⟩
theorem semW_ext {f : FuncId} {fn : Func} {e : Array Value → Sem Value} {args : Array Value} (hf : P.funcs[f]? = some fn) (hn : (fn.name == "runtime.NumGoroutine") = false) (hb : fn.body.isNone = true)
    (h1 : Extern.findNext fn = none) (h2 : Extern.find fn = some e) (hk : semW P (e args) h K) : semW P (extS f args) h K := by
  unfold extS
  rw [semW_bind']
  unfold callFunc
  rw [semW_program, hf]
  simp only [hn, hb, h1, h2, Bool.false_eq_true, if_false, if_true]
  show semW P (do let v ← e args; pure (Next.value v)) h _
  rw [semW_bind']
  exact hk
theorem semW_indexByte (s : ByteArray) (c : Int) : semW P (Extern.BytealgIndexByte.indexByte #[.string s, .int .u8 c]) h K = K (.int .i64 (Lib.indexByte s.data.toList c.toNat.toUInt8)) h := by
  rw [← Lib.firstIdx_eq]
  unfold Extern.BytealgIndexByte.indexByte firstIdx
  show semW P (match (List.range s.size).find? (fun i => s[i]! == c.toNat.toUInt8) with | some i => pure (goInt i) | none => pure (goInt (-1))) h K = _
  cases (List.range s.size).find? (fun i => s[i]! == c.toNat.toUInt8) <;> rfl
end rules

/-! Numbers. -/
theorem wrap_i64 {x : Int} (h1 : -9223372036854775808 ≤ x) (h2 : x ≤ 9223372036854775807) : IntKind.wrap .i64 x = x := by
  simp only [IntKind.wrap, IntKind.bits, IntKind.signed, Bool.true_and]
  split <;> rename_i hh
  · have := of_decide_eq_true hh; omega
  · have : ¬ _ := fun h => hh (decide_eq_true h); omega
theorem wrap_u8 {x : Int} (h1 : 0 ≤ x) (h2 : x ≤ 255) : IntKind.wrap .u8 x = x := by
  simp only [IntKind.wrap, IntKind.bits, IntKind.signed, Bool.false_and, Bool.false_eq_true, if_false]
  omega
theorem wrap_u32 {x : Int} (h1 : 0 ≤ x) (h2 : x ≤ 4294967295) : IntKind.wrap .u32 x = x := by
  simp only [IntKind.wrap, IntKind.bits, IntKind.signed, Bool.false_and, Bool.false_eq_true, if_false]
  omega
theorem wrap_u64 {x : Int} (h1 : 0 ≤ x) (h2 : x ≤ 18446744073709551615) : IntKind.wrap .u64 x = x := by
  simp only [IntKind.wrap, IntKind.bits, IntKind.signed, Bool.false_and, Bool.false_eq_true, if_false]
  omega
theorem wrap_u8_mod (x : Int) : IntKind.wrap .u8 x = x % 256 := by
  simp only [IntKind.wrap, IntKind.bits, IntKind.signed, Bool.false_and, Bool.false_eq_true, if_false]
  rfl
theorem sbyte_range (s : ByteArray) (n : Int) : 0 ≤ sbyte s n ∧ sbyte s n ≤ 255 := by
  unfold sbyte
  have := (s.data.toList.getD n.toNat 0).toNat_lt
  omega
end Go.Sx
