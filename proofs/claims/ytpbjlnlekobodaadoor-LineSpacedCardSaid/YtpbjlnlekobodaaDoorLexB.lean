/- What the document's Legal answers. Condition: a text has at most maxLen bytes. -/
import Derived.Test.YtpbjlnlekobodaaDoorLexA
set_option linter.unusedVariables false
set_option linter.unusedSimpArgs false
set_option linter.deprecated false
set_option maxRecDepth 100000
namespace Go.Sx
open Go.Proofs
theorem all_step (p : UInt8 → Bool) (l : List UInt8) (k : Nat) (hk : k < l.length) : (l.take (k + 1)).all p = ((l.take k).all p && p (l.getD k 0)) := by
  rw [List.take_succ_eq_append_getElem hk, List.all_append]
  simp [List.getD, List.getElem?_eq_getElem hk]
theorem legal2_hc (s : ByteArray) (h : Hp) (hs : s.size ≤ 9223372036854775807) : HCp Tryd.prog 32 [.string s] h (.bool (legalL s.data.toList)) := by
  refine hcp_of mixed Tryd.func32 (by kernel_rfl) (t_spandrelref2_Legal_eq s) ?_
  have hsz : s.data.toList.length = s.size := by simp
  unfold t_spandrelref2_Legal
  unfold legalL
  rw [hsz]
  refine cond_mk (fun h1 => ?_) (fun h1 => ?_)
  · have h1 := of_decide_eq_true h1
    rw [show decide (0 < s.size) = false from decide_eq_false (by omega)]
    exact ⟨by simp, rfl⟩
  have h1 := of_decide_eq_false h1
  refine cond_mk (fun h2 => ?_) (fun h2 => ?_)
  · have h2 := of_decide_eq_true h2
    rw [show decide (s.size ≤ 32) = false from decide_eq_false (by omega)]
    exact ⟨by simp, rfl⟩
  have h2 := of_decide_eq_false h2
  rw [show decide (0 < s.size) = true from decide_eq_true (by omega), show decide (s.size ≤ 32) = true from decide_eq_true (by omega)]
  refine need_of ⟨by omega, by omega⟩ ?_
  refine call_bool (letter_hc (s.data.toList.getD 0 0) h) ?_
  refine cond_mk (fun h3 => ?_) (fun h3 => ?_)
  · have h3 : isLet (s.data.toList.getD 0 0) = false := by simpa using h3
    rw [h3]
    exact ⟨by simp, rfl⟩
  have h3 : isLet (s.data.toList.getD 0 0) = true := by simpa using h3
  rw [h3]
  refine loop_of (cs := [(false, [.bool]), (false, [.int .i64])]) (fun x n h' => h' = h ∧ ∃ k : Nat, x.2.1 = (k : Int) ∧ k ≤ s.size ∧ n = s.size - k ∧ (s.data.toList.take k).all (fun c => isLet c || isDig c) = true)
    (false, (0 : Int), ()) s.size rfl ⟨rfl, 0, rfl, by omega, by omega, by simp⟩ ?_
  rintro ⟨b, n, ⟨⟩⟩ m h' ⟨rfl, k, hk, hle, rfl, hall⟩
  simp only at hk
  subst hk
  refine cond_mk (fun hb => ?_) (fun hb => ?_)
  · have hlt : (k : Int) < s.size := of_decide_eq_true hb
    have hst := all_step (fun c => isLet c || isDig c) s.data.toList k (by omega)
    rw [hall, Bool.true_and] at hst
    have hfalse : ∀ k' : Nat, (isLet (s.data.toList.getD k 0) || isDig (s.data.toList.getD k 0)) = false → s.data.toList.all (fun c => isLet c || isDig c) = false := by
      intro k' hf
      rw [hf] at hst
      cases hx : s.data.toList.all (fun c => isLet c || isDig c) with
      | false => rfl
      | true =>
        have : (s.data.toList.take (k + 1)).all (fun c => isLet c || isDig c) = true := List.all_eq_true.2 fun c hc => List.all_eq_true.1 hx c (List.mem_of_mem_take hc)
        rw [this] at hst; cases hst
    have hnext : (isLet (s.data.toList.getD k 0) || isDig (s.data.toList.getD k 0)) = true → T.again 0 [.bool b, .int .i64 (IntKind.wrap .i64 ((k : Int) + 1))] ([] ++ [Jl (cs := [(false, [.bool]), (false, [.int .i64])]) (fun x n h'' => h'' = h' ∧ ∃ k : Nat, x.2.1 = (k : Int) ∧ k ≤ s.size ∧ n = s.size - k ∧ (s.data.toList.take k).all (fun c => isLet c || isDig c) = true) (s.size - k)]) (fun v' h'' => v' = .bool (true && true && true && s.data.toList.all (fun c => isLet c || isDig c) && !(regL s.data.toList).2.2) ∧ h'' = h') h' := by
      intro ht
      rw [wrap_i64 (by omega) (by omega)]
      exact again_mk (cs := [(false, [.bool]), (false, [.int .i64])]) (b, (k : Int) + 1, ()) (s.size - (k + 1)) rfl (by omega) rfl ⟨rfl, k + 1, (show ((k : Int) + 1) = ((k + 1 : Nat) : Int) from by omega), by omega, rfl, by rw [hst, ht]⟩
    refine need_of ⟨(by show (0:Int) ≤ (k:Int); omega), hlt⟩ ?_
    refine call_bool (letter_hc (s.data.toList.getD k 0) h') ?_
    refine cond_mk (fun h4 => ?_) (fun h4 => ?_)
    · have h4 : isLet (s.data.toList.getD k 0) = false := by simpa using h4
      refine need_of ⟨(by show (0:Int) ≤ (k:Int); omega), hlt⟩ ?_
      refine call_bool (digit_hc (s.data.toList.getD k 0) h') ?_
      refine cond_mk (fun h5 => ?_) (fun h5 => ?_)
      · have h5 : isDig (s.data.toList.getD k 0) = false := by simpa using h5
        rw [hfalse 0 (by rw [h4, h5]; rfl)]
        exact ⟨by simp, rfl⟩
      · have h5 : isDig (s.data.toList.getD k 0) = true := by simpa using h5
        exact hnext (by rw [h5]; simp)
    · have h4 : isLet (s.data.toList.getD k 0) = true := by simpa using h4
      exact hnext (by rw [h4]; simp)
  · have hge : ¬ (k : Int) < s.size := of_decide_eq_false hb
    have hk : k = s.data.toList.length := by omega
    rw [hk, List.take_length] at hall
    rw [hall]
    refine call_ibb (register2_hc s h') ?_
    exact ⟨by simp, rfl⟩
end Go.Sx
