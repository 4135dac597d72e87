/- The trees of strconv.ParseUint and what it calls, each checked by the kernel against the code. No condition. -/
import Derived.Test.YtpbjlnlekobodaaDoorSxF
import Derived.Test.YtpbjlnlekobodaaDoorProg
import Derived.KernelRfl
set_option linter.unusedVariables false
set_option linter.unusedSimpArgs false
set_option linter.deprecated false
set_option maxRecDepth 100000
namespace Go.Sx
open Go.Proofs
/-- The tree of 121. -/
def t_internal_strconv_lower (n0 : Int) : T :=
 T.ret (.int .u8 (IntKind.wrap .u8 ((BitVec.toNat ((BitVec.ofInt 8 n0) ||| (BitVec.ofInt 8 (32 : Int)))) : Int)))
theorem t_internal_strconv_lower_eq (n0 : Int) : xfun Tryd.prog [] Tryd.f121 [.int .u8 n0] = t_internal_strconv_lower n0 := by kernel_rfl

/-- The tree of 140. -/
def t_internal_stringslite_Clone (s0 : ByteArray) : T :=
 cond ((s0.size : Int) == (0 : Int))
  (T.ret (.string ⟨#[]⟩))
  (T.sem Tryd.prog (Instr.makeSlice 142 (.int .i64 (s0.size : Int)) (.int .i64 (s0.size : Int))) false [(false, [.slice 0])] <| fun (p1 : Option Addr) (l2 : Nat) (l3 : Nat) =>
  T.sem Tryd.prog (Builtin.copy_ #[142, 9] 3 #[.slice p1 l2 l3, .string s0]) false [(false, [.int .i64])] <| fun (n4 : Int) =>
  T.need (((0 : Int) ≤ (0 : Int)) ∧ ((0 : Int) < (l2 : Int))) <|
  T.osome p1 <| fun (a5 : Addr) =>
  T.sem Tryd.prog (Builtin.unsafeString_ #[156, 3] 9 #[.pointer (some a5), .int .i64 (l2 : Int)]) false [(false, [.string])] <| fun (s6 : ByteArray) =>
  T.ret (.string s6))
theorem t_internal_stringslite_Clone_eq (s0 : ByteArray) : xfun Tryd.prog [] Tryd.f140 [.string s0] = t_internal_stringslite_Clone s0 := by kernel_rfl

/-- The tree of 123. -/
def t_strconv_syntaxError (s0 : ByteArray) (s1 : ByteArray) : T :=
 T.loads ⟨2, 0, none⟩ [.interface #[("Error", 147)]] <| fun (v2 : Value) =>
 T.call Tryd.prog 140 [.string s1] false [(false, [.string])] <| fun (s3 : ByteArray) =>
 T.stable [(⟨2, 0, none⟩, [v2])] <|
 cond (Sx.isAggV v2)
  (T.fail)
  (T.new [.string s0, .string s3, v2] 175 <| fun (a4 : Addr) =>
  T.stable [(⟨2, 0, none⟩, [v2])] <|
  T.ret (.pointer (some a4)))
theorem t_strconv_syntaxError_eq (s0 : ByteArray) (s1 : ByteArray) : xfun Tryd.prog [] Tryd.f123 [.string s0, .string s1] = t_strconv_syntaxError s0 s1 := by kernel_rfl

/-- The tree of 124. -/
def t_strconv_rangeError (s0 : ByteArray) (s1 : ByteArray) : T :=
 T.loads ⟨3, 0, none⟩ [.interface #[("Error", 147)]] <| fun (v2 : Value) =>
 T.call Tryd.prog 140 [.string s1] false [(false, [.string])] <| fun (s3 : ByteArray) =>
 T.stable [(⟨3, 0, none⟩, [v2])] <|
 cond (Sx.isAggV v2)
  (T.fail)
  (T.new [.string s0, .string s3, v2] 175 <| fun (a4 : Addr) =>
  T.stable [(⟨3, 0, none⟩, [v2])] <|
  T.ret (.pointer (some a4)))
theorem t_strconv_rangeError_eq (s0 : ByteArray) (s1 : ByteArray) : xfun Tryd.prog [] Tryd.f124 [.string s0, .string s1] = t_strconv_rangeError s0 s1 := by kernel_rfl

/-- The tree of 109, at some arguments. -/
def t_strconv_toError_r10 (s : ByteArray) : T :=
 T.sem Tryd.prog (Sx.cmpS (BinOp.eql) 133 (Operand.tmp 11) (Operand.tmp 13) (.iface 157 (.int .i64 (1 : Int))) (.iface 157 (.int .i64 (2 : Int)))) false [(false, [.bool])] <| fun (b1 : Bool) =>
 cond b1
  (T.call Tryd.prog 123 [.string ⟨#[80, 97, 114, 115, 101, 85, 105, 110, 116]⟩, .string s] false [(false, [.pointer 175])] <| fun (p2 : Option Addr) =>
  T.ret (.iface 159 (.pointer p2)))
  (T.sem Tryd.prog (Sx.cmpS (BinOp.eql) 133 (Operand.tmp 11) (Operand.tmp 20) (.iface 157 (.int .i64 (1 : Int))) (.iface 157 (.int .i64 (1 : Int)))) false [(false, [.bool])] <| fun (b2 : Bool) =>
  cond b2
   (T.call Tryd.prog 124 [.string ⟨#[80, 97, 114, 115, 101, 85, 105, 110, 116]⟩, .string s] false [(false, [.pointer 175])] <| fun (p3 : Option Addr) =>
   T.ret (.iface 159 (.pointer p3)))
   (T.sem Tryd.prog (Sx.cmpS (BinOp.eql) 133 (Operand.tmp 11) (Operand.tmp 27) (.iface 157 (.int .i64 (1 : Int))) (.iface 157 (.int .i64 (3 : Int)))) false [(false, [.bool])] <| fun (b3 : Bool) =>
   cond b3
    (T.call Tryd.prog 125 [.string ⟨#[80, 97, 114, 115, 101, 85, 105, 110, 116]⟩, .string s, .int .i64 (10 : Int)] false [(false, [.pointer 175])] <| fun (p4 : Option Addr) =>
    T.ret (.iface 159 (.pointer p4)))
    (T.sem Tryd.prog (Sx.cmpS (BinOp.eql) 133 (Operand.tmp 11) (Operand.tmp 35) (.iface 157 (.int .i64 (1 : Int))) (.iface 157 (.int .i64 (4 : Int)))) false [(false, [.bool])] <| fun (b4 : Bool) =>
    cond b4
     (T.call Tryd.prog 126 [.string ⟨#[80, 97, 114, 115, 101, 85, 105, 110, 116]⟩, .string s, .int .i64 (32 : Int)] false [(false, [.pointer 175])] <| fun (p5 : Option Addr) =>
     T.ret (.iface 159 (.pointer p5)))
     (T.ret (.iface 157 (.int .i64 (1 : Int)))))))
theorem t_strconv_toError_r10_eq (s : ByteArray) : xfun Tryd.prog [] Tryd.f109 [.string ⟨#[80, 97, 114, 115, 101, 85, 105, 110, 116]⟩, .string s, .int .i64 (10 : Int), .int .i64 (32 : Int), .iface 157 (.int .i64 (1 : Int))] = t_strconv_toError_r10 s := by kernel_rfl

/-- The tree of 109, at some arguments. -/
def t_strconv_toError_s10 (s : ByteArray) : T :=
 T.sem Tryd.prog (Sx.cmpS (BinOp.eql) 133 (Operand.tmp 11) (Operand.tmp 13) (.iface 157 (.int .i64 (2 : Int))) (.iface 157 (.int .i64 (2 : Int)))) false [(false, [.bool])] <| fun (b1 : Bool) =>
 cond b1
  (T.call Tryd.prog 123 [.string ⟨#[80, 97, 114, 115, 101, 85, 105, 110, 116]⟩, .string s] false [(false, [.pointer 175])] <| fun (p2 : Option Addr) =>
  T.ret (.iface 159 (.pointer p2)))
  (T.sem Tryd.prog (Sx.cmpS (BinOp.eql) 133 (Operand.tmp 11) (Operand.tmp 20) (.iface 157 (.int .i64 (2 : Int))) (.iface 157 (.int .i64 (1 : Int)))) false [(false, [.bool])] <| fun (b2 : Bool) =>
  cond b2
   (T.call Tryd.prog 124 [.string ⟨#[80, 97, 114, 115, 101, 85, 105, 110, 116]⟩, .string s] false [(false, [.pointer 175])] <| fun (p3 : Option Addr) =>
   T.ret (.iface 159 (.pointer p3)))
   (T.sem Tryd.prog (Sx.cmpS (BinOp.eql) 133 (Operand.tmp 11) (Operand.tmp 27) (.iface 157 (.int .i64 (2 : Int))) (.iface 157 (.int .i64 (3 : Int)))) false [(false, [.bool])] <| fun (b3 : Bool) =>
   cond b3
    (T.call Tryd.prog 125 [.string ⟨#[80, 97, 114, 115, 101, 85, 105, 110, 116]⟩, .string s, .int .i64 (10 : Int)] false [(false, [.pointer 175])] <| fun (p4 : Option Addr) =>
    T.ret (.iface 159 (.pointer p4)))
    (T.sem Tryd.prog (Sx.cmpS (BinOp.eql) 133 (Operand.tmp 11) (Operand.tmp 35) (.iface 157 (.int .i64 (2 : Int))) (.iface 157 (.int .i64 (4 : Int)))) false [(false, [.bool])] <| fun (b4 : Bool) =>
    cond b4
     (T.call Tryd.prog 126 [.string ⟨#[80, 97, 114, 115, 101, 85, 105, 110, 116]⟩, .string s, .int .i64 (32 : Int)] false [(false, [.pointer 175])] <| fun (p5 : Option Addr) =>
     T.ret (.iface 159 (.pointer p5)))
     (T.ret (.iface 157 (.int .i64 (2 : Int)))))))
theorem t_strconv_toError_s10_eq (s : ByteArray) : xfun Tryd.prog [] Tryd.f109 [.string ⟨#[80, 97, 114, 115, 101, 85, 105, 110, 116]⟩, .string s, .int .i64 (10 : Int), .int .i64 (32 : Int), .iface 157 (.int .i64 (2 : Int))] = t_strconv_toError_s10 s := by kernel_rfl

/-- The tree of 109, at some arguments. -/
def t_strconv_toError_s16 (s : ByteArray) : T :=
 T.sem Tryd.prog (Sx.cmpS (BinOp.eql) 133 (Operand.tmp 11) (Operand.tmp 13) (.iface 157 (.int .i64 (2 : Int))) (.iface 157 (.int .i64 (2 : Int)))) false [(false, [.bool])] <| fun (b1 : Bool) =>
 cond b1
  (T.call Tryd.prog 123 [.string ⟨#[80, 97, 114, 115, 101, 85, 105, 110, 116]⟩, .string s] false [(false, [.pointer 175])] <| fun (p2 : Option Addr) =>
  T.ret (.iface 159 (.pointer p2)))
  (T.sem Tryd.prog (Sx.cmpS (BinOp.eql) 133 (Operand.tmp 11) (Operand.tmp 20) (.iface 157 (.int .i64 (2 : Int))) (.iface 157 (.int .i64 (1 : Int)))) false [(false, [.bool])] <| fun (b2 : Bool) =>
  cond b2
   (T.call Tryd.prog 124 [.string ⟨#[80, 97, 114, 115, 101, 85, 105, 110, 116]⟩, .string s] false [(false, [.pointer 175])] <| fun (p3 : Option Addr) =>
   T.ret (.iface 159 (.pointer p3)))
   (T.sem Tryd.prog (Sx.cmpS (BinOp.eql) 133 (Operand.tmp 11) (Operand.tmp 27) (.iface 157 (.int .i64 (2 : Int))) (.iface 157 (.int .i64 (3 : Int)))) false [(false, [.bool])] <| fun (b3 : Bool) =>
   cond b3
    (T.call Tryd.prog 125 [.string ⟨#[80, 97, 114, 115, 101, 85, 105, 110, 116]⟩, .string s, .int .i64 (16 : Int)] false [(false, [.pointer 175])] <| fun (p4 : Option Addr) =>
    T.ret (.iface 159 (.pointer p4)))
    (T.sem Tryd.prog (Sx.cmpS (BinOp.eql) 133 (Operand.tmp 11) (Operand.tmp 35) (.iface 157 (.int .i64 (2 : Int))) (.iface 157 (.int .i64 (4 : Int)))) false [(false, [.bool])] <| fun (b4 : Bool) =>
    cond b4
     (T.call Tryd.prog 126 [.string ⟨#[80, 97, 114, 115, 101, 85, 105, 110, 116]⟩, .string s, .int .i64 (32 : Int)] false [(false, [.pointer 175])] <| fun (p5 : Option Addr) =>
     T.ret (.iface 159 (.pointer p5)))
     (T.ret (.iface 157 (.int .i64 (2 : Int)))))))
theorem t_strconv_toError_s16_eq (s : ByteArray) : xfun Tryd.prog [] Tryd.f109 [.string ⟨#[80, 97, 114, 115, 101, 85, 105, 110, 116]⟩, .string s, .int .i64 (16 : Int), .int .i64 (32 : Int), .iface 157 (.int .i64 (2 : Int))] = t_strconv_toError_s16 s := by kernel_rfl

/-- The tree of 108, at some arguments. -/
def t_internal_strconv_ParseUint_ten (s : ByteArray) : T :=
 cond ((ByteArray.toList s) == [])
  (T.ret (.tuple #[.int .u64 (0 : Int), .iface 157 (.int .i64 (2 : Int))]))
  (T.need ((0 : Int) ≤ (32 : Int)) <|
  T.sem Tryd.prog (convert 9 142 (.string s)) false [(false, [.slice 0])] <| fun (p1 : Option Addr) (l2 : Nat) (l3 : Nat) =>
  T.loop [(false, [.int .u64]), (false, [.invalid]), (false, [.bool]), (false, [.int .u64]), (false, [.int .i64])] [.int .u64 (0 : Int), .nilIface, .bool false, .int .u64 (0 : Int), .int .i64 (0 : Int)] <| fun (n4 : Int) (v5 : Value) (b6 : Bool) (n7 : Int) (n8 : Int) =>
  cond (decide (n8 < (l2 : Int)))
   (T.need (((0 : Int) ≤ n8) ∧ (n8 < (l2 : Int))) <|
   T.osome p1 <| fun (a9 : Addr) =>
   T.loads (a9.add ((Int.toNat n8) * 1)) [.int .u8] <| fun (n10 : Int) =>
   cond (n10 == (95 : Int))
    (cond (decide ((48 : Int) ≤ n10))
     (cond (decide (n10 ≤ (57 : Int)))
      (cond (decide ((IntKind.wrap .u8 (n10 - (48 : Int))) ≥ (10 : Int)))
       (T.ret (.tuple #[.int .u64 (0 : Int), .iface 157 (.int .i64 (2 : Int))]))
       (cond (decide (n7 ≥ (1844674407370955162 : Int)))
        (T.ret (.tuple #[.int .u64 (4294967295 : Int), .iface 157 (.int .i64 (1 : Int))]))
        (cond (decide ((IntKind.wrap .u64 ((IntKind.wrap .u64 (n7 * (10 : Int))) + (IntKind.wrap .u64 (IntKind.wrap .u8 (n10 - (48 : Int)))))) < (IntKind.wrap .u64 (n7 * (10 : Int)))))
         (T.ret (.tuple #[.int .u64 (4294967295 : Int), .iface 157 (.int .i64 (1 : Int))]))
         (cond (decide ((IntKind.wrap .u64 ((IntKind.wrap .u64 (n7 * (10 : Int))) + (IntKind.wrap .u64 (IntKind.wrap .u8 (n10 - (48 : Int)))))) > (4294967295 : Int)))
          (T.ret (.tuple #[.int .u64 (4294967295 : Int), .iface 157 (.int .i64 (1 : Int))]))
          (T.again 0 [.int .u64 n4, v5, .bool b6, .int .u64 (IntKind.wrap .u64 ((IntKind.wrap .u64 (n7 * (10 : Int))) + (IntKind.wrap .u64 (IntKind.wrap .u8 (n10 - (48 : Int)))))), .int .i64 (IntKind.wrap .i64 (n8 + (1 : Int)))])))))
      (T.call Tryd.prog 121 [.int .u8 n10] false [(false, [.int .u8])] <| fun (n11 : Int) =>
      cond (decide ((97 : Int) ≤ n11))
       (T.call Tryd.prog 121 [.int .u8 n10] false [(false, [.int .u8])] <| fun (n12 : Int) =>
       cond (decide (n12 ≤ (122 : Int)))
        (T.call Tryd.prog 121 [.int .u8 n10] false [(false, [.int .u8])] <| fun (n13 : Int) =>
        cond (decide ((IntKind.wrap .u8 ((IntKind.wrap .u8 (n13 - (97 : Int))) + (10 : Int))) ≥ (10 : Int)))
         (T.ret (.tuple #[.int .u64 (0 : Int), .iface 157 (.int .i64 (2 : Int))]))
         (cond (decide (n7 ≥ (1844674407370955162 : Int)))
          (T.ret (.tuple #[.int .u64 (4294967295 : Int), .iface 157 (.int .i64 (1 : Int))]))
          (cond (decide ((IntKind.wrap .u64 ((IntKind.wrap .u64 (n7 * (10 : Int))) + (IntKind.wrap .u64 (IntKind.wrap .u8 ((IntKind.wrap .u8 (n13 - (97 : Int))) + (10 : Int)))))) < (IntKind.wrap .u64 (n7 * (10 : Int)))))
           (T.ret (.tuple #[.int .u64 (4294967295 : Int), .iface 157 (.int .i64 (1 : Int))]))
           (cond (decide ((IntKind.wrap .u64 ((IntKind.wrap .u64 (n7 * (10 : Int))) + (IntKind.wrap .u64 (IntKind.wrap .u8 ((IntKind.wrap .u8 (n13 - (97 : Int))) + (10 : Int)))))) > (4294967295 : Int)))
            (T.ret (.tuple #[.int .u64 (4294967295 : Int), .iface 157 (.int .i64 (1 : Int))]))
            (T.again 0 [.int .u64 n4, v5, .bool b6, .int .u64 (IntKind.wrap .u64 ((IntKind.wrap .u64 (n7 * (10 : Int))) + (IntKind.wrap .u64 (IntKind.wrap .u8 ((IntKind.wrap .u8 (n13 - (97 : Int))) + (10 : Int)))))), .int .i64 (IntKind.wrap .i64 (n8 + (1 : Int)))])))))
        (T.ret (.tuple #[.int .u64 (0 : Int), .iface 157 (.int .i64 (2 : Int))])))
       (T.ret (.tuple #[.int .u64 (0 : Int), .iface 157 (.int .i64 (2 : Int))]))))
     (T.call Tryd.prog 121 [.int .u8 n10] false [(false, [.int .u8])] <| fun (n11 : Int) =>
     cond (decide ((97 : Int) ≤ n11))
      (T.call Tryd.prog 121 [.int .u8 n10] false [(false, [.int .u8])] <| fun (n12 : Int) =>
      cond (decide (n12 ≤ (122 : Int)))
       (T.call Tryd.prog 121 [.int .u8 n10] false [(false, [.int .u8])] <| fun (n13 : Int) =>
       cond (decide ((IntKind.wrap .u8 ((IntKind.wrap .u8 (n13 - (97 : Int))) + (10 : Int))) ≥ (10 : Int)))
        (T.ret (.tuple #[.int .u64 (0 : Int), .iface 157 (.int .i64 (2 : Int))]))
        (cond (decide (n7 ≥ (1844674407370955162 : Int)))
         (T.ret (.tuple #[.int .u64 (4294967295 : Int), .iface 157 (.int .i64 (1 : Int))]))
         (cond (decide ((IntKind.wrap .u64 ((IntKind.wrap .u64 (n7 * (10 : Int))) + (IntKind.wrap .u64 (IntKind.wrap .u8 ((IntKind.wrap .u8 (n13 - (97 : Int))) + (10 : Int)))))) < (IntKind.wrap .u64 (n7 * (10 : Int)))))
          (T.ret (.tuple #[.int .u64 (4294967295 : Int), .iface 157 (.int .i64 (1 : Int))]))
          (cond (decide ((IntKind.wrap .u64 ((IntKind.wrap .u64 (n7 * (10 : Int))) + (IntKind.wrap .u64 (IntKind.wrap .u8 ((IntKind.wrap .u8 (n13 - (97 : Int))) + (10 : Int)))))) > (4294967295 : Int)))
           (T.ret (.tuple #[.int .u64 (4294967295 : Int), .iface 157 (.int .i64 (1 : Int))]))
           (T.again 0 [.int .u64 n4, v5, .bool b6, .int .u64 (IntKind.wrap .u64 ((IntKind.wrap .u64 (n7 * (10 : Int))) + (IntKind.wrap .u64 (IntKind.wrap .u8 ((IntKind.wrap .u8 (n13 - (97 : Int))) + (10 : Int)))))), .int .i64 (IntKind.wrap .i64 (n8 + (1 : Int)))])))))
       (T.ret (.tuple #[.int .u64 (0 : Int), .iface 157 (.int .i64 (2 : Int))])))
      (T.ret (.tuple #[.int .u64 (0 : Int), .iface 157 (.int .i64 (2 : Int))]))))
    (cond (decide ((48 : Int) ≤ n10))
     (cond (decide (n10 ≤ (57 : Int)))
      (cond (decide ((IntKind.wrap .u8 (n10 - (48 : Int))) ≥ (10 : Int)))
       (T.ret (.tuple #[.int .u64 (0 : Int), .iface 157 (.int .i64 (2 : Int))]))
       (cond (decide (n7 ≥ (1844674407370955162 : Int)))
        (T.ret (.tuple #[.int .u64 (4294967295 : Int), .iface 157 (.int .i64 (1 : Int))]))
        (cond (decide ((IntKind.wrap .u64 ((IntKind.wrap .u64 (n7 * (10 : Int))) + (IntKind.wrap .u64 (IntKind.wrap .u8 (n10 - (48 : Int)))))) < (IntKind.wrap .u64 (n7 * (10 : Int)))))
         (T.ret (.tuple #[.int .u64 (4294967295 : Int), .iface 157 (.int .i64 (1 : Int))]))
         (cond (decide ((IntKind.wrap .u64 ((IntKind.wrap .u64 (n7 * (10 : Int))) + (IntKind.wrap .u64 (IntKind.wrap .u8 (n10 - (48 : Int)))))) > (4294967295 : Int)))
          (T.ret (.tuple #[.int .u64 (4294967295 : Int), .iface 157 (.int .i64 (1 : Int))]))
          (T.again 0 [.int .u64 n4, v5, .bool b6, .int .u64 (IntKind.wrap .u64 ((IntKind.wrap .u64 (n7 * (10 : Int))) + (IntKind.wrap .u64 (IntKind.wrap .u8 (n10 - (48 : Int)))))), .int .i64 (IntKind.wrap .i64 (n8 + (1 : Int)))])))))
      (T.call Tryd.prog 121 [.int .u8 n10] false [(false, [.int .u8])] <| fun (n11 : Int) =>
      cond (decide ((97 : Int) ≤ n11))
       (T.call Tryd.prog 121 [.int .u8 n10] false [(false, [.int .u8])] <| fun (n12 : Int) =>
       cond (decide (n12 ≤ (122 : Int)))
        (T.call Tryd.prog 121 [.int .u8 n10] false [(false, [.int .u8])] <| fun (n13 : Int) =>
        cond (decide ((IntKind.wrap .u8 ((IntKind.wrap .u8 (n13 - (97 : Int))) + (10 : Int))) ≥ (10 : Int)))
         (T.ret (.tuple #[.int .u64 (0 : Int), .iface 157 (.int .i64 (2 : Int))]))
         (cond (decide (n7 ≥ (1844674407370955162 : Int)))
          (T.ret (.tuple #[.int .u64 (4294967295 : Int), .iface 157 (.int .i64 (1 : Int))]))
          (cond (decide ((IntKind.wrap .u64 ((IntKind.wrap .u64 (n7 * (10 : Int))) + (IntKind.wrap .u64 (IntKind.wrap .u8 ((IntKind.wrap .u8 (n13 - (97 : Int))) + (10 : Int)))))) < (IntKind.wrap .u64 (n7 * (10 : Int)))))
           (T.ret (.tuple #[.int .u64 (4294967295 : Int), .iface 157 (.int .i64 (1 : Int))]))
           (cond (decide ((IntKind.wrap .u64 ((IntKind.wrap .u64 (n7 * (10 : Int))) + (IntKind.wrap .u64 (IntKind.wrap .u8 ((IntKind.wrap .u8 (n13 - (97 : Int))) + (10 : Int)))))) > (4294967295 : Int)))
            (T.ret (.tuple #[.int .u64 (4294967295 : Int), .iface 157 (.int .i64 (1 : Int))]))
            (T.again 0 [.int .u64 n4, v5, .bool b6, .int .u64 (IntKind.wrap .u64 ((IntKind.wrap .u64 (n7 * (10 : Int))) + (IntKind.wrap .u64 (IntKind.wrap .u8 ((IntKind.wrap .u8 (n13 - (97 : Int))) + (10 : Int)))))), .int .i64 (IntKind.wrap .i64 (n8 + (1 : Int)))])))))
        (T.ret (.tuple #[.int .u64 (0 : Int), .iface 157 (.int .i64 (2 : Int))])))
       (T.ret (.tuple #[.int .u64 (0 : Int), .iface 157 (.int .i64 (2 : Int))]))))
     (T.call Tryd.prog 121 [.int .u8 n10] false [(false, [.int .u8])] <| fun (n11 : Int) =>
     cond (decide ((97 : Int) ≤ n11))
      (T.call Tryd.prog 121 [.int .u8 n10] false [(false, [.int .u8])] <| fun (n12 : Int) =>
      cond (decide (n12 ≤ (122 : Int)))
       (T.call Tryd.prog 121 [.int .u8 n10] false [(false, [.int .u8])] <| fun (n13 : Int) =>
       cond (decide ((IntKind.wrap .u8 ((IntKind.wrap .u8 (n13 - (97 : Int))) + (10 : Int))) ≥ (10 : Int)))
        (T.ret (.tuple #[.int .u64 (0 : Int), .iface 157 (.int .i64 (2 : Int))]))
        (cond (decide (n7 ≥ (1844674407370955162 : Int)))
         (T.ret (.tuple #[.int .u64 (4294967295 : Int), .iface 157 (.int .i64 (1 : Int))]))
         (cond (decide ((IntKind.wrap .u64 ((IntKind.wrap .u64 (n7 * (10 : Int))) + (IntKind.wrap .u64 (IntKind.wrap .u8 ((IntKind.wrap .u8 (n13 - (97 : Int))) + (10 : Int)))))) < (IntKind.wrap .u64 (n7 * (10 : Int)))))
          (T.ret (.tuple #[.int .u64 (4294967295 : Int), .iface 157 (.int .i64 (1 : Int))]))
          (cond (decide ((IntKind.wrap .u64 ((IntKind.wrap .u64 (n7 * (10 : Int))) + (IntKind.wrap .u64 (IntKind.wrap .u8 ((IntKind.wrap .u8 (n13 - (97 : Int))) + (10 : Int)))))) > (4294967295 : Int)))
           (T.ret (.tuple #[.int .u64 (4294967295 : Int), .iface 157 (.int .i64 (1 : Int))]))
           (T.again 0 [.int .u64 n4, v5, .bool b6, .int .u64 (IntKind.wrap .u64 ((IntKind.wrap .u64 (n7 * (10 : Int))) + (IntKind.wrap .u64 (IntKind.wrap .u8 ((IntKind.wrap .u8 (n13 - (97 : Int))) + (10 : Int)))))), .int .i64 (IntKind.wrap .i64 (n8 + (1 : Int)))])))))
       (T.ret (.tuple #[.int .u64 (0 : Int), .iface 157 (.int .i64 (2 : Int))])))
      (T.ret (.tuple #[.int .u64 (0 : Int), .iface 157 (.int .i64 (2 : Int))])))))
   (cond b6
    (T.call Tryd.prog 122 [.string s] false [(false, [.bool])] <| fun (b9 : Bool) =>
    cond (!b9)
     (T.ret (.tuple #[.int .u64 (0 : Int), .iface 157 (.int .i64 (2 : Int))]))
     (T.ret (.tuple #[.int .u64 n7, .nilIface])))
    (T.ret (.tuple #[.int .u64 n7, .nilIface]))))
theorem t_internal_strconv_ParseUint_ten_eq (s : ByteArray) : xfun Tryd.prog [] Tryd.f108 [.string s, .int .i64 (10 : Int), .int .i64 (32 : Int)] = t_internal_strconv_ParseUint_ten s := by kernel_rfl

/-- The tree of 108, at some arguments. -/
def t_internal_strconv_ParseUint_hex (s : ByteArray) : T :=
 cond ((ByteArray.toList s) == [])
  (T.ret (.tuple #[.int .u64 (0 : Int), .iface 157 (.int .i64 (2 : Int))]))
  (T.need ((0 : Int) ≤ (32 : Int)) <|
  T.sem Tryd.prog (convert 9 142 (.string s)) false [(false, [.slice 0])] <| fun (p1 : Option Addr) (l2 : Nat) (l3 : Nat) =>
  T.loop [(false, [.int .u64]), (false, [.invalid]), (false, [.bool]), (false, [.int .u64]), (false, [.int .i64])] [.int .u64 (0 : Int), .nilIface, .bool false, .int .u64 (0 : Int), .int .i64 (0 : Int)] <| fun (n4 : Int) (v5 : Value) (b6 : Bool) (n7 : Int) (n8 : Int) =>
  cond (decide (n8 < (l2 : Int)))
   (T.need (((0 : Int) ≤ n8) ∧ (n8 < (l2 : Int))) <|
   T.osome p1 <| fun (a9 : Addr) =>
   T.loads (a9.add ((Int.toNat n8) * 1)) [.int .u8] <| fun (n10 : Int) =>
   cond (n10 == (95 : Int))
    (cond (decide ((48 : Int) ≤ n10))
     (cond (decide (n10 ≤ (57 : Int)))
      (cond (decide ((IntKind.wrap .u8 (n10 - (48 : Int))) ≥ (16 : Int)))
       (T.ret (.tuple #[.int .u64 (0 : Int), .iface 157 (.int .i64 (2 : Int))]))
       (cond (decide (n7 ≥ (1152921504606846976 : Int)))
        (T.ret (.tuple #[.int .u64 (4294967295 : Int), .iface 157 (.int .i64 (1 : Int))]))
        (cond (decide ((IntKind.wrap .u64 ((IntKind.wrap .u64 (n7 * (16 : Int))) + (IntKind.wrap .u64 (IntKind.wrap .u8 (n10 - (48 : Int)))))) < (IntKind.wrap .u64 (n7 * (16 : Int)))))
         (T.ret (.tuple #[.int .u64 (4294967295 : Int), .iface 157 (.int .i64 (1 : Int))]))
         (cond (decide ((IntKind.wrap .u64 ((IntKind.wrap .u64 (n7 * (16 : Int))) + (IntKind.wrap .u64 (IntKind.wrap .u8 (n10 - (48 : Int)))))) > (4294967295 : Int)))
          (T.ret (.tuple #[.int .u64 (4294967295 : Int), .iface 157 (.int .i64 (1 : Int))]))
          (T.again 0 [.int .u64 n4, v5, .bool b6, .int .u64 (IntKind.wrap .u64 ((IntKind.wrap .u64 (n7 * (16 : Int))) + (IntKind.wrap .u64 (IntKind.wrap .u8 (n10 - (48 : Int)))))), .int .i64 (IntKind.wrap .i64 (n8 + (1 : Int)))])))))
      (T.call Tryd.prog 121 [.int .u8 n10] false [(false, [.int .u8])] <| fun (n11 : Int) =>
      cond (decide ((97 : Int) ≤ n11))
       (T.call Tryd.prog 121 [.int .u8 n10] false [(false, [.int .u8])] <| fun (n12 : Int) =>
       cond (decide (n12 ≤ (122 : Int)))
        (T.call Tryd.prog 121 [.int .u8 n10] false [(false, [.int .u8])] <| fun (n13 : Int) =>
        cond (decide ((IntKind.wrap .u8 ((IntKind.wrap .u8 (n13 - (97 : Int))) + (10 : Int))) ≥ (16 : Int)))
         (T.ret (.tuple #[.int .u64 (0 : Int), .iface 157 (.int .i64 (2 : Int))]))
         (cond (decide (n7 ≥ (1152921504606846976 : Int)))
          (T.ret (.tuple #[.int .u64 (4294967295 : Int), .iface 157 (.int .i64 (1 : Int))]))
          (cond (decide ((IntKind.wrap .u64 ((IntKind.wrap .u64 (n7 * (16 : Int))) + (IntKind.wrap .u64 (IntKind.wrap .u8 ((IntKind.wrap .u8 (n13 - (97 : Int))) + (10 : Int)))))) < (IntKind.wrap .u64 (n7 * (16 : Int)))))
           (T.ret (.tuple #[.int .u64 (4294967295 : Int), .iface 157 (.int .i64 (1 : Int))]))
           (cond (decide ((IntKind.wrap .u64 ((IntKind.wrap .u64 (n7 * (16 : Int))) + (IntKind.wrap .u64 (IntKind.wrap .u8 ((IntKind.wrap .u8 (n13 - (97 : Int))) + (10 : Int)))))) > (4294967295 : Int)))
            (T.ret (.tuple #[.int .u64 (4294967295 : Int), .iface 157 (.int .i64 (1 : Int))]))
            (T.again 0 [.int .u64 n4, v5, .bool b6, .int .u64 (IntKind.wrap .u64 ((IntKind.wrap .u64 (n7 * (16 : Int))) + (IntKind.wrap .u64 (IntKind.wrap .u8 ((IntKind.wrap .u8 (n13 - (97 : Int))) + (10 : Int)))))), .int .i64 (IntKind.wrap .i64 (n8 + (1 : Int)))])))))
        (T.ret (.tuple #[.int .u64 (0 : Int), .iface 157 (.int .i64 (2 : Int))])))
       (T.ret (.tuple #[.int .u64 (0 : Int), .iface 157 (.int .i64 (2 : Int))]))))
     (T.call Tryd.prog 121 [.int .u8 n10] false [(false, [.int .u8])] <| fun (n11 : Int) =>
     cond (decide ((97 : Int) ≤ n11))
      (T.call Tryd.prog 121 [.int .u8 n10] false [(false, [.int .u8])] <| fun (n12 : Int) =>
      cond (decide (n12 ≤ (122 : Int)))
       (T.call Tryd.prog 121 [.int .u8 n10] false [(false, [.int .u8])] <| fun (n13 : Int) =>
       cond (decide ((IntKind.wrap .u8 ((IntKind.wrap .u8 (n13 - (97 : Int))) + (10 : Int))) ≥ (16 : Int)))
        (T.ret (.tuple #[.int .u64 (0 : Int), .iface 157 (.int .i64 (2 : Int))]))
        (cond (decide (n7 ≥ (1152921504606846976 : Int)))
         (T.ret (.tuple #[.int .u64 (4294967295 : Int), .iface 157 (.int .i64 (1 : Int))]))
         (cond (decide ((IntKind.wrap .u64 ((IntKind.wrap .u64 (n7 * (16 : Int))) + (IntKind.wrap .u64 (IntKind.wrap .u8 ((IntKind.wrap .u8 (n13 - (97 : Int))) + (10 : Int)))))) < (IntKind.wrap .u64 (n7 * (16 : Int)))))
          (T.ret (.tuple #[.int .u64 (4294967295 : Int), .iface 157 (.int .i64 (1 : Int))]))
          (cond (decide ((IntKind.wrap .u64 ((IntKind.wrap .u64 (n7 * (16 : Int))) + (IntKind.wrap .u64 (IntKind.wrap .u8 ((IntKind.wrap .u8 (n13 - (97 : Int))) + (10 : Int)))))) > (4294967295 : Int)))
           (T.ret (.tuple #[.int .u64 (4294967295 : Int), .iface 157 (.int .i64 (1 : Int))]))
           (T.again 0 [.int .u64 n4, v5, .bool b6, .int .u64 (IntKind.wrap .u64 ((IntKind.wrap .u64 (n7 * (16 : Int))) + (IntKind.wrap .u64 (IntKind.wrap .u8 ((IntKind.wrap .u8 (n13 - (97 : Int))) + (10 : Int)))))), .int .i64 (IntKind.wrap .i64 (n8 + (1 : Int)))])))))
       (T.ret (.tuple #[.int .u64 (0 : Int), .iface 157 (.int .i64 (2 : Int))])))
      (T.ret (.tuple #[.int .u64 (0 : Int), .iface 157 (.int .i64 (2 : Int))]))))
    (cond (decide ((48 : Int) ≤ n10))
     (cond (decide (n10 ≤ (57 : Int)))
      (cond (decide ((IntKind.wrap .u8 (n10 - (48 : Int))) ≥ (16 : Int)))
       (T.ret (.tuple #[.int .u64 (0 : Int), .iface 157 (.int .i64 (2 : Int))]))
       (cond (decide (n7 ≥ (1152921504606846976 : Int)))
        (T.ret (.tuple #[.int .u64 (4294967295 : Int), .iface 157 (.int .i64 (1 : Int))]))
        (cond (decide ((IntKind.wrap .u64 ((IntKind.wrap .u64 (n7 * (16 : Int))) + (IntKind.wrap .u64 (IntKind.wrap .u8 (n10 - (48 : Int)))))) < (IntKind.wrap .u64 (n7 * (16 : Int)))))
         (T.ret (.tuple #[.int .u64 (4294967295 : Int), .iface 157 (.int .i64 (1 : Int))]))
         (cond (decide ((IntKind.wrap .u64 ((IntKind.wrap .u64 (n7 * (16 : Int))) + (IntKind.wrap .u64 (IntKind.wrap .u8 (n10 - (48 : Int)))))) > (4294967295 : Int)))
          (T.ret (.tuple #[.int .u64 (4294967295 : Int), .iface 157 (.int .i64 (1 : Int))]))
          (T.again 0 [.int .u64 n4, v5, .bool b6, .int .u64 (IntKind.wrap .u64 ((IntKind.wrap .u64 (n7 * (16 : Int))) + (IntKind.wrap .u64 (IntKind.wrap .u8 (n10 - (48 : Int)))))), .int .i64 (IntKind.wrap .i64 (n8 + (1 : Int)))])))))
      (T.call Tryd.prog 121 [.int .u8 n10] false [(false, [.int .u8])] <| fun (n11 : Int) =>
      cond (decide ((97 : Int) ≤ n11))
       (T.call Tryd.prog 121 [.int .u8 n10] false [(false, [.int .u8])] <| fun (n12 : Int) =>
       cond (decide (n12 ≤ (122 : Int)))
        (T.call Tryd.prog 121 [.int .u8 n10] false [(false, [.int .u8])] <| fun (n13 : Int) =>
        cond (decide ((IntKind.wrap .u8 ((IntKind.wrap .u8 (n13 - (97 : Int))) + (10 : Int))) ≥ (16 : Int)))
         (T.ret (.tuple #[.int .u64 (0 : Int), .iface 157 (.int .i64 (2 : Int))]))
         (cond (decide (n7 ≥ (1152921504606846976 : Int)))
          (T.ret (.tuple #[.int .u64 (4294967295 : Int), .iface 157 (.int .i64 (1 : Int))]))
          (cond (decide ((IntKind.wrap .u64 ((IntKind.wrap .u64 (n7 * (16 : Int))) + (IntKind.wrap .u64 (IntKind.wrap .u8 ((IntKind.wrap .u8 (n13 - (97 : Int))) + (10 : Int)))))) < (IntKind.wrap .u64 (n7 * (16 : Int)))))
           (T.ret (.tuple #[.int .u64 (4294967295 : Int), .iface 157 (.int .i64 (1 : Int))]))
           (cond (decide ((IntKind.wrap .u64 ((IntKind.wrap .u64 (n7 * (16 : Int))) + (IntKind.wrap .u64 (IntKind.wrap .u8 ((IntKind.wrap .u8 (n13 - (97 : Int))) + (10 : Int)))))) > (4294967295 : Int)))
            (T.ret (.tuple #[.int .u64 (4294967295 : Int), .iface 157 (.int .i64 (1 : Int))]))
            (T.again 0 [.int .u64 n4, v5, .bool b6, .int .u64 (IntKind.wrap .u64 ((IntKind.wrap .u64 (n7 * (16 : Int))) + (IntKind.wrap .u64 (IntKind.wrap .u8 ((IntKind.wrap .u8 (n13 - (97 : Int))) + (10 : Int)))))), .int .i64 (IntKind.wrap .i64 (n8 + (1 : Int)))])))))
        (T.ret (.tuple #[.int .u64 (0 : Int), .iface 157 (.int .i64 (2 : Int))])))
       (T.ret (.tuple #[.int .u64 (0 : Int), .iface 157 (.int .i64 (2 : Int))]))))
     (T.call Tryd.prog 121 [.int .u8 n10] false [(false, [.int .u8])] <| fun (n11 : Int) =>
     cond (decide ((97 : Int) ≤ n11))
      (T.call Tryd.prog 121 [.int .u8 n10] false [(false, [.int .u8])] <| fun (n12 : Int) =>
      cond (decide (n12 ≤ (122 : Int)))
       (T.call Tryd.prog 121 [.int .u8 n10] false [(false, [.int .u8])] <| fun (n13 : Int) =>
       cond (decide ((IntKind.wrap .u8 ((IntKind.wrap .u8 (n13 - (97 : Int))) + (10 : Int))) ≥ (16 : Int)))
        (T.ret (.tuple #[.int .u64 (0 : Int), .iface 157 (.int .i64 (2 : Int))]))
        (cond (decide (n7 ≥ (1152921504606846976 : Int)))
         (T.ret (.tuple #[.int .u64 (4294967295 : Int), .iface 157 (.int .i64 (1 : Int))]))
         (cond (decide ((IntKind.wrap .u64 ((IntKind.wrap .u64 (n7 * (16 : Int))) + (IntKind.wrap .u64 (IntKind.wrap .u8 ((IntKind.wrap .u8 (n13 - (97 : Int))) + (10 : Int)))))) < (IntKind.wrap .u64 (n7 * (16 : Int)))))
          (T.ret (.tuple #[.int .u64 (4294967295 : Int), .iface 157 (.int .i64 (1 : Int))]))
          (cond (decide ((IntKind.wrap .u64 ((IntKind.wrap .u64 (n7 * (16 : Int))) + (IntKind.wrap .u64 (IntKind.wrap .u8 ((IntKind.wrap .u8 (n13 - (97 : Int))) + (10 : Int)))))) > (4294967295 : Int)))
           (T.ret (.tuple #[.int .u64 (4294967295 : Int), .iface 157 (.int .i64 (1 : Int))]))
           (T.again 0 [.int .u64 n4, v5, .bool b6, .int .u64 (IntKind.wrap .u64 ((IntKind.wrap .u64 (n7 * (16 : Int))) + (IntKind.wrap .u64 (IntKind.wrap .u8 ((IntKind.wrap .u8 (n13 - (97 : Int))) + (10 : Int)))))), .int .i64 (IntKind.wrap .i64 (n8 + (1 : Int)))])))))
       (T.ret (.tuple #[.int .u64 (0 : Int), .iface 157 (.int .i64 (2 : Int))])))
      (T.ret (.tuple #[.int .u64 (0 : Int), .iface 157 (.int .i64 (2 : Int))])))))
   (cond b6
    (T.call Tryd.prog 122 [.string s] false [(false, [.bool])] <| fun (b9 : Bool) =>
    cond (!b9)
     (T.ret (.tuple #[.int .u64 (0 : Int), .iface 157 (.int .i64 (2 : Int))]))
     (T.ret (.tuple #[.int .u64 n7, .nilIface])))
    (T.ret (.tuple #[.int .u64 n7, .nilIface]))))
theorem t_internal_strconv_ParseUint_hex_eq (s : ByteArray) : xfun Tryd.prog [] Tryd.f108 [.string s, .int .i64 (16 : Int), .int .i64 (32 : Int)] = t_internal_strconv_ParseUint_hex s := by kernel_rfl

/-- The tree of 93, at some arguments. -/
def t_strconv_ParseUint_ten (s : ByteArray) : T :=
 T.call Tryd.prog 108 [.string s, .int .i64 (10 : Int), .int .i64 (32 : Int)] true [(false, [.int .u64]), (false, [.interface #[("Error", 147)]])] <| fun (n1 : Int) (v2 : Value) =>
 T.sem Tryd.prog (Sx.cmpS (BinOp.neq) 133 (Operand.tmp 17) (Operand.const Value.nilIface) v2 .nilIface) false [(false, [.bool])] <| fun (b3 : Bool) =>
 cond b3
  (T.call Tryd.prog 109 [.string ⟨#[80, 97, 114, 115, 101, 85, 105, 110, 116]⟩, .string s, .int .i64 (10 : Int), .int .i64 (32 : Int), v2] false [(false, [.interface #[("Error", 147)]])] <| fun (v4 : Value) =>
  T.ret (.tuple #[.int .u64 n1, v4]))
  (T.ret (.tuple #[.int .u64 n1, .nilIface]))
theorem t_strconv_ParseUint_ten_eq (s : ByteArray) : xfun Tryd.prog [] Tryd.f93 [.string s, .int .i64 (10 : Int), .int .i64 (32 : Int)] = t_strconv_ParseUint_ten s := by kernel_rfl

/-- The tree of 93, at some arguments. -/
def t_strconv_ParseUint_hex (s : ByteArray) : T :=
 T.call Tryd.prog 108 [.string s, .int .i64 (16 : Int), .int .i64 (32 : Int)] true [(false, [.int .u64]), (false, [.interface #[("Error", 147)]])] <| fun (n1 : Int) (v2 : Value) =>
 T.sem Tryd.prog (Sx.cmpS (BinOp.neq) 133 (Operand.tmp 17) (Operand.const Value.nilIface) v2 .nilIface) false [(false, [.bool])] <| fun (b3 : Bool) =>
 cond b3
  (T.call Tryd.prog 109 [.string ⟨#[80, 97, 114, 115, 101, 85, 105, 110, 116]⟩, .string s, .int .i64 (16 : Int), .int .i64 (32 : Int), v2] false [(false, [.interface #[("Error", 147)]])] <| fun (v4 : Value) =>
  T.ret (.tuple #[.int .u64 n1, v4]))
  (T.ret (.tuple #[.int .u64 n1, .nilIface]))
theorem t_strconv_ParseUint_hex_eq (s : ByteArray) : xfun Tryd.prog [] Tryd.f93 [.string s, .int .i64 (16 : Int), .int .i64 (32 : Int)] = t_strconv_ParseUint_hex s := by kernel_rfl

end Go.Sx
