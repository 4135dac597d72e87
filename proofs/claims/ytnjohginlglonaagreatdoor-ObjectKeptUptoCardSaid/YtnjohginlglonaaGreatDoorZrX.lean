/- Trees of functions, each checked by the kernel against the code. No condition. -/
import Derived.Test.YtnjohginlglonaaGreatDoorSxF
import Derived.Test.YtnjohginlglonaaGreatDoorProg
import Derived.KernelRfl
set_option linter.unusedVariables false
set_option linter.unusedSimpArgs false
set_option linter.deprecated false
set_option maxRecDepth 100000
namespace Go.Sx
open Go.Proofs
/-- The tree of 94. -/
def t_spandrelref5_registers (n0 : Int) (n1_0 : Int) (n2_0 : Int) (n3_0 : Int) (n4_0 : Int) : T :=
 T.new [.int .i64 n0, .int .i64 n1_0, .int .i64 n2_0, .int .i32 n3_0, .int .i64 n4_0] 100 <| fun (a1 : Addr) =>
 T.loads a1 [.int .i64] <| fun (n2 : Int) =>
 T.call Tryz.prog 93 [.int .i64 n2] false [(false, [.int .i64])] <| fun (n3 : Int) =>
 T.join [(false, [.int .i64]), (false, [.int .i64])]
  (cond (n3 == (2 : Int))
   (cond (n3 == (2 : Int))
    (T.again 0 [.int .i64 (8 : Int), .int .i64 (0 : Int)])
    (cond (n3 == (3 : Int))
     (T.again 0 [.int .i64 (4 : Int), .int .i64 (0 : Int)])
     (cond (n3 == (4 : Int))
      (T.again 0 [.int .i64 (8 : Int), .int .i64 (8 : Int)])
      (cond (n3 == (5 : Int))
       (T.again 0 [.int .i64 (4 : Int), .int .i64 (4 : Int)])
       (cond (n3 == (6 : Int))
        (T.again 0 [.int .i64 (8 : Int), .int .i64 (4 : Int)])
        (cond (n3 == (7 : Int))
         (T.again 0 [.int .i64 (4 : Int), .int .i64 (8 : Int)])
         (T.again 0 [.int .i64 (0 : Int), .int .i64 (0 : Int)])))))))
   (cond (n3 == (8 : Int))
    (cond (n3 == (8 : Int))
     (T.again 0 [.int .i64 (8 : Int), .int .i64 (0 : Int)])
     (cond (n3 == (3 : Int))
      (T.again 0 [.int .i64 (4 : Int), .int .i64 (0 : Int)])
      (cond (n3 == (4 : Int))
       (T.again 0 [.int .i64 (8 : Int), .int .i64 (8 : Int)])
       (cond (n3 == (5 : Int))
        (T.again 0 [.int .i64 (4 : Int), .int .i64 (4 : Int)])
        (cond (n3 == (6 : Int))
         (T.again 0 [.int .i64 (8 : Int), .int .i64 (4 : Int)])
         (cond (n3 == (7 : Int))
          (T.again 0 [.int .i64 (4 : Int), .int .i64 (8 : Int)])
          (T.again 0 [.int .i64 (0 : Int), .int .i64 (0 : Int)])))))))
    (cond (n3 == (10 : Int))
     (cond (n3 == (10 : Int))
      (T.again 0 [.int .i64 (8 : Int), .int .i64 (0 : Int)])
      (cond (n3 == (3 : Int))
       (T.again 0 [.int .i64 (4 : Int), .int .i64 (0 : Int)])
       (cond (n3 == (4 : Int))
        (T.again 0 [.int .i64 (8 : Int), .int .i64 (8 : Int)])
        (cond (n3 == (5 : Int))
         (T.again 0 [.int .i64 (4 : Int), .int .i64 (4 : Int)])
         (cond (n3 == (6 : Int))
          (T.again 0 [.int .i64 (8 : Int), .int .i64 (4 : Int)])
          (cond (n3 == (7 : Int))
           (T.again 0 [.int .i64 (4 : Int), .int .i64 (8 : Int)])
           (T.again 0 [.int .i64 (0 : Int), .int .i64 (0 : Int)])))))))
     (cond (n3 == (11 : Int))
      (cond (n3 == (11 : Int))
       (T.again 0 [.int .i64 (8 : Int), .int .i64 (0 : Int)])
       (cond (n3 == (3 : Int))
        (T.again 0 [.int .i64 (4 : Int), .int .i64 (0 : Int)])
        (cond (n3 == (4 : Int))
         (T.again 0 [.int .i64 (8 : Int), .int .i64 (8 : Int)])
         (cond (n3 == (5 : Int))
          (T.again 0 [.int .i64 (4 : Int), .int .i64 (4 : Int)])
          (cond (n3 == (6 : Int))
           (T.again 0 [.int .i64 (8 : Int), .int .i64 (4 : Int)])
           (cond (n3 == (7 : Int))
            (T.again 0 [.int .i64 (4 : Int), .int .i64 (8 : Int)])
            (T.again 0 [.int .i64 (0 : Int), .int .i64 (0 : Int)])))))))
      (cond (n3 == (13 : Int))
       (T.again 0 [.int .i64 (8 : Int), .int .i64 (0 : Int)])
       (cond (n3 == (3 : Int))
        (T.again 0 [.int .i64 (4 : Int), .int .i64 (0 : Int)])
        (cond (n3 == (4 : Int))
         (T.again 0 [.int .i64 (8 : Int), .int .i64 (8 : Int)])
         (cond (n3 == (5 : Int))
          (T.again 0 [.int .i64 (4 : Int), .int .i64 (4 : Int)])
          (cond (n3 == (6 : Int))
           (T.again 0 [.int .i64 (8 : Int), .int .i64 (4 : Int)])
           (cond (n3 == (7 : Int))
            (T.again 0 [.int .i64 (4 : Int), .int .i64 (8 : Int)])
            (T.again 0 [.int .i64 (0 : Int), .int .i64 (0 : Int)]))))))))))) <| fun (n4 : Int) (n5 : Int) =>
 T.loads (a1.add 1) [.int .i64] <| fun (n6 : Int) =>
 cond (decide (n6 < (0 : Int)))
  (T.ret (.bool false))
  (T.loads (a1.add 2) [.int .i64] <| fun (n7 : Int) =>
  cond (decide (n7 < (0 : Int)))
   (T.ret (.bool false))
   (T.loads (a1.add 1) [.int .i64] <| fun (n8 : Int) =>
   cond (decide (n8 ≥ n4))
    (cond (decide (n4 > (0 : Int)))
     (T.ret (.bool false))
     (T.loads (a1.add 1) [.int .i64] <| fun (n9 : Int) =>
     cond (n9 != (0 : Int))
      (T.ret (.bool false))
      (T.loads (a1.add 2) [.int .i64] <| fun (n10 : Int) =>
      cond (decide (n10 ≥ n5))
       (cond (decide (n5 > (0 : Int)))
        (T.ret (.bool false))
        (T.loads (a1.add 2) [.int .i64] <| fun (n11 : Int) =>
        cond (n11 != (0 : Int))
         (T.ret (.bool false))
         (cond (n3 != (7 : Int))
          (T.ret (.bool true))
          (T.loads (a1.add 3) [.int .i32] <| fun (n12 : Int) =>
          cond (decide (n12 ≥ (0 : Int)))
           (T.loads (a1.add 3) [.int .i32] <| fun (n13 : Int) =>
           T.ret (.bool (decide (n13 ≤ (7 : Int)))))
           (T.ret (.bool false))))))
       (cond (n3 != (7 : Int))
        (T.ret (.bool true))
        (T.loads (a1.add 3) [.int .i32] <| fun (n11 : Int) =>
        cond (decide (n11 ≥ (0 : Int)))
         (T.loads (a1.add 3) [.int .i32] <| fun (n12 : Int) =>
         T.ret (.bool (decide (n12 ≤ (7 : Int)))))
         (T.ret (.bool false)))))))
    (T.loads (a1.add 2) [.int .i64] <| fun (n9 : Int) =>
    cond (decide (n9 ≥ n5))
     (cond (decide (n5 > (0 : Int)))
      (T.ret (.bool false))
      (T.loads (a1.add 2) [.int .i64] <| fun (n10 : Int) =>
      cond (n10 != (0 : Int))
       (T.ret (.bool false))
       (cond (n3 != (7 : Int))
        (T.ret (.bool true))
        (T.loads (a1.add 3) [.int .i32] <| fun (n11 : Int) =>
        cond (decide (n11 ≥ (0 : Int)))
         (T.loads (a1.add 3) [.int .i32] <| fun (n12 : Int) =>
         T.ret (.bool (decide (n12 ≤ (7 : Int)))))
         (T.ret (.bool false))))))
     (cond (n3 != (7 : Int))
      (T.ret (.bool true))
      (T.loads (a1.add 3) [.int .i32] <| fun (n10 : Int) =>
      cond (decide (n10 ≥ (0 : Int)))
       (T.loads (a1.add 3) [.int .i32] <| fun (n11 : Int) =>
       T.ret (.bool (decide (n11 ≤ (7 : Int)))))
       (T.ret (.bool false)))))))
theorem t_spandrelref5_registers_eq (n0 : Int) (n1_0 : Int) (n2_0 : Int) (n3_0 : Int) (n4_0 : Int) : xfun Tryz.prog [1025] Tryz.f94 [.agg #[.int .i64 n0, .int .i64 n1_0, .int .i64 n2_0, .int .i32 n3_0, .int .i64 n4_0]] = t_spandrelref5_registers n0 n1_0 n2_0 n3_0 n4_0 := by kernel_rfl

end Go.Sx
