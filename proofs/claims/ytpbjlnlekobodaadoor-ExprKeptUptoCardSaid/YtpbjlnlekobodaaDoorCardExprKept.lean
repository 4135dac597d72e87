/- The tied card. No condition. -/
import Derived.Test.YtpbjlnlekobodaaDoorRowExprKept
import Derived.ChangeMaps5
import Derived.Test.YtpbjlnlekobodaaDoorTie
import Derived.Test.YtpbjlnlekobodaaDoorCards
import Derived.SevenTiedAt
set_option linter.unusedVariables false
set_option linter.unusedSimpArgs false
set_option maxRecDepth 100000
namespace Go.Proofs.YtpbjlnlekobodaaDoor
open Go Go.Sx
theorem exprKept_main : Tryd.prog.mainIs = some (true, ("c70ca99f8a67370a6cc45372cbabf61b26a9287dfac3afb3f213db2e47886043" : String).toList) := by kernel_rfl
theorem exprKept_looks : true = Tryd.prog.looks [] := by kernel_rfl
theorem exprKept_goes : false = Rows.exprKeptUptoRow.goesBy Tryd.prog := by kernel_rfl
theorem exprKept_named : Tryd.prog.funcNamed "spandrel/spandrellaw4.ExprKept" = some 16 := by kernel_rfl
theorem exprKept_card : Rows.ExprKeptUptoCardSaid :=
  Claim7.holds_tied_plain_at .later [] [.data, .data, .data] true (true, "c70ca99f8a67370a6cc45372cbabf61b26a9287dfac3afb3f213db2e47886043") true
    exprKept_holds (fun _ h => by cases h) (by kernel_rfl) (fun _ h => by cases h) exprKeptUpto_row_tie rfl ⟨rfl, rfl⟩ exprKept_main rfl
    (fun f fn hf hfn => by
      obtain rfl : f = 16 := Option.some.inj (exprKept_named.symm.trans hf) |>.symm
      obtain rfl : fn = Tryd.f16 := (Option.some.inj (Tryd.func16.symm.trans hfn)).symm
      exact ⟨exprKept_looks, fun j t ht => by
        rw [show Tryd.f16.params = #[69, 69, 9] by kernel_rfl] at ht
        have hm : t ∈ ([69, 69, 9] : List TypeId) := by simpa using Array.mem_of_getElem? ht
        have hall : (([69, 69, 9] : List TypeId).all fun u => !Tryd.prog.wantsStandIn u) = true := by kernel_rfl
        exact (show Tryd.prog.wantsStandIn t = false by simpa using List.all_eq_true.1 hall t hm)⟩)
    exprKept_goes
end Go.Proofs.YtpbjlnlekobodaaDoor
