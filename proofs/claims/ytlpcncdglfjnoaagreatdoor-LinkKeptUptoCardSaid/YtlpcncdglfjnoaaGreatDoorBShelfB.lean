/- The library's contracts on strings.Join, on decimal numerals and on strings.Cut, laid at this program's numbers. No condition beyond those in each statement. -/
import Derived.Shelf.Strings.OnBuilder
import Derived.Shelf.Strconv.Itoa1
import Derived.Shelf.LaysM
import Derived.Shelf.Strconv.Itoa2
import Derived.Shelf.Strings.Cut
import Derived.Test.YtlpcncdglfjnoaaGreatDoorProg
set_option linter.all false
set_option maxRecDepth 100000
set_option maxHeartbeats 4000000
namespace Go.Proofs
open Go.Shelf
open Go.Lib in
def Tryz.Eu:Go.Shelf.Ren:=⟨fun | 284=>131 | 129=>146 | 317=>145 | 318=>147 | n=>n,fun | 53=>207 | 3=>3 | 212=>228 | 0=>0 | 4=>4 | 46=>215 | 5=>5 | 9=>9 | n=>n,fun | 17=>1 | n=>n⟩
def Tryz.Oz:Go.Proofs.LaysM.n284 Tryz.prog Tryz.Eu:={
 mixed:=by kernel_rfl
 f129:=Tryz.func146.trans (congrArg some (by kernel_rfl))
 f284:=Tryz.func131.trans (congrArg some (by kernel_rfl))
 f317:=Tryz.func145.trans (congrArg some (by kernel_rfl))
 f318:=Tryz.func147.trans (congrArg some (by kernel_rfl))
 t0:=Tryz.underlying0
 a0:=Tryz.isAgg0
 z0:=Tryz.sizeOf0
 v0:=Tryz.zeroValue0
 t3:=Tryz.underlying3
 a3:=Tryz.isAgg3
 z3:=Tryz.sizeOf3
 v3:=Tryz.zeroValue3
 t4:=Tryz.underlying4
 a4:=Tryz.isAgg4
 z4:=Tryz.sizeOf4
 v4:=Tryz.zeroValue4
 t5:=Tryz.underlying5
 a5:=Tryz.isAgg5
 z5:=Tryz.sizeOf5
 v5:=Tryz.zeroValue5
 t9:=Tryz.underlying9
 a9:=Tryz.isAgg9
 z9:=Tryz.sizeOf9
 v9:=Tryz.zeroValue9
 t46:=Tryz.underlying215
 a46:=Tryz.isAgg215
 z46:=Tryz.sizeOf215
 v46:=Tryz.zeroValue215
 t53:=Tryz.underlying207
 a53:=Tryz.isAgg207
 z53:=Tryz.sizeOf207
 v53:=Tryz.zeroValue207
 t212:=Tryz.underlying228
 a212:=Tryz.isAgg228
 z212:=Tryz.sizeOf228
 v212:=Tryz.zeroValue228
 g17:=by kernel_rfl
 i0:=by kernel_rfl
 i3:=by kernel_rfl
 i4:=by kernel_rfl
 i5:=by kernel_rfl
 i9:=by kernel_rfl
 i46:=by kernel_rfl
 i53:=by kernel_rfl
 i212:=by kernel_rfl
 m17:=by kernel_rfl }
end Go.Proofs
