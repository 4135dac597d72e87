/- The library's contracts on strings.Join, on decimal numerals and on strings.Cut, laid at this program's numbers. No condition beyond those in each statement. -/
import Derived.Test.YtmdncdaladplkaaGreatDoorDShelfB
set_option linter.all false
set_option maxRecDepth 100000
set_option maxHeartbeats 4000000
namespace Go.Proofs
open Go.Shelf
open Go.RowKit
def Tryz.zH:Go.Shelf.Ren:=⟨λ| 156=>69 | 165=>93 | 166=>94 | 169=>95 | 240=>122 | 241=>123 | 276=>148 | 277=>149 | n=>n,λ| 31=>68 | 9=>9 | 3=>3 | 4=>4 | 0=>0 | 20=>20 | 72=>206 | 76=>210 | 70=>203 | 37=>204 | 75=>209 | 127=>239 | 164=>260 | 5=>5 | 80=>212 | n=>n,λ| n=>n⟩
def Tryz.Mc:Go.Proofs.Lays.n156 Tryz.prog Tryz.zH:={
 mixed:=by kernel_rfl
 f156:=Tryz.func69.trans (congrArg some (by kernel_rfl))
 f165:=Tryz.func93.trans (congrArg some (by kernel_rfl))
 f166:=Tryz.func94.trans (congrArg some (by kernel_rfl))
 f169:=Tryz.func95.trans (congrArg some (by kernel_rfl))
 f240:=Tryz.func122.trans (congrArg some (by kernel_rfl))
 f241:=Tryz.func123.trans (congrArg some (by kernel_rfl))
 f276:=Tryz.func148.trans (congrArg some (by kernel_rfl))
 f277:=Tryz.func149.trans (congrArg some (by kernel_rfl))
 t0:=Tryz.underlying0
 a0:=Tryz.isAgg0
 z0:=Tryz.sizeOf0
 v0:=Tryz.zeroValue0
 t3:=Tryz.underlying3
 a3:=Tryz.isAgg3
 z3:=Tryz.sizeOf3
 v3:=Tryz.zeroValue3
 t4:=Tryz.underlying4
 a4:=Tryz.isAgg4
 z4:=Tryz.sizeOf4
 v4:=Tryz.zeroValue4
 t9:=Tryz.underlying9
 a9:=Tryz.isAgg9
 z9:=Tryz.sizeOf9
 v9:=Tryz.zeroValue9
 t20:=Tryz.underlying20
 a20:=Tryz.isAgg20
 z20:=Tryz.sizeOf20
 v20:=Tryz.zeroValue20
 t31:=Tryz.underlying68
 a31:=Tryz.isAgg68
 z31:=Tryz.sizeOf68
 v31:=Tryz.zeroValue68
 t37:=Tryz.underlying204
 a37:=Tryz.isAgg204
 z37:=Tryz.sizeOf204
 v37:=Tryz.zeroValue204
 t70:=Tryz.underlying203
 a70:=Tryz.isAgg203
 z70:=Tryz.sizeOf203
 v70:=Tryz.zeroValue203
 t72:=Tryz.underlying206
 a72:=Tryz.isAgg206
 z72:=Tryz.sizeOf206
 v72:=Tryz.zeroValue206
 t75:=Tryz.underlying209
 a75:=Tryz.isAgg209
 z75:=Tryz.sizeOf209
 v75:=Tryz.zeroValue209
 t76:=Tryz.underlying210
 a76:=Tryz.isAgg210
 z76:=Tryz.sizeOf210
 v76:=Tryz.zeroValue210
 t127:=Tryz.underlying239
 a127:=Tryz.isAgg239
 z127:=Tryz.sizeOf239
 v127:=Tryz.zeroValue239
 t164:=Tryz.underlying260
 a164:=Tryz.isAgg260
 z164:=Tryz.sizeOf260
 v164:=Tryz.zeroValue260 }
def Tryz.ow:Builder.Extra Tryz.prog Tryz.zH:={
 sizeBuilder:=by kernel_rfl
 liesBuilder:=by kernel_rfl
 t5:=Tryz.underlying5
 a5:=Tryz.isAgg5
 z5:=Tryz.sizeOf5
 v5:=Tryz.zeroValue5
 infoByte:=by kernel_rfl
 cellsByte:=by kernel_rfl
 sizeByte:=by kernel_rfl
 neB5:=by decide }
def Tryz.strings_Join_none (a:Option Addr) (c:Nat) (b:ByteArray) (w:World) :
  Calls Tryz.prog 69 #[.slice a 0 c,.string b] w λe w'=>e=.returned (.string ⟨#[]⟩)/\w'=w:=Any.strings_Join_none Tryz.Mc Tryz.ow a c b w
def Tryz.strings_Join (g o c:Nat) (xs:List ByteArray) (a:ByteArray) (w:World) (b:∀ (j:Nat) x,xs[j]?=some x->w.cell? ⟨g,o+j,none⟩=some (.string x)) (h:g<w.heap.size) (i:xs.length<=140737488355328) (d:xs.length<=c) (f:(Lib.join (xs.map (·.data.toList)) a.data.toList).length<=140737488355328) :
  Calls Tryz.prog 69 #[.slice (some ⟨g,o,none⟩) xs.length c,.string a] w λe w'=>e=.returned (.string ⟨(Lib.join (xs.map (·.data.toList)) a.data.toList).toArray⟩)/\Below w.heap.size w w':=Any.strings_Join Tryz.Mc Tryz.ow g o c xs a w b h i d f
end Go.Proofs
