/- The library's contract on strconv.Itoa, laid at this program's numbers. Asked: the table of powers of ten, as it is laid. -/
import Derived.Shelf.LaysM
import Derived.Shelf.Strconv.Itoa3
import Derived.Test.YtfkjiiapldkoeaaGreatDoorProg
set_option linter.all false
set_option maxRecDepth 100000
set_option maxHeartbeats 4000000
namespace Go.Proofs
open Go.Shelf
def Tryz.Be:Go.Shelf.Ren:=⟨fun | 171=>71 | 243=>104 | 246=>136 | 283=>167 | 284=>168 | 285=>169 | 286=>170 | 129=>115 | 317=>183 | 318=>184 | 319=>185 | 320=>186 | 337=>198 | 338=>199 | n=>n,fun | 3=>3 | 9=>9 | 2=>2 | 4=>4 | 171=>276 | 0=>0 | 53=>209 | 37=>42 | 5=>5 | 173=>278 | 212=>295 | 51=>92 | 20=>20 | 213=>296 | 46=>111 | 232=>309 | 233=>310 | n=>n,fun | 17=>3 | 18=>6 | 19=>7 | n=>n⟩
def Tryz.GM:Go.Proofs.LaysM.n171 Tryz.prog Tryz.Be:={
 mixed:=by kernel_rfl
 f129:=Tryz.func115.trans (congrArg some (by kernel_rfl))
 f171:=Tryz.func71.trans (congrArg some (by kernel_rfl))
 f243:=Tryz.func104.trans (congrArg some (by kernel_rfl))
 f246:=Tryz.func136.trans (congrArg some (by kernel_rfl))
 f283:=Tryz.func167.trans (congrArg some (by kernel_rfl))
 f284:=Tryz.func168.trans (congrArg some (by kernel_rfl))
 f285:=Tryz.func169.trans (congrArg some (by kernel_rfl))
 f286:=Tryz.func170.trans (congrArg some (by kernel_rfl))
 f317:=Tryz.func183.trans (congrArg some (by kernel_rfl))
 f318:=Tryz.func184.trans (congrArg some (by kernel_rfl))
 f319:=Tryz.func185.trans (congrArg some (by kernel_rfl))
 f320:=Tryz.func186.trans (congrArg some (by kernel_rfl))
 f337:=Tryz.func198.trans (congrArg some (by kernel_rfl))
 f338:=Tryz.func199.trans (congrArg some (by kernel_rfl))
 t0:=Tryz.underlying0
 a0:=Tryz.isAgg0
 z0:=Tryz.sizeOf0
 v0:=Tryz.zeroValue0
 t2:=Tryz.underlying2
 a2:=Tryz.isAgg2
 z2:=Tryz.sizeOf2
 v2:=Tryz.zeroValue2
 t3:=Tryz.underlying3
 a3:=Tryz.isAgg3
 z3:=Tryz.sizeOf3
 v3:=Tryz.zeroValue3
 t4:=Tryz.underlying4
 a4:=Tryz.isAgg4
 z4:=Tryz.sizeOf4
 v4:=Tryz.zeroValue4
 t5:=Tryz.underlying5
 a5:=Tryz.isAgg5
 z5:=Tryz.sizeOf5
 v5:=Tryz.zeroValue5
 t9:=Tryz.underlying9
 a9:=Tryz.isAgg9
 z9:=Tryz.sizeOf9
 v9:=Tryz.zeroValue9
 t20:=Tryz.underlying20
 a20:=Tryz.isAgg20
 z20:=Tryz.sizeOf20
 v20:=Tryz.zeroValue20
 t37:=Tryz.underlying42
 a37:=Tryz.isAgg42
 z37:=Tryz.sizeOf42
 v37:=Tryz.zeroValue42
 t46:=Tryz.underlying111
 a46:=Tryz.isAgg111
 z46:=Tryz.sizeOf111
 v46:=Tryz.zeroValue111
 t51:=Tryz.underlying92
 a51:=Tryz.isAgg92
 z51:=Tryz.sizeOf92
 v51:=Tryz.zeroValue92
 t53:=Tryz.underlying209
 a53:=Tryz.isAgg209
 z53:=Tryz.sizeOf209
 v53:=Tryz.zeroValue209
 t171:=Tryz.underlying276
 a171:=Tryz.isAgg276
 z171:=Tryz.sizeOf276
 v171:=Tryz.zeroValue276
 t173:=Tryz.underlying278
 a173:=Tryz.isAgg278
 z173:=Tryz.sizeOf278
 v173:=Tryz.zeroValue278
 t212:=Tryz.underlying295
 a212:=Tryz.isAgg295
 z212:=Tryz.sizeOf295
 v212:=Tryz.zeroValue295
 t213:=Tryz.underlying296
 a213:=Tryz.isAgg296
 z213:=Tryz.sizeOf296
 t232:=Tryz.underlying309
 a232:=Tryz.isAgg309
 z232:=Tryz.sizeOf309
 v232:=Tryz.zeroValue309
 t233:=Tryz.underlying310
 a233:=Tryz.isAgg310
 z233:=Tryz.sizeOf310
 v233:=Tryz.zeroValue310
 g17:=by kernel_rfl
 g18:=by kernel_rfl
 g19:=by kernel_rfl
 i0:=by kernel_rfl
 i2:=by kernel_rfl
 i3:=by kernel_rfl
 i4:=by kernel_rfl
 i5:=by kernel_rfl
 i9:=by kernel_rfl
 i20:=by kernel_rfl
 i37:=by kernel_rfl
 i46:=by kernel_rfl
 i51:=by kernel_rfl
 i53:=by kernel_rfl
 i171:=by kernel_rfl
 i173:=by kernel_rfl
 i212:=by kernel_rfl
 i232:=by kernel_rfl
 i233:=by kernel_rfl
 m17:=by kernel_rfl
 m18:=by kernel_rfl
 m19:=by kernel_rfl }
open Go.RowKit Go.Sort Go.Lib in
def Tryz.strconv_Itoa (n : Int) (h0 : -9223372036854775808 <= n) (h1 : n <= 9223372036854775807) (w : World) (htab : Lib.TabIs Tryz.prog w "internal/strconv.uint64pow10" .u64 Lib.pow10Tab) :
  Calls Tryz.prog 71 #[.int .i64 n] w fun e w'=>e=.returned (.string ⟨(Lib.itoa n).toArray⟩)/\∃ k os,w'=grow (w.drewN k) os:=Any.strconv_Itoa Tryz.GM n h0 h1 w htab
end Go.Proofs
