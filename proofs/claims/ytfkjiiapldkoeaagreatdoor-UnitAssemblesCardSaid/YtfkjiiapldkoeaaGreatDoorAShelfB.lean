/- The library's contracts on strings.Join, on decimal numerals and on strings.Cut, laid at this program's numbers. No condition beyond those in each statement. -/
import Derived.Shelf.Strings.OnBuilder
import Derived.Shelf.Strconv.Itoa1
import Derived.Shelf.LaysM
import Derived.Shelf.Strconv.Itoa2
import Derived.Shelf.Strings.Cut
import Derived.Test.YtfkjiiapldkoeaaGreatDoorProg
set_option linter.all false
set_option maxRecDepth 100000
set_option maxHeartbeats 4000000
namespace Go.Proofs
open Go.Shelf
open Go.Lib in
open Go.RowKit Go.Sort Go.Lib in
def Tryz.Bv:Go.Shelf.Ren:=⟨fun | 145=>63 | 220=>94 | 219=>122 | 217=>145 | 225=>146 | 224=>147 | 267=>148 | 266=>174 | 314=>175 | n=>n,fun | 9=>9 | 4=>4 | 59=>126 | 3=>3 | 5=>5 | 46=>111 | 146=>283 | 51=>92 | n=>n,fun | 1=>2 | n=>n⟩
def Tryz.KE:Go.Proofs.Lays.n145 Tryz.prog Tryz.Bv:={
 mixed:=by kernel_rfl
 f145:=Tryz.func63.trans (congrArg some (by kernel_rfl))
 f217:=Tryz.func145.trans (congrArg some (by kernel_rfl))
 f219:=Tryz.func122.trans (congrArg some (by kernel_rfl))
 f220:=Tryz.func94.trans (congrArg some (by kernel_rfl))
 f224:=Tryz.func147.trans (congrArg some (by kernel_rfl))
 f225:=Tryz.func146.trans (congrArg some (by kernel_rfl))
 f266:=Tryz.func174.trans (congrArg some (by kernel_rfl))
 f267:=Tryz.func148.trans (congrArg some (by kernel_rfl))
 f314:=Tryz.func175.trans (congrArg some (by kernel_rfl))
 t3:=Tryz.underlying3
 a3:=Tryz.isAgg3
 z3:=Tryz.sizeOf3
 v3:=Tryz.zeroValue3
 t4:=Tryz.underlying4
 a4:=Tryz.isAgg4
 z4:=Tryz.sizeOf4
 v4:=Tryz.zeroValue4
 t5:=Tryz.underlying5
 a5:=Tryz.isAgg5
 z5:=Tryz.sizeOf5
 v5:=Tryz.zeroValue5
 t9:=Tryz.underlying9
 a9:=Tryz.isAgg9
 z9:=Tryz.sizeOf9
 v9:=Tryz.zeroValue9
 t46:=Tryz.underlying111
 a46:=Tryz.isAgg111
 z46:=Tryz.sizeOf111
 v46:=Tryz.zeroValue111
 t51:=Tryz.underlying92
 a51:=Tryz.isAgg92
 z51:=Tryz.sizeOf92
 v51:=Tryz.zeroValue92
 t59:=Tryz.underlying126
 a59:=Tryz.isAgg126
 z59:=Tryz.sizeOf126
 v59:=Tryz.zeroValue126
 t146:=Tryz.underlying283
 a146:=Tryz.isAgg283
 z146:=Tryz.sizeOf283
 v146:=Tryz.zeroValue283
 g1:=by kernel_rfl }
open Go.RowKit Go.Lib in
def Tryz.strings_Cut (s sep:ByteArray) (m:Int) (w:World) (hs:s.size<4294967281) (hm:w.cell? ⟨2,0,none⟩=some (.int .i64 m)) :
  Calls Tryz.prog 63 #[.string s,.string sep] w fun e w'=>e=.returned (.tuple #[.string ⟨(Lib.cut s.data.toList sep.data.toList).1.toArray⟩,.string ⟨(Lib.cut s.data.toList sep.data.toList).2.1.toArray⟩,.bool (Lib.cut s.data.toList sep.data.toList).2.2])/\∃ n,w'=w.drewN n:=Any.strings_Cut Tryz.KE s sep m w hs hm
end Go.Proofs
