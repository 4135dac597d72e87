/- The library's contracts on strings.Join, on decimal numerals and on strings.Cut, laid at this program's numbers. No condition beyond those in each statement. -/
import Derived.Shelf.Strings.OnBuilder
import Derived.Shelf.Strconv.Itoa1
import Derived.Shelf.LaysM
import Derived.Shelf.Strconv.Itoa2
import Derived.Shelf.Strings.Cut
import Derived.Test.YtmdncdaladplkaaGreatDoorProg
set_option linter.all false
set_option maxRecDepth 100000
set_option maxHeartbeats 4000000
namespace Go.Proofs
open Go.Shelf
def Tryz.Gy:Go.Shelf.Ren:=⟨λ| 283=>118 | n=>n,λ| 3=>3 | 9=>9 | 4=>4 | n=>n,λ| n=>n⟩
def Tryz.U8:Go.Proofs.Lays.n283 Tryz.prog Tryz.Gy:={
 mixed:=by kernel_rfl
 f283:=Tryz.func118.trans (congrArg some (by kernel_rfl))
 t3:=Tryz.underlying3
 a3:=Tryz.isAgg3
 z3:=Tryz.sizeOf3
 v3:=Tryz.zeroValue3
 t4:=Tryz.underlying4
 a4:=Tryz.isAgg4
 z4:=Tryz.sizeOf4
 v4:=Tryz.zeroValue4
 t9:=Tryz.underlying9
 a9:=Tryz.isAgg9
 z9:=Tryz.sizeOf9
 v9:=Tryz.zeroValue9 }
open Go.Lib in
def Tryz.internal_strconv_small (i:Nat) (h:i<100) (w:World) :
  Calls Tryz.prog 118 #[.int .i64 i] w λe w'=>e=.returned (.string ⟨(Lib.decDigits i).toArray⟩)/\w'=w:=Any.internal_strconv_small Tryz.U8 i h w
def Tryz.Fk:Go.Shelf.Ren:=⟨λ| 284=>119 | 129=>144 | 317=>143 | 318=>145 | n=>n,λ| 53=>175 | 3=>3 | 212=>258 | 0=>0 | 4=>4 | 46=>99 | 5=>5 | 9=>9 | n=>n,λ| 17=>1 | n=>n⟩
def Tryz.Qv:Go.Proofs.LaysM.n284 Tryz.prog Tryz.Fk:={
 mixed:=by kernel_rfl
 f129:=Tryz.func144.trans (congrArg some (by kernel_rfl))
 f284:=Tryz.func119.trans (congrArg some (by kernel_rfl))
 f317:=Tryz.func143.trans (congrArg some (by kernel_rfl))
 f318:=Tryz.func145.trans (congrArg some (by kernel_rfl))
 t0:=Tryz.underlying0
 a0:=Tryz.isAgg0
 z0:=Tryz.sizeOf0
 v0:=Tryz.zeroValue0
 t3:=Tryz.underlying3
 a3:=Tryz.isAgg3
 z3:=Tryz.sizeOf3
 v3:=Tryz.zeroValue3
 t4:=Tryz.underlying4
 a4:=Tryz.isAgg4
 z4:=Tryz.sizeOf4
 v4:=Tryz.zeroValue4
 t5:=Tryz.underlying5
 a5:=Tryz.isAgg5
 z5:=Tryz.sizeOf5
 v5:=Tryz.zeroValue5
 t9:=Tryz.underlying9
 a9:=Tryz.isAgg9
 z9:=Tryz.sizeOf9
 v9:=Tryz.zeroValue9
 t46:=Tryz.underlying99
 a46:=Tryz.isAgg99
 z46:=Tryz.sizeOf99
 v46:=Tryz.zeroValue99
 t53:=Tryz.underlying175
 a53:=Tryz.isAgg175
 z53:=Tryz.sizeOf175
 v53:=Tryz.zeroValue175
 t212:=Tryz.underlying258
 a212:=Tryz.isAgg258
 z212:=Tryz.sizeOf258
 v212:=Tryz.zeroValue258
 g17:=by kernel_rfl
 i0:=by kernel_rfl
 i3:=by kernel_rfl
 i4:=by kernel_rfl
 i5:=by kernel_rfl
 i9:=by kernel_rfl
 i46:=by kernel_rfl
 i53:=by kernel_rfl
 i212:=by kernel_rfl
 m17:=by kernel_rfl }
def Tryz.Ie:Go.Shelf.Ren:=⟨λ| 285=>120 | n=>n,λ| 37=>204 | 53=>175 | 3=>3 | 4=>4 | 51=>51 | 9=>9 | 5=>5 | 0=>0 | n=>n,λ| n=>n⟩
def Tryz.Vi:Go.Proofs.Lays.n285 Tryz.prog Tryz.Ie:={
 mixed:=by kernel_rfl
 f285:=Tryz.func120.trans (congrArg some (by kernel_rfl))
 t0:=Tryz.underlying0
 a0:=Tryz.isAgg0
 z0:=Tryz.sizeOf0
 v0:=Tryz.zeroValue0
 t3:=Tryz.underlying3
 a3:=Tryz.isAgg3
 z3:=Tryz.sizeOf3
 v3:=Tryz.zeroValue3
 t4:=Tryz.underlying4
 a4:=Tryz.isAgg4
 z4:=Tryz.sizeOf4
 v4:=Tryz.zeroValue4
 t5:=Tryz.underlying5
 a5:=Tryz.isAgg5
 z5:=Tryz.sizeOf5
 v5:=Tryz.zeroValue5
 t9:=Tryz.underlying9
 a9:=Tryz.isAgg9
 z9:=Tryz.sizeOf9
 v9:=Tryz.zeroValue9
 t37:=Tryz.underlying204
 a37:=Tryz.isAgg204
 z37:=Tryz.sizeOf204
 v37:=Tryz.zeroValue204
 t51:=Tryz.underlying51
 a51:=Tryz.isAgg51
 z51:=Tryz.sizeOf51
 v51:=Tryz.zeroValue51
 t53:=Tryz.underlying175
 a53:=Tryz.isAgg175
 z53:=Tryz.sizeOf175
 v53:=Tryz.zeroValue175 }
open Go.RowKit Go.Sort Go.Lib in
def Tryz.internal_strconv_formatBase10 (cj off cap:Nat) (u:Nat) (d:Array UInt8) (w:World) (hH:Holds (λ(b:UInt8)=>Value.int .u8 (b.toNat:Int)) w cj off d) (hu:u<10^d.size) (hu64:u<18446744073709551616) (hsz:d.size<4611686018427387904) :
  Calls Tryz.prog 120 #[.slice (some ⟨cj,off,none⟩) d.size cap,.int .u64 u] w λe w' =>
   e=.returned (.tuple #[])/\∃ (n v':Nat) (dk:Array UInt8),w'=(putRow (λ(b:UInt8)=>Value.int .u8 (b.toNat:Int)) w cj off dk).drewN n/\FmtInv d.size u 0 v' dk:=Any.internal_strconv_formatBase10 Tryz.Vi cj off cap u d w hH hu hu64 hsz
end Go.Proofs
