/- Part of the proof. No condition. -/
import Derived.Shelf.SlIter.Nil
import Derived.Shelf.SortM.Plain
import Derived.Shelf.SortM.SortNone
import Derived.Ground.GgzProg
import Derived.Ground.SlgmProg
import Derived.Test.YtfkjiiapldkoeaaGreatDoorProg
set_option linter.all false
set_option maxRecDepth 100000
set_option maxHeartbeats 4000000
namespace Go.Proofs
open Go.RowKit Go.Maps Go.Sort Go.Shelf
def Tryz.vY:Go.Shelf.Ren:=⟨fun | 7=>193 | 10=>202 | n=>n,fun | 23=>286 | 26=>9 | 3=>92 | 28=>79 | 0=>0 | 27=>78 | 33=>39 | 4=>4 | n=>n,fun | n=>n⟩
def Tryz.Ex:Go.Proofs.SlLaysZ.n7 Tryz.prog Tryz.vY:={
 mixed:=by kernel_rfl
 f7:=⟨Tryz.f193.name,by decide,Tryz.func193.trans (congrArg some (by kernel_rfl))⟩
 f10:=⟨Tryz.f202.name,by decide,Tryz.func202.trans (congrArg some (by kernel_rfl))⟩
 t0:=Tryz.underlying0
 a0:=Tryz.isAgg0
 z0:=Tryz.sizeOf0
 v0:=Tryz.zeroValue0
 t4:=Tryz.underlying4
 a4:=Tryz.isAgg4
 z4:=Tryz.sizeOf4
 v4:=Tryz.zeroValue4
 t23:=Tryz.underlying286
 a23:=Tryz.isAgg286
 z23:=Tryz.sizeOf286
 v23:=Tryz.zeroValue286
 t26:=Tryz.underlying9
 a26:=Tryz.isAgg9
 z26:=Tryz.sizeOf9
 v26:=Tryz.zeroValue9
 t27:=Tryz.underlying78
 a27:=Tryz.isAgg78
 z27:=Tryz.sizeOf78
 v27:=Tryz.zeroValue78
 t28:=Tryz.underlying79
 a28:=Tryz.isAgg79
 z28:=Tryz.sizeOf79
 v28:=Tryz.zeroValue79
 t33:=Tryz.underlying39
 a33:=Tryz.isAgg39
 z33:=Tryz.sizeOf39
 v33:=Tryz.zeroValue39 }
def Tryz.rS:Go.Shelf.Ren:=⟨fun | 6=>34 | 8=>67 | 9=>43 | 11=>101 | 13=>77 | 12=>76 | 23=>114 | 24=>115 | 14=>105 | 15=>106 | 16=>107 | 17=>108 | 18=>109 | 19=>110 | 20=>111 | 21=>112 | 22=>113 | 25=>137 | 26=>138 | 27=>139 | 28=>140 | 29=>141 | 30=>142 | 31=>171 | n=>n,fun | 26=>9 | 28=>79 | 24=>25 | 0=>0 | 3=>3 | 37=>111 | 48=>92 | 50=>209 | 4=>4 | 40=>202 | 39=>201 | 45=>182 | 5=>5 | 9=>9 | 51=>243 | 55=>247 | 57=>280 | 58=>269 | 33=>39 | n=>n,fun | n=>n⟩
def Tryz.zO:Go.Proofs.SlLaysZ.n6 Tryz.prog Tryz.rS:={
 mixed:=by kernel_rfl
 f6:=⟨Tryz.f34.name,by decide,Tryz.func34.trans (congrArg some (by kernel_rfl))⟩
 f8:=⟨Tryz.f67.name,by decide,Tryz.func67.trans (congrArg some (by kernel_rfl))⟩
 f11:=⟨Tryz.f101.name,by decide,Tryz.func101.trans (congrArg some (by kernel_rfl))⟩
 t0:=Tryz.underlying0
 a0:=Tryz.isAgg0
 z0:=Tryz.sizeOf0
 v0:=Tryz.zeroValue0
 t24:=Tryz.underlying25
 a24:=Tryz.isAgg25
 z24:=Tryz.sizeOf25
 v24:=Tryz.zeroValue25
 t26:=Tryz.underlying9
 a26:=Tryz.isAgg9
 z26:=Tryz.sizeOf9
 v26:=Tryz.zeroValue9
 t28:=Tryz.underlying79
 a28:=Tryz.isAgg79
 z28:=Tryz.sizeOf79
 v28:=Tryz.zeroValue79
 i26:=by kernel_rfl }
def Tryz.B9:Go.Shelf.Ren:=⟨fun | 6=>43 | 8=>77 | 9=>76 | 19=>114 | 20=>115 | 21=>105 | 22=>106 | 23=>107 | 24=>108 | 25=>109 | 26=>110 | 27=>111 | 28=>112 | 29=>113 | 36=>137 | 31=>138 | 32=>139 | 37=>140 | 38=>141 | 39=>142 | 41=>171 | n=>n,fun | 27=>25 | 29=>9 | 3=>3 | 32=>111 | 26=>25 | 0=>0 | 44=>92 | 46=>209 | 4=>4 | 36=>202 | 35=>201 | 41=>182 | 5=>5 | 9=>9 | 53=>243 | 57=>247 | 63=>280 | 64=>269 | n=>n,fun | n=>n⟩
def Tryz.Es:Go.Proofs.SlLaysM.n6 Tryz.prog Tryz.B9:={
 mixed:=by kernel_rfl
 f6:=⟨Tryz.f43.name,by decide,Tryz.func43.trans (congrArg some (by kernel_rfl))⟩
 f8:=Tryz.func77.trans (congrArg some (by kernel_rfl))
 f9:=⟨Tryz.f76.name,by decide,Tryz.func76.trans (congrArg some (by kernel_rfl))⟩
 f19:=Tryz.func114.trans (congrArg some (by kernel_rfl))
 f20:=Tryz.func115.trans (congrArg some (by kernel_rfl))
 f21:=⟨Tryz.f105.name,by decide,Tryz.func105.trans (congrArg some (by kernel_rfl))⟩
 f22:=⟨Tryz.f106.name,by decide,Tryz.func106.trans (congrArg some (by kernel_rfl))⟩
 f23:=⟨Tryz.f107.name,by decide,Tryz.func107.trans (congrArg some (by kernel_rfl))⟩
 f24:=⟨Tryz.f108.name,by decide,Tryz.func108.trans (congrArg some (by kernel_rfl))⟩
 f25:=⟨Tryz.f109.name,by decide,Tryz.func109.trans (congrArg some (by kernel_rfl))⟩
 f26:=⟨Tryz.f110.name,by decide,Tryz.func110.trans (congrArg some (by kernel_rfl))⟩
 f27:=⟨Tryz.f111.name,by decide,Tryz.func111.trans (congrArg some (by kernel_rfl))⟩
 f28:=⟨Tryz.f112.name,by decide,Tryz.func112.trans (congrArg some (by kernel_rfl))⟩
 f29:=⟨Tryz.f113.name,by decide,Tryz.func113.trans (congrArg some (by kernel_rfl))⟩
 f31:=Tryz.func138.trans (congrArg some (by kernel_rfl))
 f32:=Tryz.func139.trans (congrArg some (by kernel_rfl))
 f36:=⟨Tryz.f137.name,by decide,Tryz.func137.trans (congrArg some (by kernel_rfl))⟩
 f37:=⟨Tryz.f140.name,by decide,Tryz.func140.trans (congrArg some (by kernel_rfl))⟩
 f38:=⟨Tryz.f141.name,by decide,Tryz.func141.trans (congrArg some (by kernel_rfl))⟩
 f39:=⟨Tryz.f142.name,by decide,Tryz.func142.trans (congrArg some (by kernel_rfl))⟩
 f41:=⟨Tryz.f171.name,by decide,Tryz.func171.trans (congrArg some (by kernel_rfl))⟩
 t0:=Tryz.underlying0
 a0:=Tryz.isAgg0
 z0:=Tryz.sizeOf0
 v0:=Tryz.zeroValue0
 t3:=Tryz.underlying3
 a3:=Tryz.isAgg3
 z3:=Tryz.sizeOf3
 v3:=Tryz.zeroValue3
 t4:=Tryz.underlying4
 a4:=Tryz.isAgg4
 z4:=Tryz.sizeOf4
 v4:=Tryz.zeroValue4
 t5:=Tryz.underlying5
 a5:=Tryz.isAgg5
 z5:=Tryz.sizeOf5
 v5:=Tryz.zeroValue5
 t9:=Tryz.underlying9
 a9:=Tryz.isAgg9
 z9:=Tryz.sizeOf9
 v9:=Tryz.zeroValue9
 t26:=Tryz.underlying25
 a26:=Tryz.isAgg25
 z26:=Tryz.sizeOf25
 v26:=Tryz.zeroValue25
 t27:=Tryz.underlying25
 a27:=Tryz.isAgg25
 z27:=Tryz.sizeOf25
 v27:=Tryz.zeroValue25
 t29:=Tryz.underlying9
 a29:=Tryz.isAgg9
 z29:=Tryz.sizeOf9
 v29:=Tryz.zeroValue9
 t32:=Tryz.underlying111
 a32:=Tryz.isAgg111
 z32:=Tryz.sizeOf111
 v32:=Tryz.zeroValue111
 t35:=Tryz.underlying201
 a35:=Tryz.isAgg201
 z35:=Tryz.sizeOf201
 v35:=Tryz.zeroValue201
 t36:=Tryz.underlying202
 a36:=Tryz.isAgg202
 z36:=Tryz.sizeOf202
 v36:=Tryz.zeroValue202
 t41:=Tryz.underlying182
 a41:=Tryz.isAgg182
 z41:=Tryz.sizeOf182
 v41:=Tryz.zeroValue182
 t44:=Tryz.underlying92
 a44:=Tryz.isAgg92
 z44:=Tryz.sizeOf92
 v44:=Tryz.zeroValue92
 t46:=Tryz.underlying209
 a46:=Tryz.isAgg209
 z46:=Tryz.sizeOf209
 v46:=Tryz.zeroValue209
 t53:=Tryz.underlying243
 a53:=Tryz.isAgg243
 z53:=Tryz.sizeOf243
 v53:=Tryz.zeroValue243
 t57:=Tryz.underlying247
 a57:=Tryz.isAgg247
 z57:=Tryz.sizeOf247
 v57:=Tryz.zeroValue247
 t63:=Tryz.underlying280
 a63:=Tryz.isAgg280
 z63:=Tryz.sizeOf280
 v63:=Tryz.zeroValue280
 t64:=Tryz.underlying269
 a64:=Tryz.isAgg269
 z64:=Tryz.sizeOf269
 v64:=Tryz.zeroValue269 }
def Tryz.Cf (m : Nat) : AnyZ.SortsIn Tryz.prog Tryz.rS Fence.wide m :=
  ⟨fun bH off cap ss W hH hblk hsz => callsIn_wide.2 (AnyM.slices_Sort_string Tryz.Es bH off cap ss W hH hblk hsz),
   fun p cap W => callsIn_wide.2 (AnyM.slices_Sort_string_none Tryz.Es p cap W)⟩
def Tryz.y5 (mb:Option Nat) (W:World):CallsIn Fence.wide 5 Tryz.prog 193 #[.map mb] W fun e w'=>e=.returned (.func (.func 202) #[] #[.pointer (some ⟨W.heap.size,0,none⟩)])/\w'=W.alloc (.cells #[.map mb] 286) :=
 AnyZ.keys_in Tryz.Ex Fence.wide 5 trivial rfl mb W
def Tryz.kO {H:Type} (b nn:Nat) (D0:DataW H) (R:Value->Option (DataW H × List MemPlace)) (w:World) (hown:w.ownsMap Tryz.prog 9 R b nn D0) (hmax:Maps.size D0<=maxLen) (hbytes:Maps.size D0*16<=140737488355328) :
  CallsIn Fence.wide 5 Tryz.prog 34 #[.func (.func 202) #[] #[.pointer (some ⟨w.heap.size,0,none⟩)]] (w.alloc (.cells #[.map (some b)] 286)) fun e w'=>∃ (v:Value) (ss:List (List UInt8)),e=.returned v/\ss.Perm (strKeys D0) /\
   w'.ownsRow (w.alloc (.cells #[.map (some b)] 286)).heap.size 9 1 v ss.length ((ss.mergeSort (fun x y=>decide (x<=y))).map encStr)/\(v=.slice none 0 0↔ss=[])/\Below (w.alloc (.cells #[.map (some b)] 286)).heap.size (w.alloc (.cells #[.map (some b)] 286)) w':=by
 have hbl:=hown.lt;have hseq:SeqGives Fence.wide 2 Tryz.prog 202 #[.pointer (some ⟨w.heap.size,0,none⟩)] encStr (fun ss=>ss.Perm (strKeys D0)) (Maps.size D0) (w.alloc (.cells #[.map (some b)] 286)) :=
  AnyZ.keys_gives (ρ:=Tryz.vY) { Tryz.Ex with } Fence.wide _ trivial rfl (by omega) w.heap.size b nn D0 _ (by simp) (by simp) (by
   obtain ⟨es,clock,hb,Ft,hs,hD⟩:=hown;exact ⟨es,clock,(Below.heap_alloc _ _ b hbl).trans hb,Ft,hs,hD⟩)
 exact AnyZ.sorted_in Tryz.zO Fence.wide 5 trivial trivial trivial trivial rfl (by omega) (Tryz.Cf _) (enters_of Tryz.func43 (by kernel_rfl) rfl) 202 #[.pointer (some ⟨w.heap.size,0,none⟩)] trivial (enters_of Tryz.func202 (by kernel_rfl) rfl) _ _ hmax hbytes _ hseq
end Go.Proofs
