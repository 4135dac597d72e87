/- Part of the proof. No condition. -/
import Derived.Shelf.SlIter.Nil
import Derived.Shelf.SortM.Plain
import Derived.Shelf.SortM.SortNone
import Derived.Ground.GgzProg
import Derived.Ground.SlgmProg
import Derived.Test.YtlpcncdglfjnoaaGreatDoorProg
set_option linter.all false
set_option maxRecDepth 100000
set_option maxHeartbeats 4000000
namespace Go.Proofs
open Go.RowKit Go.Maps Go.Sort Go.Shelf
def Tryz.qx:Go.Shelf.Ren:=⟨fun | 7=>109 | 10=>124 | n=>n,fun | 23=>170 | 26=>9 | 3=>58 | 28=>173 | 0=>0 | 27=>172 | 33=>86 | 4=>4 | n=>n,fun | n=>n⟩
def Tryz.B3:Go.Proofs.SlLaysZ.n7 Tryz.prog Tryz.qx:={
 mixed:=by kernel_rfl
 f7:=⟨Tryz.f109.name,by decide,Tryz.func109.trans (congrArg some (by kernel_rfl))⟩
 f10:=⟨Tryz.f124.name,by decide,Tryz.func124.trans (congrArg some (by kernel_rfl))⟩
 t0:=Tryz.underlying0
 a0:=Tryz.isAgg0
 z0:=Tryz.sizeOf0
 v0:=Tryz.zeroValue0
 t4:=Tryz.underlying4
 a4:=Tryz.isAgg4
 z4:=Tryz.sizeOf4
 v4:=Tryz.zeroValue4
 t23:=Tryz.underlying170
 a23:=Tryz.isAgg170
 z23:=Tryz.sizeOf170
 v23:=Tryz.zeroValue170
 t26:=Tryz.underlying9
 a26:=Tryz.isAgg9
 z26:=Tryz.sizeOf9
 v26:=Tryz.zeroValue9
 t27:=Tryz.underlying172
 a27:=Tryz.isAgg172
 z27:=Tryz.sizeOf172
 v27:=Tryz.zeroValue172
 t28:=Tryz.underlying173
 a28:=Tryz.isAgg173
 z28:=Tryz.sizeOf173
 v28:=Tryz.zeroValue173
 t33:=Tryz.underlying86
 a33:=Tryz.isAgg86
 z33:=Tryz.sizeOf86
 v33:=Tryz.zeroValue86 }
def Tryz.sx:Go.Shelf.Ren:=⟨fun | 6=>108 | 8=>122 | 9=>123 | 11=>134 | 13=>136 | 12=>135 | 23=>159 | 24=>146 | 14=>150 | 15=>151 | 16=>152 | 17=>153 | 18=>154 | 19=>155 | 20=>156 | 21=>157 | 22=>158 | 25=>169 | 26=>170 | 27=>171 | 28=>172 | 29=>173 | 30=>174 | 31=>178 | n=>n,fun | 26=>9 | 28=>173 | 24=>28 | 0=>0 | 3=>3 | 37=>215 | 48=>58 | 50=>207 | 4=>4 | 40=>232 | 39=>231 | 45=>79 | 5=>5 | 9=>9 | 51=>250 | 55=>254 | 57=>264 | 58=>241 | 33=>86 | n=>n,fun | n=>n⟩
def Tryz.A7:Go.Proofs.SlLaysZ.n6 Tryz.prog Tryz.sx:={
 mixed:=by kernel_rfl
 f6:=⟨Tryz.f108.name,by decide,Tryz.func108.trans (congrArg some (by kernel_rfl))⟩
 f8:=⟨Tryz.f122.name,by decide,Tryz.func122.trans (congrArg some (by kernel_rfl))⟩
 f11:=⟨Tryz.f134.name,by decide,Tryz.func134.trans (congrArg some (by kernel_rfl))⟩
 t0:=Tryz.underlying0
 a0:=Tryz.isAgg0
 z0:=Tryz.sizeOf0
 v0:=Tryz.zeroValue0
 t24:=Tryz.underlying28
 a24:=Tryz.isAgg28
 z24:=Tryz.sizeOf28
 v24:=Tryz.zeroValue28
 t26:=Tryz.underlying9
 a26:=Tryz.isAgg9
 z26:=Tryz.sizeOf9
 v26:=Tryz.zeroValue9
 t28:=Tryz.underlying173
 a28:=Tryz.isAgg173
 z28:=Tryz.sizeOf173
 v28:=Tryz.zeroValue173
 i26:=by kernel_rfl }
def Tryz.DN:Go.Shelf.Ren:=⟨fun | 6=>123 | 8=>136 | 9=>135 | 19=>159 | 20=>146 | 21=>150 | 22=>151 | 23=>152 | 24=>153 | 25=>154 | 26=>155 | 27=>156 | 28=>157 | 29=>158 | 36=>169 | 31=>170 | 32=>171 | 37=>172 | 38=>173 | 39=>174 | 41=>178 | n=>n,fun | 27=>28 | 29=>9 | 3=>3 | 32=>215 | 26=>28 | 0=>0 | 44=>58 | 46=>207 | 4=>4 | 36=>232 | 35=>231 | 41=>79 | 5=>5 | 9=>9 | 53=>250 | 57=>254 | 63=>264 | 64=>241 | n=>n,fun | n=>n⟩
def Tryz.G6:Go.Proofs.SlLaysM.n6 Tryz.prog Tryz.DN:={
 mixed:=by kernel_rfl
 f6:=⟨Tryz.f123.name,by decide,Tryz.func123.trans (congrArg some (by kernel_rfl))⟩
 f8:=Tryz.func136.trans (congrArg some (by kernel_rfl))
 f9:=⟨Tryz.f135.name,by decide,Tryz.func135.trans (congrArg some (by kernel_rfl))⟩
 f19:=Tryz.func159.trans (congrArg some (by kernel_rfl))
 f20:=Tryz.func146.trans (congrArg some (by kernel_rfl))
 f21:=⟨Tryz.f150.name,by decide,Tryz.func150.trans (congrArg some (by kernel_rfl))⟩
 f22:=⟨Tryz.f151.name,by decide,Tryz.func151.trans (congrArg some (by kernel_rfl))⟩
 f23:=⟨Tryz.f152.name,by decide,Tryz.func152.trans (congrArg some (by kernel_rfl))⟩
 f24:=⟨Tryz.f153.name,by decide,Tryz.func153.trans (congrArg some (by kernel_rfl))⟩
 f25:=⟨Tryz.f154.name,by decide,Tryz.func154.trans (congrArg some (by kernel_rfl))⟩
 f26:=⟨Tryz.f155.name,by decide,Tryz.func155.trans (congrArg some (by kernel_rfl))⟩
 f27:=⟨Tryz.f156.name,by decide,Tryz.func156.trans (congrArg some (by kernel_rfl))⟩
 f28:=⟨Tryz.f157.name,by decide,Tryz.func157.trans (congrArg some (by kernel_rfl))⟩
 f29:=⟨Tryz.f158.name,by decide,Tryz.func158.trans (congrArg some (by kernel_rfl))⟩
 f31:=Tryz.func170.trans (congrArg some (by kernel_rfl))
 f32:=Tryz.func171.trans (congrArg some (by kernel_rfl))
 f36:=⟨Tryz.f169.name,by decide,Tryz.func169.trans (congrArg some (by kernel_rfl))⟩
 f37:=⟨Tryz.f172.name,by decide,Tryz.func172.trans (congrArg some (by kernel_rfl))⟩
 f38:=⟨Tryz.f173.name,by decide,Tryz.func173.trans (congrArg some (by kernel_rfl))⟩
 f39:=⟨Tryz.f174.name,by decide,Tryz.func174.trans (congrArg some (by kernel_rfl))⟩
 f41:=⟨Tryz.f178.name,by decide,Tryz.func178.trans (congrArg some (by kernel_rfl))⟩
 t0:=Tryz.underlying0
 a0:=Tryz.isAgg0
 z0:=Tryz.sizeOf0
 v0:=Tryz.zeroValue0
 t3:=Tryz.underlying3
 a3:=Tryz.isAgg3
 z3:=Tryz.sizeOf3
 v3:=Tryz.zeroValue3
 t4:=Tryz.underlying4
 a4:=Tryz.isAgg4
 z4:=Tryz.sizeOf4
 v4:=Tryz.zeroValue4
 t5:=Tryz.underlying5
 a5:=Tryz.isAgg5
 z5:=Tryz.sizeOf5
 v5:=Tryz.zeroValue5
 t9:=Tryz.underlying9
 a9:=Tryz.isAgg9
 z9:=Tryz.sizeOf9
 v9:=Tryz.zeroValue9
 t26:=Tryz.underlying28
 a26:=Tryz.isAgg28
 z26:=Tryz.sizeOf28
 v26:=Tryz.zeroValue28
 t27:=Tryz.underlying28
 a27:=Tryz.isAgg28
 z27:=Tryz.sizeOf28
 v27:=Tryz.zeroValue28
 t29:=Tryz.underlying9
 a29:=Tryz.isAgg9
 z29:=Tryz.sizeOf9
 v29:=Tryz.zeroValue9
 t32:=Tryz.underlying215
 a32:=Tryz.isAgg215
 z32:=Tryz.sizeOf215
 v32:=Tryz.zeroValue215
 t35:=Tryz.underlying231
 a35:=Tryz.isAgg231
 z35:=Tryz.sizeOf231
 v35:=Tryz.zeroValue231
 t36:=Tryz.underlying232
 a36:=Tryz.isAgg232
 z36:=Tryz.sizeOf232
 v36:=Tryz.zeroValue232
 t41:=Tryz.underlying79
 a41:=Tryz.isAgg79
 z41:=Tryz.sizeOf79
 v41:=Tryz.zeroValue79
 t44:=Tryz.underlying58
 a44:=Tryz.isAgg58
 z44:=Tryz.sizeOf58
 v44:=Tryz.zeroValue58
 t46:=Tryz.underlying207
 a46:=Tryz.isAgg207
 z46:=Tryz.sizeOf207
 v46:=Tryz.zeroValue207
 t53:=Tryz.underlying250
 a53:=Tryz.isAgg250
 z53:=Tryz.sizeOf250
 v53:=Tryz.zeroValue250
 t57:=Tryz.underlying254
 a57:=Tryz.isAgg254
 z57:=Tryz.sizeOf254
 v57:=Tryz.zeroValue254
 t63:=Tryz.underlying264
 a63:=Tryz.isAgg264
 z63:=Tryz.sizeOf264
 v63:=Tryz.zeroValue264
 t64:=Tryz.underlying241
 a64:=Tryz.isAgg241
 z64:=Tryz.sizeOf241
 v64:=Tryz.zeroValue241 }
def Tryz.DZ (m : Nat) : AnyZ.SortsIn Tryz.prog Tryz.sx Fence.wide m :=
  ⟨fun cu off cap ss W hH hblk hsz => callsIn_wide.2 (AnyM.slices_Sort_string Tryz.G6 cu off cap ss W hH hblk hsz),
   fun p cap W => callsIn_wide.2 (AnyM.slices_Sort_string_none Tryz.G6 p cap W)⟩
def Tryz.Am (mb:Option Nat) (W:World):CallsIn Fence.wide 5 Tryz.prog 109 #[.map mb] W fun e w'=>e=.returned (.func (.func 124) #[] #[.pointer (some ⟨W.heap.size,0,none⟩)])/\w'=W.alloc (.cells #[.map mb] 170) :=
 AnyZ.keys_in Tryz.B3 Fence.wide 5 trivial rfl mb W
def Tryz.kR {H:Type} (b nn:Nat) (D0:DataW H) (R:Value->Option (DataW H × List MemPlace)) (w:World) (hown:w.ownsMap Tryz.prog 9 R b nn D0) (hmax:Maps.size D0<=maxLen) (hbytes:Maps.size D0*16<=140737488355328) :
  CallsIn Fence.wide 5 Tryz.prog 108 #[.func (.func 124) #[] #[.pointer (some ⟨w.heap.size,0,none⟩)]] (w.alloc (.cells #[.map (some b)] 170)) fun e w'=>∃ (v:Value) (ss:List (List UInt8)),e=.returned v/\ss.Perm (strKeys D0) /\
   w'.ownsRow (w.alloc (.cells #[.map (some b)] 170)).heap.size 9 1 v ss.length ((ss.mergeSort (fun x y=>decide (x<=y))).map encStr)/\(v=.slice none 0 0↔ss=[])/\Below (w.alloc (.cells #[.map (some b)] 170)).heap.size (w.alloc (.cells #[.map (some b)] 170)) w':=by
 have hbl:=hown.lt;have hseq:SeqGives Fence.wide 2 Tryz.prog 124 #[.pointer (some ⟨w.heap.size,0,none⟩)] encStr (fun ss=>ss.Perm (strKeys D0)) (Maps.size D0) (w.alloc (.cells #[.map (some b)] 170)) :=
  AnyZ.keys_gives (ρ:=Tryz.qx) { Tryz.B3 with } Fence.wide _ trivial rfl (by omega) w.heap.size b nn D0 _ (by simp) (by simp) (by
   obtain ⟨es,clock,hb,Ft,hs,hD⟩:=hown;exact ⟨es,clock,(Below.heap_alloc _ _ b hbl).trans hb,Ft,hs,hD⟩)
 exact AnyZ.sorted_in Tryz.A7 Fence.wide 5 trivial trivial trivial trivial rfl (by omega) (Tryz.DZ _) (enters_of Tryz.func123 (by kernel_rfl) rfl) 124 #[.pointer (some ⟨w.heap.size,0,none⟩)] trivial (enters_of Tryz.func124 (by kernel_rfl) rfl) _ _ hmax hbytes _ hseq
end Go.Proofs
