/- Part of the proof. No condition. -/
import Derived.Shelf.SlIter.Nil
import Derived.Shelf.SortM.Plain
import Derived.Shelf.SortM.SortNone
import Derived.Ground.GgzProg
import Derived.Ground.SlgmProg
import Derived.Test.YthbffkdafjboiaaGreatDoorProg
set_option linter.all false
set_option maxRecDepth 100000
set_option maxHeartbeats 4000000
namespace Go.Proofs
open Go.RowKit Go.Maps Go.Sort Go.Shelf
def Tryz.rC:Go.Shelf.Ren:=⟨fun | 7=>93 | 10=>117 | n=>n,fun | 23=>183 | 26=>9 | 3=>67 | 28=>186 | 0=>0 | 27=>185 | 33=>142 | 4=>4 | n=>n,fun | n=>n⟩
def Tryz.Db:Go.Proofs.SlLaysZ.n7 Tryz.prog Tryz.rC:={
 mixed:=by kernel_rfl
 f7:=⟨Tryz.f93.name,by decide,Tryz.func93.trans (congrArg some (by kernel_rfl))⟩
 f10:=⟨Tryz.f117.name,by decide,Tryz.func117.trans (congrArg some (by kernel_rfl))⟩
 t0:=Tryz.underlying0
 a0:=Tryz.isAgg0
 z0:=Tryz.sizeOf0
 v0:=Tryz.zeroValue0
 t4:=Tryz.underlying4
 a4:=Tryz.isAgg4
 z4:=Tryz.sizeOf4
 v4:=Tryz.zeroValue4
 t23:=Tryz.underlying183
 a23:=Tryz.isAgg183
 z23:=Tryz.sizeOf183
 v23:=Tryz.zeroValue183
 t26:=Tryz.underlying9
 a26:=Tryz.isAgg9
 z26:=Tryz.sizeOf9
 v26:=Tryz.zeroValue9
 t27:=Tryz.underlying185
 a27:=Tryz.isAgg185
 z27:=Tryz.sizeOf185
 v27:=Tryz.zeroValue185
 t28:=Tryz.underlying186
 a28:=Tryz.isAgg186
 z28:=Tryz.sizeOf186
 v28:=Tryz.zeroValue186
 t33:=Tryz.underlying142
 a33:=Tryz.isAgg142
 z33:=Tryz.sizeOf142
 v33:=Tryz.zeroValue142 }
def Tryz.tz:Go.Shelf.Ren:=⟨fun | 6=>92 | 8=>115 | 9=>116 | 11=>138 | 13=>140 | 12=>139 | 23=>163 | 24=>142 | 14=>154 | 15=>155 | 16=>156 | 17=>157 | 18=>158 | 19=>159 | 20=>160 | 21=>161 | 22=>162 | 25=>168 | 26=>169 | 27=>170 | 28=>171 | 29=>172 | 30=>173 | 31=>175 | n=>n,fun | 26=>9 | 28=>186 | 24=>45 | 0=>0 | 3=>3 | 37=>237 | 48=>67 | 50=>215 | 4=>4 | 40=>252 | 39=>251 | 45=>144 | 5=>5 | 9=>9 | 51=>261 | 55=>265 | 57=>269 | 58=>226 | 33=>142 | n=>n,fun | n=>n⟩
def Tryz.B':Go.Proofs.SlLaysZ.n6 Tryz.prog Tryz.tz:={
 mixed:=by kernel_rfl
 f6:=⟨Tryz.f92.name,by decide,Tryz.func92.trans (congrArg some (by kernel_rfl))⟩
 f8:=⟨Tryz.f115.name,by decide,Tryz.func115.trans (congrArg some (by kernel_rfl))⟩
 f11:=⟨Tryz.f138.name,by decide,Tryz.func138.trans (congrArg some (by kernel_rfl))⟩
 t0:=Tryz.underlying0
 a0:=Tryz.isAgg0
 z0:=Tryz.sizeOf0
 v0:=Tryz.zeroValue0
 t24:=Tryz.underlying45
 a24:=Tryz.isAgg45
 z24:=Tryz.sizeOf45
 v24:=Tryz.zeroValue45
 t26:=Tryz.underlying9
 a26:=Tryz.isAgg9
 z26:=Tryz.sizeOf9
 v26:=Tryz.zeroValue9
 t28:=Tryz.underlying186
 a28:=Tryz.isAgg186
 z28:=Tryz.sizeOf186
 v28:=Tryz.zeroValue186
 i26:=by kernel_rfl }
def Tryz.E0:Go.Shelf.Ren:=⟨fun | 6=>116 | 8=>140 | 9=>139 | 19=>163 | 20=>142 | 21=>154 | 22=>155 | 23=>156 | 24=>157 | 25=>158 | 26=>159 | 27=>160 | 28=>161 | 29=>162 | 36=>168 | 31=>169 | 32=>170 | 37=>171 | 38=>172 | 39=>173 | 41=>175 | n=>n,fun | 27=>45 | 29=>9 | 3=>3 | 32=>237 | 26=>45 | 0=>0 | 44=>67 | 46=>215 | 4=>4 | 36=>252 | 35=>251 | 41=>144 | 5=>5 | 9=>9 | 53=>261 | 57=>265 | 63=>269 | 64=>226 | n=>n,fun | n=>n⟩
def Tryz.Ie:Go.Proofs.SlLaysM.n6 Tryz.prog Tryz.E0:={
 mixed:=by kernel_rfl
 f6:=⟨Tryz.f116.name,by decide,Tryz.func116.trans (congrArg some (by kernel_rfl))⟩
 f8:=Tryz.func140.trans (congrArg some (by kernel_rfl))
 f9:=⟨Tryz.f139.name,by decide,Tryz.func139.trans (congrArg some (by kernel_rfl))⟩
 f19:=Tryz.func163.trans (congrArg some (by kernel_rfl))
 f20:=Tryz.func142.trans (congrArg some (by kernel_rfl))
 f21:=⟨Tryz.f154.name,by decide,Tryz.func154.trans (congrArg some (by kernel_rfl))⟩
 f22:=⟨Tryz.f155.name,by decide,Tryz.func155.trans (congrArg some (by kernel_rfl))⟩
 f23:=⟨Tryz.f156.name,by decide,Tryz.func156.trans (congrArg some (by kernel_rfl))⟩
 f24:=⟨Tryz.f157.name,by decide,Tryz.func157.trans (congrArg some (by kernel_rfl))⟩
 f25:=⟨Tryz.f158.name,by decide,Tryz.func158.trans (congrArg some (by kernel_rfl))⟩
 f26:=⟨Tryz.f159.name,by decide,Tryz.func159.trans (congrArg some (by kernel_rfl))⟩
 f27:=⟨Tryz.f160.name,by decide,Tryz.func160.trans (congrArg some (by kernel_rfl))⟩
 f28:=⟨Tryz.f161.name,by decide,Tryz.func161.trans (congrArg some (by kernel_rfl))⟩
 f29:=⟨Tryz.f162.name,by decide,Tryz.func162.trans (congrArg some (by kernel_rfl))⟩
 f31:=Tryz.func169.trans (congrArg some (by kernel_rfl))
 f32:=Tryz.func170.trans (congrArg some (by kernel_rfl))
 f36:=⟨Tryz.f168.name,by decide,Tryz.func168.trans (congrArg some (by kernel_rfl))⟩
 f37:=⟨Tryz.f171.name,by decide,Tryz.func171.trans (congrArg some (by kernel_rfl))⟩
 f38:=⟨Tryz.f172.name,by decide,Tryz.func172.trans (congrArg some (by kernel_rfl))⟩
 f39:=⟨Tryz.f173.name,by decide,Tryz.func173.trans (congrArg some (by kernel_rfl))⟩
 f41:=⟨Tryz.f175.name,by decide,Tryz.func175.trans (congrArg some (by kernel_rfl))⟩
 t0:=Tryz.underlying0
 a0:=Tryz.isAgg0
 z0:=Tryz.sizeOf0
 v0:=Tryz.zeroValue0
 t3:=Tryz.underlying3
 a3:=Tryz.isAgg3
 z3:=Tryz.sizeOf3
 v3:=Tryz.zeroValue3
 t4:=Tryz.underlying4
 a4:=Tryz.isAgg4
 z4:=Tryz.sizeOf4
 v4:=Tryz.zeroValue4
 t5:=Tryz.underlying5
 a5:=Tryz.isAgg5
 z5:=Tryz.sizeOf5
 v5:=Tryz.zeroValue5
 t9:=Tryz.underlying9
 a9:=Tryz.isAgg9
 z9:=Tryz.sizeOf9
 v9:=Tryz.zeroValue9
 t26:=Tryz.underlying45
 a26:=Tryz.isAgg45
 z26:=Tryz.sizeOf45
 v26:=Tryz.zeroValue45
 t27:=Tryz.underlying45
 a27:=Tryz.isAgg45
 z27:=Tryz.sizeOf45
 v27:=Tryz.zeroValue45
 t29:=Tryz.underlying9
 a29:=Tryz.isAgg9
 z29:=Tryz.sizeOf9
 v29:=Tryz.zeroValue9
 t32:=Tryz.underlying237
 a32:=Tryz.isAgg237
 z32:=Tryz.sizeOf237
 v32:=Tryz.zeroValue237
 t35:=Tryz.underlying251
 a35:=Tryz.isAgg251
 z35:=Tryz.sizeOf251
 v35:=Tryz.zeroValue251
 t36:=Tryz.underlying252
 a36:=Tryz.isAgg252
 z36:=Tryz.sizeOf252
 v36:=Tryz.zeroValue252
 t41:=Tryz.underlying144
 a41:=Tryz.isAgg144
 z41:=Tryz.sizeOf144
 v41:=Tryz.zeroValue144
 t44:=Tryz.underlying67
 a44:=Tryz.isAgg67
 z44:=Tryz.sizeOf67
 v44:=Tryz.zeroValue67
 t46:=Tryz.underlying215
 a46:=Tryz.isAgg215
 z46:=Tryz.sizeOf215
 v46:=Tryz.zeroValue215
 t53:=Tryz.underlying261
 a53:=Tryz.isAgg261
 z53:=Tryz.sizeOf261
 v53:=Tryz.zeroValue261
 t57:=Tryz.underlying265
 a57:=Tryz.isAgg265
 z57:=Tryz.sizeOf265
 v57:=Tryz.zeroValue265
 t63:=Tryz.underlying269
 a63:=Tryz.isAgg269
 z63:=Tryz.sizeOf269
 v63:=Tryz.zeroValue269
 t64:=Tryz.underlying226
 a64:=Tryz.isAgg226
 z64:=Tryz.sizeOf226
 v64:=Tryz.zeroValue226 }
def Tryz.Fm (m : Nat) : AnyZ.SortsIn Tryz.prog Tryz.tz Fence.wide m :=
  ⟨fun cv off cap ss W hH hblk hsz => callsIn_wide.2 (AnyM.slices_Sort_string Tryz.Ie cv off cap ss W hH hblk hsz),
   fun p cap W => callsIn_wide.2 (AnyM.slices_Sort_string_none Tryz.Ie p cap W)⟩
def Tryz.Bm (mb:Option Nat) (W:World):CallsIn Fence.wide 5 Tryz.prog 93 #[.map mb] W fun e w'=>e=.returned (.func (.func 117) #[] #[.pointer (some ⟨W.heap.size,0,none⟩)])/\w'=W.alloc (.cells #[.map mb] 183) :=
 AnyZ.keys_in Tryz.Db Fence.wide 5 trivial rfl mb W
def Tryz.lV {H:Type} (b nn:Nat) (D0:DataW H) (R:Value->Option (DataW H × List MemPlace)) (w:World) (hown:w.ownsMap Tryz.prog 9 R b nn D0) (hmax:Maps.size D0<=maxLen) (hbytes:Maps.size D0*16<=140737488355328) :
  CallsIn Fence.wide 5 Tryz.prog 92 #[.func (.func 117) #[] #[.pointer (some ⟨w.heap.size,0,none⟩)]] (w.alloc (.cells #[.map (some b)] 183)) fun e w'=>∃ (v:Value) (ss:List (List UInt8)),e=.returned v/\ss.Perm (strKeys D0) /\
   w'.ownsRow (w.alloc (.cells #[.map (some b)] 183)).heap.size 9 1 v ss.length ((ss.mergeSort (fun x y=>decide (x<=y))).map encStr)/\(v=.slice none 0 0↔ss=[])/\Below (w.alloc (.cells #[.map (some b)] 183)).heap.size (w.alloc (.cells #[.map (some b)] 183)) w':=by
 have hbl:=hown.lt;have hseq:SeqGives Fence.wide 2 Tryz.prog 117 #[.pointer (some ⟨w.heap.size,0,none⟩)] encStr (fun ss=>ss.Perm (strKeys D0)) (Maps.size D0) (w.alloc (.cells #[.map (some b)] 183)) :=
  AnyZ.keys_gives (ρ:=Tryz.rC) { Tryz.Db with } Fence.wide _ trivial rfl (by omega) w.heap.size b nn D0 _ (by simp) (by simp) (by
   obtain ⟨es,clock,hb,Ft,hs,hD⟩:=hown;exact ⟨es,clock,(Below.heap_alloc _ _ b hbl).trans hb,Ft,hs,hD⟩)
 exact AnyZ.sorted_in Tryz.B' Fence.wide 5 trivial trivial trivial trivial rfl (by omega) (Tryz.Fm _) (enters_of Tryz.func116 (by kernel_rfl) rfl) 117 #[.pointer (some ⟨w.heap.size,0,none⟩)] trivial (enters_of Tryz.func117 (by kernel_rfl) rfl) _ _ hmax hbytes _ hseq
end Go.Proofs
