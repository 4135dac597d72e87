/- Part of the proof. No condition. -/
import Derived.Shelf.SlIter.Nil
import Derived.Shelf.SortM.Plain
import Derived.Shelf.SortM.SortNone
import Derived.Ground.GgzProg
import Derived.Ground.SlgmProg
import Derived.Test.YtmdncdaladplkaaGreatDoorProg
set_option linter.all false
set_option maxRecDepth 100000
set_option maxHeartbeats 4000000
namespace Go.Proofs
open Go.RowKit Go.Maps Go.Sort Go.Shelf
def Tryz.tp:Go.Shelf.Ren:=⟨λ| 7=>90 | 10=>117 | n=>n,λ| 23=>196 | 26=>9 | 3=>51 | 28=>199 | 0=>0 | 27=>198 | 33=>154 | 4=>4 | n=>n,λ| n=>n⟩
def Tryz.EU:Go.Proofs.SlLaysZ.n7 Tryz.prog Tryz.tp:={
 mixed:=by kernel_rfl
 f7:=⟨Tryz.f90.name,by decide,Tryz.func90.trans (congrArg some (by kernel_rfl))⟩
 f10:=⟨Tryz.f117.name,by decide,Tryz.func117.trans (congrArg some (by kernel_rfl))⟩
 t0:=Tryz.underlying0
 a0:=Tryz.isAgg0
 z0:=Tryz.sizeOf0
 v0:=Tryz.zeroValue0
 t4:=Tryz.underlying4
 a4:=Tryz.isAgg4
 z4:=Tryz.sizeOf4
 v4:=Tryz.zeroValue4
 t23:=Tryz.underlying196
 a23:=Tryz.isAgg196
 z23:=Tryz.sizeOf196
 v23:=Tryz.zeroValue196
 t26:=Tryz.underlying9
 a26:=Tryz.isAgg9
 z26:=Tryz.sizeOf9
 v26:=Tryz.zeroValue9
 t27:=Tryz.underlying198
 a27:=Tryz.isAgg198
 z27:=Tryz.sizeOf198
 v27:=Tryz.zeroValue198
 t28:=Tryz.underlying199
 a28:=Tryz.isAgg199
 z28:=Tryz.sizeOf199
 v28:=Tryz.zeroValue199
 t33:=Tryz.underlying154
 a33:=Tryz.isAgg154
 z33:=Tryz.sizeOf154
 v33:=Tryz.zeroValue154 }
def Tryz.uV:Go.Shelf.Ren:=⟨λ| 6=>89 | 8=>115 | 9=>116 | 11=>140 | 13=>142 | 12=>141 | 23=>167 | 24=>144 | 14=>158 | 15=>159 | 16=>160 | 17=>161 | 18=>162 | 19=>163 | 20=>164 | 21=>165 | 22=>166 | 25=>172 | 26=>173 | 27=>174 | 28=>175 | 29=>176 | 30=>177 | 31=>179 | n=>n,λ| 26=>9 | 28=>199 | 24=>68 | 0=>0 | 3=>3 | 37=>99 | 48=>51 | 50=>175 | 4=>4 | 40=>273 | 39=>272 | 45=>132 | 5=>5 | 9=>9 | 51=>282 | 55=>286 | 57=>290 | 58=>246 | 33=>154 | n=>n,λ| n=>n⟩
def Tryz.DM:Go.Proofs.SlLaysZ.n6 Tryz.prog Tryz.uV:={
 mixed:=by kernel_rfl
 f6:=⟨Tryz.f89.name,by decide,Tryz.func89.trans (congrArg some (by kernel_rfl))⟩
 f8:=⟨Tryz.f115.name,by decide,Tryz.func115.trans (congrArg some (by kernel_rfl))⟩
 f11:=⟨Tryz.f140.name,by decide,Tryz.func140.trans (congrArg some (by kernel_rfl))⟩
 t0:=Tryz.underlying0
 a0:=Tryz.isAgg0
 z0:=Tryz.sizeOf0
 v0:=Tryz.zeroValue0
 t24:=Tryz.underlying68
 a24:=Tryz.isAgg68
 z24:=Tryz.sizeOf68
 v24:=Tryz.zeroValue68
 t26:=Tryz.underlying9
 a26:=Tryz.isAgg9
 z26:=Tryz.sizeOf9
 v26:=Tryz.zeroValue9
 t28:=Tryz.underlying199
 a28:=Tryz.isAgg199
 z28:=Tryz.sizeOf199
 v28:=Tryz.zeroValue199
 i26:=by kernel_rfl }
def Tryz.G6:Go.Shelf.Ren:=⟨λ| 6=>116 | 8=>142 | 9=>141 | 19=>167 | 20=>144 | 21=>158 | 22=>159 | 23=>160 | 24=>161 | 25=>162 | 26=>163 | 27=>164 | 28=>165 | 29=>166 | 36=>172 | 31=>173 | 32=>174 | 37=>175 | 38=>176 | 39=>177 | 41=>179 | n=>n,λ| 27=>68 | 29=>9 | 3=>3 | 32=>99 | 26=>68 | 0=>0 | 44=>51 | 46=>175 | 4=>4 | 36=>273 | 35=>272 | 41=>132 | 5=>5 | 9=>9 | 53=>282 | 57=>286 | 63=>290 | 64=>246 | n=>n,λ| n=>n⟩
def Tryz.KH:Go.Proofs.SlLaysM.n6 Tryz.prog Tryz.G6:={
 mixed:=by kernel_rfl
 f6:=⟨Tryz.f116.name,by decide,Tryz.func116.trans (congrArg some (by kernel_rfl))⟩
 f8:=Tryz.func142.trans (congrArg some (by kernel_rfl))
 f9:=⟨Tryz.f141.name,by decide,Tryz.func141.trans (congrArg some (by kernel_rfl))⟩
 f19:=Tryz.func167.trans (congrArg some (by kernel_rfl))
 f20:=Tryz.func144.trans (congrArg some (by kernel_rfl))
 f21:=⟨Tryz.f158.name,by decide,Tryz.func158.trans (congrArg some (by kernel_rfl))⟩
 f22:=⟨Tryz.f159.name,by decide,Tryz.func159.trans (congrArg some (by kernel_rfl))⟩
 f23:=⟨Tryz.f160.name,by decide,Tryz.func160.trans (congrArg some (by kernel_rfl))⟩
 f24:=⟨Tryz.f161.name,by decide,Tryz.func161.trans (congrArg some (by kernel_rfl))⟩
 f25:=⟨Tryz.f162.name,by decide,Tryz.func162.trans (congrArg some (by kernel_rfl))⟩
 f26:=⟨Tryz.f163.name,by decide,Tryz.func163.trans (congrArg some (by kernel_rfl))⟩
 f27:=⟨Tryz.f164.name,by decide,Tryz.func164.trans (congrArg some (by kernel_rfl))⟩
 f28:=⟨Tryz.f165.name,by decide,Tryz.func165.trans (congrArg some (by kernel_rfl))⟩
 f29:=⟨Tryz.f166.name,by decide,Tryz.func166.trans (congrArg some (by kernel_rfl))⟩
 f31:=Tryz.func173.trans (congrArg some (by kernel_rfl))
 f32:=Tryz.func174.trans (congrArg some (by kernel_rfl))
 f36:=⟨Tryz.f172.name,by decide,Tryz.func172.trans (congrArg some (by kernel_rfl))⟩
 f37:=⟨Tryz.f175.name,by decide,Tryz.func175.trans (congrArg some (by kernel_rfl))⟩
 f38:=⟨Tryz.f176.name,by decide,Tryz.func176.trans (congrArg some (by kernel_rfl))⟩
 f39:=⟨Tryz.f177.name,by decide,Tryz.func177.trans (congrArg some (by kernel_rfl))⟩
 f41:=⟨Tryz.f179.name,by decide,Tryz.func179.trans (congrArg some (by kernel_rfl))⟩
 t0:=Tryz.underlying0
 a0:=Tryz.isAgg0
 z0:=Tryz.sizeOf0
 v0:=Tryz.zeroValue0
 t3:=Tryz.underlying3
 a3:=Tryz.isAgg3
 z3:=Tryz.sizeOf3
 v3:=Tryz.zeroValue3
 t4:=Tryz.underlying4
 a4:=Tryz.isAgg4
 z4:=Tryz.sizeOf4
 v4:=Tryz.zeroValue4
 t5:=Tryz.underlying5
 a5:=Tryz.isAgg5
 z5:=Tryz.sizeOf5
 v5:=Tryz.zeroValue5
 t9:=Tryz.underlying9
 a9:=Tryz.isAgg9
 z9:=Tryz.sizeOf9
 v9:=Tryz.zeroValue9
 t26:=Tryz.underlying68
 a26:=Tryz.isAgg68
 z26:=Tryz.sizeOf68
 v26:=Tryz.zeroValue68
 t27:=Tryz.underlying68
 a27:=Tryz.isAgg68
 z27:=Tryz.sizeOf68
 v27:=Tryz.zeroValue68
 t29:=Tryz.underlying9
 a29:=Tryz.isAgg9
 z29:=Tryz.sizeOf9
 v29:=Tryz.zeroValue9
 t32:=Tryz.underlying99
 a32:=Tryz.isAgg99
 z32:=Tryz.sizeOf99
 v32:=Tryz.zeroValue99
 t35:=Tryz.underlying272
 a35:=Tryz.isAgg272
 z35:=Tryz.sizeOf272
 v35:=Tryz.zeroValue272
 t36:=Tryz.underlying273
 a36:=Tryz.isAgg273
 z36:=Tryz.sizeOf273
 v36:=Tryz.zeroValue273
 t41:=Tryz.underlying132
 a41:=Tryz.isAgg132
 z41:=Tryz.sizeOf132
 v41:=Tryz.zeroValue132
 t44:=Tryz.underlying51
 a44:=Tryz.isAgg51
 z44:=Tryz.sizeOf51
 v44:=Tryz.zeroValue51
 t46:=Tryz.underlying175
 a46:=Tryz.isAgg175
 z46:=Tryz.sizeOf175
 v46:=Tryz.zeroValue175
 t53:=Tryz.underlying282
 a53:=Tryz.isAgg282
 z53:=Tryz.sizeOf282
 v53:=Tryz.zeroValue282
 t57:=Tryz.underlying286
 a57:=Tryz.isAgg286
 z57:=Tryz.sizeOf286
 v57:=Tryz.zeroValue286
 t63:=Tryz.underlying290
 a63:=Tryz.isAgg290
 z63:=Tryz.sizeOf290
 v63:=Tryz.zeroValue290
 t64:=Tryz.underlying246
 a64:=Tryz.isAgg246
 z64:=Tryz.sizeOf246
 v64:=Tryz.zeroValue246 }
def Tryz.Hl (m : Nat) : AnyZ.SortsIn Tryz.prog Tryz.uV Fence.wide m :=
  ⟨λcj off cap ss W hH hblk hsz => callsIn_wide.2 (AnyM.slices_Sort_string Tryz.KH cj off cap ss W hH hblk hsz),
   λp cap W => callsIn_wide.2 (AnyM.slices_Sort_string_none Tryz.KH p cap W)⟩
def Tryz.CV (mb:Option Nat) (W:World):CallsIn Fence.wide 5 Tryz.prog 90 #[.map mb] W λe w'=>e=.returned (.func (.func 117) #[] #[.pointer (some ⟨W.heap.size,0,none⟩)])/\w'=W.alloc (.cells #[.map mb] 196) :=
 AnyZ.keys_in Tryz.EU Fence.wide 5 trivial rfl mb W
def Tryz.nt {H:Type} (b nn:Nat) (D0:DataW H) (R:Value->Option (DataW H × List MemPlace)) (w:World) (hown:w.ownsMap Tryz.prog 9 R b nn D0) (hmax:Maps.size D0<=maxLen) (hbytes:Maps.size D0*16<=140737488355328) :
  CallsIn Fence.wide 5 Tryz.prog 89 #[.func (.func 117) #[] #[.pointer (some ⟨w.heap.size,0,none⟩)]] (w.alloc (.cells #[.map (some b)] 196)) λe w'=>∃ (v:Value) (ss:List (List UInt8)),e=.returned v/\ss.Perm (strKeys D0) /\
   w'.ownsRow (w.alloc (.cells #[.map (some b)] 196)).heap.size 9 1 v ss.length ((ss.mergeSort (λx y=>decide (x<=y))).map encStr)/\(v=.slice none 0 0↔ss=[])/\Below (w.alloc (.cells #[.map (some b)] 196)).heap.size (w.alloc (.cells #[.map (some b)] 196)) w':=by
 have hbl:=hown.lt;have hseq:SeqGives Fence.wide 2 Tryz.prog 117 #[.pointer (some ⟨w.heap.size,0,none⟩)] encStr (λss=>ss.Perm (strKeys D0)) (Maps.size D0) (w.alloc (.cells #[.map (some b)] 196)) :=
  AnyZ.keys_gives (ρ:=Tryz.tp) { Tryz.EU with } Fence.wide _ trivial rfl (by omega) w.heap.size b nn D0 _ (by simp) (by simp) (by
   obtain ⟨es,clock,hb,Ft,hs,hD⟩:=hown;exact ⟨es,clock,(Below.heap_alloc _ _ b hbl).trans hb,Ft,hs,hD⟩)
 exact AnyZ.sorted_in Tryz.DM Fence.wide 5 trivial trivial trivial trivial rfl (by omega) (Tryz.Hl _) (enters_of Tryz.func116 (by kernel_rfl) rfl) 117 #[.pointer (some ⟨w.heap.size,0,none⟩)] trivial (enters_of Tryz.func117 (by kernel_rfl) rfl) _ _ hmax hbytes _ hseq
end Go.Proofs
