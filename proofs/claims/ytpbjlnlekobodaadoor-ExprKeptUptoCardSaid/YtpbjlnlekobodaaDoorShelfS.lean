/- The library's contracts on maps.Keys, slices.Sorted, strings.Join and decimal numerals, laid at this program's numbers. No condition beyond those in each statement. -/
import Derived.Shelf.SlIter.Nil
import Derived.Shelf.SortM.Plain
import Derived.Shelf.SortM.SortNone
import Derived.Ground.GgzProg
import Derived.Ground.SlgmProg
import Derived.Test.YtpbjlnlekobodaaDoorProg
import Derived.Shelf.Strings.OnBuilder
import Derived.Shelf.Strconv.Itoa1
import Derived.Shelf.LaysM
import Derived.Shelf.Strconv.Itoa2
import Derived.Shelf.Strings.Cut
set_option linter.unusedVariables false
set_option linter.unusedSimpArgs false
set_option linter.deprecated false
set_option maxRecDepth 100000
namespace Go.Proofs
open Go.RowKit Go.Maps Go.Sort Go.Shelf
def Tryd.keys101_ren : Go.Shelf.Ren := ⟨fun | 7 => 101 | 10 => 114 | n => n, fun | 23 => 78 | 26 => 9 | 3 => 33 | 28 => 139 | 0 => 0 | 27 => 138 | 33 => 32 | 4 => 4 | n => n, fun | n => n⟩
theorem Tryd.keys101 : Go.Proofs.SlLaysZ.n7 Tryd.prog Tryd.keys101_ren := {
  mixed := by kernel_rfl
  f7 := ⟨Tryd.f101.name, by decide, Tryd.func101.trans (congrArg some (by kernel_rfl))⟩
  f10 := ⟨Tryd.f114.name, by decide, Tryd.func114.trans (congrArg some (by kernel_rfl))⟩
  t0 := Tryd.underlying0
  a0 := Tryd.isAgg0
  z0 := Tryd.sizeOf0
  v0 := Tryd.zeroValue0
  t4 := Tryd.underlying4
  a4 := Tryd.isAgg4
  z4 := Tryd.sizeOf4
  v4 := Tryd.zeroValue4
  t23 := Tryd.underlying78
  a23 := Tryd.isAgg78
  z23 := Tryd.sizeOf78
  v23 := Tryd.zeroValue78
  t26 := Tryd.underlying9
  a26 := Tryd.isAgg9
  z26 := Tryd.sizeOf9
  v26 := Tryd.zeroValue9
  t27 := Tryd.underlying138
  a27 := Tryd.isAgg138
  z27 := Tryd.sizeOf138
  v27 := Tryd.zeroValue138
  t28 := Tryd.underlying139
  a28 := Tryd.isAgg139
  z28 := Tryd.sizeOf139
  v28 := Tryd.zeroValue139
  t33 := Tryd.underlying32
  a33 := Tryd.isAgg32
  z33 := Tryd.sizeOf32
  v33 := Tryd.zeroValue32 }
def Tryd.sorted100_ren : Go.Shelf.Ren := ⟨fun | 6 => 100 | 8 => 112 | 9 => 113 | 11 => 130 | 13 => 132 | 12 => 131 | 23 => 153 | 24 => 134 | 14 => 144 | 15 => 145 | 16 => 146 | 17 => 147 | 18 => 148 | 19 => 149 | 20 => 150 | 21 => 151 | 22 => 152 | 25 => 157 | 26 => 158 | 27 => 159 | 28 => 160 | 29 => 161 | 30 => 162 | 31 => 164 | n => n, fun | 26 => 9 | 28 => 139 | 24 => 44 | 0 => 0 | 3 => 3 | 37 => 128 | 48 => 33 | 50 => 130 | 4 => 4 | 40 => 181 | 39 => 180 | 45 => 185 | 5 => 5 | 9 => 9 | 51 => 191 | 55 => 195 | 57 => 200 | 58 => 201 | 33 => 32 | n => n, fun | n => n⟩
theorem Tryd.sorted100 : Go.Proofs.SlLaysZ.n6 Tryd.prog Tryd.sorted100_ren := {
  mixed := by kernel_rfl
  f6 := ⟨Tryd.f100.name, by decide, Tryd.func100.trans (congrArg some (by kernel_rfl))⟩
  f8 := ⟨Tryd.f112.name, by decide, Tryd.func112.trans (congrArg some (by kernel_rfl))⟩
  f11 := ⟨Tryd.f130.name, by decide, Tryd.func130.trans (congrArg some (by kernel_rfl))⟩
  t0 := Tryd.underlying0
  a0 := Tryd.isAgg0
  z0 := Tryd.sizeOf0
  v0 := Tryd.zeroValue0
  t24 := Tryd.underlying44
  a24 := Tryd.isAgg44
  z24 := Tryd.sizeOf44
  v24 := Tryd.zeroValue44
  t26 := Tryd.underlying9
  a26 := Tryd.isAgg9
  z26 := Tryd.sizeOf9
  v26 := Tryd.zeroValue9
  t28 := Tryd.underlying139
  a28 := Tryd.isAgg139
  z28 := Tryd.sizeOf139
  v28 := Tryd.zeroValue139
  i26 := by kernel_rfl }
def Tryd.sort113_ren : Go.Shelf.Ren := ⟨fun | 6 => 113 | 8 => 132 | 9 => 131 | 19 => 153 | 20 => 134 | 21 => 144 | 22 => 145 | 23 => 146 | 24 => 147 | 25 => 148 | 26 => 149 | 27 => 150 | 28 => 151 | 29 => 152 | 36 => 157 | 31 => 158 | 32 => 159 | 37 => 160 | 38 => 161 | 39 => 162 | 41 => 164 | n => n, fun | 27 => 44 | 29 => 9 | 3 => 3 | 32 => 128 | 26 => 44 | 0 => 0 | 44 => 33 | 46 => 130 | 4 => 4 | 36 => 181 | 35 => 180 | 41 => 185 | 5 => 5 | 9 => 9 | 53 => 191 | 57 => 195 | 63 => 200 | 64 => 201 | n => n, fun | n => n⟩
theorem Tryd.sort113 : Go.Proofs.SlLaysM.n6 Tryd.prog Tryd.sort113_ren := {
  mixed := by kernel_rfl
  f6 := ⟨Tryd.f113.name, by decide, Tryd.func113.trans (congrArg some (by kernel_rfl))⟩
  f8 := Tryd.func132.trans (congrArg some (by kernel_rfl))
  f9 := ⟨Tryd.f131.name, by decide, Tryd.func131.trans (congrArg some (by kernel_rfl))⟩
  f19 := Tryd.func153.trans (congrArg some (by kernel_rfl))
  f20 := Tryd.func134.trans (congrArg some (by kernel_rfl))
  f21 := ⟨Tryd.f144.name, by decide, Tryd.func144.trans (congrArg some (by kernel_rfl))⟩
  f22 := ⟨Tryd.f145.name, by decide, Tryd.func145.trans (congrArg some (by kernel_rfl))⟩
  f23 := ⟨Tryd.f146.name, by decide, Tryd.func146.trans (congrArg some (by kernel_rfl))⟩
  f24 := ⟨Tryd.f147.name, by decide, Tryd.func147.trans (congrArg some (by kernel_rfl))⟩
  f25 := ⟨Tryd.f148.name, by decide, Tryd.func148.trans (congrArg some (by kernel_rfl))⟩
  f26 := ⟨Tryd.f149.name, by decide, Tryd.func149.trans (congrArg some (by kernel_rfl))⟩
  f27 := ⟨Tryd.f150.name, by decide, Tryd.func150.trans (congrArg some (by kernel_rfl))⟩
  f28 := ⟨Tryd.f151.name, by decide, Tryd.func151.trans (congrArg some (by kernel_rfl))⟩
  f29 := ⟨Tryd.f152.name, by decide, Tryd.func152.trans (congrArg some (by kernel_rfl))⟩
  f31 := Tryd.func158.trans (congrArg some (by kernel_rfl))
  f32 := Tryd.func159.trans (congrArg some (by kernel_rfl))
  f36 := ⟨Tryd.f157.name, by decide, Tryd.func157.trans (congrArg some (by kernel_rfl))⟩
  f37 := ⟨Tryd.f160.name, by decide, Tryd.func160.trans (congrArg some (by kernel_rfl))⟩
  f38 := ⟨Tryd.f161.name, by decide, Tryd.func161.trans (congrArg some (by kernel_rfl))⟩
  f39 := ⟨Tryd.f162.name, by decide, Tryd.func162.trans (congrArg some (by kernel_rfl))⟩
  f41 := ⟨Tryd.f164.name, by decide, Tryd.func164.trans (congrArg some (by kernel_rfl))⟩
  t0 := Tryd.underlying0
  a0 := Tryd.isAgg0
  z0 := Tryd.sizeOf0
  v0 := Tryd.zeroValue0
  t3 := Tryd.underlying3
  a3 := Tryd.isAgg3
  z3 := Tryd.sizeOf3
  v3 := Tryd.zeroValue3
  t4 := Tryd.underlying4
  a4 := Tryd.isAgg4
  z4 := Tryd.sizeOf4
  v4 := Tryd.zeroValue4
  t5 := Tryd.underlying5
  a5 := Tryd.isAgg5
  z5 := Tryd.sizeOf5
  v5 := Tryd.zeroValue5
  t9 := Tryd.underlying9
  a9 := Tryd.isAgg9
  z9 := Tryd.sizeOf9
  v9 := Tryd.zeroValue9
  t26 := Tryd.underlying44
  a26 := Tryd.isAgg44
  z26 := Tryd.sizeOf44
  v26 := Tryd.zeroValue44
  t27 := Tryd.underlying44
  a27 := Tryd.isAgg44
  z27 := Tryd.sizeOf44
  v27 := Tryd.zeroValue44
  t29 := Tryd.underlying9
  a29 := Tryd.isAgg9
  z29 := Tryd.sizeOf9
  v29 := Tryd.zeroValue9
  t32 := Tryd.underlying128
  a32 := Tryd.isAgg128
  z32 := Tryd.sizeOf128
  v32 := Tryd.zeroValue128
  t35 := Tryd.underlying180
  a35 := Tryd.isAgg180
  z35 := Tryd.sizeOf180
  v35 := Tryd.zeroValue180
  t36 := Tryd.underlying181
  a36 := Tryd.isAgg181
  z36 := Tryd.sizeOf181
  v36 := Tryd.zeroValue181
  t41 := Tryd.underlying185
  a41 := Tryd.isAgg185
  z41 := Tryd.sizeOf185
  v41 := Tryd.zeroValue185
  t44 := Tryd.underlying33
  a44 := Tryd.isAgg33
  z44 := Tryd.sizeOf33
  v44 := Tryd.zeroValue33
  t46 := Tryd.underlying130
  a46 := Tryd.isAgg130
  z46 := Tryd.sizeOf130
  v46 := Tryd.zeroValue130
  t53 := Tryd.underlying191
  a53 := Tryd.isAgg191
  z53 := Tryd.sizeOf191
  v53 := Tryd.zeroValue191
  t57 := Tryd.underlying195
  a57 := Tryd.isAgg195
  z57 := Tryd.sizeOf195
  v57 := Tryd.zeroValue195
  t63 := Tryd.underlying200
  a63 := Tryd.isAgg200
  z63 := Tryd.sizeOf200
  v63 := Tryd.zeroValue200
  t64 := Tryd.underlying201
  a64 := Tryd.isAgg201
  z64 := Tryd.sizeOf201
  v64 := Tryd.zeroValue201 }
/-- slices.Sort's two contracts at this dump, at the fence that asks nothing. -/
theorem Tryd.sorts100 (m : Nat) : AnyZ.SortsIn Tryd.prog Tryd.sorted100_ren Fence.wide m :=
  ⟨fun blk off cap ss W hH hblk hsz => callsIn_wide.2 (AnyM.slices_Sort_string Tryd.sort113 blk off cap ss W hH hblk hsz),
   fun p cap W => callsIn_wide.2 (AnyM.slices_Sort_string_none Tryd.sort113 p cap W)⟩

/-- **maps.Keys[map[string]uint32,string,uint32], at whatever map, the nil one too:** a function value over ONE NEW BLOCK, which holds the map. -/
theorem Tryd.maps_Keys_101 (mb : Option Nat) (W : World) : CallsIn Fence.wide 5 Tryd.prog 101 #[.map mb] W fun e w' => e = .returned (.func (.func 114) #[] #[.pointer (some ⟨W.heap.size, 0, none⟩)]) ∧ w' = W.alloc (.cells #[.map mb] 78) :=
  AnyZ.keys_in Tryd.keys101 Fence.wide 5 trivial rfl mb W

/-- **slices.Sorted[string] AT WHAT maps.Keys[map[string]uint32,string,uint32] HANDED BACK FOR A MAP THAT IS NOT nil** ('w': the world AHEAD of maps.Keys' call): A NEW SLICE THAT HOLDS THE MAP's KEYS, SORTED; nil just where it has none; nothing that lay before has turned. -/
theorem Tryd.slices_Sorted_keys_100_101 {H : Type} (b nn : Nat) (D0 : DataW H) (R : Value → Option (DataW H × List MemPlace)) (w : World) (hown : w.ownsMap Tryd.prog 9 R b nn D0) (hmax : Maps.size D0 ≤ maxLen) (hbytes : Maps.size D0 * 16 ≤ 140737488355328) :
    CallsIn Fence.wide 5 Tryd.prog 100 #[.func (.func 114) #[] #[.pointer (some ⟨w.heap.size, 0, none⟩)]] (w.alloc (.cells #[.map (some b)] 78)) fun e w' => ∃ (v : Value) (ss : List (List UInt8)), e = .returned v ∧ ss.Perm (strKeys D0) ∧
      w'.ownsRow (w.alloc (.cells #[.map (some b)] 78)).heap.size 9 1 v ss.length ((ss.mergeSort (fun x y => decide (x ≤ y))).map encStr) ∧ (v = .slice none 0 0 ↔ ss = []) ∧ Below (w.alloc (.cells #[.map (some b)] 78)).heap.size (w.alloc (.cells #[.map (some b)] 78)) w' := by
  have hbl := hown.lt
  have hseq : SeqGives Fence.wide 2 Tryd.prog 114 #[.pointer (some ⟨w.heap.size, 0, none⟩)] encStr (fun ss => ss.Perm (strKeys D0)) (Maps.size D0) (w.alloc (.cells #[.map (some b)] 78)) :=
    AnyZ.keys_gives (ρ := Tryd.keys101_ren) { Tryd.keys101 with } Fence.wide _ trivial rfl (by omega) w.heap.size b nn D0 _ (by simp) (by simp) (by
      obtain ⟨es, clock, hb, Ft, hs, hD⟩ := hown
      exact ⟨es, clock, (Below.heap_alloc _ _ b hbl).trans hb, Ft, hs, hD⟩)
  exact AnyZ.sorted_in Tryd.sorted100 Fence.wide 5 trivial trivial trivial trivial rfl (by omega) (Tryd.sorts100 _) (enters_of Tryd.func113 (by kernel_rfl) rfl) 114 #[.pointer (some ⟨w.heap.size, 0, none⟩)] trivial (enters_of Tryd.func114 (by kernel_rfl) rfl) _ _ hmax hbytes _ hseq

/-- **.. AND FOR THE nil MAP: nil.** -/
theorem Tryd.slices_Sorted_keys_nil_100_101 (w : World) :
    CallsIn Fence.wide 5 Tryd.prog 100 #[.func (.func 114) #[] #[.pointer (some ⟨w.heap.size, 0, none⟩)]] (w.alloc (.cells #[.map none] 78)) fun e w' => ∃ (v : Value) (ss : List (List UInt8)), e = .returned v ∧ ss = [] ∧
      w'.ownsRow (w.alloc (.cells #[.map none] 78)).heap.size 9 1 v ss.length ((ss.mergeSort (fun x y => decide (x ≤ y))).map encStr) ∧ (v = .slice none 0 0 ↔ ss = []) ∧ Below (w.alloc (.cells #[.map none] 78)).heap.size (w.alloc (.cells #[.map none] 78)) w' := by
  have hseq : SeqGives Fence.wide 2 Tryd.prog 114 #[.pointer (some ⟨w.heap.size, 0, none⟩)] encStr (fun ss : List (List UInt8) => ss = []) 0 (w.alloc (.cells #[.map none] 78)) :=
    AnyZ.keys_gives_nil (ρ := Tryd.keys101_ren) { Tryd.keys101 with } Fence.wide _ trivial rfl w.heap.size _ (by simp) (by simp)
  exact AnyZ.sorted_in Tryd.sorted100 Fence.wide 5 trivial trivial trivial trivial rfl (by omega) (Tryd.sorts100 _) (enters_of Tryd.func113 (by kernel_rfl) rfl) 114 #[.pointer (some ⟨w.heap.size, 0, none⟩)] trivial (enters_of Tryd.func114 (by kernel_rfl) rfl) _ 0 (Nat.zero_le _) (by omega) _ hseq

end Go.Proofs

set_option linter.unusedVariables false
set_option maxRecDepth 100000
namespace Go.Proofs
open Go.Shelf
def Tryd.lays156_ren : Go.Shelf.Ren := ⟨fun | 156 => 89 | 165 => 103 | 166 => 104 | 169 => 105 | 240 => 119 | 241 => 120 | 276 => 138 | 277 => 139 | n => n, fun | 31 => 44 | 9 => 9 | 3 => 3 | 4 => 4 | 0 => 0 | 20 => 20 | 72 => 144 | 76 => 145 | 70 => 141 | 37 => 142 | 75 => 133 | 127 => 156 | 164 => 170 | 5 => 5 | 80 => 147 | n => n, fun | n => n⟩
theorem Tryd.lays156 : Go.Proofs.Lays.n156 Tryd.prog Tryd.lays156_ren := {
  mixed := by kernel_rfl
  f156 := Tryd.func89.trans (congrArg some (by kernel_rfl))
  f165 := Tryd.func103.trans (congrArg some (by kernel_rfl))
  f166 := Tryd.func104.trans (congrArg some (by kernel_rfl))
  f169 := Tryd.func105.trans (congrArg some (by kernel_rfl))
  f240 := Tryd.func119.trans (congrArg some (by kernel_rfl))
  f241 := Tryd.func120.trans (congrArg some (by kernel_rfl))
  f276 := Tryd.func138.trans (congrArg some (by kernel_rfl))
  f277 := Tryd.func139.trans (congrArg some (by kernel_rfl))
  t0 := Tryd.underlying0
  a0 := Tryd.isAgg0
  z0 := Tryd.sizeOf0
  v0 := Tryd.zeroValue0
  t3 := Tryd.underlying3
  a3 := Tryd.isAgg3
  z3 := Tryd.sizeOf3
  v3 := Tryd.zeroValue3
  t4 := Tryd.underlying4
  a4 := Tryd.isAgg4
  z4 := Tryd.sizeOf4
  v4 := Tryd.zeroValue4
  t9 := Tryd.underlying9
  a9 := Tryd.isAgg9
  z9 := Tryd.sizeOf9
  v9 := Tryd.zeroValue9
  t20 := Tryd.underlying20
  a20 := Tryd.isAgg20
  z20 := Tryd.sizeOf20
  v20 := Tryd.zeroValue20
  t31 := Tryd.underlying44
  a31 := Tryd.isAgg44
  z31 := Tryd.sizeOf44
  v31 := Tryd.zeroValue44
  t37 := Tryd.underlying142
  a37 := Tryd.isAgg142
  z37 := Tryd.sizeOf142
  v37 := Tryd.zeroValue142
  t70 := Tryd.underlying141
  a70 := Tryd.isAgg141
  z70 := Tryd.sizeOf141
  v70 := Tryd.zeroValue141
  t72 := Tryd.underlying144
  a72 := Tryd.isAgg144
  z72 := Tryd.sizeOf144
  v72 := Tryd.zeroValue144
  t75 := Tryd.underlying133
  a75 := Tryd.isAgg133
  z75 := Tryd.sizeOf133
  v75 := Tryd.zeroValue133
  t76 := Tryd.underlying145
  a76 := Tryd.isAgg145
  z76 := Tryd.sizeOf145
  v76 := Tryd.zeroValue145
  t127 := Tryd.underlying156
  a127 := Tryd.isAgg156
  z127 := Tryd.sizeOf156
  v127 := Tryd.zeroValue156
  t164 := Tryd.underlying170
  a164 := Tryd.isAgg170
  z164 := Tryd.sizeOf170
  v164 := Tryd.zeroValue170 }
theorem Tryd.Builder_Extra_156 : Builder.Extra Tryd.prog Tryd.lays156_ren := {
  sizeBuilder := by kernel_rfl
  liesBuilder := by kernel_rfl
  t5 := Tryd.underlying5
  a5 := Tryd.isAgg5
  z5 := Tryd.sizeOf5
  v5 := Tryd.zeroValue5
  infoByte := by kernel_rfl
  cellsByte := by kernel_rfl
  sizeByte := by kernel_rfl
  neB5 := by decide }
open Go.RowKit in
theorem Tryd.strings_Join_none (a : Option Addr) (c : Nat) (sep : ByteArray) (w : World) :
    Calls Tryd.prog 89 #[.slice a 0 c, .string sep] w fun e w' => e = .returned (.string ⟨#[]⟩) ∧ w' = w := Any.strings_Join_none Tryd.lays156 Tryd.Builder_Extra_156 a c sep w
open Go.RowKit in
theorem Tryd.strings_Join (bk o c : Nat) (xs : List ByteArray) (sep : ByteArray) (w : World) (hcells : ∀ (j : Nat) x, xs[j]? = some x → w.cell? ⟨bk, o + j, none⟩ = some (.string x)) (hbk : bk < w.heap.size) (hN : xs.length ≤ 140737488355328) (hcap : xs.length ≤ c) (hlen : (Lib.join (xs.map (·.data.toList)) sep.data.toList).length ≤ 140737488355328) :
    Calls Tryd.prog 89 #[.slice (some ⟨bk, o, none⟩) xs.length c, .string sep] w fun e w' => e = .returned (.string ⟨(Lib.join (xs.map (·.data.toList)) sep.data.toList).toArray⟩) ∧ Below w.heap.size w w' := Any.strings_Join Tryd.lays156 Tryd.Builder_Extra_156 bk o c xs sep w hcells hbk hN hcap hlen
def Tryd.lays283_ren : Go.Shelf.Ren := ⟨fun | 283 => 115 | n => n, fun | 3 => 3 | 9 => 9 | 4 => 4 | n => n, fun | n => n⟩
theorem Tryd.lays283 : Go.Proofs.Lays.n283 Tryd.prog Tryd.lays283_ren := {
  mixed := by kernel_rfl
  f283 := Tryd.func115.trans (congrArg some (by kernel_rfl))
  t3 := Tryd.underlying3
  a3 := Tryd.isAgg3
  z3 := Tryd.sizeOf3
  v3 := Tryd.zeroValue3
  t4 := Tryd.underlying4
  a4 := Tryd.isAgg4
  z4 := Tryd.sizeOf4
  v4 := Tryd.zeroValue4
  t9 := Tryd.underlying9
  a9 := Tryd.isAgg9
  z9 := Tryd.sizeOf9
  v9 := Tryd.zeroValue9 }
open Go.Lib in
theorem Tryd.internal_strconv_small (i : Nat) (h : i < 100) (w : World) :
    Calls Tryd.prog 115 #[.int .i64 i] w fun e w' => e = .returned (.string ⟨(Lib.decDigits i).toArray⟩) ∧ w' = w := Any.internal_strconv_small Tryd.lays283 i h w
def Tryd.laysM284_ren : Go.Shelf.Ren := ⟨fun | 284 => 116 | 129 => 134 | 317 => 133 | 318 => 135 | n => n, fun | 53 => 130 | 3 => 3 | 212 => 167 | 0 => 0 | 4 => 4 | 46 => 128 | 5 => 5 | 9 => 9 | n => n, fun | 17 => 1 | n => n⟩
theorem Tryd.laysM284 : Go.Proofs.LaysM.n284 Tryd.prog Tryd.laysM284_ren := {
  mixed := by kernel_rfl
  f129 := Tryd.func134.trans (congrArg some (by kernel_rfl))
  f284 := Tryd.func116.trans (congrArg some (by kernel_rfl))
  f317 := Tryd.func133.trans (congrArg some (by kernel_rfl))
  f318 := Tryd.func135.trans (congrArg some (by kernel_rfl))
  t0 := Tryd.underlying0
  a0 := Tryd.isAgg0
  z0 := Tryd.sizeOf0
  v0 := Tryd.zeroValue0
  t3 := Tryd.underlying3
  a3 := Tryd.isAgg3
  z3 := Tryd.sizeOf3
  v3 := Tryd.zeroValue3
  t4 := Tryd.underlying4
  a4 := Tryd.isAgg4
  z4 := Tryd.sizeOf4
  v4 := Tryd.zeroValue4
  t5 := Tryd.underlying5
  a5 := Tryd.isAgg5
  z5 := Tryd.sizeOf5
  v5 := Tryd.zeroValue5
  t9 := Tryd.underlying9
  a9 := Tryd.isAgg9
  z9 := Tryd.sizeOf9
  v9 := Tryd.zeroValue9
  t46 := Tryd.underlying128
  a46 := Tryd.isAgg128
  z46 := Tryd.sizeOf128
  v46 := Tryd.zeroValue128
  t53 := Tryd.underlying130
  a53 := Tryd.isAgg130
  z53 := Tryd.sizeOf130
  v53 := Tryd.zeroValue130
  t212 := Tryd.underlying167
  a212 := Tryd.isAgg167
  z212 := Tryd.sizeOf167
  v212 := Tryd.zeroValue167
  g17 := by kernel_rfl
  i0 := by kernel_rfl
  i3 := by kernel_rfl
  i4 := by kernel_rfl
  i5 := by kernel_rfl
  i9 := by kernel_rfl
  i46 := by kernel_rfl
  i53 := by kernel_rfl
  i212 := by kernel_rfl
  m17 := by kernel_rfl }
def Tryd.lays285_ren : Go.Shelf.Ren := ⟨fun | 285 => 117 | n => n, fun | 37 => 142 | 53 => 130 | 3 => 3 | 4 => 4 | 51 => 33 | 9 => 9 | 5 => 5 | 0 => 0 | n => n, fun | n => n⟩
theorem Tryd.lays285 : Go.Proofs.Lays.n285 Tryd.prog Tryd.lays285_ren := {
  mixed := by kernel_rfl
  f285 := Tryd.func117.trans (congrArg some (by kernel_rfl))
  t0 := Tryd.underlying0
  a0 := Tryd.isAgg0
  z0 := Tryd.sizeOf0
  v0 := Tryd.zeroValue0
  t3 := Tryd.underlying3
  a3 := Tryd.isAgg3
  z3 := Tryd.sizeOf3
  v3 := Tryd.zeroValue3
  t4 := Tryd.underlying4
  a4 := Tryd.isAgg4
  z4 := Tryd.sizeOf4
  v4 := Tryd.zeroValue4
  t5 := Tryd.underlying5
  a5 := Tryd.isAgg5
  z5 := Tryd.sizeOf5
  v5 := Tryd.zeroValue5
  t9 := Tryd.underlying9
  a9 := Tryd.isAgg9
  z9 := Tryd.sizeOf9
  v9 := Tryd.zeroValue9
  t37 := Tryd.underlying142
  a37 := Tryd.isAgg142
  z37 := Tryd.sizeOf142
  v37 := Tryd.zeroValue142
  t51 := Tryd.underlying33
  a51 := Tryd.isAgg33
  z51 := Tryd.sizeOf33
  v51 := Tryd.zeroValue33
  t53 := Tryd.underlying130
  a53 := Tryd.isAgg130
  z53 := Tryd.sizeOf130
  v53 := Tryd.zeroValue130 }
open Go.RowKit Go.Sort Go.Lib in
theorem Tryd.internal_strconv_formatBase10 (blk off cap : Nat) (u : Nat) (d : Array UInt8) (w : World) (hH : Holds (fun (b : UInt8) => Value.int .u8 (b.toNat : Int)) w blk off d) (hu : u < 10 ^ d.size) (hu64 : u < 18446744073709551616) (hsz : d.size < 4611686018427387904) :
    Calls Tryd.prog 117 #[.slice (some ⟨blk, off, none⟩) d.size cap, .int .u64 u] w fun e w' =>
      e = .returned (.tuple #[]) ∧ ∃ (n v' : Nat) (dk : Array UInt8), w' = (putRow (fun (b : UInt8) => Value.int .u8 (b.toNat : Int)) w blk off dk).drewN n ∧ FmtInv d.size u 0 v' dk := Any.internal_strconv_formatBase10 Tryd.lays285 blk off cap u d w hH hu hu64 hsz
def Tryd.lays145_ren : Go.Shelf.Ren := ⟨fun | 145 => 77 | 220 => 95 | 219 => 110 | 217 => 91 | 225 => 127 | 224 => 128 | 267 => 129 | 266 => 106 | 314 => 143 | n => n, fun | 9 => 9 | 4 => 4 | 59 => 114 | 3 => 3 | 5 => 5 | 46 => 128 | 146 => 177 | 51 => 33 | n => n, fun | 1 => 0 | n => n⟩
theorem Tryd.lays145 : Go.Proofs.Lays.n145 Tryd.prog Tryd.lays145_ren := {
  mixed := by kernel_rfl
  f145 := Tryd.func77.trans (congrArg some (by kernel_rfl))
  f217 := Tryd.func91.trans (congrArg some (by kernel_rfl))
  f219 := Tryd.func110.trans (congrArg some (by kernel_rfl))
  f220 := Tryd.func95.trans (congrArg some (by kernel_rfl))
  f224 := Tryd.func128.trans (congrArg some (by kernel_rfl))
  f225 := Tryd.func127.trans (congrArg some (by kernel_rfl))
  f266 := Tryd.func106.trans (congrArg some (by kernel_rfl))
  f267 := Tryd.func129.trans (congrArg some (by kernel_rfl))
  f314 := Tryd.func143.trans (congrArg some (by kernel_rfl))
  t3 := Tryd.underlying3
  a3 := Tryd.isAgg3
  z3 := Tryd.sizeOf3
  v3 := Tryd.zeroValue3
  t4 := Tryd.underlying4
  a4 := Tryd.isAgg4
  z4 := Tryd.sizeOf4
  v4 := Tryd.zeroValue4
  t5 := Tryd.underlying5
  a5 := Tryd.isAgg5
  z5 := Tryd.sizeOf5
  v5 := Tryd.zeroValue5
  t9 := Tryd.underlying9
  a9 := Tryd.isAgg9
  z9 := Tryd.sizeOf9
  v9 := Tryd.zeroValue9
  t46 := Tryd.underlying128
  a46 := Tryd.isAgg128
  z46 := Tryd.sizeOf128
  v46 := Tryd.zeroValue128
  t51 := Tryd.underlying33
  a51 := Tryd.isAgg33
  z51 := Tryd.sizeOf33
  v51 := Tryd.zeroValue33
  t59 := Tryd.underlying114
  a59 := Tryd.isAgg114
  z59 := Tryd.sizeOf114
  v59 := Tryd.zeroValue114
  t146 := Tryd.underlying177
  a146 := Tryd.isAgg177
  z146 := Tryd.sizeOf177
  v146 := Tryd.zeroValue177
  g1 := by kernel_rfl }
open Go.RowKit Go.Lib in
theorem Tryd.strings_Cut (s sep : ByteArray) (m : Int) (w : World) (hs : s.size < 4294967281) (hm : w.cell? ⟨0, 0, none⟩ = some (.int .i64 m)) :
    Calls Tryd.prog 77 #[.string s, .string sep] w fun e w' => e = .returned (.tuple #[.string ⟨(Lib.cut s.data.toList sep.data.toList).1.toArray⟩, .string ⟨(Lib.cut s.data.toList sep.data.toList).2.1.toArray⟩, .bool (Lib.cut s.data.toList sep.data.toList).2.2]) ∧ ∃ n, w' = w.drewN n := Any.strings_Cut Tryd.lays145 s sep m w hs hm
end Go.Proofs
