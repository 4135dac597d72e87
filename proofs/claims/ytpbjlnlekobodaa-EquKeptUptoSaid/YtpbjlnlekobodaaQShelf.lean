/- Part of the proof. No condition. -/
import Derived.Shelf.SlIter.Nil
import Derived.Shelf.SortM.Plain
import Derived.Shelf.SortM.SortNone
import Derived.Ground.GgzProg
import Derived.Ground.SlgmProg
import Derived.Test.YtpbjlnlekobodaaProg
set_option linter.unusedVariables false
set_option linter.unusedSimpArgs false
set_option linter.deprecated false
set_option maxRecDepth 100000
namespace Go.Proofs
open Go.RowKit Go.Maps Go.Sort Go.Shelf
def Try.keys101_ren : Go.Shelf.Ren := ⟨fun | 7 => 43 | 10 => 48 | n => n, fun | 23 => 31 | 26 => 9 | 3 => 34 | 28 => 87 | 0 => 0 | 27 => 86 | 33 => 63 | 4 => 4 | n => n, fun | n => n⟩
theorem Try.keys101 : Go.Proofs.SlLaysZ.n7 Try.prog Try.keys101_ren := {
  mixed := by kernel_rfl
  f7 := ⟨Try.f43.name, by decide, Try.func43.trans (congrArg some (by kernel_rfl))⟩
  f10 := ⟨Try.f48.name, by decide, Try.func48.trans (congrArg some (by kernel_rfl))⟩
  t0 := Try.underlying0
  a0 := Try.isAgg0
  z0 := Try.sizeOf0
  v0 := Try.zeroValue0
  t4 := Try.underlying4
  a4 := Try.isAgg4
  z4 := Try.sizeOf4
  v4 := Try.zeroValue4
  t23 := Try.underlying31
  a23 := Try.isAgg31
  z23 := Try.sizeOf31
  v23 := Try.zeroValue31
  t26 := Try.underlying9
  a26 := Try.isAgg9
  z26 := Try.sizeOf9
  v26 := Try.zeroValue9
  t27 := Try.underlying86
  a27 := Try.isAgg86
  z27 := Try.sizeOf86
  v27 := Try.zeroValue86
  t28 := Try.underlying87
  a28 := Try.isAgg87
  z28 := Try.sizeOf87
  v28 := Try.zeroValue87
  t33 := Try.underlying63
  a33 := Try.isAgg63
  z33 := Try.sizeOf63
  v33 := Try.zeroValue63 }
def Try.sorted100_ren : Go.Shelf.Ren := ⟨fun | 6 => 42 | 8 => 47 | 9 => 30 | 11 => 60 | 13 => 45 | 12 => 44 | 23 => 58 | 24 => 59 | 14 => 49 | 15 => 50 | 16 => 51 | 17 => 52 | 18 => 53 | 19 => 54 | 20 => 55 | 21 => 56 | 22 => 57 | 25 => 61 | 26 => 62 | 27 => 63 | 28 => 64 | 29 => 65 | 30 => 66 | 31 => 67 | n => n, fun | 26 => 9 | 28 => 87 | 24 => 29 | 0 => 0 | 3 => 3 | 37 => 79 | 48 => 34 | 50 => 106 | 4 => 4 | 40 => 98 | 39 => 97 | 45 => 70 | 5 => 5 | 9 => 9 | 51 => 108 | 55 => 112 | 57 => 114 | 58 => 115 | 33 => 63 | n => n, fun | n => n⟩
theorem Try.sorted100 : Go.Proofs.SlLaysZ.n6 Try.prog Try.sorted100_ren := {
  mixed := by kernel_rfl
  f6 := ⟨Try.f42.name, by decide, Try.func42.trans (congrArg some (by kernel_rfl))⟩
  f8 := ⟨Try.f47.name, by decide, Try.func47.trans (congrArg some (by kernel_rfl))⟩
  f11 := ⟨Try.f60.name, by decide, Try.func60.trans (congrArg some (by kernel_rfl))⟩
  t0 := Try.underlying0
  a0 := Try.isAgg0
  z0 := Try.sizeOf0
  v0 := Try.zeroValue0
  t24 := Try.underlying29
  a24 := Try.isAgg29
  z24 := Try.sizeOf29
  v24 := Try.zeroValue29
  t26 := Try.underlying9
  a26 := Try.isAgg9
  z26 := Try.sizeOf9
  v26 := Try.zeroValue9
  t28 := Try.underlying87
  a28 := Try.isAgg87
  z28 := Try.sizeOf87
  v28 := Try.zeroValue87
  i26 := by kernel_rfl }
def Try.sort113_ren : Go.Shelf.Ren := ⟨fun | 6 => 30 | 8 => 45 | 9 => 44 | 19 => 58 | 20 => 59 | 21 => 49 | 22 => 50 | 23 => 51 | 24 => 52 | 25 => 53 | 26 => 54 | 27 => 55 | 28 => 56 | 29 => 57 | 36 => 61 | 31 => 62 | 32 => 63 | 37 => 64 | 38 => 65 | 39 => 66 | 41 => 67 | n => n, fun | 27 => 29 | 29 => 9 | 3 => 3 | 32 => 79 | 26 => 29 | 0 => 0 | 44 => 34 | 46 => 106 | 4 => 4 | 36 => 98 | 35 => 97 | 41 => 70 | 5 => 5 | 9 => 9 | 53 => 108 | 57 => 112 | 63 => 114 | 64 => 115 | n => n, fun | n => n⟩
theorem Try.sort113 : Go.Proofs.SlLaysM.n6 Try.prog Try.sort113_ren := {
  mixed := by kernel_rfl
  f6 := ⟨Try.f30.name, by decide, Try.func30.trans (congrArg some (by kernel_rfl))⟩
  f8 := Try.func45.trans (congrArg some (by kernel_rfl))
  f9 := ⟨Try.f44.name, by decide, Try.func44.trans (congrArg some (by kernel_rfl))⟩
  f19 := Try.func58.trans (congrArg some (by kernel_rfl))
  f20 := Try.func59.trans (congrArg some (by kernel_rfl))
  f21 := ⟨Try.f49.name, by decide, Try.func49.trans (congrArg some (by kernel_rfl))⟩
  f22 := ⟨Try.f50.name, by decide, Try.func50.trans (congrArg some (by kernel_rfl))⟩
  f23 := ⟨Try.f51.name, by decide, Try.func51.trans (congrArg some (by kernel_rfl))⟩
  f24 := ⟨Try.f52.name, by decide, Try.func52.trans (congrArg some (by kernel_rfl))⟩
  f25 := ⟨Try.f53.name, by decide, Try.func53.trans (congrArg some (by kernel_rfl))⟩
  f26 := ⟨Try.f54.name, by decide, Try.func54.trans (congrArg some (by kernel_rfl))⟩
  f27 := ⟨Try.f55.name, by decide, Try.func55.trans (congrArg some (by kernel_rfl))⟩
  f28 := ⟨Try.f56.name, by decide, Try.func56.trans (congrArg some (by kernel_rfl))⟩
  f29 := ⟨Try.f57.name, by decide, Try.func57.trans (congrArg some (by kernel_rfl))⟩
  f31 := Try.func62.trans (congrArg some (by kernel_rfl))
  f32 := Try.func63.trans (congrArg some (by kernel_rfl))
  f36 := ⟨Try.f61.name, by decide, Try.func61.trans (congrArg some (by kernel_rfl))⟩
  f37 := ⟨Try.f64.name, by decide, Try.func64.trans (congrArg some (by kernel_rfl))⟩
  f38 := ⟨Try.f65.name, by decide, Try.func65.trans (congrArg some (by kernel_rfl))⟩
  f39 := ⟨Try.f66.name, by decide, Try.func66.trans (congrArg some (by kernel_rfl))⟩
  f41 := ⟨Try.f67.name, by decide, Try.func67.trans (congrArg some (by kernel_rfl))⟩
  t0 := Try.underlying0
  a0 := Try.isAgg0
  z0 := Try.sizeOf0
  v0 := Try.zeroValue0
  t3 := Try.underlying3
  a3 := Try.isAgg3
  z3 := Try.sizeOf3
  v3 := Try.zeroValue3
  t4 := Try.underlying4
  a4 := Try.isAgg4
  z4 := Try.sizeOf4
  v4 := Try.zeroValue4
  t5 := Try.underlying5
  a5 := Try.isAgg5
  z5 := Try.sizeOf5
  v5 := Try.zeroValue5
  t9 := Try.underlying9
  a9 := Try.isAgg9
  z9 := Try.sizeOf9
  v9 := Try.zeroValue9
  t26 := Try.underlying29
  a26 := Try.isAgg29
  z26 := Try.sizeOf29
  v26 := Try.zeroValue29
  t27 := Try.underlying29
  a27 := Try.isAgg29
  z27 := Try.sizeOf29
  v27 := Try.zeroValue29
  t29 := Try.underlying9
  a29 := Try.isAgg9
  z29 := Try.sizeOf9
  v29 := Try.zeroValue9
  t32 := Try.underlying79
  a32 := Try.isAgg79
  z32 := Try.sizeOf79
  v32 := Try.zeroValue79
  t35 := Try.underlying97
  a35 := Try.isAgg97
  z35 := Try.sizeOf97
  v35 := Try.zeroValue97
  t36 := Try.underlying98
  a36 := Try.isAgg98
  z36 := Try.sizeOf98
  v36 := Try.zeroValue98
  t41 := Try.underlying70
  a41 := Try.isAgg70
  z41 := Try.sizeOf70
  v41 := Try.zeroValue70
  t44 := Try.underlying34
  a44 := Try.isAgg34
  z44 := Try.sizeOf34
  v44 := Try.zeroValue34
  t46 := Try.underlying106
  a46 := Try.isAgg106
  z46 := Try.sizeOf106
  v46 := Try.zeroValue106
  t53 := Try.underlying108
  a53 := Try.isAgg108
  z53 := Try.sizeOf108
  v53 := Try.zeroValue108
  t57 := Try.underlying112
  a57 := Try.isAgg112
  z57 := Try.sizeOf112
  v57 := Try.zeroValue112
  t63 := Try.underlying114
  a63 := Try.isAgg114
  z63 := Try.sizeOf114
  v63 := Try.zeroValue114
  t64 := Try.underlying115
  a64 := Try.isAgg115
  z64 := Try.sizeOf115
  v64 := Try.zeroValue115 }
/-- slices.Sort's two contracts at this dump, at the fence that asks nothing. -/
theorem Try.sorts100 (m : Nat) : AnyZ.SortsIn Try.prog Try.sorted100_ren Fence.wide m :=
  ⟨fun blk off cap ss W hH hblk hsz => callsIn_wide.2 (AnyM.slices_Sort_string Try.sort113 blk off cap ss W hH hblk hsz),
   fun p cap W => callsIn_wide.2 (AnyM.slices_Sort_string_none Try.sort113 p cap W)⟩

/-- **maps.Keys[map[string]uint32,string,uint32], at whatever map, the nil one too:** a function value over ONE NEW BLOCK, which holds the map. -/
theorem Try.maps_Keys_101 (mb : Option Nat) (W : World) : CallsIn Fence.wide 5 Try.prog 43 #[.map mb] W fun e w' => e = .returned (.func (.func 48) #[] #[.pointer (some ⟨W.heap.size, 0, none⟩)]) ∧ w' = W.alloc (.cells #[.map mb] 31) :=
  AnyZ.keys_in Try.keys101 Fence.wide 5 trivial rfl mb W

/-- **slices.Sorted[string] AT WHAT maps.Keys[map[string]uint32,string,uint32] HANDED BACK FOR A MAP THAT IS NOT nil** ('w': the world AHEAD of maps.Keys' call): A NEW SLICE THAT HOLDS THE MAP's KEYS, SORTED; nil just where it has none; nothing that lay before has turned. -/
theorem Try.slices_Sorted_keys_100_101 {H : Type} (b nn : Nat) (D0 : DataW H) (R : Value → Option (DataW H × List MemPlace)) (w : World) (hown : w.ownsMap Try.prog 9 R b nn D0) (hmax : Maps.size D0 ≤ maxLen) (hbytes : Maps.size D0 * 16 ≤ 140737488355328) :
    CallsIn Fence.wide 5 Try.prog 42 #[.func (.func 48) #[] #[.pointer (some ⟨w.heap.size, 0, none⟩)]] (w.alloc (.cells #[.map (some b)] 31)) fun e w' => ∃ (v : Value) (ss : List (List UInt8)), e = .returned v ∧ ss.Perm (strKeys D0) ∧
      w'.ownsRow (w.alloc (.cells #[.map (some b)] 31)).heap.size 9 1 v ss.length ((ss.mergeSort (fun x y => decide (x ≤ y))).map encStr) ∧ (v = .slice none 0 0 ↔ ss = []) ∧ Below (w.alloc (.cells #[.map (some b)] 31)).heap.size (w.alloc (.cells #[.map (some b)] 31)) w' := by
  have hbl := hown.lt
  have hseq : SeqGives Fence.wide 2 Try.prog 48 #[.pointer (some ⟨w.heap.size, 0, none⟩)] encStr (fun ss => ss.Perm (strKeys D0)) (Maps.size D0) (w.alloc (.cells #[.map (some b)] 31)) :=
    AnyZ.keys_gives (ρ := Try.keys101_ren) { Try.keys101 with } Fence.wide _ trivial rfl (by omega) w.heap.size b nn D0 _ (by simp) (by simp) (by
      obtain ⟨es, clock, hb, Ft, hs, hD⟩ := hown
      exact ⟨es, clock, (Below.heap_alloc _ _ b hbl).trans hb, Ft, hs, hD⟩)
  exact AnyZ.sorted_in Try.sorted100 Fence.wide 5 trivial trivial trivial trivial rfl (by omega) (Try.sorts100 _) (enters_of Try.func30 (by kernel_rfl) rfl) 48 #[.pointer (some ⟨w.heap.size, 0, none⟩)] trivial (enters_of Try.func48 (by kernel_rfl) rfl) _ _ hmax hbytes _ hseq

/-- **.. AND FOR THE nil MAP: nil.** -/
theorem Try.slices_Sorted_keys_nil_100_101 (w : World) :
    CallsIn Fence.wide 5 Try.prog 42 #[.func (.func 48) #[] #[.pointer (some ⟨w.heap.size, 0, none⟩)]] (w.alloc (.cells #[.map none] 31)) fun e w' => ∃ (v : Value) (ss : List (List UInt8)), e = .returned v ∧ ss = [] ∧
      w'.ownsRow (w.alloc (.cells #[.map none] 31)).heap.size 9 1 v ss.length ((ss.mergeSort (fun x y => decide (x ≤ y))).map encStr) ∧ (v = .slice none 0 0 ↔ ss = []) ∧ Below (w.alloc (.cells #[.map none] 31)).heap.size (w.alloc (.cells #[.map none] 31)) w' := by
  have hseq : SeqGives Fence.wide 2 Try.prog 48 #[.pointer (some ⟨w.heap.size, 0, none⟩)] encStr (fun ss : List (List UInt8) => ss = []) 0 (w.alloc (.cells #[.map none] 31)) :=
    AnyZ.keys_gives_nil (ρ := Try.keys101_ren) { Try.keys101 with } Fence.wide _ trivial rfl w.heap.size _ (by simp) (by simp)
  exact AnyZ.sorted_in Try.sorted100 Fence.wide 5 trivial trivial trivial trivial rfl (by omega) (Try.sorts100 _) (enters_of Try.func30 (by kernel_rfl) rfl) 48 #[.pointer (some ⟨w.heap.size, 0, none⟩)] trivial (enters_of Try.func48 (by kernel_rfl) rfl) _ 0 (Nat.zero_le _) (by omega) _ hseq

end Go.Proofs
