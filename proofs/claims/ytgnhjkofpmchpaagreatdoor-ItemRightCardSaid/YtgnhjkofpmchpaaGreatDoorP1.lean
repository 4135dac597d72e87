/- Contracts over heaps, and plain laws, for the functions that the laws of chapter 8 call, part 1: Sums of names, in plain words: lists of terms with rising names are one where ea Condition: as each statement says. -/
import Derived.Test.YtgnhjkofpmchpaaGreatDoorILexT
import Derived.Test.YtgnhjkofpmchpaaGreatDoorSxG
import Derived.Test.YtgnhjkofpmchpaaGreatDoorIExprT
import Derived.Test.YtgnhjkofpmchpaaGreatDoorILexU
import Derived.Test.YtgnhjkofpmchpaaGreatDoorSxU
import Derived.Shelf.SlIter.Nil
import Derived.Shelf.SortM.Plain
import Derived.Shelf.SortM.SortNone
import Derived.Ground.GgzProg
import Derived.Ground.SlgmProg
set_option linter.unusedVariables false
set_option linter.unusedSimpArgs false
set_option linter.deprecated false
set_option maxRecDepth 100000
namespace Go.Proofs
open Go.RowKit Go.Maps Go.Sort Go.Shelf
def Tryz.keys101_ren:Go.Shelf.Ren:=⟨fun | 7=>116 | 10=>123 | n=>n,fun | 23=>173 | 26=>9 | 3=>24 | 28=>184 | 0=>0 | 27=>183 | 33=>60 | 4=>4 | n=>n,fun | n=>n⟩
theorem Tryz.keys101:Go.Proofs.SlLaysZ.n7 Tryz.prog Tryz.keys101_ren:={
 mixed:=by kernel_rfl
 f7:=⟨Tryz.f116.name,by decide,Tryz.func116.trans (congrArg some (by kernel_rfl))⟩
 f10:=⟨Tryz.f123.name,by decide,Tryz.func123.trans (congrArg some (by kernel_rfl))⟩
 t0:=Tryz.underlying0
 a0:=Tryz.isAgg0
 z0:=Tryz.sizeOf0
 v0:=Tryz.zeroValue0
 t4:=Tryz.underlying4
 a4:=Tryz.isAgg4
 z4:=Tryz.sizeOf4
 v4:=Tryz.zeroValue4
 t23:=Tryz.underlying173
 a23:=Tryz.isAgg173
 z23:=Tryz.sizeOf173
 v23:=Tryz.zeroValue173
 t26:=Tryz.underlying9
 a26:=Tryz.isAgg9
 z26:=Tryz.sizeOf9
 v26:=Tryz.zeroValue9
 t27:=Tryz.underlying183
 a27:=Tryz.isAgg183
 z27:=Tryz.sizeOf183
 v27:=Tryz.zeroValue183
 t28:=Tryz.underlying184
 a28:=Tryz.isAgg184
 z28:=Tryz.sizeOf184
 v28:=Tryz.zeroValue184
 t33:=Tryz.underlying60
 a33:=Tryz.isAgg60
 z33:=Tryz.sizeOf60
 v33:=Tryz.zeroValue60 }
def Tryz.sorted100_ren:Go.Shelf.Ren:=⟨fun | 6=>115 | 8=>121 | 9=>122 | 11=>125 | 13=>127 | 12=>126 | 23=>138 | 24=>139 | 14=>129 | 15=>130 | 16=>131 | 17=>132 | 18=>133 | 19=>134 | 20=>135 | 21=>136 | 22=>137 | 25=>144 | 26=>145 | 27=>146 | 28=>147 | 29=>148 | 30=>149 | 31=>154 | n=>n,fun | 26=>9 | 28=>184 | 24=>61 | 0=>0 | 3=>3 | 37=>89 | 48=>24 | 50=>146 | 4=>4 | 40=>204 | 39=>203 | 45=>81 | 5=>5 | 9=>9 | 51=>215 | 55=>219 | 57=>224 | 58=>138 | 33=>60 | n=>n,fun | n=>n⟩
theorem Tryz.sorted100:Go.Proofs.SlLaysZ.n6 Tryz.prog Tryz.sorted100_ren:={
 mixed:=by kernel_rfl
 f6:=⟨Tryz.f115.name,by decide,Tryz.func115.trans (congrArg some (by kernel_rfl))⟩
 f8:=⟨Tryz.f121.name,by decide,Tryz.func121.trans (congrArg some (by kernel_rfl))⟩
 f11:=⟨Tryz.f125.name,by decide,Tryz.func125.trans (congrArg some (by kernel_rfl))⟩
 t0:=Tryz.underlying0
 a0:=Tryz.isAgg0
 z0:=Tryz.sizeOf0
 v0:=Tryz.zeroValue0
 t24:=Tryz.underlying61
 a24:=Tryz.isAgg61
 z24:=Tryz.sizeOf61
 v24:=Tryz.zeroValue61
 t26:=Tryz.underlying9
 a26:=Tryz.isAgg9
 z26:=Tryz.sizeOf9
 v26:=Tryz.zeroValue9
 t28:=Tryz.underlying184
 a28:=Tryz.isAgg184
 z28:=Tryz.sizeOf184
 v28:=Tryz.zeroValue184
 i26:=by kernel_rfl }
def Tryz.sort113_ren:Go.Shelf.Ren:=⟨fun | 6=>122 | 8=>127 | 9=>126 | 19=>138 | 20=>139 | 21=>129 | 22=>130 | 23=>131 | 24=>132 | 25=>133 | 26=>134 | 27=>135 | 28=>136 | 29=>137 | 36=>144 | 31=>145 | 32=>146 | 37=>147 | 38=>148 | 39=>149 | 41=>154 | n=>n,fun | 27=>61 | 29=>9 | 3=>3 | 32=>89 | 26=>61 | 0=>0 | 44=>24 | 46=>146 | 4=>4 | 36=>204 | 35=>203 | 41=>81 | 5=>5 | 9=>9 | 53=>215 | 57=>219 | 63=>224 | 64=>138 | n=>n,fun | n=>n⟩
theorem Tryz.sort113:Go.Proofs.SlLaysM.n6 Tryz.prog Tryz.sort113_ren:={
 mixed:=by kernel_rfl
 f6:=⟨Tryz.f122.name,by decide,Tryz.func122.trans (congrArg some (by kernel_rfl))⟩
 f8:=Tryz.func127.trans (congrArg some (by kernel_rfl))
 f9:=⟨Tryz.f126.name,by decide,Tryz.func126.trans (congrArg some (by kernel_rfl))⟩
 f19:=Tryz.func138.trans (congrArg some (by kernel_rfl))
 f20:=Tryz.func139.trans (congrArg some (by kernel_rfl))
 f21:=⟨Tryz.f129.name,by decide,Tryz.func129.trans (congrArg some (by kernel_rfl))⟩
 f22:=⟨Tryz.f130.name,by decide,Tryz.func130.trans (congrArg some (by kernel_rfl))⟩
 f23:=⟨Tryz.f131.name,by decide,Tryz.func131.trans (congrArg some (by kernel_rfl))⟩
 f24:=⟨Tryz.f132.name,by decide,Tryz.func132.trans (congrArg some (by kernel_rfl))⟩
 f25:=⟨Tryz.f133.name,by decide,Tryz.func133.trans (congrArg some (by kernel_rfl))⟩
 f26:=⟨Tryz.f134.name,by decide,Tryz.func134.trans (congrArg some (by kernel_rfl))⟩
 f27:=⟨Tryz.f135.name,by decide,Tryz.func135.trans (congrArg some (by kernel_rfl))⟩
 f28:=⟨Tryz.f136.name,by decide,Tryz.func136.trans (congrArg some (by kernel_rfl))⟩
 f29:=⟨Tryz.f137.name,by decide,Tryz.func137.trans (congrArg some (by kernel_rfl))⟩
 f31:=Tryz.func145.trans (congrArg some (by kernel_rfl))
 f32:=Tryz.func146.trans (congrArg some (by kernel_rfl))
 f36:=⟨Tryz.f144.name,by decide,Tryz.func144.trans (congrArg some (by kernel_rfl))⟩
 f37:=⟨Tryz.f147.name,by decide,Tryz.func147.trans (congrArg some (by kernel_rfl))⟩
 f38:=⟨Tryz.f148.name,by decide,Tryz.func148.trans (congrArg some (by kernel_rfl))⟩
 f39:=⟨Tryz.f149.name,by decide,Tryz.func149.trans (congrArg some (by kernel_rfl))⟩
 f41:=⟨Tryz.f154.name,by decide,Tryz.func154.trans (congrArg some (by kernel_rfl))⟩
 t0:=Tryz.underlying0
 a0:=Tryz.isAgg0
 z0:=Tryz.sizeOf0
 v0:=Tryz.zeroValue0
 t3:=Tryz.underlying3
 a3:=Tryz.isAgg3
 z3:=Tryz.sizeOf3
 v3:=Tryz.zeroValue3
 t4:=Tryz.underlying4
 a4:=Tryz.isAgg4
 z4:=Tryz.sizeOf4
 v4:=Tryz.zeroValue4
 t5:=Tryz.underlying5
 a5:=Tryz.isAgg5
 z5:=Tryz.sizeOf5
 v5:=Tryz.zeroValue5
 t9:=Tryz.underlying9
 a9:=Tryz.isAgg9
 z9:=Tryz.sizeOf9
 v9:=Tryz.zeroValue9
 t26:=Tryz.underlying61
 a26:=Tryz.isAgg61
 z26:=Tryz.sizeOf61
 v26:=Tryz.zeroValue61
 t27:=Tryz.underlying61
 a27:=Tryz.isAgg61
 z27:=Tryz.sizeOf61
 v27:=Tryz.zeroValue61
 t29:=Tryz.underlying9
 a29:=Tryz.isAgg9
 z29:=Tryz.sizeOf9
 v29:=Tryz.zeroValue9
 t32:=Tryz.underlying89
 a32:=Tryz.isAgg89
 z32:=Tryz.sizeOf89
 v32:=Tryz.zeroValue89
 t35:=Tryz.underlying203
 a35:=Tryz.isAgg203
 z35:=Tryz.sizeOf203
 v35:=Tryz.zeroValue203
 t36:=Tryz.underlying204
 a36:=Tryz.isAgg204
 z36:=Tryz.sizeOf204
 v36:=Tryz.zeroValue204
 t41:=Tryz.underlying81
 a41:=Tryz.isAgg81
 z41:=Tryz.sizeOf81
 v41:=Tryz.zeroValue81
 t44:=Tryz.underlying24
 a44:=Tryz.isAgg24
 z44:=Tryz.sizeOf24
 v44:=Tryz.zeroValue24
 t46:=Tryz.underlying146
 a46:=Tryz.isAgg146
 z46:=Tryz.sizeOf146
 v46:=Tryz.zeroValue146
 t53:=Tryz.underlying215
 a53:=Tryz.isAgg215
 z53:=Tryz.sizeOf215
 v53:=Tryz.zeroValue215
 t57:=Tryz.underlying219
 a57:=Tryz.isAgg219
 z57:=Tryz.sizeOf219
 v57:=Tryz.zeroValue219
 t63:=Tryz.underlying224
 a63:=Tryz.isAgg224
 z63:=Tryz.sizeOf224
 v63:=Tryz.zeroValue224
 t64:=Tryz.underlying138
 a64:=Tryz.isAgg138
 z64:=Tryz.sizeOf138
 v64:=Tryz.zeroValue138 }
theorem Tryz.sorts100 (m : Nat) : AnyZ.SortsIn Tryz.prog Tryz.sorted100_ren Fence.wide m :=
  ⟨fun blk off cap ss W hH hblk hsz => callsIn_wide.2 (AnyM.slices_Sort_string Tryz.sort113 blk off cap ss W hH hblk hsz),
   fun p cap W => callsIn_wide.2 (AnyM.slices_Sort_string_none Tryz.sort113 p cap W)⟩
theorem Tryz.maps_Keys_101 (mb:Option Nat) (W:World):CallsIn Fence.wide 5 Tryz.prog 116 #[.map mb] W fun e w'=>e=.returned (.func (.func 123) #[] #[.pointer (some ⟨W.heap.size,0,none⟩)])∧w'=W.alloc (.cells #[.map mb] 173) :=
 AnyZ.keys_in Tryz.keys101 Fence.wide 5 trivial rfl mb W
theorem Tryz.slices_Sorted_keys_100_101 {H:Type} (b nn:Nat) (D0:DataW H) (R:Value→Option (DataW H × List MemPlace)) (w:World) (hown:w.ownsMap Tryz.prog 9 R b nn D0) (hmax:Maps.size D0≤maxLen) (hbytes:Maps.size D0*16≤140737488355328) :
  CallsIn Fence.wide 5 Tryz.prog 115 #[.func (.func 123) #[] #[.pointer (some ⟨w.heap.size,0,none⟩)]] (w.alloc (.cells #[.map (some b)] 173)) fun e w'=>∃ (v:Value) (ss:List (List UInt8)),e=.returned v∧ss.Perm (strKeys D0) ∧
   w'.ownsRow (w.alloc (.cells #[.map (some b)] 173)).heap.size 9 1 v ss.length ((ss.mergeSort (fun x y=>decide (x≤y))).map encStr)∧(v=.slice none 0 0↔ss=[])∧Below (w.alloc (.cells #[.map (some b)] 173)).heap.size (w.alloc (.cells #[.map (some b)] 173)) w':=by
 have hbl:=hown.lt
 have hseq:SeqGives Fence.wide 2 Tryz.prog 123 #[.pointer (some ⟨w.heap.size,0,none⟩)] encStr (fun ss=>ss.Perm (strKeys D0)) (Maps.size D0) (w.alloc (.cells #[.map (some b)] 173)) :=
  AnyZ.keys_gives (ρ:=Tryz.keys101_ren) { Tryz.keys101 with } Fence.wide _ trivial rfl (by omega) w.heap.size b nn D0 _ (by simp) (by simp) (by
   obtain ⟨es,clock,hb,Ft,hs,hD⟩:=hown
   exact ⟨es,clock,(Below.heap_alloc _ _ b hbl).trans hb,Ft,hs,hD⟩)
 exact AnyZ.sorted_in Tryz.sorted100 Fence.wide 5 trivial trivial trivial trivial rfl (by omega) (Tryz.sorts100 _) (enters_of Tryz.func122 (by kernel_rfl) rfl) 123 #[.pointer (some ⟨w.heap.size,0,none⟩)] trivial (enters_of Tryz.func123 (by kernel_rfl) rfl) _ _ hmax hbytes _ hseq
end Go.Proofs
set_option linter.unusedVariables false
set_option maxRecDepth 100000
namespace Go.Sx
open Go.Proofs
theorem mixed:Tryz.prog.follows .mixedOrders=true:=by kernel_rfl
theorem nm106 : (Tryz.f98.name == "runtime.NumGoroutine") = false := by kernel_rfl
theorem nb106:Tryz.f98.body.isNone=true:=by kernel_rfl
theorem en106:Extern.findNext Tryz.f98=none:=by kernel_rfl
theorem ef106:Extern.find Tryz.f98=some Extern.BytealgIndexByte.indexByte:=by kernel_rfl
theorem indexByte0_hc (s:ByteArray) (c:Int) (h:Hp):HCp Tryz.prog 80 [.string s,.int .u8 c] h (.int .i64 (Lib.indexByte s.data.toList c.toNat.toUInt8)):=by
 refine hcp_of mixed Tryz.func80 (by kernel_rfl) (t_internal_stringslite_IndexByte_eq s c) ?_
 refine semW_ext Tryz.func98 nm106 nb106 en106 ef106 ?_
 rw [semW_indexByte]
 exact ⟨(_,()),rfl,rfl,rfl⟩
theorem indexByte_hc (s:ByteArray) (c:Int) (h:Hp):HCp Tryz.prog 54 [.string s,.int .u8 c] h (.int .i64 (Lib.indexByte s.data.toList c.toNat.toUInt8)):=by
 refine hcp_of mixed Tryz.func54 (by kernel_rfl) (t_strings_IndexByte_eq s c) ?_
 exact call_int (indexByte0_hc s c h) ⟨rfl,rfl⟩
def rowN (s set:List UInt8):Nat:=(s.takeWhile fun c=>set.contains c).length
theorem rowN_le (s set:List UInt8):rowN s set≤s.length:=by
 unfold rowN
 exact (List.takeWhile_prefix _).length_le
theorem takeWhile_step {p:UInt8→Bool}:∀ (l:List UInt8) (k:Nat),k≤(l.takeWhile p).length→k<l.length→(k<(l.takeWhile p).length↔p (l.getD k 0)=true)
 | [],k,_,h=>by simp at h
 | c::l,0,_,_=>by
  simp only [List.takeWhile_cons,List.getD_cons_zero]
  cases hp:p c <;> simp
 | c::l,k+1,h,hl=>by
  simp only [List.takeWhile_cons] at h ⊢
  cases hp:p c with
  | false=>rw [hp] at h; simp at h
  | true =>
   rw [hp] at h
   simp at h hl
   have:=takeWhile_step l k (by simpa using h) hl
   simpa using this
theorem rowN_step (s set:List UInt8) (k:Nat) (hk:k≤rowN s set) (hl:k<s.length):(k<rowN s set↔set.contains (s.getD k 0)=true):=takeWhile_step s k hk hl
theorem sbyte_u8 (s:ByteArray) (n:Int):(sbyte s n).toNat.toUInt8=s.data.toList.getD n.toNat 0:=by
 unfold sbyte; simp
theorem row_hc (s set:ByteArray) (h:Hp) (hs:s.size≤9223372036854775807):HCp Tryz.prog 47 [.string s,.string set] h (.int .i64 (rowN s.data.toList set.data.toList)):=by
 refine hcp_of mixed Tryz.func47 (by kernel_rfl) (t_lex_row_eq s set) ?_
 have hsz:s.data.toList.length=s.size:=by simp
 have hle:=rowN_le s.data.toList set.data.toList
 refine loop_of (cs:=[(false,[.int .i64])]) (fun x n h'=>h'=h∧∃ k:Nat,x.1=(k:Int)∧k≤rowN s.data.toList set.data.toList∧n=s.size-k) ((0:Int),()) s.size rfl ⟨rfl,0,rfl,by omega,by omega⟩ ?_
 rintro ⟨n,⟨⟩⟩ m h' ⟨rfl,k,hk,hle',rfl⟩
 simp only at hk
 subst hk
 refine cond_mk (fun hb=>?_) (fun hb=>?_)
 ·have hlt:(k:Int)<s.size:=of_decide_eq_true hb
  have hst:=rowN_step s.data.toList set.data.toList k hle' (by omega)
  refine need_of ⟨by omega,hlt⟩ ?_
  refine call_int (indexByte_hc _ _ _) ?_
  rw [sbyte_u8]
  have hc:=Lib.contains_iff_indexByte set.data.toList (s.data.toList.getD k 0)
  refine cond_mk (fun hb2=>?_) (fun hb2=>?_)
  ·have h2:=of_decide_eq_true hb2
   rw [wrap_i64 (by omega) (by omega)]
   have hin:set.data.toList.contains (s.data.toList.getD k 0)=true:=by rw [hc]; exact decide_eq_true h2
   exact again_mk (cs:=[(false,[.int .i64])]) ((k:Int)+1,()) (s.size-(k+1)) rfl (by omega) rfl ⟨rfl,k+1,(show ((k:Int)+1)=((k+1:Nat):Int) from by omega),hst.2 hin,rfl⟩
  ·have h2:=of_decide_eq_false hb2
   have hin:¬ set.data.toList.contains (s.data.toList.getD k 0)=true:=by rw [hc]; exact fun hh=>h2 (of_decide_eq_true hh)
   have:k=rowN s.data.toList set.data.toList:=by
    have:¬ k<rowN s.data.toList set.data.toList:=fun hh=>hin (hst.1 hh)
    omega
   exact ⟨by rw [← this],rfl⟩
 ·have hge:¬ (k:Int)<s.size:=of_decide_eq_false hb
  have:k=rowN s.data.toList set.data.toList:=by omega
  exact ⟨by rw [← this],rfl⟩
/-! Bytes: letters and digits. -/
def isLet (c:UInt8):Bool:=(97≤c.toNat && c.toNat≤122) || (65≤c.toNat && c.toNat≤90) || c.toNat==95
def isDig (c:UInt8):Bool:=48≤c.toNat && c.toNat≤57
def lettersL:List UInt8:=[97,98,99,100,101,102,103,104,105,106,107,108,109,110,111,112,113,114,115,116,117,118,119,120,121,122,65,66,67,68,69,70,71,72,73,74,75,76,77,78,79,80,81,82,83,84,85,86,87,88,89,90,95]
def digitsL:List UInt8:=[48,49,50,51,52,53,54,55,56,57]
theorem all_bytes (p q:UInt8→Bool) (h:(List.range 256).all (fun n=>p (UInt8.ofNat n)==q (UInt8.ofNat n))=true) (c:UInt8):p c=q c:=by
 have:=List.all_eq_true.1 h c.toNat (List.mem_range.2 (by have:=c.toNat_lt; omega))
 simpa using this
theorem letters_is (c:UInt8):lettersL.contains c=isLet c:=all_bytes (fun c=>lettersL.contains c) isLet (by decide +kernel) c
theorem digits_is (c:UInt8):digitsL.contains c=isDig c:=all_bytes (fun c=>digitsL.contains c) isDig (by decide +kernel) c
theorem glued_is (c:UInt8):(lettersL++digitsL).contains c=(isLet c || isDig c):=all_bytes (fun c=>(lettersL++digitsL).contains c) (fun c=>isLet c || isDig c) (by decide +kernel) c
def cN (c:UInt8):Int:=(c.toNat:Nat)
theorem digit_hc (c:UInt8) (h:Hp):HCp Tryz.prog 67 [.int .u8 (cN c)] h (.bool (isDig c)):=by
 refine hcp_of mixed Tryz.func67 (by kernel_rfl) (t_spandrelref2_Digit_eq _) ?_
 unfold t_spandrelref2_Digit isDig cN
 refine cond_mk (fun h1=>?_) (fun h1=>?_)
 ·have h1:=of_decide_eq_true h1
  refine ⟨?_,rfl⟩
  congr 1
  rw [show decide (48≤c.toNat)=true from decide_eq_true (by omega),Bool.true_and]
  exact decide_eq_decide.2 (by omega)
 ·have h1:=of_decide_eq_false h1
  refine ⟨?_,rfl⟩
  congr 1
  rw [show decide (48≤c.toNat)=false from decide_eq_false (by omega),Bool.false_and]
theorem isLet_iff (c:UInt8):isLet c=true↔(97≤cN c∧cN c≤122)∨(65≤cN c∧cN c≤90)∨cN c=95:=by
 unfold isLet cN
 simp only [Bool.or_eq_true,Bool.and_eq_true,decide_eq_true_eq,beq_iff_eq]
 omega
theorem isDig_iff (c:UInt8):isDig c=true↔48≤cN c∧cN c≤57:=by
 unfold isDig cN
 simp only [Bool.and_eq_true,decide_eq_true_eq]
 omega
theorem letter_hc (c:UInt8) (h:Hp):HCp Tryz.prog 66 [.int .u8 (cN c)] h (.bool (isLet c)):=by
 refine hcp_of mixed Tryz.func66 (by kernel_rfl) (t_spandrelref2_Letter_eq _) ?_
 unfold t_spandrelref2_Letter
 have hl:=isLet_iff c
 repeat' (refine cond_mk (fun h1=>?_) (fun h1=>?_) <;> first | replace h1:=of_decide_eq_true h1 | replace h1:=of_decide_eq_false h1)
 all_goals exact ⟨congrArg Value.bool (Bool.eq_iff_iff.2 (by simp only [hl,true_iff,beq_iff_eq]; omega)),rfl⟩
def regL (s:List UInt8):Int × Bool × Bool :=
 match s with
 | [a,b]=>if cN a=114∧48≤cN b∧cN b≤55 then (cN b-48,false,true) else if cN a=122∧48≤cN b∧cN b≤51 then (cN b-48,true,true) else (0,false,false)
 | _=>(0,false,false)
theorem regL_len {s:List UInt8} (h:s.length≠2):regL s=(0,false,false):=by
 unfold regL
 split
 ·simp at h
 ·rfl
theorem sbyte_cN (s:ByteArray) (n:Int):sbyte s n=cN (s.data.toList.getD n.toNat 0):=rfl
theorem two_bytes {s:ByteArray} (h1:(s.size:Int)=2):∃ a b,s.data.toList=[a,b]:=by
 have hsz:s.data.toList.length=s.size:=by simp
 match hl:s.data.toList with
 | [a,b]=>exact ⟨a,b,rfl⟩
 | []=>rw [hl] at hsz; simp at hsz; omega
 | [a]=>rw [hl] at hsz; simp at hsz; omega
 | a::b::c::l=>rw [hl] at hsz; simp at hsz; omega
theorem register_hc (s:ByteArray) (h:Hp):HCp Tryz.prog 46 [.string s] h (.tuple #[.int .i64 (regL s.data.toList).1,.bool (regL s.data.toList).2.1,.bool (regL s.data.toList).2.2]):=by
 refine hcp_of mixed Tryz.func46 (by kernel_rfl) (t_lex_Register_eq s) ?_
 have hsz:s.data.toList.length=s.size:=by simp
 unfold t_lex_Register
 refine cond_mk (fun h1=>?_) (fun h1=>?_)
 ·have h1:(s.size:Int)≠2:=by simpa using h1
  rw [regL_len (by omega)]
  exact ⟨rfl,rfl⟩
 ·have h1:(s.size:Int)=2:=by simpa using h1
  obtain ⟨a,b,hab⟩:=two_bytes h1
  have e0:sbyte s 0=cN a:=by rw [sbyte_cN,hab]; rfl
  have e1:sbyte s 1=cN b:=by rw [sbyte_cN,hab]; rfl
  have hb:=b.toNat_lt
  have w1:IntKind.wrap .i64 (IntKind.wrap .i64 (sbyte s 1)-48)=cN b-48:=by
   rw [e1,wrap_i64 (x:=cN b) (by unfold cN; omega) (by unfold cN; omega),wrap_i64 (by unfold cN; omega) (by unfold cN; omega)]
  rw [w1,e0,hab]
  unfold regL
  repeat' (first | refine need_of ⟨by omega,by omega⟩ ?_ | (refine cond_mk (fun h1=>?_) (fun h1=>?_) <;> first | replace h1:=of_decide_eq_true h1 | replace h1:=of_decide_eq_false h1 | replace h1:=eq_of_beq h1 | replace h1:=ne_of_beq_false h1))
  all_goals
   refine ⟨?_,rfl⟩
   simp only
   first
    | (exfalso; omega)
    | rw [if_pos (by omega)]
    | rw [if_neg (by omega),if_pos (by omega)]
    | rw [if_neg (by omega),if_neg (by omega)]
theorem register2_hc (s:ByteArray) (h:Hp):HCp Tryz.prog 68 [.string s] h (.tuple #[.int .i64 (regL s.data.toList).1,.bool (regL s.data.toList).2.1,.bool (regL s.data.toList).2.2]):=by
 refine hcp_of mixed Tryz.func68 (by kernel_rfl) (t_spandrelref2_Register_eq s) ?_
 have hsz:s.data.toList.length=s.size:=by simp
 unfold t_spandrelref2_Register
 refine cond_mk (fun h1=>?_) (fun h1=>?_)
 ·have h1:(s.size:Int)≠2:=by simpa using h1
  rw [regL_len (by omega)]
  exact ⟨rfl,rfl⟩
 ·have h1:(s.size:Int)=2:=by simpa using h1
  obtain ⟨a,b,hab⟩:=two_bytes h1
  have e0:sbyte s 0=cN a:=by rw [sbyte_cN,hab]; rfl
  have e1:sbyte s 1=cN b:=by rw [sbyte_cN,hab]; rfl
  have hb:=b.toNat_lt
  have w1:IntKind.wrap .i64 (IntKind.wrap .i64 (sbyte s 1)-48)=cN b-48:=by
   rw [e1,wrap_i64 (x:=cN b) (by unfold cN; omega) (by unfold cN; omega),wrap_i64 (by unfold cN; omega) (by unfold cN; omega)]
  rw [w1,e0,hab]
  unfold regL
  repeat' (first | refine need_of ⟨by omega,by omega⟩ ?_ | (refine cond_mk (fun h1=>?_) (fun h1=>?_) <;> first | replace h1:=of_decide_eq_true h1 | replace h1:=of_decide_eq_false h1 | replace h1:=eq_of_beq h1 | replace h1:=ne_of_beq_false h1))
  all_goals
   refine ⟨?_,rfl⟩
   simp only
   first
    | (exfalso; omega)
    | rw [if_pos (by omega)]
    | rw [if_neg (by omega),if_pos (by omega)]
    | rw [if_neg (by omega),if_neg (by omega)]
def legalL (s:List UInt8):Bool:=decide (0<s.length) && decide (s.length≤32) && isLet (s.getD 0 0) && s.all (fun c=>isLet c || isDig c) && !(regL s).2.2
theorem rowN_pos {s set:List UInt8} (h:0<s.length):0<rowN s set↔set.contains (s.getD 0 0)=true:=rowN_step s set 0 (Nat.zero_le _) h
theorem rowN_all {s set:List UInt8}:rowN s set=s.length↔s.all (fun c=>set.contains c)=true:=by
 unfold rowN
 induction s with
 | nil=>simp
 | cons c s ih =>
  rw [List.takeWhile_cons,List.all_cons]
  cases hc:set.contains c with
  | true=>simp only [if_true,List.length_cons,Bool.true_and]; rw [← ih]; omega
  | false=>simp
theorem lset:(⟨#[97,98,99,100,101,102,103,104,105,106,107,108,109,110,111,112,113,114,115,116,117,118,119,120,121,122,65,66,67,68,69,70,71,72,73,74,75,76,77,78,79,80,81,82,83,84,85,86,87,88,89,90,95]⟩:ByteArray).data.toList=lettersL:=rfl
theorem gset:(⟨#[97,98,99,100,101,102,103,104,105,106,107,108,109,110,111,112,113,114,115,116,117,118,119,120,121,122,65,66,67,68,69,70,71,72,73,74,75,76,77,78,79,80,81,82,83,84,85,86,87,88,89,90,95,48,49,50,51,52,53,54,55,56,57]⟩:ByteArray).data.toList=lettersL++digitsL:=rfl
theorem toList_nil {s:ByteArray}:(s.toList==[])=decide (s.size=0):=by
 have:s.toList=s.data.toList:=ByteArray.toList_eq s
 rw [this]
 have hsz:s.data.toList.length=s.size:=by simp
 cases hl:s.data.toList with
 | nil=>rw [hl] at hsz; simp at hsz; simp [← hsz]
 | cons a l=>rw [hl] at hsz; simp at hsz; simp [← hsz]
theorem legal_hc (s:ByteArray) (h:Hp) (hs:s.size≤9223372036854775807):HCp Tryz.prog 22 [.string s] h (.bool (legalL s.data.toList)):=by
 refine hcp_of mixed Tryz.func22 (by kernel_rfl) (t_lex_Legal_eq s) ?_
 have hsz:s.data.toList.length=s.size:=by simp
 unfold t_lex_Legal
 refine call_ibb (register_hc s h) ?_
 unfold legalL
 rw [hsz]
 refine cond_mk (fun h1=>?_) (fun h1=>?_)
 ·have h1:s.size≠0:=by rw [toList_nil] at h1; simpa using h1
  refine cond_mk (fun h2=>?_) (fun h2=>?_)
  ·have h2:=of_decide_eq_true h2
   refine call_int (row_hc s _ h hs) ?_
   rw [lset]
   have hp:=rowN_pos (set:=lettersL) (by omega:0<s.data.toList.length)
   rw [letters_is] at hp
   refine cond_mk (fun h3=>?_) (fun h3=>?_)
   ·have h3:=of_decide_eq_true h3
    refine call_int (row_hc s _ h hs) ?_
    rw [gset]
    have ha:=rowN_all (s:=s.data.toList) (set:=lettersL++digitsL)
    have hg:(fun c=>(lettersL++digitsL).contains c)=(fun c=>isLet c || isDig c):=funext glued_is
    rw [hg] at ha
    rw [show decide (0<s.size)=true from decide_eq_true (by omega),show decide (s.size≤32)=true from decide_eq_true (by omega),hp.1 (by omega)]
    refine cond_mk (fun h4=>?_) (fun h4=>?_)
    ·have h4:=eq_of_beq h4
     rw [ha.1 (by omega)]
     exact ⟨rfl,rfl⟩
    ·have h4:=ne_of_beq_false h4
     have:s.data.toList.all (fun c=>isLet c || isDig c)=false:=by
      cases hx:s.data.toList.all (fun c=>isLet c || isDig c) with
      | false=>rfl
      | true=>exact (h4 (by rw [ha.2 hx]; omega)).elim
     rw [this]
     exact ⟨rfl,rfl⟩
   ·have h3:=of_decide_eq_false h3
    have:isLet (s.data.toList.getD 0 0)=false:=by
     cases hx:isLet (s.data.toList.getD 0 0) with
     | false=>rfl
     | true=>have:=hp.2 hx; omega
    rw [this]
    exact ⟨by simp,rfl⟩
  ·have h2:=of_decide_eq_false h2
   rw [show decide (s.size≤32)=false from decide_eq_false (by omega)]
   exact ⟨by simp,rfl⟩
 ·have h1:s.size=0:=by rw [toList_nil] at h1; simpa using h1
  rw [show decide (0<s.size)=false from decide_eq_false (by omega)]
  exact ⟨by simp,rfl⟩
open Go.Proofs Go.MapKept Go.WideAt Go.WideMaps Go.Maps Go.RowKit Go.WideElems Go.WideElems
def anyR:Value→Option (DataW Unit × List MemPlace):=fun _=>some (.nil,[])
theorem und9:Tryz.prog.underlying 9=some .string:=by kernel_rfl
theorem und78:Tryz.prog.underlying 173=some (.map 9 24):=by kernel_rfl
def keysOf (D:List (ByteArray × Value)):List (List UInt8):=(D.map fun p=>p.1.data.toList).mergeSort fun x y=>decide (x≤y)
theorem rd_str {x:MapEntry} {s:ByteArray} (hk:x.key=.string s) (hs:s.size≤maxLen):WideElems.rd Tryz.prog 9 anyR x=some (.string s.data.toList,.nil):=by
 unfold WideElems.rd
 rw [hk,keyOf_string_mk und9 hs]
 rfl
theorem MapB.owns {W:World} {g:Nat} {D:List (ByteArray × Value)} (m:MapB W.heap g D) (hl:D.length≤maxLen) :
  ∃ D0:DataW Unit,W.ownsMap Tryz.prog 9 anyR g D.length D0∧(strKeys D0).Perm (D.map fun p=>p.1.data.toList)∧Maps.size D0=D.length:=by
 obtain ⟨es,clock,hg,he,hs,hd⟩:=m
 have hlen:es.size=D.length:=by
  have:=congrArg List.length he
  simpa using this
 have hrd:es.toList.map (WideElems.rg Tryz.prog 9 anyR)=D.map fun p=>(Lit.string p.1.data.toList,DataW.nil):=by
  apply List.ext_getElem?
  intro i
  have h1:(es.toList.map (fun e=>(e.key,e.val)))[i]?=(D.map (fun p=>(Value.string p.1,p.2)))[i]?:=by rw [he]
  simp only [List.getElem?_map] at h1 ⊢
  rcases Nat.lt_or_ge i D.length with hi | hi
  ·rw [List.getElem?_eq_getElem hi,List.getElem?_eq_getElem (show i<es.toList.length by simp; omega)] at h1 ⊢
   simp only [Option.map_some,Option.some.injEq,Prod.mk.injEq] at h1 ⊢
   exact WideElems.rg_of (rd_str h1.1 (hd _ (List.getElem_mem hi)))
  ·rw [List.getElem?_eq_none hi,List.getElem?_eq_none (show es.toList.length≤i by simp; omega)]
   rfl
 refine ⟨_,⟨es,clock,hg,⟨by omega,hs,?_⟩,by omega,rfl⟩,?_,?_⟩
 ·intro x hx
  obtain ⟨i,hi,rfl⟩:=List.getElem_of_mem hx
  have hi':i<D.length:=by simp at hi; omega
  have h1:(es.toList.map (fun e=>(e.key,e.val)))[i]?=(D.map (fun p=>(Value.string p.1,p.2)))[i]?:=by rw [he]
  simp only [List.getElem?_map,List.getElem?_eq_getElem hi',List.getElem?_eq_getElem hi,Option.map_some,Option.some.injEq,Prod.mk.injEq] at h1
  exact ⟨_,rd_str h1.1 (hd _ (List.getElem_mem hi'))⟩
 ·show List.Perm (((es.toList.map (WideElems.rg Tryz.prog 9 anyR)).foldr DataW.insert []).map fun p=>strOf p.1) _
  rw [hrd]
  refine ((WideShapes.sorted_perm _).map _).trans ?_
  rw [List.map_map]
  exact List.Perm.refl _
 ·show ((es.toList.map (WideElems.rg Tryz.prog 9 anyR)).foldr DataW.insert []).length=D.length
  rw [hrd,length_sorted,List.length_map]
theorem World.alloc_of {W:World} {h:Hp} {o:Obj} (hW:W.heap=h.push o):({ W with heap:=h }:World).alloc o=W:=by
 cases W
 simp only at hW
 subst hW
 rfl
theorem SameO.alloc (w:World) (o:Obj):SameO w (w.alloc o):=⟨rfl,rfl,rfl⟩
theorem keys_hc (r:Option Nat) (h:Hp):HC Tryz.prog 116 #[.map r] h fun v h'=>v=.func (.func 123) #[] #[.pointer (some ⟨h.size,0,none⟩)]∧h'=h.push (.cells #[.map r] 173):=by
 intro W hW
 subst hW
 exact (callsIn_wide.1 (Tryz.maps_Keys_101 r W)).mono fun e w' ⟨he,hw⟩=>⟨_,he,by rw [hw]; exact SameO.alloc _ _,rfl,by rw [hw]; rfl⟩
theorem SL.of_row {W:World} {b:Nat} {e:TypeId} {v:Value} {xs:List Value} (r:W.ownsRow b e 1 v xs.length xs):∃ p l c,v=.slice p l c∧SL W.heap b e 1 p l c (xs.map fun x=>[x]):=by
 have hfl:∀ ys:List Value,(ys.map fun x=>[x]).flatten=ys:=by
  intro ys
  induction ys with
  | nil=>rfl
  | cons y ys ih=>simp [ih]
 obtain ⟨h1,h2⟩:=r
 rcases h2 with ⟨hv,hn⟩ | ⟨g,cap,cur,hv,hb,hg,hle,hc,hs,ht⟩
 ·have:xs=[]:=List.eq_nil_of_length_eq_zero hn
  subst this
  exact ⟨none,0,0,hv,SL.nil _ _ _ _⟩
 ·refine ⟨some ⟨g,0,none⟩,xs.length,cap,hv,by simp,by simp,g,[],cur.toList.drop xs.length,rfl,hb,⟨hle,by unfold maxLen at hc; omega⟩,?_,?_⟩
  ·rw [hfl,List.nil_append]
   have:xs=cur.toList.take xs.length:=by rw [← ht]; simp
   unfold Box
   rw [hg]
   congr 2
   conv=>lhs; rw [← Array.toArray_toList (xs:=cur),← List.take_append_drop xs.length cur.toList]
   rw [← this]
  ·rw [List.length_drop,Array.length_toList,hs]; omega
theorem sorted_hc {h:Hp} {g:Nat} {D:List (ByteArray × Value)} (m:MapB h g D) (hl:D.length≤2^40) :
  HC Tryz.prog 115 #[.func (.func 123) #[] #[.pointer (some ⟨h.size,0,none⟩)]] (h.push (.cells #[.map (some g)] 173)) fun v h'=>∃ p l c,v=.slice p l c∧SL h' (h.size+1) 9 1 p l c ((keysOf D).map fun k=>[encStr k]) ∧
   Ext (h.push (.cells #[.map (some g)] 173)) h':=by
 intro W hW
 obtain ⟨D0,hown,hperm,hsize⟩:=MapB.owns (W:={ W with heap:=h }) m (by unfold maxLen; omega)
 have hc:=callsIn_wide.1 (Tryz.slices_Sorted_keys_100_101 g D.length D0 anyR { W with heap:=h } hown (by rw [hsize]; unfold maxLen; omega) (by rw [hsize]; omega))
 rw [World.alloc_of hW] at hc
 refine hc.mono fun e w' hr=>?_
 obtain ⟨v,ss,he,hp,hrow,_,hb⟩:=hr
 have hss:ss.mergeSort (fun x y=>decide (x≤y))=keysOf D:=mergeSort_of_perm (hp.trans hperm)
 have hlen:ss.length=((ss.mergeSort (fun x y=>decide (x≤y))).map encStr).length:=by rw [List.length_map,List.length_mergeSort]
 rw [hlen,hss] at hrow
 obtain ⟨p,l,c,hv,hsl⟩:=SL.of_row hrow
 refine ⟨v,he,⟨hb.os,hb.tape,hb.output⟩,p,l,c,hv,?_,?_⟩
 ·rw [List.map_map] at hsl
  have:W.heap.size=h.size+1:=by rw [hW]; simp
  rw [this] at hsl
  exact hsl
 ·rw [← hW]
  exact ⟨hb.size,fun i hi _=>hb.block i hi⟩
abbrev Tms:=List (ByteArray × Nat)
def encT (p:ByteArray × Nat):List Value:=[.string p.1,.int .u32 p.2]
def vm (D:Tms):List (ByteArray × Value):=D.map fun p=>(p.1,Value.int .u32 p.2)
def getN (D:Tms) (s:ByteArray):Nat:=((D.find? fun p=>decide (s=p.1)).map (·.2)).getD 0
def putN (D:Tms) (s:ByteArray) (v:Nat):Tms:=if (D.find? fun p=>decide (s=p.1)).isSome then D.map fun p=>if s=p.1 then (p.1,v) else p else D++[(s,v)]
def addT (D:Tms) (p:ByteArray × Nat):Tms:=putN D p.1 ((getN D p.1+p.2) % 4294967296)
def madeL (D:Tms):Tms:=(keysOf (vm D)).filterMap fun k=>if getN D ⟨k.toArray⟩=0 then none else some (⟨k.toArray⟩,getN D ⟨k.toArray⟩)
theorem find_vm (D:Tms) (s:ByteArray):(vm D).find? (fun p=>decide (s=p.1))=(D.find? fun p=>decide (s=p.1)).map fun p=>(p.1,Value.int .u32 p.2):=by
 unfold vm
 induction D with
 | nil=>rfl
 | cons p D ih =>
  by_cases h:s=p.1
  ·simp [h]
  ·simp only [List.map_cons,List.find?_cons,decide_eq_false h]
   exact ih
theorem look_vm (D:Tms) (s:ByteArray):look (vm D) s=(D.find? fun p=>decide (s=p.1)).map fun p=>Value.int .u32 p.2:=by
 unfold look
 rw [find_vm,Option.map_map]
 rfl
theorem look_getD (D:Tms) (s:ByteArray):(look (vm D) s).getD (.int .u32 0)=.int .u32 (getN D s):=by
 rw [look_vm]
 unfold getN
 all_goals (cases D.find? fun p=>decide (s=p.1) <;> rfl)
theorem upd_vm (D:Tms) (s:ByteArray) (v:Nat):upd (vm D) s (.int .u32 v)=vm (putN D s v):=by
 unfold upd putN
 rw [look_vm]
 cases h:(D.find? fun p=>decide (s=p.1)) with
 | none=>simp [vm]
 | some q =>
  simp only [Option.map_some,Option.isSome_some,if_true,vm,List.map_map]
  refine List.map_congr_left fun p hp=>?_
  simp only [Function.comp]
  split <;> simp_all
theorem putN_length (D:Tms) (s:ByteArray) (v:Nat):(putN D s v).length≤D.length+1:=by
 unfold putN
 split <;> simp
theorem info33:(Tryz.prog.info? 24).bind (·.zero)=some (.int .u32 0):=by kernel_rfl
theorem und67:Tryz.prog.underlying 23=some (.slice 50):=by kernel_rfl
theorem termZ:(Tryz.prog.info? 50).map (fun i=>(i.zero,i.size,i.bytes))=some (some (.agg #[.string ⟨#[]⟩,.int .u32 0]),2,24):=by kernel_rfl
theorem look_of {L:Lp} {K:Value→Hp→Prop} {h:Hp} {g:Nat} {D:Tms} (m:MapB h g (vm D)) (s:ByteArray) {k:Int→T} (hk:k (getN D s) L K h):T.sem Tryz.prog (Instr.lookup 173 (.map (some g)) (.string s) false) false [(false,[.int .u32])] k L K h:=by
 refine lookup_of und78 und9 info33 m s false _ ?_
 refine ⟨((getN D s:Int),()),?_,hk⟩
 simp only [Bool.false_eq_true,if_false]
 rw [look_getD]
 rfl
theorem put_of {L:Lp} {K:Value→Hp→Prop} {h:Hp} {g:Nat} {D:Tms} (m:MapB h g (vm D)) {s:ByteArray} (hs:s.size≤maxLen) {v:Int} {n:Nat} (hv:v=(n:Int)) {k:T} (hk:∀ h',MapB h' g (vm (putN D s n))→Ch [g] h h'→h'.size=h.size→k L K h') :
  T.semU Tryz.prog (Instr.mapUpdate 173 (.map (some g)) (.string s) (.int .u32 v)) k L K h:=by
 subst hv
 refine mapUpdate_of und78 und9 m hs _ _ ?_
 intro h' m' c' z'
 rw [upd_vm] at m'
 exact hk h' m' c' z'
theorem made_hc {h:Hp} {g:Nat} {D:Tms} (m:MapB h g (vm D)) (hl:D.length≤2^40) (n:Int) :
  HC Tryz.prog 102 #[.map (some g),.int .u32 n] h fun v h'=>Ext h h'∧∃ p l c,v=.agg #[.slice p l c,.int .u32 n]∧SL h' h.size 50 2 p l c ((madeL D).map encT):=by
 refine hcr_of (args:=[.map (some g),.int .u32 n]) mixed Tryz.func102 (by kernel_rfl) (t_expr_made_eq (some g) n) ?_
 unfold t_expr_made
 refine newB ?_
 intro h1 b1 e1 z1
 refine newB ?_
 intro h2 b2 e2 z2
 refine stores_of b2 rfl (by simp) ?_
 intro h3 b3 k3 z3
 have b3:Box h3 h1.size 26 [.slice none 0 0,.int .u32 n]:=b3
 have e3:Ext h h3:=Ch.trans (e1.trans e2) k3 (fun i hi hl=>by simp at hi; omega)
 have m3:=m.keep e3 (by simp)
 have c3:Box h3 h.size 26 [.slice none 0 0,.int .u32 0]:=(b1.keep e2 (by simp)).keep k3 (by simp; omega)
 refine call_of (keys_hc (some g) h3) ?_
 rintro _ h4 ⟨rfl,rfl⟩
 refine ⟨(.func (.func 123) #[] #[.pointer (some ⟨h3.size,0,none⟩)],()),rfl,?_⟩
 dsimp only [flat,unc,unc1,nA,cA]
 have e4:Ext h3 (h3.push (.cells #[.map (some g)] 173)):=Ext.push _ _
 have hkl:(vm D).length≤2^40:=by unfold vm; rw [List.length_map]; exact hl
 refine call_of (sorted_hc m3 hkl) ?_
 rintro _ h5 ⟨pk,lk,ck,rfl,sk,e5⟩
 refine ⟨((pk,lk,ck),()),rfl,?_⟩
 dsimp only [flat,unc,unc1,nA,cA]
 have e35:=e4.trans e5
 have hkeys:(keysOf (vm D)).length≤2^40:=by
  unfold keysOf
  rw [List.length_mergeSort,List.length_map]
  exact hkl
 have hlk:lk=(keysOf (vm D)).length:=by rw [sk.1,List.length_map]
 unfold madeL
 generalize keysOf (vm D)=ks at sk hkeys hlk ⊢
 have b5:=b3.keep e35 (by simp)
 have c5:=c3.keep e35 (by simp)
 have m5:=m3.keep e35 (by simp)
 have e05:=e3.trans e35
 have hz3:=e35.size
 have hb3:=b3.lt
 have hg:=m.lt
 refine loop_of (cs:=[(false,[.int .i64])]) (fun x w h'=>∃ (i:Nat) (p:Option Addr) (l c:Nat),x.1=(i:Int)∧i≤ks.length∧w=ks.length-i∧Ch [h1.size] h5 h'∧Box h' h1.size 26 [.slice p l c,.int .u32 n] ∧
  SL h' h5.size 50 2 p l c (((ks.take i).filterMap fun k=>if getN D ⟨k.toArray⟩=0 then none else some ((⟨k.toArray⟩:ByteArray),getN D ⟨k.toArray⟩)).map encT)∧l≤i) ((0:Int),()) ks.length rfl
  ⟨0,none,0,0,rfl,by omega,by omega,Ch.refl _ _,b5,SL.nil _ _ _ _,by omega⟩ ?_
 rintro ⟨n8,⟨⟩⟩ w h6 ⟨i,p,l,c,hi,hile,rfl,k6,b6,s6,hli⟩
 simp only at hi
 subst hi
 dsimp only [flat,unc,unc1,nA,cA]
 have m6:=m5.keep k6 (by simp; omega)
 have hz6:=k6.size
 have e06:Ext h h6:=Ch.trans e05 k6 (fun j hj hl=>by simp at hj; omega)
 refine cond_mk (fun g1=>?_) (fun g1=>?_)
 ·have g1:=of_decide_eq_true g1
  have hilt:i<ks.length:=by omega
  have sk6:=sk.keep' k6 (fun j hj=>by have:=(sk.blk hj).1; simp; omega)
  obtain ⟨a,rfl,hc⟩:=sk6.cells (i:=i) (by simpa using hilt)
  rw [List.getElem_map] at hc
  have htk:ks.take (i+1)=ks.take i++[ks[i]]:=List.take_succ_eq_append_getElem hilt
  generalize ks[i]=k at hc htk
  refine need_of ⟨by omega,by omega⟩ (osome_mk rfl ?_)
  rw [show Int.toNat (i:Int)=i by omega]
  refine loads_of ((⟨k.toArray⟩:ByteArray),()) hc ?_
  dsimp only [flat,unc,unc1,nA,cA]
  have hw:IntKind.wrap .i64 ((i:Int)+1)=((i+1:Nat):Int):=by rw [wrap_i64 (by omega) (by omega)]; omega
  refine look_of m6 _ (cond_mk (fun g2=>?_) (fun g2=>?_))
  ·have g2:((getN D ⟨k.toArray⟩:Nat):Int)≠0:=by simpa using g2
   refine loads_box b6 ((p,l,c),()) rfl ?_
   dsimp only [flat,unc,unc1,nA,cA]
   refine look_of m6 _ ?_
   refine push_of (vs:=encT (⟨k.toArray⟩,getN D ⟨k.toArray⟩)) und67 termZ rfl (by omega) (by omega) (by kernel_rfl) rfl rfl s6 hz6 (by omega) (by omega) ?_
   intro p' c' h7 s7 k7 hp7
   have b7:=b6.keep k7 (fun hh=>by have:=(s6.blk hh).1; omega)
   refine stores_of b7 rfl (by simp) ?_
   intro h8 b8 k8 z8
   refine again_mk (cs:=[(false,[.int .i64])]) (((i+1:Nat):Int),()) (ks.length-(i+1)) rfl (by omega) (congrArg (fun z=>[Value.int .i64 z]) hw) ⟨i+1,p',l+1,c',rfl,by omega,rfl,?_,b8,?_,by omega⟩
   ·exact Ch.trans (Ch.trans k6 k7 (fun j hj hl=>by have:=(s6.blk hj).1; omega)) k8 (fun j hj _=>hj)
   ·rw [htk,List.filterMap_append,List.map_append]
    have hf:([k].filterMap fun k=>if getN D ⟨k.toArray⟩=0 then none else some ((⟨k.toArray⟩:ByteArray),getN D ⟨k.toArray⟩))=[((⟨k.toArray⟩:ByteArray),getN D ⟨k.toArray⟩)]:=by
     simp only [List.filterMap_cons,List.filterMap_nil]
     rw [if_neg (by omega)]
    rw [hf]
    exact s7.keep' k8 (fun j hj=>by have:=(s7.blk hj).1; simp; omega)
  ·have g2:((getN D ⟨k.toArray⟩:Nat):Int)=0:=by simpa using g2
   refine again_mk (cs:=[(false,[.int .i64])]) (((i+1:Nat):Int),()) (ks.length-(i+1)) rfl (by omega) (congrArg (fun z=>[Value.int .i64 z]) hw) ⟨i+1,p,l,c,rfl,by omega,rfl,k6,b6,?_,by omega⟩
   rw [htk,List.filterMap_append]
   have hf:([k].filterMap fun k=>if getN D ⟨k.toArray⟩=0 then none else some ((⟨k.toArray⟩:ByteArray),getN D ⟨k.toArray⟩))=[]:=by
    simp only [List.filterMap_cons,List.filterMap_nil]
    rw [if_pos (by omega)]
   rw [hf,List.append_nil]
   exact s6
 ·have g1:=of_decide_eq_false g1
  have hi:i=ks.length:=by omega
  subst hi
  rw [List.take_length] at s6
  have c6:=c5.keep k6 (by simp; omega)
  refine loads_box b6 ((p,l,c),n,()) rfl ?_
  dsimp only [flat,unc,unc1,nA,cA]
  refine stores_of c6 rfl (by simp) ?_
  intro h7 b7 k7 z7
  have b7:Box h7 h.size 26 [.slice p l c,.int .u32 n]:=b7
  refine loads_box b7 ((p,l,c),n,()) rfl ?_
  have hz5:=e05.size
  exact ⟨Ch.trans e06 k7 (fun j hj hl=>by simp at hj; omega),p,l,c,rfl,(s6.keep' k7 (fun j hj=>by have:=(s6.blk hj).1; simp; omega)).mono (by omega)⟩
structure VwT (h:Hp) (p:Option Addr) (l:Nat) (us:Tms):Prop where
 len:l=us.length
 cells:∀ i,(hi:i<us.length)→∃ a,p=some a∧cellsAt h (a.add (i*2)) 0 (encT us[i])
theorem VwT.keep {ws:List Nat} {h h':Hp} {p:Option Addr} {l:Nat} {us:Tms} (v:VwT h p l us) (k:Ch ws h h') (hw:∀ i,i∈blkOf p→i∉ws):VwT h' p l us :=
 ⟨v.len,fun i hi=>by
  obtain ⟨a,ha,hc⟩:=v.cells i hi
  exact ⟨a,ha,cellsAt_keep k (by rw [add_block]; exact hw _ (by rw [ha]; simp [blkOf])) _ _ hc⟩⟩
theorem SL.vwT {h:Hp} {b:Nat} {e:TypeId} {p:Option Addr} {l c:Nat} {us:Tms} (s:SL h b e 2 p l c (us.map encT)):VwT h p l us:=by
 refine ⟨by rw [s.1,List.length_map],fun i hi=>?_⟩
 obtain ⟨a,ha,hc⟩:=s.cells (i:=i) (by simpa using hi)
 rw [List.getElem_map] at hc
 exact ⟨a,ha,hc⟩
structure Lin where
 terms:Tms
 num:Nat
def linV (p:Option Addr) (l c:Nat) (x:Lin):Value:=.agg #[.slice p l c,.int .u32 x.num]
def nrm (l:Tms):Tms:=madeL (l.foldl addT [])
def linTimes (x:Lin) (n:Nat):Lin:=⟨nrm (x.terms.map fun p=>(p.1,p.2*n % 4294967296)),x.num*n % 4294967296⟩
def linAdd (x y:Lin):Lin:=⟨nrm (x.terms++y.terms),(x.num+y.num) % 4294967296⟩
theorem wrap_u32_mod (x:Int):IntKind.wrap .u32 x=x % 4294967296:=by
 simp only [IntKind.wrap]
 rfl
theorem cast_mod (a:Nat):((a % 4294967296:Nat):Int)=(a:Int) % 4294967296:=Int.natCast_emod a 4294967296
theorem times_hc {h:Hp} {p:Option Addr} {l c:Nat} {x:Lin} (v:VwT h p l x.terms) (hl:x.terms.length≤2^40) (hs:∀ t,t∈x.terms→t.1.size≤maxLen) (n:Nat) :
  HC Tryz.prog 88 #[linV p l c x,.int .u32 n] h fun w h'=>Ext h h'∧∃ p' l' c',w=linV p' l' c' (linTimes x n)∧SL h' h.size 50 2 p' l' c' ((linTimes x n).terms.map encT):=by
 refine hcr_of (args:=[.agg #[.slice p l c,.int .u32 x.num],.int .u32 n]) mixed Tryz.func88 (by kernel_rfl) (t_expr_Times_eq p l c x.num n) ?_
 unfold t_expr_Times
 refine newB ?_
 intro h1 b1 e1 z1
 refine newB ?_
 intro h2 b2 e2 z2
 refine makeMap_of _ ?_
 intro h3 m3 e3 z3
 refine ⟨(some h2.size,()),rfl,?_⟩
 dsimp only [flat,unc,unc1,nA,cA]
 have c3:=(b1.keep e2 (by simp)).keep e3 (by simp)
 have b3:=b2.keep e3 (by simp)
 have e03:=(e1.trans e2).trans e3
 have v3:=v.keep e03 (by simp)
 have hll:=v.len
 refine loads_box c3 ((p,l,c),()) rfl ?_
 dsimp only [flat,unc,unc1,nA,cA]
 refine loop_of (cs:=[(false,[.int .i64])]) (fun y w h'=>∃ (i:Nat),y.1=(i:Int)∧i≤x.terms.length∧w=x.terms.length-i∧Ch [h2.size] h3 h' ∧
  MapB h' h2.size (vm (((x.terms.take i).map fun p=>(p.1,p.2*n % 4294967296)).foldl addT []))∧(((x.terms.take i).map fun p=>(p.1,p.2*n % 4294967296)).foldl addT []).length≤i) ((0:Int),()) x.terms.length rfl
  ⟨0,rfl,by omega,by omega,Ch.refl _ _,m3,by simp⟩ ?_
 rintro ⟨n8,⟨⟩⟩ w h4 ⟨i,hi,hile,rfl,k4,m4,hD⟩
 simp only at hi
 subst hi
 dsimp only [flat,unc,unc1,nA,cA]
 have hz4:=k4.size
 have e04:Ext h h4:=Ch.trans e03 k4 (fun j hj hl=>by simp at hj; omega)
 refine cond_mk (fun g1=>?_) (fun g1=>?_)
 ·have g1:=of_decide_eq_true g1
  have hilt:i<x.terms.length:=by omega
  obtain ⟨a,rfl,hc⟩:=(v.keep e04 (by simp)).cells i hilt
  have htk:x.terms.take (i+1)=x.terms.take i++[x.terms[i]]:=List.take_succ_eq_append_getElem hilt
  have hsz:=hs x.terms[i] (List.getElem_mem hilt)
  generalize x.terms[i]=t at hc htk hsz
  refine need_of ⟨by omega,by omega⟩ (osome_mk rfl ?_)
  rw [show Int.toNat (i:Int)=i by omega]
  refine loads_of (t.1,(t.2:Int),()) hc ?_
  dsimp only [flat,unc,unc1,nA,cA]
  refine newB ?_
  intro h5 b5 e5 z5
  refine stores_of b5 rfl (by simp) ?_
  intro h6 b6 k6 z6
  have b6:Box h6 h4.size 50 (encT t):=b6
  have e46:Ext h4 h6:=Ch.trans e5 k6 (fun j hj hl=>by simp at hj; omega)
  have m6:=m4.keep e46 (by simp)
  have hlt4:=m4.lt
  refine loads_box b6 (t.1,()) rfl ?_
  dsimp only [flat,unc,unc1,nA,cA]
  refine look_of m6 _ ?_
  rw [add_box]
  refine loads_box b6 ((t.2:Int),()) rfl ?_
  dsimp only [flat,unc,unc1,nA,cA]
  generalize hDD:((x.terms.take i).map fun p=>(p.1,p.2*n % 4294967296)).foldl addT []=D at m6 hD
  refine put_of (n:=(getN D t.1+t.2*n % 4294967296) % 4294967296) m6 hsz ?_ ?_
  ·rw [wrap_u32_mod,wrap_u32_mod,cast_mod,Int.natCast_add,cast_mod,Int.natCast_mul]
  ·intro h7 m7 k7 z7
   have hw:IntKind.wrap .i64 ((i:Int)+1)=((i+1:Nat):Int):=by rw [wrap_i64 (by omega) (by omega)]; omega
   have hf:((x.terms.take (i+1)).map fun p=>(p.1,p.2*n % 4294967296)).foldl addT []=putN D t.1 ((getN D t.1+t.2*n % 4294967296) % 4294967296):=by
    rw [htk,List.map_append,List.foldl_append,hDD]
    rfl
   refine again_mk (cs:=[(false,[.int .i64])]) (((i+1:Nat):Int),()) (x.terms.length-(i+1)) rfl (by omega) (congrArg (fun z=>[Value.int .i64 z]) hw) ⟨i+1,rfl,by omega,rfl,?_,by rw [hf]; exact m7,?_⟩
   ·exact Ch.trans (Ch.trans k4 e46 (by simp)) k7 (fun j hj _=>hj)
   ·rw [hf]
    have:=putN_length D t.1 ((getN D t.1+t.2*n % 4294967296) % 4294967296)
    omega
 ·have g1:=of_decide_eq_false g1
  have hi:i=x.terms.length:=by omega
  subst hi
  rw [List.take_length] at m4 hD
  have c4:=c3.keep k4 (by simp; omega)
  have b4:=b3.keep k4 (by simp; omega)
  rw [add_box]
  refine loads_box c4 ((x.num:Int),()) rfl ?_
  dsimp only [flat,unc,unc1,nA,cA]
  refine call_of (made_hc m4 (by omega) _) ?_
  rintro _ h5 ⟨e5,p',l',c',rfl,s5⟩
  refine ⟨((p',l',c'),IntKind.wrap .u32 ((x.num:Int)*(n:Int)),()),rfl,?_⟩
  dsimp only [flat,unc,unc1,nA,cA]
  refine stores_of (b4.keep e5 (by simp)) rfl (by simp) ?_
  intro h6 b6 k6 z6
  have b6:Box h6 h1.size 26 [.slice p' l' c',.int .u32 (IntKind.wrap .u32 ((x.num:Int)*(n:Int)))]:=b6
  refine loads_box b6 ((p',l',c'),IntKind.wrap .u32 ((x.num:Int)*(n:Int)),()) rfl ?_
  have hz5:=e04.size
  refine ⟨Ch.trans (e04.trans e5) k6 (fun j hj hl=>by simp at hj; omega),p',l',c',?_,(s5.keep' k6 (fun j hj=>by have:=(s5.blk hj).1; simp; omega)).mono (by omega)⟩
  unfold linV linTimes
  rw [wrap_u32_mod]
  dsimp only
  rw [cast_mod,Int.natCast_mul]
def ltN (a b:ByteArray):Prop:=a.data.toList<b.data.toList
instance (a b:ByteArray):Decidable (ltN a b):=inferInstanceAs (Decidable (a.data.toList<b.data.toList))
theorem ltN_irrefl (a:ByteArray):¬ ltN a a:=List.lt_irrefl (α:=UInt8) _
theorem ltN_trans {a b c:ByteArray} (h:ltN a b) (k:ltN b c):ltN a c:=List.lt_trans (α:=UInt8) h k
theorem baExt {a b:ByteArray} (h:a.data.toList=b.data.toList):a=b:=by
 cases a; cases b
 simp only at h
 rw [Array.toList_inj.1 h]
theorem ltN_tri (a b:ByteArray) (h:¬ ltN a b) (k:¬ ltN b a):a=b :=
 baExt (List.le_antisymm (α:=UInt8) (List.not_lt.1 k) (List.not_lt.1 h))
theorem ltN_ne {a b:ByteArray} (h:ltN a b):a≠b:=fun e=>by subst e; exact ltN_irrefl _ h
theorem ltN_asymm {a b:ByteArray} (h:ltN a b):¬ ltN b a:=fun k=>ltN_irrefl _ (ltN_trans h k)
structure Nf (l:Tms):Prop where
 sorted:l.Pairwise fun p q=>ltN p.1 q.1
 coef:∀ p,p∈l→p.2≠0∧p.2<4294967296
def cf:Tms→ByteArray→Nat
 | [],_=>0
 | p::l,s=>(if p.1=s then p.2 else 0)+cf l s
theorem cf_nil (s:ByteArray):cf [] s=0:=rfl
theorem cf_cons (p:ByteArray × Nat) (l:Tms) (s:ByteArray):cf (p::l) s=(if p.1=s then p.2 else 0)+cf l s:=rfl
theorem Nf.tail {p:ByteArray × Nat} {l:Tms} (h:Nf (p::l)):Nf l:=⟨(List.pairwise_cons.1 h.1).2,fun q hq=>h.2 q (List.mem_cons_of_mem _ hq)⟩
theorem Nf.head {p:ByteArray × Nat} {l:Tms} (h:Nf (p::l)):∀ q,q∈l→ltN p.1 q.1:=(List.pairwise_cons.1 h.1).1
theorem Nf.nil:Nf []:=⟨List.Pairwise.nil,by simp⟩
theorem cf_zero {l:Tms} {s:ByteArray} (h:∀ p,p∈l→p.1≠s):cf l s=0:=by
 induction l with
 | nil=>rfl
 | cons p l ih =>
  rw [cf_cons,if_neg (h p (List.mem_cons_self ..)),ih fun q hq=>h q (List.mem_cons_of_mem _ hq)]
theorem cf_append (l m:Tms) (s:ByteArray):cf (l++m) s=cf l s+cf m s:=by
 induction l with
 | nil=>simp [cf]
 | cons p l ih=>simp only [List.cons_append,cf,ih]; omega
theorem Nf.cf_head {p:ByteArray × Nat} {l:Tms} (h:Nf (p::l)):cf (p::l) p.1=p.2:=by
 rw [cf_cons,if_pos rfl,cf_zero fun q hq=>(ltN_ne (h.head q hq)).symm]
 rfl
theorem Nf.cf_low {l:Tms} {s:ByteArray} (h:∀ p,p∈l→ltN s p.1):cf l s=0:=cf_zero fun p hp=>(ltN_ne (h p hp)).symm
theorem Nf.uniq:∀ {l m:Tms},Nf l→Nf m→(∀ s,cf l s % 4294967296=cf m s % 4294967296)→l=m
 | [],[],_,_,_=>rfl
 | [],q::m,_,hm,h=>by
  have:=h q.1
  rw [hm.cf_head] at this
  have hq:=hm.coef q (List.mem_cons_self ..)
  simp only [cf] at this
  omega
 | p::l,[],hl,_,h=>by
  have:=h p.1
  rw [hl.cf_head] at this
  have hq:=hl.coef p (List.mem_cons_self ..)
  simp only [cf] at this
  omega
 | p::l,q::m,hl,hm,h=>by
  have hp:=hl.coef p (List.mem_cons_self ..)
  have hq:=hm.coef q (List.mem_cons_self ..)
  by_cases h1:ltN p.1 q.1
  ·exfalso
   have:=h p.1
   rw [hl.cf_head,Nf.cf_low (l:=q::m) (s:=p.1) (by
    intro r hr
    rcases List.mem_cons.1 hr with rfl | hr
    ·exact h1
    ·exact ltN_trans h1 (hm.head r hr))] at this
   omega
  ·by_cases h2:ltN q.1 p.1
   ·exfalso
    have:=h q.1
    rw [hm.cf_head,Nf.cf_low (l:=p::l) (s:=q.1) (by
     intro r hr
     rcases List.mem_cons.1 hr with rfl | hr
     ·exact h2
     ·exact ltN_trans h2 (hl.head r hr))] at this
    omega
   ·have he:=ltN_tri _ _ h1 h2
    have h3:=h p.1
    rw [hl.cf_head,he,hm.cf_head] at h3
    have hpq:p=q:=by
     obtain ⟨a,b⟩:=p
     obtain ⟨c,d⟩:=q
     simp only at he h3 hp hq
     subst he
     congr 1
     rw [Nat.mod_eq_of_lt hp.2,Nat.mod_eq_of_lt hq.2] at h3
     exact h3
    subst hpq
    congr 1
    refine Nf.uniq hl.tail hm.tail fun s=>?_
    by_cases hs:p.1=s
    ·subst hs
     rw [Nf.cf_low hl.head,Nf.cf_low hm.head]
    ·have:=h s
     simp only [cf,if_neg hs,Nat.zero_add] at this
     exact this
/-! What 'made' makes. -/
theorem getN_nil (s:ByteArray):getN [] s=0:=rfl
theorem getN_cons (p:ByteArray × Nat) (D:Tms) (s:ByteArray):getN (p::D) s=if s=p.1 then p.2 else getN D s:=by
 unfold getN
 rw [List.find?_cons]
 by_cases h:s=p.1
 ·simp [h]
 ·simp [h]
theorem getN_append (D:Tms) (s t:ByteArray) (v:Nat):getN (D++[(t,v)]) s=if (D.find? fun p=>decide (s=p.1)).isSome then getN D s else if s=t then v else 0:=by
 induction D with
 | nil=>simp [getN_cons,getN_nil]
 | cons p D ih =>
  rw [List.cons_append,getN_cons,getN_cons,ih,List.find?_cons]
  by_cases h:s=p.1
  ·simp [h]
  ·simp only [decide_eq_false h,if_neg h]
theorem getN_none {D:Tms} {s:ByteArray} (h:(D.find? fun p=>decide (s=p.1)).isSome=false):getN D s=0:=by
 unfold getN
 cases hf:(D.find? fun p=>decide (s=p.1)) with
 | none=>rfl
 | some x=>rw [hf] at h; cases h
theorem getN_map (D:Tms) (t:ByteArray) (v:Nat) (s:ByteArray):getN (D.map fun p=>if t=p.1 then (p.1,v) else p) s=if s=t∧(D.find? fun p=>decide (t=p.1)).isSome then v else getN D s:=by
 induction D with
 | nil=>simp [getN_nil]
 | cons p D ih =>
  rw [List.map_cons,getN_cons,ih,getN_cons,List.find?_cons]
  by_cases h:t=p.1
  ·subst h
   by_cases k:s=p.1 <;> simp [k]
  ·rw [if_neg h]
   by_cases k:s=p.1
   ·subst k
    have:¬ p.1=t:=fun e=>h e.symm
    simp [this]
   ·simp only [decide_eq_false h,if_neg k]
theorem getN_putN (D:Tms) (t:ByteArray) (v:Nat) (s:ByteArray):getN (putN D t v) s=if s=t then v else getN D s:=by
 unfold putN
 split
 ·rename_i hh
  rw [getN_map]
  by_cases k:s=t <;> simp [k,hh]
 ·rename_i hh
  rw [getN_append]
  by_cases k:s=t
  ·subst k
   simp [hh]
  ·rw [if_neg k]
   split
   ·rfl
   ·rename_i h2
    rw [getN_none (Bool.eq_false_iff.2 h2)]
theorem getN_foldl (l:Tms) (s:ByteArray):∀ D:Tms,getN (l.foldl addT D) s % 4294967296=(getN D s+cf l s) % 4294967296:=by
 induction l with
 | nil=>intro D; simp [cf]
 | cons p l ih =>
  intro D
  rw [List.foldl_cons,ih]
  unfold addT
  rw [cf_cons,getN_putN]
  by_cases h:s=p.1
  ·subst h
   rw [if_pos rfl,if_pos rfl,Nat.mod_add_mod]
   congr 1; omega
  ·rw [if_neg h,if_neg fun e=>h e.symm]
   congr 1; omega
theorem putN_nodup {D:Tms} (h:(D.map (·.1)).Nodup) (t:ByteArray) (v:Nat):((putN D t v).map (·.1)).Nodup:=by
 unfold putN
 have h1:(D.find? fun p=>decide (t=p.1)).isSome=true↔t∈D.map (·.1):=by
  rw [List.find?_isSome]
  simp [eq_comm]
 split
 ·have e:(D.map fun p=>if t=p.1 then (p.1,v) else p).map (·.1)=D.map (·.1):=by
   rw [List.map_map]
   refine List.map_congr_left fun p hp=>?_
   simp only [Function.comp]
   split <;> rfl
  rw [e]; exact h
 ·rename_i hn
  rw [List.map_append,List.nodup_append]
  refine ⟨h,by simp,?_⟩
  rintro a ha b hb rfl
  simp only [List.map_cons,List.map_nil,List.mem_singleton] at hb
  subst hb
  exact hn (h1.2 ha)
theorem foldl_keys (l:Tms):∀ D:Tms,(D.map (·.1)).Nodup→((l.foldl addT D).map (·.1)).Nodup:=by
 induction l with
 | nil=>intro D h; exact h
 | cons p l ih =>
  intro D h
  rw [List.foldl_cons]
  exact ih _ (putN_nodup h _ _)
theorem getN_lt (l:Tms):∀ D:Tms,(∀ s,getN D s<4294967296)→∀ s,getN (l.foldl addT D) s<4294967296:=by
 induction l with
 | nil=>intro D h; exact h
 | cons p l ih =>
  intro D h
  rw [List.foldl_cons]
  refine ih _ fun s=>?_
  unfold addT
  rw [getN_putN]
  split
  ·exact Nat.mod_lt _ (by decide)
  ·exact h s
theorem getN_out {D:Tms} {s:ByteArray} (h:s∉D.map (·.1)):getN D s=0:=by
 refine getN_none ?_
 cases hf:(D.find? fun p=>decide (s=p.1)).isSome with
 | false=>rfl
 | true =>
  rw [List.find?_isSome] at hf
  obtain ⟨x,hx,hs⟩:=hf
  exact absurd (List.mem_map.2 ⟨x,hx,(of_decide_eq_true hs).symm⟩) h
def pick (g:ByteArray→Nat) (ks:List (List UInt8)):Tms:=ks.filterMap fun k=>if g ⟨k.toArray⟩=0 then none else some (⟨k.toArray⟩,g ⟨k.toArray⟩)
theorem cf_pick (g:ByteArray→Nat) (s:ByteArray):∀ ks:List (List UInt8),ks.Nodup→cf (pick g ks) s=if s.data.toList∈ks then g s else 0:=by
 intro ks
 induction ks with
 | nil=>intro _; simp [pick,cf]
 | cons k ks ih =>
  intro h
  rw [List.nodup_cons] at h
  have ih:=ih h.2
  unfold pick at ih ⊢
  rw [List.filterMap_cons]
  have e1:(⟨k.toArray⟩:ByteArray)=s↔s.data.toList=k:=by
   constructor
   ·rintro rfl; simp
   ·intro e; exact baExt (by simp [e])
  by_cases hk:s.data.toList=k
  ·have hs:=e1.2 hk
   rw [hs]
   split
   ·rename_i hg
    split at hg
    ·rename_i h0
     rw [ih,h0]
     simp
    ·cases hg
   ·rename_i hg
    split at hg
    ·cases hg
    ·cases hg
     rw [cf_cons,ih,if_pos rfl,if_neg (by rw [hk]; exact h.1),if_pos (by rw [hk]; simp)]
     rfl
  ·have hs:¬ (⟨k.toArray⟩:ByteArray)=s:=fun e=>hk (e1.1 e)
   split
   ·rw [ih]
    simp [hk]
   ·rename_i hg
    split at hg
    ·cases hg
    ·cases hg
     rw [cf_cons,ih,if_neg hs]
     simp [hk]
theorem pick_nf (g:ByteArray→Nat) (hg:∀ s,g s<4294967296) {ks:List (List UInt8)} (h:ks.Pairwise fun a b=>a<b):Nf (pick g ks):=by
 refine ⟨?_,?_⟩
 ·unfold pick
  refine List.Pairwise.filterMap _ ?_ h
  intro a b hab p hp q hq
  split at hp
  ·cases hp
  ·split at hq
   ·cases hq
   ·cases hp; cases hq
    unfold ltN
    simpa using hab
 ·intro p hp
  unfold pick at hp
  rw [List.mem_filterMap] at hp
  obtain ⟨k,_,hk⟩:=hp
  split at hk
  ·cases hk
  ·rename_i h0
   cases hk
   exact ⟨h0,hg _⟩
theorem keysOf_perm (D:Tms):(keysOf (vm D)).Perm (D.map fun p=>p.1.data.toList):=by
 unfold keysOf vm
 rw [List.map_map]
 exact List.mergeSort_perm _ _
theorem keysOf_sorted {D:Tms} (h:(D.map (·.1)).Nodup):(keysOf (vm D)).Pairwise fun a b=>a<b:=by
 have hn:(keysOf (vm D)).Nodup:=by
  refine (keysOf_perm D).nodup_iff.2 ?_
  have:(D.map fun p=>p.1.data.toList)=(D.map (·.1)).map fun s=>s.data.toList:=by rw [List.map_map]; rfl
  rw [this]
  exact List.pairwise_map.2 (h.imp fun hne e=>hne (baExt e))
 have hs:(keysOf (vm D)).Pairwise fun a b=>a≤b:=by
  unfold keysOf
  refine (List.pairwise_mergeSort ?_ ?_ _).imp ?_
  ·intro a b c h1 h2
   exact decide_eq_true (List.le_trans (α:=UInt8) (of_decide_eq_true h1) (of_decide_eq_true h2))
  ·intro a b
   simp only [Bool.or_eq_true,decide_eq_true_eq]
   exact List.le_total (α:=UInt8) a b
  ·intro a b hab
   exact of_decide_eq_true hab
 refine (hs.and hn).imp ?_
 rintro a b ⟨h1,h2⟩
 by_cases hlt:a<b
 ·exact hlt
 ·exact absurd (List.le_antisymm (α:=UInt8) h1 (List.not_lt.1 hlt)) h2
theorem nrm_pick (l:Tms):nrm l=pick (getN (l.foldl addT [])) (keysOf (vm (l.foldl addT []))):=rfl
theorem nrm_nf (l:Tms):Nf (nrm l):=by
 rw [nrm_pick]
 exact pick_nf _ (getN_lt l [] (fun s=>by rw [getN_nil]; decide)) (keysOf_sorted (foldl_keys l [] (by simp)))
theorem cf_nrm (l:Tms) (s:ByteArray):cf (nrm l) s=cf l s % 4294967296:=by
 have h1:=getN_foldl l s []
 rw [getN_nil,Nat.zero_add,Nat.mod_eq_of_lt (getN_lt l [] (fun s=>by rw [getN_nil]; decide) s)] at h1
 rw [nrm_pick,cf_pick _ _ _ ((keysOf_sorted (foldl_keys l [] (by simp))).imp fun h e=>by subst e; exact List.lt_irrefl (α:=UInt8) _ h)]
 split
 ·exact h1
 ·rename_i hn
  rw [← h1,getN_out]
  intro hm
  refine hn ((keysOf_perm _).mem_iff.2 ?_)
  obtain ⟨p,hp,rfl⟩:=List.mem_map.1 hm
  exact List.mem_map.2 ⟨p,hp,rfl⟩
/-! The reference's sums and products. -/
def timesN (n:Nat) (l:Tms):Tms:=l.filterMap fun p=>if p.2*n % 4294967296=0 then none else some (p.1,p.2*n % 4294967296)
def addF:Nat→Tms→Tms→Tms
 | 0,_,_=>[]
 | n+1,x,y=>match x,y with
  | [],[]=>[]
  | p::x,[]=>p::addF n x []
  | [],q::y=>q::addF n [] y
  | p::x,q::y=>if ltN p.1 q.1 then p::addF n x (q::y) else if ltN q.1 p.1 then q::addF n (p::x) y else if (p.2+q.2) % 4294967296=0 then addF n x y else (p.1,(p.2+q.2) % 4294967296)::addF n x y
def addM (x y:Tms):Tms:=addF (x.length+y.length) x y
theorem timesN_nf {n:Nat} {l:Tms} (h:Nf l):Nf (timesN n l):=by
 refine ⟨?_,?_⟩
 ·unfold timesN
  refine List.Pairwise.filterMap _ ?_ h.1
  intro a b hab p hp q hq
  split at hp
  ·cases hp
  ·split at hq
   ·cases hq
   ·cases hp; cases hq
    exact hab
 ·intro p hp
  unfold timesN at hp
  rw [List.mem_filterMap] at hp
  obtain ⟨k,_,hk⟩:=hp
  split at hk
  ·cases hk
  ·rename_i h0
   cases hk
   exact ⟨h0,Nat.mod_lt _ (by decide)⟩
theorem cf_timesN (n:Nat) (l:Tms) (s:ByteArray):cf (timesN n l) s % 4294967296=cf l s*n % 4294967296:=by
 induction l with
 | nil=>simp [timesN,cf]
 | cons p l ih =>
  have hc:cf (timesN n (p::l)) s=(if p.1=s then p.2*n % 4294967296 else 0)+cf (timesN n l) s:=by
   unfold timesN
   rw [List.filterMap_cons]
   split
   ·rename_i hg
    split at hg
    ·rename_i h0
     rw [h0]; simp
    ·cases hg
   ·rename_i hg
    split at hg
    ·cases hg
    ·cases hg
     rfl
  rw [hc,Nat.add_mod,ih,cf_cons]
  by_cases h:p.1=s
  ·rw [if_pos h,if_pos h,Nat.add_mul,Nat.mod_mod,← Nat.add_mod]
  ·rw [if_neg h,if_neg h,Nat.zero_add]; simp
theorem mem_addF {n:Nat} {x y:Tms} {r:ByteArray × Nat} (h:r∈addF n x y):(∃ p,p∈x∧p.1=r.1)∨(∃ q,q∈y∧q.1=r.1):=by
 induction n generalizing x y with
 | zero=>simp [addF] at h
 | succ n ih =>
  rcases x with _ | ⟨p,x⟩ <;> rcases y with _ | ⟨q,y⟩
  ·simp [addF] at h
  ·simp only [addF,List.mem_cons] at h
   rcases h with rfl | h
   ·exact .inr ⟨_,by simp,rfl⟩
   ·rcases ih h with ⟨a,ha,e⟩ | ⟨a,ha,e⟩
    ·simp at ha
    ·exact .inr ⟨a,by simp [ha],e⟩
  ·simp only [addF,List.mem_cons] at h
   rcases h with rfl | h
   ·exact .inl ⟨_,by simp,rfl⟩
   ·rcases ih h with ⟨a,ha,e⟩ | ⟨a,ha,e⟩
    ·exact .inl ⟨a,by simp [ha],e⟩
    ·simp at ha
  ·simp only [addF] at h
   split at h
   ·rcases List.mem_cons.1 h with rfl | h
    ·exact .inl ⟨_,by simp,rfl⟩
    ·rcases ih h with ⟨a,ha,e⟩ | ⟨a,ha,e⟩
     ·exact .inl ⟨a,by simp [ha],e⟩
     ·exact .inr ⟨a,ha,e⟩
   ·split at h
    ·rcases List.mem_cons.1 h with rfl | h
     ·exact .inr ⟨_,by simp,rfl⟩
     ·rcases ih h with ⟨a,ha,e⟩ | ⟨a,ha,e⟩
      ·exact .inl ⟨a,ha,e⟩
      ·exact .inr ⟨a,by simp [ha],e⟩
    ·split at h
     ·rcases ih h with ⟨a,ha,e⟩ | ⟨a,ha,e⟩
      ·exact .inl ⟨a,by simp [ha],e⟩
      ·exact .inr ⟨a,by simp [ha],e⟩
     ·rcases List.mem_cons.1 h with rfl | h
      ·exact .inl ⟨p,by simp,rfl⟩
      ·rcases ih h with ⟨a,ha,e⟩ | ⟨a,ha,e⟩
       ·exact .inl ⟨a,by simp [ha],e⟩
       ·exact .inr ⟨a,by simp [ha],e⟩
theorem Nf.cons {p:ByteArray × Nat} {l:Tms} (h:Nf l) (hc:p.2≠0∧p.2<4294967296) (hl:∀ q,q∈l→ltN p.1 q.1):Nf (p::l) :=
 ⟨List.pairwise_cons.2 ⟨hl,h.1⟩,fun q hq=>by rcases List.mem_cons.1 hq with rfl | hq; exact hc; exact h.2 q hq⟩
theorem addF_nf {n:Nat} {x y:Tms} (hx:Nf x) (hy:Nf y):Nf (addF n x y):=by
 induction n generalizing x y with
 | zero=>exact Nf.nil
 | succ n ih =>
  rcases x with _ | ⟨p,x⟩ <;> rcases y with _ | ⟨q,y⟩
  ·exact Nf.nil
  ·simp only [addF]
   refine (ih Nf.nil hy.tail).cons (hy.2 q (by simp)) fun r hr=>?_
   rcases mem_addF hr with ⟨a,ha,e⟩ | ⟨a,ha,e⟩
   ·simp at ha
   ·rw [← e]; exact hy.head a ha
  ·simp only [addF]
   refine (ih hx.tail Nf.nil).cons (hx.2 p (by simp)) fun r hr=>?_
   rcases mem_addF hr with ⟨a,ha,e⟩ | ⟨a,ha,e⟩
   ·rw [← e]; exact hx.head a ha
   ·simp at ha
  ·simp only [addF]
   split
   ·rename_i h1
    refine (ih hx.tail hy).cons (hx.2 p (by simp)) fun r hr=>?_
    rcases mem_addF hr with ⟨a,ha,e⟩ | ⟨a,ha,e⟩
    ·rw [← e]; exact hx.head a ha
    ·rw [← e]
     rcases List.mem_cons.1 ha with rfl | ha
     ·exact h1
     ·exact ltN_trans h1 (hy.head a ha)
   ·rename_i h1
    split
    ·rename_i h2
     refine (ih hx hy.tail).cons (hy.2 q (by simp)) fun r hr=>?_
     rcases mem_addF hr with ⟨a,ha,e⟩ | ⟨a,ha,e⟩
     ·rw [← e]
      rcases List.mem_cons.1 ha with rfl | ha
      ·exact h2
      ·exact ltN_trans h2 (hx.head a ha)
     ·rw [← e]; exact hy.head a ha
    ·rename_i h2
     have he:=ltN_tri _ _ h1 h2
     split
     ·exact ih hx.tail hy.tail
     ·rename_i h0
      refine (ih hx.tail hy.tail).cons ⟨h0,Nat.mod_lt _ (by decide)⟩ fun r hr=>?_
      rcases mem_addF hr with ⟨a,ha,e⟩ | ⟨a,ha,e⟩
      ·rw [← e]; exact hx.head a ha
      ·rw [← e]
       show ltN p.1 a.1
       rw [he]; exact hy.head a ha
theorem cf_addF {n:Nat} {x y:Tms} (hn:x.length+y.length≤n) (s:ByteArray):cf (addF n x y) s % 4294967296=(cf x s+cf y s) % 4294967296:=by
 induction n generalizing x y with
 | zero =>
  have h1:x=[]:=List.length_eq_zero_iff.1 (by omega)
  have h2:y=[]:=List.length_eq_zero_iff.1 (by omega)
  subst h1 h2
  rfl
 | succ n ih =>
  rcases x with _ | ⟨p,x⟩ <;> rcases y with _ | ⟨q,y⟩
  ·rfl
  ·simp only [addF,cf_cons,cf_nil]
   have:=ih (x:=[]) (y:=y) (by simp at hn ⊢; omega)
   simp only [cf_nil] at this
   omega
  ·simp only [addF,cf_cons,cf_nil]
   have:=ih (x:=x) (y:=[]) (by simp at hn ⊢; omega)
   simp only [cf_nil] at this
   omega
  ·simp only [List.length_cons] at hn
   simp only [addF]
   split
   ·have:=ih (x:=x) (y:=q::y) (by simp; omega)
    simp only [cf_cons] at this ⊢
    omega
   ·rename_i h1
    split
    ·have:=ih (x:=p::x) (y:=y) (by simp; omega)
     simp only [cf_cons] at this ⊢
     omega
    ·rename_i h2
     have he:=ltN_tri _ _ h1 h2
     have:=ih (x:=x) (y:=y) (by omega)
     split
     ·rename_i h0
      simp only [cf_cons,← he]
      split
      ·omega
      ·omega
     ·simp only [cf_cons,← he]
      split
      ·omega
      ·omega
theorem addM_nf {x y:Tms} (hx:Nf x) (hy:Nf y):Nf (addM x y):=addF_nf hx hy
theorem cf_addM (x y:Tms) (s:ByteArray):cf (addM x y) s % 4294967296=(cf x s+cf y s) % 4294967296:=cf_addF (Nat.le_refl _) s
theorem nrm_addM {x y:Tms} (hx:Nf x) (hy:Nf y):nrm (x++y)=addM x y :=
 Nf.uniq (nrm_nf _) (addM_nf hx hy) fun s=>by rw [cf_nrm,cf_addM,cf_append,Nat.mod_mod]
theorem cf_map_times (n:Nat) (l:Tms) (s:ByteArray):cf (l.map fun p=>(p.1,p.2*n % 4294967296)) s % 4294967296=cf l s*n % 4294967296:=by
 induction l with
 | nil=>simp [cf]
 | cons p l ih =>
  simp only [List.map_cons,cf]
  rw [Nat.add_mod,ih]
  by_cases h:p.1=s
  ·rw [if_pos h,if_pos h,Nat.add_mul,Nat.mod_mod,← Nat.add_mod]
  ·rw [if_neg h,if_neg h,Nat.zero_add]; simp
theorem nrm_timesN {n:Nat} {l:Tms} (h:Nf l):nrm (l.map fun p=>(p.1,p.2*n % 4294967296))=timesN n l :=
 Nf.uniq (nrm_nf _) (timesN_nf h) fun s=>by rw [cf_nrm,cf_timesN,Nat.mod_mod,cf_map_times]
def linT (x:Lin) (n:Nat):Lin:=⟨timesN n x.terms,x.num*n % 4294967296⟩
def linA (x y:Lin):Lin:=⟨addM x.terms y.terms,(x.num+y.num) % 4294967296⟩
theorem linTimes_eq {x:Lin} (h:Nf x.terms) (n:Nat):linTimes x n=linT x n:=by unfold linTimes linT; rw [nrm_timesN h]
theorem linAdd_eq {x y:Lin} (h:Nf x.terms) (k:Nf y.terms):linAdd x y=linA x y:=by unfold linAdd linA; rw [nrm_addM h k]
theorem timesN_length (n:Nat) (l:Tms):(timesN n l).length≤l.length:=List.length_filterMap_le _ _
theorem addF_length (n:Nat) (x y:Tms):(addF n x y).length≤x.length+y.length:=by
 induction n generalizing x y with
 | zero=>simp [addF]
 | succ n ih =>
  rcases x with _ | ⟨p,x⟩ <;> rcases y with _ | ⟨q,y⟩
  ·simp [addF]
  ·have:=ih [] y
   simp only [addF,List.length_cons,List.length_nil] at this ⊢; omega
  ·have:=ih x []
   simp only [addF,List.length_cons,List.length_nil] at this ⊢; omega
  ·have h1:=ih x (q::y)
   have h2:=ih (p::x) y
   have h3:=ih x y
   simp only [List.length_cons] at h1 h2 ⊢
   simp only [addF]
   split
   ·simp only [List.length_cons]; omega
   ·split
    ·simp only [List.length_cons]; omega
    ·split
     ·omega
     ·simp only [List.length_cons]; omega
theorem addM_length (x y:Tms):(addM x y).length≤x.length+y.length:=addF_length _ x y
theorem mem_addM {x y:Tms} {r:ByteArray × Nat} (h:r∈addM x y):(∃ p,p∈x∧p.1=r.1)∨(∃ q,q∈y∧q.1=r.1):=mem_addF h
theorem mem_timesN {n:Nat} {x:Tms} {r:ByteArray × Nat} (h:r∈timesN n x):∃ p,p∈x∧p.1=r.1:=by
 unfold timesN at h
 rw [List.mem_filterMap] at h
 obtain ⟨k,hk,hr⟩:=h
 split at hr
 ·cases hr
 ·cases hr
  exact ⟨k,hk,rfl⟩
def sumT (r:Option Nat) (p:Option Addr) (l lv:Nat) (k:T):T :=
 T.loop [(false,[.int .i64])] [.int .i64 (0:Int)] <| fun (n20:Int) =>
 cond (decide (n20<(l:Int)))
  (T.need (((0:Int)≤n20)∧(n20<(l:Int))) <|
  T.osome p <| fun (a21:Addr) =>
  T.loads (a21.add ((Int.toNat n20)*2)) [.string,.int .u32] <| fun (s22:ByteArray) (n23:Int) =>
  T.new [.string ⟨#[]⟩,.int .u32 (0:Int)] 50 <| fun (a24:Addr) =>
  T.stores a24 [.string s22,.int .u32 n23] <|
  T.loads a24 [.string] <| fun (s25:ByteArray) =>
  T.sem Tryz.prog (Instr.lookup 173 (.map r) (.string s25) false) false [(false,[.int .u32])] <| fun (n26:Int) =>
  T.loads (a24.add 1) [.int .u32] <| fun (n27:Int) =>
  T.semU Tryz.prog (Instr.mapUpdate 173 (.map r) (.string s25) (.int .u32 (IntKind.wrap .u32 (n26+n27)))) <|
  T.again lv [.int .i64 (IntKind.wrap .i64 (n20+(1:Int)))]) k
theorem foldl_length (l:Tms):∀ D:Tms,(l.foldl addT D).length≤D.length+l.length:=by
 induction l with
 | nil=>intro D; simp
 | cons p l ih =>
  intro D
  rw [List.foldl_cons]
  have h1:=ih (addT D p)
  have h2:=putN_length D p.1 ((getN D p.1+p.2) % 4294967296)
  have h3:(addT D p).length≤D.length+1:=h2
  simp only [List.length_cons]
  omega
theorem sumT_of {L:Lp} {K:Value→Hp→Prop} {h:Hp} {g:Nat} {p:Option Addr} {l:Nat} {us D:Tms} {k:T} {lv:Nat} (hlv:L.length=lv) (v:VwT h p l us) (hl:us.length≤2^40) (hs:∀ t,t∈us→t.1.size≤maxLen) (m:MapB h g (vm D)) (hg:g∉blkOf p)
  (hk:∀ J h',MapB h' g (vm (us.foldl addT D))→Ch [g] h h'→k (L++[J]) K h'):sumT (some g) p l lv k L K h:=by
 have hll:=v.len
 have hL:∀ J:List Value→Hp→Prop,(L++[J])[lv]?=some J:=by intro J; subst hlv; simp
 unfold sumT
 refine loop_of (cs:=[(false,[.int .i64])]) (fun y w h'=>∃ (i:Nat),y.1=(i:Int)∧i≤us.length∧w=us.length-i∧Ch [g] h h'∧MapB h' g (vm ((us.take i).foldl addT D))) ((0:Int),()) us.length rfl
  ⟨0,rfl,by omega,by omega,Ch.refl _ _,by simpa using m⟩ ?_
 rintro ⟨n8,⟨⟩⟩ w h4 ⟨i,hi,hile,rfl,k4,m4⟩
 simp only at hi
 subst hi
 dsimp only [flat,unc,unc1,nA,cA]
 refine cond_mk (fun g1=>?_) (fun g1=>?_)
 ·have g1:=of_decide_eq_true g1
  have hilt:i<us.length:=by omega
  obtain ⟨a,rfl,hc⟩:=(v.keep k4 (by intro j hj hm; rw [List.mem_singleton] at hm; subst hm; exact hg hj)).cells i hilt
  have htk:us.take (i+1)=us.take i++[us[i]]:=List.take_succ_eq_append_getElem hilt
  have hsz:=hs us[i] (List.getElem_mem hilt)
  generalize us[i]=t at hc htk hsz
  refine need_of ⟨by omega,by omega⟩ (osome_mk rfl ?_)
  rw [show Int.toNat (i:Int)=i by omega]
  refine loads_of (t.1,(t.2:Int),()) hc ?_
  dsimp only [flat,unc,unc1,nA,cA]
  refine newB ?_
  intro h5 b5 e5 z5
  refine stores_of b5 rfl (by simp) ?_
  intro h6 b6 k6 z6
  have b6:Box h6 h4.size 50 (encT t):=b6
  have e46:Ext h4 h6:=Ch.trans e5 k6 (fun j hj hl=>by simp at hj; omega)
  have m6:=m4.keep e46 (by simp)
  refine loads_box b6 (t.1,()) rfl ?_
  dsimp only [flat,unc,unc1,nA,cA]
  refine look_of m6 _ ?_
  rw [add_box]
  refine loads_box b6 ((t.2:Int),()) rfl ?_
  dsimp only [flat,unc,unc1,nA,cA]
  generalize hDD:(us.take i).foldl addT D=D' at m6
  refine put_of (n:=(getN D' t.1+t.2) % 4294967296) m6 hsz ?_ ?_
  ·rw [wrap_u32_mod,cast_mod,Int.natCast_add]
  ·intro h7 m7 k7 z7
   have hw:IntKind.wrap .i64 ((i:Int)+1)=((i+1:Nat):Int):=by rw [wrap_i64 (by omega) (by omega)]; omega
   have hf:(us.take (i+1)).foldl addT D=putN D' t.1 ((getN D' t.1+t.2) % 4294967296):=by
    rw [htk,List.foldl_append,hDD]
    rfl
   refine again_mk (cs:=[(false,[.int .i64])]) (((i+1:Nat):Int),()) (us.length-(i+1)) (hL _) (by omega) (congrArg (fun z=>[Value.int .i64 z]) hw) ⟨i+1,rfl,by omega,rfl,?_,by rw [hf]; exact m7⟩
   exact Ch.trans (Ch.trans k4 e46 (by simp)) k7 (fun j hj _=>hj)
 ·have g1:=of_decide_eq_false g1
  have hi:i=us.length:=by omega
  subst hi
  rw [List.take_length] at m4
  exact hk _ _ m4 k4
theorem und87:Tryz.prog.underlying 43=some (.slice 23):=by kernel_rfl
theorem slZ67:(Tryz.prog.info? 23).map (fun i=>(i.zero,i.size,i.bytes))=some (some (.slice none 0 0),1,24):=by kernel_rfl
theorem add_hc {h:Hp} {p q:Option Addr} {l c m d:Nat} {x y:Lin} (v:VwT h p l x.terms) (u:VwT h q m y.terms) (hp:∀ i,i∈blkOf p→i<h.size) (hq:∀ i,i∈blkOf q→i<h.size)
  (hl:x.terms.length+y.terms.length≤2^40) (hx:∀ t,t∈x.terms→t.1.size≤maxLen) (hy:∀ t,t∈y.terms→t.1.size≤maxLen) :
  HC Tryz.prog 91 #[linV p l c x,linV q m d y] h fun w h'=>Ext h h'∧∃ p' l' c',w=linV p' l' c' (linAdd x y)∧SL h' h.size 50 2 p' l' c' ((linAdd x y).terms.map encT):=by
 refine hcr_of (args:=[.agg #[.slice p l c,.int .u32 x.num],.agg #[.slice q m d,.int .u32 y.num]]) mixed Tryz.func91 (by kernel_rfl) (t_expr_Add_eq p l c x.num q m d y.num) ?_
 unfold t_expr_Add
 refine newB ?_
 intro h1 b1 e1 z1
 refine newB ?_
 intro h2 b2 e2 z2
 refine newB ?_
 intro h3 b3 e3 z3
 refine makeMap_of _ ?_
 intro h4 m4 e4 z4
 refine ⟨(some h3.size,()),rfl,?_⟩
 dsimp only [flat,unc,unc1,nA,cA]
 have b1:=((b1.keep e2 (by simp)).keep e3 (by simp)).keep e4 (by simp)
 have b2:=(b2.keep e3 (by simp)).keep e4 (by simp)
 have b3:=b3.keep e4 (by simp)
 have e04:=((e1.trans e2).trans e3).trans e4
 refine loads_box b1 ((p,l,c),()) rfl ?_
 dsimp only [flat,unc,unc1,nA,cA]
 refine loads_box b2 ((q,m,d),()) rfl ?_
 dsimp only [flat,unc,unc1,nA,cA]
 refine lit_of (cells:=[.slice p l c,.slice q m d]) und87 slZ67 (by decide) (by decide) (by kernel_rfl) ?_
 intro h5 b5 e5 z5
 have m5:MapB h5 h3.size (vm []):=m4.keep e5 (by simp)
 have b1:=b1.keep e5 (by simp)
 have b2:=b2.keep e5 (by simp)
 have b3:=b3.keep e5 (by simp)
 have e05:=e04.trans e5
 have hb5:=b5.lt
 have hm4:=m4.lt
 refine loop_of (cs:=[(false,[.int .i64])]) (fun z w h'=>∃ (i:Nat),z.1=(i:Int)∧i≤2∧w=2-i∧Ch [h3.size] h5 h'∧MapB h' h3.size (vm ((([x.terms,y.terms].take i).flatten).foldl addT []))) ((0:Int),()) 2 rfl
  ⟨0,rfl,by omega,by omega,Ch.refl _ _,m5⟩ ?_
 rintro ⟨n8,⟨⟩⟩ w h6 ⟨i,hi,hile,rfl,k6,m6⟩
 simp only at hi
 subst hi
 dsimp only [flat,unc,unc1,nA,cA]
 have b6:=b5.keep k6 (by simp; omega)
 have e06:Ext h h6:=Ch.trans e05 k6 (fun j hj hl=>by simp at hj; omega)
 refine cond_mk (fun g1=>?_) (fun g1=>?_)
 ·have g1:=of_decide_eq_true g1
  refine need_of ⟨by omega,by omega⟩ (osome_mk rfl ?_)
  rw [show Int.toNat (i:Int)=i by omega,add_box]
  have hw:IntKind.wrap .i64 ((i:Int)+1)=((i+1:Nat):Int):=by rw [wrap_i64 (by omega) (by omega)]; omega
  have hi2:i=0∨i=1:=by omega
  rcases hi2 with rfl | rfl
  ·refine loads_box b6 ((p,l,c),()) rfl ?_
   dsimp only [flat,unc,unc1,nA,cA]
   refine sumT_of (us:=x.terms) (D:=[]) rfl (v.keep e06 (by simp)) (by omega) hx m6 (fun hh=>by have:=hp _ hh; omega) ?_
   intro J h7 m7 k7
   refine again_mk (cs:=[(false,[.int .i64])]) (((0+1:Nat):Int),()) (2-(0+1)) rfl (by omega) (congrArg (fun z=>[Value.int .i64 z]) hw) ⟨0+1,rfl,by omega,rfl,Ch.trans k6 k7 (fun j hj _=>hj),?_⟩
   simpa using m7
  ·refine loads_box b6 ((q,m,d),()) rfl ?_
   dsimp only [flat,unc,unc1,nA,cA]
   refine sumT_of (us:=y.terms) (D:=x.terms.foldl addT []) rfl (u.keep e06 (by simp)) (by omega) hy (by simpa using m6) (fun hh=>by have:=hq _ hh; omega) ?_
   intro J h7 m7 k7
   refine again_mk (cs:=[(false,[.int .i64])]) (((1+1:Nat):Int),()) (2-(1+1)) rfl (by omega) (congrArg (fun z=>[Value.int .i64 z]) hw) ⟨1+1,rfl,by omega,rfl,Ch.trans k6 k7 (fun j hj _=>hj),?_⟩
   simpa using m7
 ·have g1:=of_decide_eq_false g1
  have hi:i=2:=by omega
  subst hi
  have m6:MapB h6 h3.size (vm ((x.terms++y.terms).foldl addT [])):=by simpa using m6
  have b1:=b1.keep k6 (by simp; omega)
  have b2:=b2.keep k6 (by simp; omega)
  have b3:=b3.keep k6 (by simp; omega)
  rw [add_box,add_box]
  refine loads_box b1 ((x.num:Int),()) rfl ?_
  dsimp only [flat,unc,unc1,nA,cA]
  refine loads_box b2 ((y.num:Int),()) rfl ?_
  dsimp only [flat,unc,unc1,nA,cA]
  refine call_of (made_hc m6 (by have:=foldl_length (x.terms++y.terms) []; rw [List.length_append,List.length_nil] at this; omega) _) ?_
  rintro _ h7 ⟨e7,p',l',c',rfl,s7⟩
  refine ⟨((p',l',c'),IntKind.wrap .u32 ((x.num:Int)+(y.num:Int)),()),rfl,?_⟩
  dsimp only [flat,unc,unc1,nA,cA]
  refine stores_of (b3.keep e7 (by simp)) rfl (by simp) ?_
  intro h8 b8 k8 z8
  have b8:Box h8 h2.size 26 [.slice p' l' c',.int .u32 (IntKind.wrap .u32 ((x.num:Int)+(y.num:Int)))]:=b8
  refine loads_box b8 ((p',l',c'),IntKind.wrap .u32 ((x.num:Int)+(y.num:Int)),()) rfl ?_
  have hz6:=e06.size
  have hz2:=(e1.trans e2).size
  have hb3:=b3.lt
  refine ⟨Ch.trans (e06.trans e7) k8 (fun j hj hl=>by simp at hj; omega),p',l',c',?_,(s7.keep' k8 (fun j hj=>by have:=(s7.blk hj).1; simp; omega)).mono (by omega)⟩
  unfold linV linAdd
  rw [wrap_u32_mod]
  dsimp only
  rw [cast_mod,Int.natCast_add]
theorem all_step (p:UInt8→Bool) (l:List UInt8) (k:Nat) (hk:k<l.length):(l.take (k+1)).all p=((l.take k).all p && p (l.getD k 0)):=by
 rw [List.take_succ_eq_append_getElem hk,List.all_append]
 simp [List.getD,List.getElem?_eq_getElem hk]
theorem legal2_hc (s:ByteArray) (h:Hp) (hs:s.size≤9223372036854775807):HCp Tryz.prog 39 [.string s] h (.bool (legalL s.data.toList)):=by
 refine hcp_of mixed Tryz.func39 (by kernel_rfl) (t_spandrelref2_Legal_eq s) ?_
 have hsz:s.data.toList.length=s.size:=by simp
 unfold t_spandrelref2_Legal
 unfold legalL
 rw [hsz]
 refine cond_mk (fun h1=>?_) (fun h1=>?_)
 ·have h1:=of_decide_eq_true h1
  rw [show decide (0<s.size)=false from decide_eq_false (by omega)]
  exact ⟨by simp,rfl⟩
 have h1:=of_decide_eq_false h1
 refine cond_mk (fun h2=>?_) (fun h2=>?_)
 ·have h2:=of_decide_eq_true h2
  rw [show decide (s.size≤32)=false from decide_eq_false (by omega)]
  exact ⟨by simp,rfl⟩
 have h2:=of_decide_eq_false h2
 rw [show decide (0<s.size)=true from decide_eq_true (by omega),show decide (s.size≤32)=true from decide_eq_true (by omega)]
 refine need_of ⟨by omega,by omega⟩ ?_
 refine call_bool (letter_hc (s.data.toList.getD 0 0) h) ?_
 refine cond_mk (fun h3=>?_) (fun h3=>?_)
 ·have h3:isLet (s.data.toList.getD 0 0)=false:=by simpa using h3
  rw [h3]
  exact ⟨by simp,rfl⟩
 have h3:isLet (s.data.toList.getD 0 0)=true:=by simpa using h3
 rw [h3]
 refine loop_of (cs:=[(false,[.bool]),(false,[.int .i64])]) (fun x n h'=>h'=h∧∃ k:Nat,x.2.1=(k:Int)∧k≤s.size∧n=s.size-k∧(s.data.toList.take k).all (fun c=>isLet c || isDig c)=true)
  (false,(0:Int),()) s.size rfl ⟨rfl,0,rfl,by omega,by omega,by simp⟩ ?_
 rintro ⟨b,n,⟨⟩⟩ m h' ⟨rfl,k,hk,hle,rfl,hall⟩
 simp only at hk
 subst hk
 refine cond_mk (fun hb=>?_) (fun hb=>?_)
 ·have hlt:(k:Int)<s.size:=of_decide_eq_true hb
  have hst:=all_step (fun c=>isLet c || isDig c) s.data.toList k (by omega)
  rw [hall,Bool.true_and] at hst
  have hfalse:∀ k':Nat,(isLet (s.data.toList.getD k 0) || isDig (s.data.toList.getD k 0))=false→s.data.toList.all (fun c=>isLet c || isDig c)=false:=by
   intro k' hf
   rw [hf] at hst
   cases hx:s.data.toList.all (fun c=>isLet c || isDig c) with
   | false=>rfl
   | true =>
    have:(s.data.toList.take (k+1)).all (fun c=>isLet c || isDig c)=true:=List.all_eq_true.2 fun c hc=>List.all_eq_true.1 hx c (List.mem_of_mem_take hc)
    rw [this] at hst; cases hst
  have hnext:(isLet (s.data.toList.getD k 0) || isDig (s.data.toList.getD k 0))=true→T.again 0 [.bool b,.int .i64 (IntKind.wrap .i64 ((k:Int)+1))] ([]++[Jl (cs:=[(false,[.bool]),(false,[.int .i64])]) (fun x n h''=>h''=h'∧∃ k:Nat,x.2.1=(k:Int)∧k≤s.size∧n=s.size-k∧(s.data.toList.take k).all (fun c=>isLet c || isDig c)=true) (s.size-k)]) (fun v' h''=>v'=.bool (true && true && true && s.data.toList.all (fun c=>isLet c || isDig c) && !(regL s.data.toList).2.2)∧h''=h') h':=by
   intro ht
   rw [wrap_i64 (by omega) (by omega)]
   exact again_mk (cs:=[(false,[.bool]),(false,[.int .i64])]) (b,(k:Int)+1,()) (s.size-(k+1)) rfl (by omega) rfl ⟨rfl,k+1,(show ((k:Int)+1)=((k+1:Nat):Int) from by omega),by omega,rfl,by rw [hst,ht]⟩
  refine need_of ⟨(by show (0:Int)≤(k:Int); omega),hlt⟩ ?_
  refine call_bool (letter_hc (s.data.toList.getD k 0) h') ?_
  refine cond_mk (fun h4=>?_) (fun h4=>?_)
  ·have h4:isLet (s.data.toList.getD k 0)=false:=by simpa using h4
   refine need_of ⟨(by show (0:Int)≤(k:Int); omega),hlt⟩ ?_
   refine call_bool (digit_hc (s.data.toList.getD k 0) h') ?_
   refine cond_mk (fun h5=>?_) (fun h5=>?_)
   ·have h5:isDig (s.data.toList.getD k 0)=false:=by simpa using h5
    rw [hfalse 0 (by rw [h4,h5]; rfl)]
    exact ⟨by simp,rfl⟩
   ·have h5:isDig (s.data.toList.getD k 0)=true:=by simpa using h5
    exact hnext (by rw [h5]; simp)
  ·have h4:isLet (s.data.toList.getD k 0)=true:=by simpa using h4
   exact hnext (by rw [h4]; simp)
 ·have hge:¬ (k:Int)<s.size:=of_decide_eq_false hb
  have hk:k=s.data.toList.length:=by omega
  rw [hk,List.take_length] at hall
  rw [hall]
  refine call_ibb (register2_hc s h') ?_
  exact ⟨by simp,rfl⟩
theorem clone_hc (s:ByteArray) (h:Hp) (hs:s.size≤2^48):HC Tryz.prog 118 #[.string s] h fun v h'=>v=.string s∧Ext h h':=by
 refine hcr_of (args:=[.string s]) mixed Tryz.func118 (by kernel_rfl) (t_internal_stringslite_Clone_eq s) ?_
 unfold t_internal_stringslite_Clone
 have hsz:s.data.toList.length=s.size:=by simp
 refine cond_mk (fun h1=>?_) (fun h1=>?_)
 ·have h1:=eq_of_beq h1
  have:s=⟨#[]⟩:=by
   apply ByteArray.ext
   exact Array.eq_empty_of_size_eq_zero (by have:s.data.size=s.size:=rfl; omega)
  rw [this]
  exact ⟨rfl,Ch.refl _ _⟩
 ·have h1:=ne_of_beq_false h1
  obtain ⟨i5,hi5,hz5,hs5,hb5⟩:_:=inf_of (P:=Tryz.prog) (t:=5) (z:=.int .u8 0) (s:=1) (b:=1) (by kernel_rfl)
  refine sem_slice ?_
  refine makeSlice_of (e:=5) (by kernel_rfl) hi5 hz5 (Nat.le_refl _) (by rw [hb5]; omega) (by omega) ?_
  intro h1' b1 e1 z1
  refine ⟨_,_,_,rfl,?_⟩
  show T.sem Tryz.prog (Builtin.copy_ #[178,9] 3 #[.slice (some ⟨h.size,0,none⟩) s.size s.size,.string s]) false [(false,[.int .i64])] _ [] _ h1'
  refine copyStr_of (e:=5) (by kernel_rfl) hi5 b1 rfl (by simp [hs5]) ?_
  intro h2 b2 c2 z2
  refine ⟨(_,()),rfl,?_⟩
  refine need_of ⟨by omega,by omega⟩ (osome_mk rfl ?_)
  have hl:setL ((List.range (s.size*i5.size)).map ((Value.int IntKind.u8 0).cells[· % (Value.int IntKind.u8 0).cells.size]!)) 0 (s.data.toList.map byteV)=s.data.toList.map byteV:=by
   rw [setL_eq _ _ _ (by simp [hs5])]
   rw [List.take_zero,List.nil_append,List.drop_of_length_le (by simp [hs5]),List.append_nil]
  rw [hl] at b2
  have hne:s.data.toList≠[]:=by
   intro hn; rw [hn] at hsz; simp at hsz; omega
  have h63:s.size≤9223372036854775807:=by omega
  rw [← hsz]
  refine unsafeString_of (e:=5) (by kernel_rfl) (by kernel_rfl) b2 s.data.toList hne (by simp) (by omega) (fun i hi=>?_) ?_
  ·rw [b2.cell,List.getElem?_map,List.getElem?_eq_getElem hi]; rfl
  ·intro h3 f' hg3 c3 z3
   refine ⟨(_,()),rfl,?_⟩
   refine ⟨?_,?_⟩
   ·congr 1
   ·have hv:∀ i,i∈[h.size]→i<h.size→i∈([]:List Nat):=by
     intro i hi hlt; simp at hi; omega
    exact Ch.trans (Ch.trans e1 c2 hv) c3 hv
structure Laid (h:Hp):Prop where
 syn:∃ v,hcell h ⟨2,0,none⟩=some v∧isAggV v=false
 rng:∃ v,hcell h ⟨3,0,none⟩=some v∧isAggV v=false
theorem Laid.ext {h h':Hp} (l:Laid h) (e:Ext h h'):Laid h':=by
 obtain ⟨v,h1,h2⟩:=l.syn
 obtain ⟨u,h3,h4⟩:=l.rng
 exact ⟨⟨v,hcell_keep h1 e (by simp),h2⟩,⟨u,hcell_keep h3 e (by simp),h4⟩⟩
theorem syntaxError_hc (fn s:ByteArray) (h:Hp) (hs:s.size≤2^48) (hl:Laid h):HC Tryz.prog 111 #[.string fn,.string s] h fun v h'=>(∃ a,v=.pointer (some a))∧Ext h h':=by
 refine hcr_of (args:=[.string fn,.string s]) mixed Tryz.func111 (by kernel_rfl) (t_strconv_syntaxError_eq fn s) ?_
 unfold t_strconv_syntaxError
 obtain ⟨v,hv,hva⟩:=hl.syn
 refine loads_of (v,()) ⟨hv,trivial⟩ ?_
 refine call_of (clone_hc s h hs) ?_
 rintro _ h1 ⟨rfl,e1⟩
 refine ⟨(s,()),rfl,?_⟩
 refine ⟨⟨⟨hcell_keep hv e1 (by simp),trivial⟩,trivial⟩,?_⟩
 refine cond_f hva ?_
 refine newB ?_
 intro h2 b2 e2 z2
 exact ⟨⟨⟨hcell_keep (hcell_keep hv e1 (by simp)) e2 (by simp),trivial⟩,trivial⟩,⟨_,rfl⟩,e1.trans e2⟩
theorem rangeError_hc (fn s:ByteArray) (h:Hp) (hs:s.size≤2^48) (hl:Laid h):HC Tryz.prog 112 #[.string fn,.string s] h fun v h'=>(∃ a,v=.pointer (some a))∧Ext h h':=by
 refine hcr_of (args:=[.string fn,.string s]) mixed Tryz.func112 (by kernel_rfl) (t_strconv_rangeError_eq fn s) ?_
 unfold t_strconv_rangeError
 obtain ⟨v,hv,hva⟩:=hl.rng
 refine loads_of (v,()) ⟨hv,trivial⟩ ?_
 refine call_of (clone_hc s h hs) ?_
 rintro _ h1 ⟨rfl,e1⟩
 refine ⟨(s,()),rfl,?_⟩
 refine ⟨⟨⟨hcell_keep hv e1 (by simp),trivial⟩,trivial⟩,?_⟩
 refine cond_f hva ?_
 refine newB ?_
 intro h2 b2 e2 z2
 exact ⟨⟨⟨hcell_keep (hcell_keep hv e1 (by simp)) e2 (by simp),trivial⟩,trivial⟩,⟨_,rfl⟩,e1.trans e2⟩
theorem cmp22 (h:Hp) (K:Value→Hp→Prop):semW Tryz.prog (cmpS (.eql) 148 (.tmp 11) (.tmp 13) (.iface 176 (.int .i64 2)) (.iface 176 (.int .i64 2))) h K=K (.bool true) h:=by kernel_rfl
theorem cmp12 (h:Hp) (K:Value→Hp→Prop):semW Tryz.prog (cmpS (.eql) 148 (.tmp 11) (.tmp 13) (.iface 176 (.int .i64 1)) (.iface 176 (.int .i64 2))) h K=K (.bool false) h:=by kernel_rfl
theorem cmp11 (h:Hp) (K:Value→Hp→Prop):semW Tryz.prog (cmpS (.eql) 148 (.tmp 11) (.tmp 20) (.iface 176 (.int .i64 1)) (.iface 176 (.int .i64 1))) h K=K (.bool true) h:=by kernel_rfl
abbrev fnPU:ByteArray:=⟨#[80,97,114,115,101,85,105,110,116]⟩
theorem toError_s10_hc (s:ByteArray) (h:Hp) (hs:s.size≤2^48) (hl:Laid h):HC Tryz.prog 101 #[.string fnPU,.string s,.int .i64 10,.int .i64 32,.iface 176 (.int .i64 2)] h fun v h'=>(∃ a,v=.iface 179 (.pointer (some a)))∧Ext h h':=by
 refine hcr_of (args:=[.string fnPU,.string s,.int .i64 10,.int .i64 32,.iface 176 (.int .i64 2)]) mixed Tryz.func101 (by kernel_rfl) (t_strconv_toError_s10_eq s) ?_
 unfold t_strconv_toError_s10
 refine sem_bool (b:=true) (fun K' hk=>by rw [cmp22]; exact hk) ?_
 refine cond_t rfl (call_of (syntaxError_hc _ s h hs hl) ?_)
 rintro _ h1 ⟨⟨a,rfl⟩,e1⟩
 exact ⟨(some a,()),rfl,⟨a,rfl⟩,e1⟩
theorem toError_s16_hc (s:ByteArray) (h:Hp) (hs:s.size≤2^48) (hl:Laid h):HC Tryz.prog 101 #[.string fnPU,.string s,.int .i64 16,.int .i64 32,.iface 176 (.int .i64 2)] h fun v h'=>(∃ a,v=.iface 179 (.pointer (some a)))∧Ext h h':=by
 refine hcr_of (args:=[.string fnPU,.string s,.int .i64 16,.int .i64 32,.iface 176 (.int .i64 2)]) mixed Tryz.func101 (by kernel_rfl) (t_strconv_toError_s16_eq s) ?_
 unfold t_strconv_toError_s16
 refine sem_bool (b:=true) (fun K' hk=>by rw [cmp22]; exact hk) ?_
 refine cond_t rfl (call_of (syntaxError_hc _ s h hs hl) ?_)
 rintro _ h1 ⟨⟨a,rfl⟩,e1⟩
 exact ⟨(some a,()),rfl,⟨a,rfl⟩,e1⟩
theorem toError_r10_hc (s:ByteArray) (h:Hp) (hs:s.size≤2^48) (hl:Laid h):HC Tryz.prog 101 #[.string fnPU,.string s,.int .i64 10,.int .i64 32,.iface 176 (.int .i64 1)] h fun v h'=>(∃ a,v=.iface 179 (.pointer (some a)))∧Ext h h':=by
 refine hcr_of (args:=[.string fnPU,.string s,.int .i64 10,.int .i64 32,.iface 176 (.int .i64 1)]) mixed Tryz.func101 (by kernel_rfl) (t_strconv_toError_r10_eq s) ?_
 unfold t_strconv_toError_r10
 refine sem_bool (b:=false) (fun K' hk=>by rw [cmp12]; exact hk) (cond_f rfl ?_)
 refine sem_bool (b:=true) (fun K' hk=>by rw [cmp11]; exact hk) ?_
 refine cond_t rfl (call_of (rangeError_hc _ s h hs hl) ?_)
 rintro _ h1 ⟨⟨a,rfl⟩,e1⟩
 exact ⟨(some a,()),rfl,⟨a,rfl⟩,e1⟩
def dv (c:UInt8):Nat:=if c.toNat<58 then c.toNat-48 else c.toNat-87
def valB (b:Nat) (l:List UInt8):Nat:=l.foldl (fun n c=>n*b+dv c) 0
def isHex (c:UInt8):Bool:=isDig c || (97≤c.toNat && c.toNat≤102)
theorem valB_snoc (b:Nat) (l:List UInt8) (k:Nat) (hk:k<l.length):valB b (l.take (k+1))=valB b (l.take k)*b+dv (l.getD k 0):=by
 unfold valB
 rw [List.take_succ_eq_append_getElem hk,List.foldl_append]
 simp [List.getD,List.getElem?_eq_getElem hk]
theorem foldl_ge (b:Nat) (hb:0<b):∀ (l:List UInt8) (n:Nat),n≤l.foldl (fun n c=>n*b+dv c) n
 | [],n=>Nat.le_refl _
 | c::l,n=>by
  rw [List.foldl_cons]
  refine Nat.le_trans ?_ (foldl_ge b hb l _)
  have:=Nat.mul_le_mul_left n hb
  omega
theorem valB_take_le (b:Nat) (hb:0<b) (l:List UInt8) (k:Nat):valB b (l.take k)≤valB b l:=by
 conv=>rhs; rw [← List.take_append_drop k l]
 unfold valB
 rw [List.foldl_append]
 exact foldl_ge b hb _ _
theorem lower_hc (c:UInt8) (h:Hp) (h1:97≤c.toNat) (h2:c.toNat≤122):HCp Tryz.prog 109 [.int .u8 (cN c)] h (.int .u8 (cN c)):=by
 refine hcp_of mixed Tryz.func109 (by kernel_rfl) (t_internal_strconv_lower_eq _) ?_
 refine ⟨?_,rfl⟩
 congr 1
 have:=all_bytes (fun c=>!(decide (97≤c.toNat) && decide (c.toNat≤122)) || decide (IntKind.wrap .u8 ((BitVec.toNat ((BitVec.ofInt 8 (cN c)) ||| (BitVec.ofInt 8 (32:Int)))):Int)=cN c)) (fun _=>true) (by decide +kernel) c
 simp only [h1,h2,decide_true,Bool.and_self,Bool.not_true,Bool.false_or,decide_eq_true_eq] at this
 exact this
def puR (b:Nat) (l:List UInt8):Nat × Value:=if l=[] then (0,.iface 176 (.int .i64 2)) else if valB b l<4294967296 then (valB b l,.nilIface) else (4294967295,.iface 176 (.int .i64 1))
theorem nil_iff (s:ByteArray):s.data.toList=[]↔s.size=0:=by
 have hsz:s.data.toList.length=s.size:=by simp
 constructor
 ·intro h; rw [h] at hsz; simpa using hsz.symm
 ·intro h; exact List.eq_nil_of_length_eq_zero (by omega)
theorem puTen_hc (s:ByteArray) (h:Hp) (hs:s.size≤2^48) (hd:∀ i,i<s.size→isDig (s.data.toList.getD i 0)=true) :
  HC Tryz.prog 100 #[.string s,.int .i64 10,.int .i64 32] h fun v h'=>v=.tuple #[.int .u64 (puR 10 s.data.toList).1,(puR 10 s.data.toList).2]∧Ext h h':=by
 refine hcr_of (args:=[.string s,.int .i64 10,.int .i64 32]) mixed Tryz.func100 (by kernel_rfl) (t_internal_strconv_ParseUint_ten_eq s) ?_
 unfold t_internal_strconv_ParseUint_ten puR
 have hsz:s.data.toList.length=s.size:=by simp
 refine cond_mk (fun h1=>?_) (fun h1=>?_)
 ·have h1:s.data.toList=[]:=by rw [toList_nil] at h1; rw [nil_iff]; simpa using h1
  rw [if_pos h1]
  exact ⟨rfl,Ch.refl _ _⟩
 have h1:s.data.toList≠[]:=by rw [toList_nil] at h1; rw [ne_eq,nil_iff]; simpa using h1
 rw [if_neg h1]
 refine need_of (by omega) (sem_slice ?_)
 refine toBytes_of (e:=5) (by kernel_rfl) (by kernel_rfl) (by kernel_rfl) s ?_
 intro cap h1' hcap e1 hcell1
 refine ⟨_,_,_,rfl,?_⟩
 refine loop_of (cs:=[(false,[.int .u64]),(false,[.invalid]),(false,[.bool]),(false,[.int .u64]),(false,[.int .i64])])
  (fun x n h'=>h'=h1'∧x.2.2.1=false∧∃ k:Nat,x.2.2.2.2.1=(k:Int)∧x.2.2.2.1=(valB 10 (s.data.toList.take k):Int)∧k≤s.size∧n=s.size-k∧valB 10 (s.data.toList.take k)<4294967296)
  ((0:Int),Value.nilIface,false,(0:Int),(0:Int),()) s.size rfl ⟨rfl,rfl,0,rfl,rfl,by omega,by omega,by simp [valB]⟩ ?_
 rintro ⟨n4,v5,b6,n7,n8,⟨⟩⟩ m h' ⟨rfl,hb6,k,hk,hn7,hle,rfl,hv⟩
 simp only at hb6 hk hn7
 subst hb6 hk hn7
 refine cond_mk (fun hb=>?_) (fun hb=>?_)
 ·have hlt:(k:Int)<s.size:=of_decide_eq_true hb
  have hkl:k<s.size:=by omega
  refine need_of ⟨(by show (0:Int)≤(k:Int); omega),hlt⟩ (osome_mk rfl ?_)
  have hc:=hcell1 k hkl
  have hdk:=(isDig_iff _).1 (hd k hkl)
  refine loads_of (cN (s.data.toList.getD k 0),()) ⟨?_,trivial⟩ ?_
  ·rw [add_box,add_box]
   rw [show 0+Int.toNat (k:Int)*1+0=k by omega]
   exact hc
  have hst:=valB_snoc 10 s.data.toList k (by omega)
  have hdv:(dv (s.data.toList.getD k 0):Int)=cN (s.data.toList.getD k 0)-48:=by
   unfold dv cN at *
   rw [if_pos (by omega)]; omega
  generalize cN (s.data.toList.getD k 0)=c at hdk hdv ⊢
  generalize dv (s.data.toList.getD k 0)=d at hst hdv
  have hw1:IntKind.wrap .u8 (c-48)=d:=by rw [wrap_u8 (by omega) (by omega)]; omega
  have hw2:IntKind.wrap .u64 (d:Int)=d:=wrap_u64 (by omega) (by omega)
  have hw3:IntKind.wrap .u64 ((valB 10 (s.data.toList.take k):Int)*10)=(valB 10 (s.data.toList.take k):Int)*10:=wrap_u64 (by omega) (by omega)
  have hw4:IntKind.wrap .u64 ((valB 10 (s.data.toList.take k):Int)*10+d)=(valB 10 (s.data.toList.take (k+1)):Int):=by rw [wrap_u64 (by omega) (by omega),hst]; omega
  refine cond_f (show (c==95)=false from by simp; omega) ?_
  refine cond_t (show decide (48≤c)=true from decide_eq_true (by omega)) (cond_t (show decide (c≤57)=true from decide_eq_true (by omega)) ?_)
  rw [hw1,hw2]
  refine cond_f (show decide ((d:Int)≥10)=false from decide_eq_false (by omega)) ?_
  refine cond_f (show decide ((valB 10 (s.data.toList.take k):Int)≥1844674407370955162)=false from decide_eq_false (by omega)) ?_
  rw [hw3,hw4]
  refine cond_f (decide_eq_false (by omega)) ?_
  have hmono:=valB_take_le 10 (by omega) s.data.toList (k+1)
  refine cond_mk (fun h5=>?_) (fun h5=>?_)
  ·have h5:=of_decide_eq_true h5
   rw [if_neg (by omega)]
   exact ⟨rfl,e1⟩
  ·have h5:=of_decide_eq_false h5
   have hw5:IntKind.wrap .i64 ((k:Int)+1)=(k:Int)+1:=wrap_i64 (by omega) (by omega)
   exact again_mk (cs:=[(false,[.int .u64]),(false,[.invalid]),(false,[.bool]),(false,[.int .u64]),(false,[.int .i64])]) (n4,v5,false,(valB 10 (s.data.toList.take (k+1)):Int),(k:Int)+1,()) (s.size-(k+1)) rfl (by omega) (congrArg (fun z=>[Value.int .u64 n4,v5,.bool false,.int .u64 (valB 10 (s.data.toList.take (k+1)):Int),.int .i64 z]) hw5)
    ⟨rfl,rfl,k+1,(show ((k:Int)+1)=((k+1:Nat):Int) from by omega),rfl,by omega,rfl,by omega⟩
 ·have hge:¬ (k:Int)<s.size:=of_decide_eq_false hb
  have hk:k=s.data.toList.length:=by omega
  rw [hk,List.take_length] at hv
  refine cond_f rfl ?_
  rw [if_pos hv]
  refine ⟨?_,e1⟩
  show Value.tuple #[.int .u64 (valB 10 (s.data.toList.take k):Int),.nilIface]=_
  rw [hk,List.take_length]
theorem isHex_iff (c:UInt8):isHex c=true↔(48≤cN c∧cN c≤57)∨(97≤cN c∧cN c≤102):=by
 unfold isHex
 rw [Bool.or_eq_true,isDig_iff]
 unfold cN
 simp only [Bool.and_eq_true,decide_eq_true_eq]
 omega
theorem dv_hex (c:UInt8) (h:isHex c=true):(cN c≤57→(dv c:Int)=cN c-48)∧(57<cN c→(dv c:Int)=cN c-87)∧dv c<16:=by
 have:=(isHex_iff c).1 h
 unfold dv cN at *
 split <;> omega
theorem puHex_hc (s:ByteArray) (h:Hp) (hs:s.size≤2^48) (hd:∀ i,i<s.size→isHex (s.data.toList.getD i 0)=true) :
  HC Tryz.prog 100 #[.string s,.int .i64 16,.int .i64 32] h fun v h'=>v=.tuple #[.int .u64 (puR 16 s.data.toList).1,(puR 16 s.data.toList).2]∧Ext h h':=by
 refine hcr_of (args:=[.string s,.int .i64 16,.int .i64 32]) mixed Tryz.func100 (by kernel_rfl) (t_internal_strconv_ParseUint_hex_eq s) ?_
 unfold t_internal_strconv_ParseUint_hex puR
 have hsz:s.data.toList.length=s.size:=by simp
 refine cond_mk (fun h1=>?_) (fun h1=>?_)
 ·have h1:s.data.toList=[]:=by rw [toList_nil] at h1; rw [nil_iff]; simpa using h1
  rw [if_pos h1]
  exact ⟨rfl,Ch.refl _ _⟩
 have h1:s.data.toList≠[]:=by rw [toList_nil] at h1; rw [ne_eq,nil_iff]; simpa using h1
 rw [if_neg h1]
 refine need_of (by omega) (sem_slice ?_)
 refine toBytes_of (e:=5) (by kernel_rfl) (by kernel_rfl) (by kernel_rfl) s ?_
 intro cap h1' hcap e1 hcell1
 refine ⟨_,_,_,rfl,?_⟩
 refine loop_of (cs:=[(false,[.int .u64]),(false,[.invalid]),(false,[.bool]),(false,[.int .u64]),(false,[.int .i64])])
  (fun x n h'=>h'=h1'∧x.2.2.1=false∧∃ k:Nat,x.2.2.2.2.1=(k:Int)∧x.2.2.2.1=(valB 16 (s.data.toList.take k):Int)∧k≤s.size∧n=s.size-k∧valB 16 (s.data.toList.take k)<4294967296)
  ((0:Int),Value.nilIface,false,(0:Int),(0:Int),()) s.size rfl ⟨rfl,rfl,0,rfl,rfl,by omega,by omega,by simp [valB]⟩ ?_
 rintro ⟨n4,v5,b6,n7,n8,⟨⟩⟩ m h' ⟨rfl,hb6,k,hk,hn7,hle,rfl,hv⟩
 simp only at hb6 hk hn7
 subst hb6 hk hn7
 refine cond_mk (fun hb=>?_) (fun hb=>?_)
 ·have hlt:(k:Int)<s.size:=of_decide_eq_true hb
  have hkl:k<s.size:=by omega
  refine need_of ⟨(by show (0:Int)≤(k:Int); omega),hlt⟩ (osome_mk rfl ?_)
  have hc:=hcell1 k hkl
  have hdk:=(isHex_iff _).1 (hd k hkl)
  refine loads_of (cN (s.data.toList.getD k 0),()) ⟨?_,trivial⟩ ?_
  ·rw [add_box,add_box]
   rw [show 0+Int.toNat (k:Int)*1+0=k by omega]
   exact hc
  have hst:=valB_snoc 16 s.data.toList k (by omega)
  have hdv:=dv_hex _ (hd k hkl)
  have hlo:=fun hh=>lower_hc (s.data.toList.getD k 0) h' hh
  have hcn:((s.data.toList.getD k 0).toNat:Int)=cN (s.data.toList.getD k 0):=rfl
  generalize (s.data.toList.getD k 0).toNat=cn at hlo hcn
  generalize cN (s.data.toList.getD k 0)=c at hdk hdv hlo hcn ⊢
  generalize dv (s.data.toList.getD k 0)=d at hst hdv
  have hw2:IntKind.wrap .u64 (d:Int)=d:=wrap_u64 (by omega) (by omega)
  have hw3:IntKind.wrap .u64 ((valB 16 (s.data.toList.take k):Int)*16)=(valB 16 (s.data.toList.take k):Int)*16:=wrap_u64 (by omega) (by omega)
  have hw4:IntKind.wrap .u64 ((valB 16 (s.data.toList.take k):Int)*16+d)=(valB 16 (s.data.toList.take (k+1)):Int):=by rw [wrap_u64 (by omega) (by omega),hst]; omega
  have hw5:IntKind.wrap .i64 ((k:Int)+1)=(k:Int)+1:=wrap_i64 (by omega) (by omega)
  have hmono:=valB_take_le 16 (by omega) s.data.toList (k+1)
  refine cond_f (show (c==95)=false from by simp; omega) ?_
  refine cond_t (show decide (48≤c)=true from decide_eq_true (by omega)) ?_
  refine cond_mk (fun h9=>?_) (fun h9=>?_)
  ·have h9:c≤57:=of_decide_eq_true h9
   have hw1:IntKind.wrap .u8 (c-48)=d:=by rw [wrap_u8 (by omega) (by omega)]; omega
   rw [hw1,hw2]
   refine cond_f (show decide ((d:Int)≥16)=false from decide_eq_false (by omega)) ?_
   refine cond_f (show decide ((valB 16 (s.data.toList.take k):Int)≥1152921504606846976)=false from decide_eq_false (by omega)) ?_
   rw [hw3,hw4]
   refine cond_f (decide_eq_false (by omega)) ?_
   refine cond_mk (fun h5=>?_) (fun h5=>?_)
   ·have h5:=of_decide_eq_true h5
    rw [if_neg (by omega)]
    exact ⟨rfl,e1⟩
   ·have h5:=of_decide_eq_false h5
    exact again_mk (cs:=[(false,[.int .u64]),(false,[.invalid]),(false,[.bool]),(false,[.int .u64]),(false,[.int .i64])]) (n4,v5,false,(valB 16 (s.data.toList.take (k+1)):Int),(k:Int)+1,()) (s.size-(k+1)) rfl (by omega) (congrArg (fun z=>[Value.int .u64 n4,v5,.bool false,.int .u64 (valB 16 (s.data.toList.take (k+1)):Int),.int .i64 z]) hw5)
     ⟨rfl,rfl,k+1,(show ((k:Int)+1)=((k+1:Nat):Int) from by omega),rfl,by omega,rfl,by omega⟩
  ·have h9:¬ c≤57:=of_decide_eq_false h9
   have hlo:=hlo (by omega) (by omega)
   refine call_int hlo ?_
   refine cond_t (show decide (97≤c)=true from decide_eq_true (by omega)) ?_
   refine call_int hlo ?_
   refine cond_t (show decide (c≤122)=true from decide_eq_true (by omega)) ?_
   refine call_int hlo ?_
   have hw0:IntKind.wrap .u8 (c-97)=c-97:=wrap_u8 (by omega) (by omega)
   have hw1:IntKind.wrap .u8 (c-97+10)=d:=by rw [wrap_u8 (by omega) (by omega)]; omega
   rw [hw0,hw1,hw2]
   refine cond_f (show decide ((d:Int)≥16)=false from decide_eq_false (by omega)) ?_
   refine cond_f (show decide ((valB 16 (s.data.toList.take k):Int)≥1152921504606846976)=false from decide_eq_false (by omega)) ?_
   rw [hw3,hw4]
   refine cond_f (decide_eq_false (by omega)) ?_
   refine cond_mk (fun h5=>?_) (fun h5=>?_)
   ·have h5:=of_decide_eq_true h5
    rw [if_neg (by omega)]
    exact ⟨rfl,e1⟩
   ·have h5:=of_decide_eq_false h5
    exact again_mk (cs:=[(false,[.int .u64]),(false,[.invalid]),(false,[.bool]),(false,[.int .u64]),(false,[.int .i64])]) (n4,v5,false,(valB 16 (s.data.toList.take (k+1)):Int),(k:Int)+1,()) (s.size-(k+1)) rfl (by omega) (congrArg (fun z=>[Value.int .u64 n4,v5,.bool false,.int .u64 (valB 16 (s.data.toList.take (k+1)):Int),.int .i64 z]) hw5)
     ⟨rfl,rfl,k+1,(show ((k:Int)+1)=((k+1:Nat):Int) from by omega),rfl,by omega,rfl,by omega⟩
 ·have hge:¬ (k:Int)<s.size:=of_decide_eq_false hb
  have hk:k=s.data.toList.length:=by omega
  rw [hk,List.take_length] at hv
  refine cond_f rfl ?_
  rw [if_pos hv]
  refine ⟨?_,e1⟩
  show Value.tuple #[.int .u64 (valB 16 (s.data.toList.take k):Int),.nilIface]=_
  rw [hk,List.take_length]
end Go.Sx
