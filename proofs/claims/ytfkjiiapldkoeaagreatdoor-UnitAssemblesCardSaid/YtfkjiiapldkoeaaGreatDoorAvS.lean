/- slices.Sorted behind maps.Keys, of a map from texts to Bools. Condition: as each statement says. -/
import Derived.Test.YtfkjiiapldkoeaaGreatDoorP2
set_option linter.all false
set_option maxRecDepth 100000
set_option maxHeartbeats 4000000
namespace Go.Proofs
open Go.RowKit Go.Maps Go.Sort Go.Shelf
def Tryz.zL:Go.Shelf.Ren:=⟨fun | 7=>35 | 10=>68 | n=>n,fun | 23=>70 | 26=>9 | 3=>4 | 28=>79 | 0=>0 | 27=>78 | 33=>39 | 4=>4 | n=>n,fun | n=>n⟩
def Tryz.K1:Go.Proofs.SlLaysZ.n7 Tryz.prog Tryz.zL:={
 mixed:=aB
 f7:=⟨Tryz.f35.name,bO,Tryz.func35.trans (congrArg some aB)⟩
 f10:=⟨Tryz.f68.name,bO,Tryz.func68.trans (congrArg some aB)⟩
 t0:=Tryz.underlying0
 a0:=Tryz.isAgg0
 z0:=Tryz.sizeOf0
 v0:=Tryz.zeroValue0
 t4:=Tryz.underlying4
 a4:=Tryz.isAgg4
 z4:=Tryz.sizeOf4
 v4:=Tryz.zeroValue4
 t23:=Tryz.underlying70
 a23:=Tryz.isAgg70
 z23:=Tryz.sizeOf70
 v23:=Tryz.zeroValue70
 t26:=Tryz.underlying9
 a26:=Tryz.isAgg9
 z26:=Tryz.sizeOf9
 v26:=Tryz.zeroValue9
 t27:=Tryz.underlying78
 a27:=Tryz.isAgg78
 z27:=Tryz.sizeOf78
 v27:=Tryz.zeroValue78
 t28:=Tryz.underlying79
 a28:=Tryz.isAgg79
 z28:=Tryz.sizeOf79
 v28:=Tryz.zeroValue79
 t33:=Tryz.underlying39
 a33:=Tryz.isAgg39
 z33:=Tryz.sizeOf39
 v33:=Tryz.zeroValue39 }
def Tryz.CJ (mb:Option Nat) (W:World):CallsIn Fence.wide 5 Tryz.prog 35 #[.map mb] W fun e w'=>e=.returned (.func (.func 68) #[] #[.pointer (some ⟨W.heap.size,0,none⟩)])/\w'=W.alloc (.cells #[.map mb] 70) :=
 AnyZ.keys_in Tryz.K1 Fence.wide 5 trivial rfl mb W
def Tryz.qB {H:Type} (b nn:Nat) (D0:DataW H) (R:Value->Option (DataW H × List MemPlace)) (w:World) (hown:w.ownsMap Tryz.prog 9 R b nn D0) (hmax:Maps.size D0<=maxLen) (hbytes:Maps.size D0*16<=140737488355328) :
  CallsIn Fence.wide 5 Tryz.prog 34 #[.func (.func 68) #[] #[.pointer (some ⟨w.heap.size,0,none⟩)]] (w.alloc (.cells #[.map (some b)] 70)) fun e w'=>∃ (v:Value) (ss:List (List UInt8)),e=.returned v/\ss.Perm (strKeys D0) /\
   w'.ownsRow (w.alloc (.cells #[.map (some b)] 70)).heap.size 9 1 v ss.length ((ss.mergeSort (fun x y=>decide (x<=y))).map encStr)/\(v=.slice none 0 0↔ss=[])/\Below (w.alloc (.cells #[.map (some b)] 70)).heap.size (w.alloc (.cells #[.map (some b)] 70)) w':=by
 have hbl:=hown.lt;have hseq:SeqGives Fence.wide 2 Tryz.prog 68 #[.pointer (some ⟨w.heap.size,0,none⟩)] encStr (fun ss=>ss.Perm (strKeys D0)) (Maps.size D0) (w.alloc (.cells #[.map (some b)] 70)) :=
  AnyZ.keys_gives (ρ:=Tryz.zL) { Tryz.K1 with } Fence.wide _ trivial rfl ae w.heap.size b nn D0 _ aj aj (by
   obtain ⟨es,clock,hb,Ft,hs,hD⟩:=hown;exact ⟨es,clock,(Below.heap_alloc _ _ b hbl).trans hb,Ft,hs,hD⟩)
 exact AnyZ.sorted_in Tryz.zO Fence.wide 5 trivial trivial trivial trivial rfl ae (Tryz.Cf _) (enters_of Tryz.func43 aB rfl) 68 #[.pointer (some ⟨w.heap.size,0,none⟩)] trivial (enters_of Tryz.func68 aB rfl) _ _ hmax hbytes _ hseq
end Go.Proofs
namespace Go.Sx
open Go.Proofs
open Go.RowKit Go.Maps
def HS (r:Option Nat) (h:Hp):HC Tryz.prog 35 #[.map r] h fun v h'=>v=.func (.func 68) #[] #[.pointer (some ⟨h.size,0,none⟩)]/\h'=h.push (.cells #[.map r] 70):=by
 intro W hW;subst hW;exact (callsIn_wide.1 (Tryz.CJ r W)).mono fun e w' ⟨he,hw⟩=>⟨_,he,by rw [hw]; exact cY.alloc _ _,rfl,by rw [hw]; rfl⟩
def DU {h:Hp} {g:Nat} {D:List (ByteArray × Value)} (m:fZ h g D) (hl:D.length<=2^40) :
  HC Tryz.prog 34 #[.func (.func 68) #[] #[.pointer (some ⟨h.size,0,none⟩)]] (h.push (.cells #[.map (some g)] 70)) fun v h'=>∃ p l c,v=.slice p l c/\SL h' (h.size+1) 9 1 p l c ((keysOf D).map fun k=>[encStr k]) /\
   Ext (h.push (.cells #[.map (some g)] 70)) h':=by
 intro W hW;obtain ⟨D0,hown,hperm,hsize⟩:=fZ.owns (W:={ W with heap:=h }) m (by unfold maxLen; omega);have hc:=callsIn_wide.1 (Tryz.qB g D.length D0 D9 { W with heap:=h } hown (by rw [hsize]; unfold maxLen; omega) (by rw [hsize]; omega));rw [World.By hW] at hc;refine hc.mono fun e w' hr=>?_
 obtain ⟨v,ss,he,hp,hrow,_,hb⟩:=hr;have hss:ss.mergeSort (fun x y=>decide (x<=y))=keysOf D:=mergeSort_of_perm (hp.trans hperm);have hlen:ss.length=((ss.mergeSort (fun x y=>decide (x<=y))).map encStr).length:=by rw [List.length_map,List.length_mergeSort]
 rw [hlen,hss] at hrow;obtain ⟨p,l,c,hv,hsl⟩:=SL.He hrow;refine ⟨v,he,⟨hb.os,hb.tape,hb.output⟩,p,l,c,hv,?_,?_⟩
 ·rw [List.map_map] at hsl
  have:W.heap.size=h.size+1:=by rw [hW]; simp
  rw [this] at hsl;exact hsl
 ·rw [<- hW];exact ⟨hb.size,fun i hi _=>hb.block i hi⟩
end Go.Sx
