/- Contracts over heaps, and plain laws, for the functions that the laws of chapter 9 call, part 6: The document's reading of a source, over heaps: all faults, and the unit of the  Condition: as each statement says. -/
import Derived.Test.YtfkjiiapldkoeaaGreatDoorP5
import Derived.Test.YtfkjiiapldkoeaaGreatDoorAtS
import Derived.Test.YtfkjiiapldkoeaaGreatDoorAobjShelf
import Derived.Test.YtfkjiiapldkoeaaGreatDoorAtN
import Derived.Test.YtfkjiiapldkoeaaGreatDoorAtO
import Derived.Test.YtfkjiiapldkoeaaGreatDoorAtP
import Derived.Test.YtfkjiiapldkoeaaGreatDoorAtT
import Derived.RangeFuncWrites
import Derived.LaidEql
import Derived.Stop.Asserts
import Derived.RowKitTokens
import Derived.Lib.ItoaLen
set_option linter.unusedVariables false
set_option linter.unusedSimpArgs false
set_option maxRecDepth 100000
namespace Go.Sx.Ob
open Go.Proofs
def j9 (h:Hp) (b:Nat) (a b' c d:bI) (u:jv):Prop:=∃ ut ud ue ow,Core h b u.text u.data u.aZ a b' c ut ud ue ow∧SN h b d.p d.l d.c u.aF
theorem j9.zero (h:Hp) (b:Nat):j9 h b fL fL fL fL rO:=⟨[],[],[],fun _=>0,Core.nil _ _ _,SL.nil _ _ _ _⟩
set_option maxHeartbeats 4000000 in
def rj:Except (Nat × Nat) jv→jv × (Nat × Nat)
 | .error q=>(rO,q)
 | .ok u=>(u,(0,0))
theorem j9.ah {h h':Hp} {b:Nat} {a b' c d:bI} {u:jv} {ws:List Nat} (U:j9 h b a b' c d u) (k:Ch ws h h') (hw:∀ i,i∈ws→i<h.size→i<b):j9 h' b a b' c d u:=by
 obtain ⟨ut,ud,ue,ow,C,S⟩:=U
 exact ⟨ut,ud,ue,ow,C.ah k (fun i h1 h2 h3=>by have:=hw i h1 h2; omega),SL.ur S k hw⟩
theorem j9.mono {h:Hp} {b b1:Nat} {a b' c d:bI} {u:jv} (U:j9 h b a b' c d u) (hb:b1≤b):j9 h b1 a b' c d u:=by
 obtain ⟨ut,ud,ue,ow,C,S⟩:=U
 exact ⟨ut,ud,ue,ow,⟨Sx.SL.mono C.t1 hb,fun u hu=>Sx.SL.mono (C.t2 u hu) hb,C.t3,Sx.SL.mono C.d1 hb,fun u hu=>Sx.SL.mono (C.d2 u hu) hb,C.d3,Sx.SL.mono C.e1 hb,fun u hu=>Sx.SL.mono (C.e2 u hu) hb,C.e3,C.o3,C.o4,C.o5,C.ot,C.od,C.oe⟩,Sx.SL.mono S hb⟩
end Go.Sx.Ob
set_option linter.unusedVariables false
set_option linter.unusedSimpArgs false
set_option maxRecDepth 100000
namespace Go.Proofs
open Go.RowKit Go.Shelf Go.Sx.Ob
attribute [local go_sem] Oper.semAt_some
theorem JO {tmps:Array Value} {w:World} {p q:Nat} {va vb vc vd ev:Value} (h2:tmps.getD 2 undef=.pointer (some ⟨p,0,none⟩)) (h3:tmps.getD 3 undef=.pointer (some ⟨q,0,none⟩)) (bp:Sx.aN w.heap p 27 [va,vb,vc,vd]) (bq:Sx.aN w.heap q 29 [ev]) :
  (results Tryz.f10 tmps).run Tryz.prog w=.ok (.tuple #[.agg #[va,vb,vc,vd],ev]) w:=by
 have c0:w.cell? ⟨p,0,none⟩=some va:=by rw [Sx.dz,bp.cell]; rfl
 have c1:w.cell? ⟨p,1,none⟩=some vb:=by rw [Sx.dz,bp.cell]; rfl
 have c2:w.cell? ⟨p,2,none⟩=some vc:=by rw [Sx.dz,bp.cell]; rfl
 have c3:w.cell? ⟨p,3,none⟩=some vd:=by rw [Sx.dz,bp.cell]; rfl
 have c4:w.cell? ⟨q,0,none⟩=some ev:=by rw [Sx.dz,bq.cell]; rfl
 rw [Array.getD_eq_getD_getElem?] at h2 h3
 simp [results,Tryz.f10,go_sem,h2,h3,c0,c1,c2,c3,c4]
theorem zb {R:Ending→World→Prop} {tmps:Array Value} {dl:List Deferred} {W':World} {b0 p q:Nat} {va vb vc vd ev:Value} (hm:Marks b0 dl W') (h2:tmps.getD 2 undef=.pointer (some ⟨p,0,none⟩)) (h3:tmps.getD 3 undef=.pointer (some ⟨q,0,none⟩)) (bp:Sx.aN W'.heap p 27 [va,vb,vc,vd]) (bq:Sx.aN W'.heap q 29 [ev])
  (hR:∀ w':World,Below b0 W' w'→(∀ B:Nat,W'.heap[B]?≠some (Obj.deferred (some []))→w'.heap[B]?=W'.heap[B]?)→R (.returned (.tuple #[.agg #[va,vb,vc,vd],ev])) w') :
  bodyPostM Fence.wide 7 Tryz.prog Tryz.f10 R Exit.ret { tmps:=tmps,defers:=dl } W':=by
 refine Marks.leaves hm fun w' hb hk=>?_
 have bp':Sx.aN w'.heap p 27 [va,vb,vc,vd]:=by
  unfold Sx.aN at bp ⊢
  rw [hk p (by rw [bp]; simp),bp]
 have bq':Sx.aN w'.heap q 29 [ev]:=by
  unfold Sx.aN at bq ⊢
  rw [hk q (by rw [bq]; simp),bq]
 exact ⟨_,JO h2 h3 bp' bq',hR w' hb hk⟩
theorem ya {n f l:Nat} {args:Array Value} {W:World} {R:Value→Sx.Hp→Prop} {K:Ending→World→Prop} (h:Sx.HC Tryz.prog f args W.heap R) (hK:∀ v w',Sx.bL W w'→R v w'.heap→K (.returned v) w'):(Fence.wide.inRound l).fn f∧CallsIn (Fence.wide.inRound l) n Tryz.prog f args W K :=
 ⟨trivial,(CallsIn.inRound l (callsIn_wide.2 (h W rfl))).mono fun e w' ⟨v,hv,hb,hr⟩=>by subst hv; exact hK v w' hb hr⟩
end Go.Proofs
set_option linter.unusedVariables false
set_option maxRecDepth 100000
namespace Go.Proofs
open Go.RowKit Go.Maps Go.Sort Go.Shelf
def Tryz.xy:Go.Shelf.Ren:=⟨fun | 7=>35 | 10=>68 | n=>n,fun | 23=>70 | 26=>9 | 3=>4 | 28=>79 | 0=>0 | 27=>78 | 33=>39 | 4=>4 | n=>n,fun | n=>n⟩
theorem Tryz.IM:Go.Proofs.SlLaysZ.n7 Tryz.prog Tryz.xy:={
 mixed:=by kernel_rfl
 f7:=⟨Tryz.f35.name,by decide,Tryz.func35.trans (congrArg some (by kernel_rfl))⟩
 f10:=⟨Tryz.f68.name,by decide,Tryz.func68.trans (congrArg some (by kernel_rfl))⟩
 t0:=Tryz.underlying0
 a0:=Tryz.isAgg0
 z0:=Tryz.sizeOf0
 v0:=Tryz.zeroValue0
 t4:=Tryz.underlying4
 a4:=Tryz.isAgg4
 z4:=Tryz.sizeOf4
 v4:=Tryz.zeroValue4
 t23:=Tryz.underlying70
 a23:=Tryz.isAgg70
 z23:=Tryz.sizeOf70
 v23:=Tryz.zeroValue70
 t26:=Tryz.underlying9
 a26:=Tryz.isAgg9
 z26:=Tryz.sizeOf9
 v26:=Tryz.zeroValue9
 t27:=Tryz.underlying78
 a27:=Tryz.isAgg78
 z27:=Tryz.sizeOf78
 v27:=Tryz.zeroValue78
 t28:=Tryz.underlying79
 a28:=Tryz.isAgg79
 z28:=Tryz.sizeOf79
 v28:=Tryz.zeroValue79
 t33:=Tryz.underlying39
 a33:=Tryz.isAgg39
 z33:=Tryz.sizeOf39
 v33:=Tryz.zeroValue39 }
theorem Tryz.Ay (mb:Option Nat) (W:World):CallsIn Fence.wide 5 Tryz.prog 35 #[.map mb] W fun e w'=>e=.returned (.func (.func 68) #[] #[.pointer (some ⟨W.heap.size,0,none⟩)])∧w'=W.alloc (.cells #[.map mb] 70) :=
 AnyZ.keys_in Tryz.IM Fence.wide 5 trivial rfl mb W
theorem Tryz.mG {H:Type} (b nn:Nat) (D0:DataW H) (R:Value→Option (DataW H × List MemPlace)) (w:World) (hown:w.ownsMap Tryz.prog 9 R b nn D0) (hmax:Maps.size D0≤maxLen) (hbytes:Maps.size D0*16≤140737488355328) :
  CallsIn Fence.wide 5 Tryz.prog 34 #[.func (.func 68) #[] #[.pointer (some ⟨w.heap.size,0,none⟩)]] (w.alloc (.cells #[.map (some b)] 70)) fun e w'=>∃ (v:Value) (ss:List (List UInt8)),e=.returned v∧ss.Perm (strKeys D0) ∧
   w'.ownsRow (w.alloc (.cells #[.map (some b)] 70)).heap.size 9 1 v ss.length ((ss.mergeSort (fun x y=>decide (x≤y))).map encStr)∧(v=.slice none 0 0↔ss=[])∧Below (w.alloc (.cells #[.map (some b)] 70)).heap.size (w.alloc (.cells #[.map (some b)] 70)) w':=by
 have hbl:=hown.lt
 have hseq:SeqGives Fence.wide 2 Tryz.prog 68 #[.pointer (some ⟨w.heap.size,0,none⟩)] encStr (fun ss=>ss.Perm (strKeys D0)) (Maps.size D0) (w.alloc (.cells #[.map (some b)] 70)) :=
  AnyZ.keys_gives (ρ:=Tryz.xy) { Tryz.IM with } Fence.wide _ trivial rfl (by omega) w.heap.size b nn D0 _ (by simp) (by simp) (by
   obtain ⟨es,clock,hb,Ft,hs,hD⟩:=hown
   exact ⟨es,clock,(Below.heap_alloc _ _ b hbl).trans hb,Ft,hs,hD⟩)
 exact AnyZ.sorted_in Tryz.xM Fence.wide 5 trivial trivial trivial trivial rfl (by omega) (Tryz.Ae _) (enters_of Tryz.func43 (by kernel_rfl) rfl) 68 #[.pointer (some ⟨w.heap.size,0,none⟩)] trivial (enters_of Tryz.func68 (by kernel_rfl) rfl) _ _ hmax hbytes _ hseq
end Go.Proofs
namespace Go.Sx
open Go.Proofs
open Go.RowKit Go.Maps
theorem F1 (r:Option Nat) (h:Hp):HC Tryz.prog 35 #[.map r] h fun v h'=>v=.func (.func 68) #[] #[.pointer (some ⟨h.size,0,none⟩)]∧h'=h.push (.cells #[.map r] 70):=by
 intro W hW
 subst hW
 exact (callsIn_wide.1 (Tryz.Ay r W)).mono fun e w' ⟨he,hw⟩=>⟨_,he,by rw [hw]; exact bL.alloc _ _,rfl,by rw [hw]; rfl⟩
theorem BK {h:Hp} {g:Nat} {D:List (ByteArray × Value)} (m:eI h g D) (hl:D.length≤2^40) :
  HC Tryz.prog 34 #[.func (.func 68) #[] #[.pointer (some ⟨h.size,0,none⟩)]] (h.push (.cells #[.map (some g)] 70)) fun v h'=>∃ p l c,v=.slice p l c∧SL h' (h.size+1) 9 1 p l c ((keysOf D).map fun k=>[encStr k]) ∧
   Ext (h.push (.cells #[.map (some g)] 70)) h':=by
 intro W hW
 obtain ⟨D0,hown,hperm,hsize⟩:=eI.owns (W:={ W with heap:=h }) m (by unfold maxLen; omega)
 have hc:=callsIn_wide.1 (Tryz.mG g D.length D0 Bu { W with heap:=h } hown (by rw [hsize]; unfold maxLen; omega) (by rw [hsize]; omega))
 rw [World.y5 hW] at hc
 refine hc.mono fun e w' hr=>?_
 obtain ⟨v,ss,he,hp,hrow,_,hb⟩:=hr
 have hss:ss.mergeSort (fun x y=>decide (x≤y))=keysOf D:=mergeSort_of_perm (hp.trans hperm)
 have hlen:ss.length=((ss.mergeSort (fun x y=>decide (x≤y))).map encStr).length:=by rw [List.length_map,List.length_mergeSort]
 rw [hlen,hss] at hrow
 obtain ⟨p,l,c,hv,hsl⟩:=SL.FC hrow
 refine ⟨v,he,⟨hb.os,hb.tape,hb.output⟩,p,l,c,hv,?_,?_⟩
 ·rw [List.map_map] at hsl
  have:W.heap.size=h.size+1:=by rw [hW]; simp
  rw [this] at hsl
  exact hsl
 ·rw [← hW]
  exact ⟨hb.size,fun i hi _=>hb.block i hi⟩
end Go.Sx
set_option linter.unusedVariables false
set_option linter.unusedSimpArgs false
set_option maxRecDepth 100000
namespace Go.Sx.Ob
open Go.Proofs Go.Maps
theorem zE {D:List (ByteArray × Value)} {l:List ByteArray} (hn:(D.map (·.1)).Nodup) (hm:∀ s,s∈D.map (·.1)↔s∈l):keysOf D=(cj l).map (fun s=>s.data.toList):=by
 have hr:=vx l
 have nd:(cj l).Nodup:=hr.imp fun h=>vX h
 have hp:(D.map (·.1)).Perm (cj l):=(List.perm_ext_iff_of_nodup hn nd).2 fun s=>by rw [hm,rk]
 have h2:((cj l).map fun s=>s.data.toList).Perm (D.map fun p=>p.1.data.toList):=by
  have:=hp.symm.map (fun s:ByteArray=>s.data.toList)
  rw [List.map_map] at this
  exact this
 have h1:((cj l).map fun s=>s.data.toList).mergeSort (fun x y=>decide (x≤y))=keysOf D:=mergeSort_of_perm h2
 rw [← h1]
 refine List.mergeSort_of_pairwise ?_
 rw [List.pairwise_map]
 refine hr.imp fun {a b} h=>?_
 simp only [decide_eq_true_eq]
 exact List.le_of_lt h
theorem uE (s:ByteArray):∀ (l:List ByteArray),(lQ s l).length≤l.length+1
 | []=>by simp [lQ]
 | x::l=>by
  have ih:=uE s l
  unfold lQ
  split
  ·simp
  ·split
   ·simp
   ·simp only [List.length_cons]; omega
theorem xF:∀ (l d:List ByteArray),(l.foldl (fun d s=>lQ s d) d).length≤l.length+d.length
 | [],d=>by simp
 | x::l,d=>by
  rw [List.foldl_cons]
  have h1:=xF l (lQ x d)
  have h2:=uE x d
  simp only [List.length_cons]
  omega
theorem DG (l:List ByteArray):(cj l).length≤l.length:=by
 have:=xF l []
 simpa [cj] using this
theorem Gd (l:List ByteArray):((l.map fun s=>s.data.toList).map fun k=>[encStr k])=l.map F':=by
 rw [List.map_map]
 apply List.map_congr_left
 intro s _
 show [Value.string ⟨s.data.toList.toArray⟩]=[Value.string s]
 simp
def qY (w:dX):Except (Nat × Nat) jv:=match FV w with
 | some g=>.error (g.2,23)
 | none=>.ok ⟨w.text,w.data,w.aZ,cj (w.aF.map (·.1))⟩
def kX:Except (Nat × Nat) jv→Option (Nat × Nat)
 | .error q=>some q
 | .ok _=>none
def KN (b u e A:Nat) (w:dX) (h:Hp) (v:Value) (h':Hp):Prop:=Ch [u,e,A] h h'∧∃ (a b' c d:bI) (ev:Value),v=.tuple #[ti a b' c d,ev]∧j9 h' b a b' c d (rj (qY w)).1∧nk h' ev (kX (qY w))∧aN h' u 27 [a.v,b'.v,c.v,d.v]∧aN h' e 29 [ev]
theorem xr {w:dX}:∀ {l:List (ByteArray × Nat)} {i:Nat},(∀ g,g∈l.take i→fm w.names g.1=true)→(hi:i<l.length)→fm w.names l[i].1=false→l.find? (fun g=>!fm w.names g.1)=some l[i]
 | x::l,0,_,_,h=>by
  rw [List.find?_cons]
  simp only [List.getElem_cons_zero] at h
  rw [h]
  rfl
 | x::l,i+1,h1,hi,h=>by
  rw [List.find?_cons,h1 x (by simp)]
  simp only [Bool.not_true]
  exact xr (fun g hg=>h1 g (by simp [hg])) (by simpa using hi) h
set_option maxHeartbeats 4000000 in
theorem Hb {h:Hp} {b A g u e v:Nat} {w:dX} {t d e' q:bI} {ut ud:List (bI × bw)} {ue:List (bI × nh)} {ow:Nat→Nat} (a:cX h b A g w t d e' q ut ud ue ow) (W:AT w) (hG:w.aF.length≤2^20) (hu:u<b) (he:e<b) (hue:u≠e) (hb:b≤h.size) (hv:ow v=9)
  {xs:List Value} {x1:Value} (bu:aN h u 27 xs) (hxs:xs.length=4) (be:aN h e 29 [x1]) (bv:aN h v 69 [.pointer (some ⟨A,0,none⟩)]):dh u e v [] (KN b u e A w h) h:=by
 unfold dh
 have bA:=a.bA
 have hql:=a.ql
 have nvA:v≠A:=fun hh=>by have:=a.oA; rw [hh] at hv; omega
 refine Ix ?_
 intro h1 m1 e1 z1
 refine ad (bv.ah e1 (by simp)) (some ⟨A,0,none⟩,()) rfl ?_
 dsimp only [flat,aA,ai,nA,cA]
 refine an rfl ?_
 rw [ao]
 refine ad (a.box.ah e1 (by simp)) ((q.p,q.l,q.c),()) rfl ?_
 dsimp only [flat,aA,ai,nA,cA]
 refine bC (cs:=[(false,[.int .i64])]) (fun y m h'=>∃ i:Nat,y.1=(i:Int)∧m=w.aF.length-i∧i≤w.aF.length∧Ext h h'∧oc h' h.size ((w.aF.take i).map (·.1)).reverse∧∀ x,x∈w.aF.take i→fm w.names x.1=true)
  ((0:Int),()) w.aF.length rfl ⟨0,rfl,rfl,by omega,e1,m1,by simp⟩ ?_
 rintro ⟨n7,⟨⟩⟩ m h2 ⟨i,hi,rfl,hil,e2,m2,hin⟩
 simp only at hi
 subst hi
 dsimp only [flat,aA,ai,nA,cA]
 have a2:=a.ah e2 (by simp)
 have bu2:=bu.ah e2 (by simp)
 have be2:=be.ah e2 (by simp)
 have bv2:=bv.ah e2 (by simp)
 have z2:=e2.size
 refine af (fun r=>?_) (fun r=>?_)
 ·have r:=of_decide_eq_true r
  have hi':i<w.aF.length:=by omega
  have hleg:=W.aF w.aF[i] (List.getElem_mem hi')
  obtain ⟨aq,haq,hcq⟩:=SL.cells a2.aF (i:=i) (by rw [List.length_map]; exact hi')
  rw [List.getElem_map] at hcq
  refine aB ⟨by omega,by omega⟩ (an haq ?_)
  rw [show Int.toNat (i:Int)=i by omega]
  refine aH (w.aF[i].1,(w.aF[i].2:Int),()) hcq ?_
  dsimp only [flat,aA,ai,nA,cA]
  have htk:w.aF.take (i+1)=w.aF.take i++[w.aF[i]]:=List.take_succ_eq_append_getElem hi'
  have hund:fm w.names w.aF[i].1=false→qY w=.error (w.aF[i].2,23):=fun hf=>by
   unfold qY FV
   rw [xr hin hi' hf]
  generalize w.aF[i]=gi at *
  refine aT ?_
  intro h3 b3 e3 z3
  refine ak b3 rfl (by simp) ?_
  intro h4 b4 k4 z4
  have b4:aN h4 h2.size 76 [.string gi.1,.int .i64 (gi.2:Int)]:=b4
  have e24:Ext h2 h4:=Ch.trans e3 k4 (fun j hj hl=>by simp at hj; omega)
  have a4:=a2.ah e24 (by simp)
  have bv4:=bv2.ah e24 (by simp)
  refine ad bv4 (some ⟨A,0,none⟩,()) rfl ?_
  dsimp only [flat,aA,ai,nA,cA]
  refine an rfl ?_
  rw [ao]
  refine ad a4.box (some g,()) rfl ?_
  dsimp only [flat,aA,ai,nA,cA]
  refine ad b4 (gi.1,()) rfl ?_
  dsimp only [flat,aA,ai,nA,cA]
  refine ve a4.names gi.1 ?_
  refine ⟨⟨bv4.cells _ rfl,trivial⟩,?_⟩
  refine af (fun r2=>?_) (fun r2=>?_)
  ·have r2:fm w.names gi.1=false:=by simpa using r2
   have hend:=hund r2
   have bu4:=bu2.ah e24 (by simp)
   have be4:=be2.ah e24 (by simp)
   have e04:=e2.trans e24
   rw [ao]
   refine ad b4 ((gi.2:Int),()) rfl ?_
   dsimp only [flat,aA,ai,nA,cA]
   have hl2:h2.size<h4.size:=b4.lt
   have hbu:=bu.lt
   have hbe:=be.lt
   have xl:∀ hh ys,aN hh u 27 ys→ys.length=4→∃ y1 y2 y3 y4,ys=[y1,y2,y3,y4]:=fun hh ys _ hl=>by
    match ys,hl with
    | [y1,y2,y3,y4],_=>exact ⟨y1,y2,y3,y4,rfl⟩
   obtain ⟨y1,y2,y3,y4,rfl⟩:=xl h4 xs bu4 hxs
   refine ⟨?_,?_,trivial⟩
   ·refine aT ?_
    intro h5 b5 e5 z5
    have b45:=b4.ah e5 (by simp)
    refine ⟨⟨b45.cells _ rfl,trivial⟩,?_⟩
    refine ak (bu4.ah e5 (by simp)) rfl (by simp) ?_
    intro h6 b6 k6 z6
    have b6:aN h6 u 27 zU:=b6
    refine ⟨⟨(b45.ah k6 (by simp; omega)).cells _ rfl,trivial⟩,?_⟩
    refine ak ((be4.ah e5 (by simp)).ah k6 (by simp; omega)) rfl (by simp) ?_
    intro h7 b7 k7 z7
    have b7:aN h7 e 29 [.iface 59 (ptr h4.size)]:=b7
    have b67:aN h7 u 27 zU:=b6.ah k7 (by simp; omega)
    have b57:=(b5.ah k6 (by simp; omega)).ah k7 (by simp; omega)
    refine ad b67 ((none,0,0),(none,0,0),(none,0,0),(none,0,0),()) rfl ?_
    dsimp only [flat,aA,ai,nA,cA]
    refine ad b7 (Value.iface 59 (ptr h4.size),()) rfl ?_
    refine ⟨(((e04.trans e5).mono (by simp)).trans k6 (fun j hj _=>by have hj:=List.mem_singleton.1 hj; simp [hj])).trans k7 (fun j hj _=>by have hj:=List.mem_singleton.1 hj; simp [hj]),fL,fL,fL,fL,_,rfl,?_,?_,b67,b7⟩
    ·rw [hend]; exact j9.zero _ _
    ·rw [hend]; exact ⟨_,rfl,b57⟩
   ·refine ak bu4 rfl (by simp) ?_
    intro h6 b6 k6 z6
    have b6:aN h6 u 27 zU:=b6
    have b46:=b4.ah k6 (by simp; omega)
    refine ⟨⟨b46.cells _ rfl,trivial⟩,?_⟩
    refine aT ?_
    intro h5 b5 e5 z5
    refine ⟨⟨(b46.ah e5 (by simp)).cells _ rfl,trivial⟩,?_⟩
    refine ak ((be4.ah k6 (by simp; omega)).ah e5 (by simp)) rfl (by simp) ?_
    intro h7 b7 k7 z7
    have b7:aN h7 e 29 [.iface 59 (ptr h6.size)]:=b7
    have b67:aN h7 u 27 zU:=(b6.ah e5 (by simp)).ah k7 (by simp; omega)
    have b57:=b5.ah k7 (by simp; omega)
    refine ad b67 ((none,0,0),(none,0,0),(none,0,0),(none,0,0),()) rfl ?_
    dsimp only [flat,aA,ai,nA,cA]
    refine ad b7 (Value.iface 59 (ptr h6.size),()) rfl ?_
    refine ⟨(((e04.mono (by simp)).trans k6 (fun j hj _=>by have hj:=List.mem_singleton.1 hj; simp [hj])).trans e5 (by simp)).trans k7 (fun j hj _=>by have hj:=List.mem_singleton.1 hj; simp [hj]),fL,fL,fL,fL,_,rfl,?_,?_,b67,b7⟩
    ·rw [hend]; exact j9.zero _ _
    ·rw [hend]; exact ⟨_,rfl,b57⟩
  ·have r2:fm w.names gi.1=true:=by simpa using r2
   refine ad b4 (gi.1,()) rfl ?_
   dsimp only [flat,aA,ai,nA,cA]
   refine Ez (m2.ah e24 (by simp)) (by have:=rC hleg; unfold maxLen; omega) ?_
   intro h5 m5 k5 z5
   refine aL (cs:=[(false,[.int .i64])]) (((i+1:Nat):Int),()) (w.aF.length-(i+1)) rfl (by omega) (by rw [wrap_i64 (by omega) (by omega)]; rfl) ?_
   refine ⟨i+1,rfl,rfl,by omega,Ch.trans (e2.trans e24) k5 (fun j hj hl=>by have hj:=List.mem_singleton.1 hj; omega),?_,?_⟩
   ·rw [htk,List.map_append,List.reverse_append]
    exact m5
   ·intro x hx
    rw [htk] at hx
    rcases List.mem_append.1 hx with hx | hx
    ·exact hin x hx
    ·rw [List.mem_singleton.1 hx]; exact r2
 ·have r:=of_decide_eq_false r
  have hie:i=w.aF.length:=by omega
  subst hie
  rw [List.take_length] at m2 hin
  have hend:qY w=.ok ⟨w.text,w.data,w.aZ,cj (w.aF.map (·.1))⟩:=by
   unfold qY FV
   rw [List.find?_eq_none.2 (fun x hx=>by rw [hin x hx]; simp)]
  obtain ⟨nn,D,mD,hD,hDl⟩:=m2
  have hnd:=eI.nodup mD
  have hkeys:∀ s,s∈(vE eB D).map (·.1)↔s∈w.aF.map (·.1):=by
   intro s
   have h1:gE D s=(if fm ((w.aF.map (·.1)).reverse) s=true then some true else none):=hD s
   have hv1:(vE eB D).map (·.1)=D.map (·.1):=by unfold vE; rw [List.map_map]; rfl
   rw [hv1]
   by_cases hs:s∈w.aF.map (·.1)
   ·refine ⟨fun _=>hs,fun _=>?_⟩
    rw [if_pos (nB.2 (List.mem_reverse.2 hs))] at h1
    unfold gE at h1
    obtain ⟨x,hx,_⟩:=Option.map_eq_some_iff.1 h1
    have h3:=List.find?_some hx
    have h4:=List.mem_of_find?_eq_some hx
    rw [of_decide_eq_true h3]
    exact List.mem_map_of_mem h4
   ·refine ⟨fun hm=>?_,fun hm=>absurd hm hs⟩
    have hnin:fm ((w.aF.map (·.1)).reverse) s=false:=by
     cases hh:fm ((w.aF.map (·.1)).reverse) s with
     | false=>rfl
     | true=>exact absurd (List.mem_reverse.1 (nB.1 hh)) hs
    rw [hnin] at h1
    unfold gE at h1
    simp only [Bool.false_eq_true,if_false,Option.map_eq_none_iff,List.find?_eq_none] at h1
    obtain ⟨x,hx,hxs⟩:=List.mem_map.1 hm
    exact absurd (decide_eq_true hxs.symm) (h1 x hx)
  have hks:=zE hnd hkeys
  have hDn:(vE eB D).length≤2^40:=by
   have h1:((vE eB D).map (·.1)).Perm (cj (w.aF.map (·.1))):=(List.perm_ext_iff_of_nodup hnd ((vx _).imp fun h=>vX h)).2 fun s=>by rw [hkeys,rk]
   have h2:=h1.length_eq
   rw [List.length_map] at h2
   have h3:=DG (w.aF.map (·.1))
   rw [List.length_map] at h3
   omega
  refine ad bv2 (some ⟨A,0,none⟩,()) rfl ?_
  dsimp only [flat,aA,ai,nA,cA]
  refine aC (F1 (some h.size) h2) ?_
  rintro _ h3 ⟨rfl,rfl⟩
  refine ⟨(Value.func (.func 68) #[] #[.pointer (some ⟨h2.size,0,none⟩)],()),rfl,?_⟩
  dsimp only [flat,aA,ai,nA,cA]
  have e23:Ext h2 (h2.push (.cells #[.map (some h.size)] 70)):=Ext.push _ _
  refine ⟨⟨(bv2.ah e23 (by simp)).cells _ rfl,trivial⟩,?_⟩
  refine aC (BK mD hDn) ?_
  rintro _ h4 ⟨ps,ls,cs,rfl,sS,e34⟩
  refine ⟨((ps,ls,cs),()),rfl,?_⟩
  dsimp only [flat,aA,ai,nA,cA]
  rw [hks,Gd] at sS
  have e24:=e23.trans e34
  have bv4:=bv2.ah e24 (by simp)
  have a4:=a2.ah e24 (by simp)
  refine ⟨⟨bv4.cells _ rfl,trivial⟩,?_⟩
  refine an rfl ?_
  rw [ao]
  refine ak a4.box rfl (by simp [kd]) ?_
  intro h5 b5 k5 z5
  have b5:aN h5 A 73 [t.v,d.v,e'.v,.slice ps ls cs,.int .i64 (w.sec:Int),.int .i64 ((w.text.length+w.data.length:Nat):Int),.map (some g),q.v]:=b5
  have bv5:=bv4.ah k5 (by simp; exact nvA)
  refine ad bv5 (some ⟨A,0,none⟩,()) rfl ?_
  dsimp only [flat,aA,ai,nA,cA]
  refine an rfl ?_
  refine ad b5 ((t.p,t.l,t.c),(d.p,d.l,d.c),(e'.p,e'.l,e'.c),(ps,ls,cs),()) rfl ?_
  dsimp only [flat,aA,ai,nA,cA]
  have bu5:=(bu2.ah e24 (by simp)).ah k5 (by simp; omega)
  have be5:=(be2.ah e24 (by simp)).ah k5 (by simp; omega)
  obtain ⟨y1,y2,y3,y4,rfl⟩:∃ y1 y2 y3 y4,xs=[y1,y2,y3,y4]:=by
   match xs,hxs with
   | [y1,y2,y3,y4],_=>exact ⟨y1,y2,y3,y4,rfl⟩
  refine ak bu5 rfl (by simp) ?_
  intro h6 b6 k6 z6
  have b6:aN h6 u 27 [t.v,d.v,e'.v,.slice ps ls cs]:=b6
  refine ak (be5.ah k6 (by simp; omega)) rfl (by simp) ?_
  intro h7 b7 k7 z7
  have b7:aN h7 e 29 [.nilIface]:=b7
  have b67:=b6.ah k7 (by simp; omega)
  refine ad b67 ((t.p,t.l,t.c),(d.p,d.l,d.c),(e'.p,e'.l,e'.c),(ps,ls,cs),()) rfl ?_
  dsimp only [flat,aA,ai,nA,cA]
  refine ad b7 (Value.nilIface,()) rfl ?_
  refine ⟨((((e2.trans e24).mono (by simp)).trans k5 (fun j hj _=>by have hj:=List.mem_singleton.1 hj; simp [hj])).trans k6 (fun j hj _=>by have hj:=List.mem_singleton.1 hj; simp [hj])).trans k7 (fun j hj _=>by have hj:=List.mem_singleton.1 hj; simp [hj]),t,d,e',⟨ps,ls,cs⟩,_,rfl,?_,?_,b67,b7⟩
  ·rw [hend]
   have C5:=a4.core.ah k5 (fun j hj _ _=>by have hj:=List.mem_singleton.1 hj; subst hj; have:=a4.oA; omega)
   have C7:=(C5.ah k6 (fun j hj _ hbj=>by have hj:=List.mem_singleton.1 hj; omega)).ah k7 (fun j hj _ hbj=>by have hj:=List.mem_singleton.1 hj; omega)
   have hsz2:h2.size<(h2.push (.cells #[.map (some h.size)] 70)).size:=by simp
   refine ⟨ut,ud,ue,ow,C7,Sx.SL.mono (Sx.SL.aS (Sx.SL.aS (Sx.SL.aS sS k5 (fun j hj hm=>?_)) k6 (fun j hj hm=>?_)) k7 (fun j hj hm=>?_)) (by omega)⟩
   ·have:=(Sx.SL.bN sS hj).1; have hm:=List.mem_singleton.1 hm; have:=a.box.lt; omega
   ·have:=(Sx.SL.bN sS hj).1; have hm:=List.mem_singleton.1 hm; omega
   ·have:=(Sx.SL.bN sS hj).1; have hm:=List.mem_singleton.1 hm; omega
  ·rw [hend]; rfl
open Go.Proofs
def runN:dX→List (Nat × ByteArray)→Except (Nat × Nat) dX
 | w,[]=>.ok w
 | w,x::l=>match dH w x.1 x.2 with
  | .error e=>.error (x.1,e)
  | .ok w'=>runN w' l
theorem qx:∀ (a b:List (Nat × ByteArray)) (w:dX),runN w (a++b)=match runN w a with
  | .error e=>.error e
  | .ok w'=>runN w' b
 | [],b,w=>rfl
 | x::a,b,w=>by
  simp only [List.cons_append,runN]
  cases dH w x.1 x.2 with
  | error e=>rfl
  | ok w1=>exact qx a b w1
theorem zR:∀ (f n:Nat) (s:ByteArray) (w:dX),runN w (Go.Proofs.aR f n s)=dI w n ((Go.Proofs.aR f n s).map (·.2))
 | 0,n,s,w=>rfl
 | f+1,n,s,w=>by
  unfold Go.Proofs.aR
  split
  ·rfl
  ·simp only [List.map_cons,runN,dI]
   cases dH w n (xX s) with
   | error e=>rfl
   | ok w1=>exact zR f (n+1) (mC s) w1
theorem AA (src:ByteArray):runN fe (Go.Proofs.aR (src.size+1) 1 src)=dI fe 1 (cY src):=by
 rw [zR,← ug]
 rfl
theorem E3 {a l:List (Nat × ByteArray)} {w:dX} {q:Nat × Nat} (h:a <+: l) (he:runN w a=.error q):runN w l=.error q:=by
 obtain ⟨t,rfl⟩:=h
 rw [qx,he]
theorem Hh {src:ByteArray} {x:Nat × ByteArray} (h:x∈Go.Proofs.aR (src.size+1) 1 src):x.1≤src.size+1∧x.2.size≤src.size:=by
 obtain ⟨k,hk,rfl⟩:=List.getElem_of_mem h
 have h1:=ui _ _ _ _ _ (List.getElem?_eq_getElem hk)
 have h2:=Go.Proofs.fg (src.size+1) 1 src
 refine ⟨by omega,?_⟩
 have h3:(Go.Proofs.aR (src.size+1) 1 src)[k].2∈GZ src:=by
  unfold GZ
  exact List.mem_map_of_mem h
 rw [ug] at h3
 exact jw src _ h3
def pB (h:Hp) (i:Nat):Prop:=∃ c e f,h[i]?=some (.cells c e f)
theorem SL.pB {h:Hp} {b:Nat} {e:TypeId} {sz:Nat} {p:Option Addr} {l c:Nat} {xs:List (List Value)} (s:SL h b e sz p l c xs) {i:Nat} (hi:i∈ay p):pB h i:=by
 cases p with
 | none=>simp [ay] at hi
 | some a =>
  obtain ⟨g,pre,rest,rfl,hbg,hlc,hbox,hr⟩:=s.2.2
  simp [ay] at hi
  subst hi
  exact ⟨_,_,_,hbox⟩
section
variable {h h':Hp} {b A g:Nat} {w:dX} {t d e q:bI} {ut ud:List (bI × bw)} {ue:List (bI × nh)} {ow:Nat→Nat}
open Classical in
theorem cX.nine (a:cX h b A g w t d e q ut ud ue ow):∃ ow',cX h b A g w t d e q ut ud ue ow'∧(∀ i,ow i=9→ow' i=9)∧∀ i o,h[i]?=some o→o.isCells=false→i≠g→ow' i=9:=by
 obtain ⟨ow',how⟩:∃ ow':Nat→Nat,ow'=fun i=>if (∃ o,h[i]?=some o∧o.isCells=false)∧i≠g then 9 else ow i:=⟨_,rfl⟩
 have hc:∀ i,pB h i→ow' i=ow i:=by
  rintro i ⟨c,e,f,hi⟩
  rw [how]
  refine if_neg ?_
  rintro ⟨⟨o,ho,hn⟩,_⟩
  rw [hi] at ho
  cases ho
  cases hn
 have C:=a.core
 refine ⟨ow',⟨⟨C.t1,C.t2,C.t3,C.d1,C.d2,C.d3,C.e1,C.e2,C.e3,fun i hi=>(hc i (SL.pB C.t1 hi)).trans (C.o3 i hi),fun i hi=>(hc i (SL.pB C.d1 hi)).trans (C.o4 i hi),fun i hi=>(hc i (SL.pB C.e1 hi)).trans (C.o5 i hi),
  fun u hu i hi=>(hc i (SL.pB (C.t2 u hu) hi)).trans (C.ot u hu i hi),fun u hu i hi=>(hc i (SL.pB (C.d2 u hu) hi)).trans (C.od u hu i hi),fun u hu i hi=>(hc i (SL.pB (C.e2 u hu) hi)).trans (C.oe u hu i hi)⟩,
  a.box,a.names,a.aF,(hc A ⟨_,_,_,a.box⟩).trans a.oA,?_,fun i hi=>(hc i (SL.pB a.aF hi)).trans (a.oq i hi),a.bA,a.bg⟩,?_,?_⟩
 ·rw [how]
  exact (if_neg (fun x=>x.2 rfl)).trans a.og
 ·intro i hi
  rw [how]
  simp only
  split
  ·rfl
  ·exact hi
 ·intro i o ho hn hg
  rw [how]
  exact if_pos ⟨⟨o,ho,hn⟩,hg⟩
theorem cX.grown {W W':World} {row:Option Nat} {v:Nat} (a:cX W.heap b A g w t d e q ut ud ue ow) (hv:ow v=9) (hg:W.grownBy W' row) (hr:∀ r,row=some r→g<r∧∃ o:Obj,W.heap[r]?=some o∧o.isCells=false) :
  ∃ ow',cX W'.heap b A g w t d e q ut ud ue ow'∧ow' v=9:=by
 obtain ⟨ow',a',h9,hn⟩:=a.nine
 have k:Ch row.toList W.heap W'.heap:=⟨hg.size,fun i hi hw=>hg.block i hi (fun e=>hw (by rw [← e]; simp))⟩
 refine ⟨ow',a'.ah k (fun i hi hl _=>?_),h9 v hv⟩
 have hrow:row=some i:=by simpa using hi
 obtain ⟨h1,o,h2,h3⟩:=hr i hrow
 rw [hn i o h2 h3 (by omega)]
 omega
end
end Go.Sx.Ob
set_option linter.unusedVariables false
set_option linter.unusedSimpArgs false
set_option maxRecDepth 100000
namespace Go.Sx
theorem BY {P:Program} {fn:Func} {cuts:List Nat} {c:Code} {env:Env} {a:Act} {h:Hp} {K:Value→Hp→Prop} {dl:List Deferred} {t:T} (hm:P.follows .mixedOrders=true) (he:Gm P cuts fn c env=t) (ht:t [] K h) (g:gR ⟨fn.ntmps,dl⟩ env a) :
  cW P c (fun x a h=>(x=.normal∨x=.ret)∧a.defers=dl∧(∀ s v,s∉cF c→bH env s=some v→a.tmps.getD s undef=v)∧∃ v,K v h) a h:=by
 subst he
 unfold Gm at ht
 refine zk (n:=⟨fn.ntmps,dl⟩) (LZ hm) 100000 c env _ [] K _ a h ?_ ht g
 intro x e a h L' hp hx g' fr
 cases x <;> simp only at hx <;> first | exact hx.elim | skip
 ·obtain ⟨vs,hk,hres⟩:=nK g' hx
  exact ⟨.inl rfl,g'.defers,fun s v hs hv=>g'.get s v ((fr s hs).trans hv),_,hk⟩
 ·obtain ⟨vs,hk,hres⟩:=nK g' hx
  exact ⟨.inr rfl,g'.defers,fun s v hs hv=>g'.get s v ((fr s hs).trans hv),_,hk⟩
end Go.Sx
namespace Go.Proofs
open Go.Sx Go.Sx.Ob
theorem FT:2∉cF (rL 7 Tryz.f10)∧3∉cF (rL 7 Tryz.f10):=by
 have h:(cF (rL 7 Tryz.f10)).contains 2=false:=by kernel_rfl
 have h':(cF (rL 7 Tryz.f10)).contains 3=false:=by kernel_rfl
 exact ⟨fun x=>Bool.noConfusion ((List.contains_iff_mem.2 x).symm.trans h),fun x=>Bool.noConfusion ((List.contains_iff_mem.2 x).symm.trans h')⟩
theorem IT {h:Hp} {u e v:Nat} {K:Value→Hp→Prop} (ht:dh u e v [] K h) {a:Act} {dl:List Deferred} {w:World} (hw:w.heap=h) (hs:a.tmps.size=Tryz.f10.ntmps) (hd:a.defers=dl) (g2:a.tmps.getD 2 undef=.pointer (some ⟨u,0,none⟩)) (g3:a.tmps.getD 3 undef=.pointer (some ⟨e,0,none⟩)) (g5:a.tmps.getD 5 undef=.pointer (some ⟨v,0,none⟩))
  {Q:Exit→Act→World→Prop} (hQ:∀ x a' w',(x=.normal∨x=.ret)→a'.defers=dl→a'.tmps.getD 2 undef=.pointer (some ⟨u,0,none⟩)→a'.tmps.getD 3 undef=.pointer (some ⟨e,0,none⟩)→bL w w'→(∃ v,K v w'.heap)→Q x a' w') :
  (rL 7 Tryz.f10).wp Tryz.prog Q a w:=by
 have hr:∀ (s:Nat) (x:Value),bH [(2,some (.pointer (some (⟨u,0,none⟩:Addr)))),(3,some (.pointer (some (⟨e,0,none⟩:Addr)))),(5,some (.pointer (some (⟨v,0,none⟩:Addr))))] s=some x→a.tmps.getD s undef=x:=by
  intro s x hx
  by_cases h2:s=2
  ·subst h2
   exact g2.trans (Option.some.inj hx)
  by_cases h3:s=3
  ·subst h3
   exact g3.trans (Option.some.inj hx)
  by_cases h5:s=5
  ·subst h5
   exact g5.trans (Option.some.inj hx)
  ·exfalso
   have b2:Nat.beq 2 s=false:=by rw [Bool.eq_false_iff]; intro hh; exact h2 (Nat.eq_of_beq_eq_true hh).symm
   have b3:Nat.beq 3 s=false:=by rw [Bool.eq_false_iff]; intro hh; exact h3 (Nat.eq_of_beq_eq_true hh).symm
   have b5:Nat.beq 5 s=false:=by rw [Bool.eq_false_iff]; intro hh; exact h5 (Nat.eq_of_beq_eq_true hh).symm
   have b2':Nat.beq s 2=false:=by rw [Bool.eq_false_iff]; intro hh; exact h2 (Nat.eq_of_beq_eq_true hh)
   have b3':Nat.beq s 3=false:=by rw [Bool.eq_false_iff]; intro hh; exact h3 (Nat.eq_of_beq_eq_true hh)
   have b5':Nat.beq s 5=false:=by rw [Bool.eq_false_iff]; intro hh; exact h5 (Nat.eq_of_beq_eq_true hh)
   simp [bH,b2,b3,b5,b2',b3',b5'] at hx
 have hc:=BY (P:=Tryz.prog) (dl:=dl) mixed (ka u e v) ht ⟨hs,hd,hr⟩
 refine Code.wp_mono (fun x a' w' ⟨so,hx,hd',hk,hv⟩=>hQ x a' w' hx hd' (hk 2 _ FT.1 rfl) (hk 3 _ FT.2 rfl) so hv) (hc w w (bL.refl _) hw)
end Go.Proofs
set_option linter.unusedVariables false
set_option linter.unusedSimpArgs false
set_option maxRecDepth 100000
namespace Go.Proofs
open Go.RowKit Go.Shelf Go.Sx.Ob
attribute [local go_sem] Oper.semAt_some
theorem eZ.Lm {n x:Nat} {w w':World} (h:eZ n x w w') (hn:n≤w.heap.size) (v:Value):eZ n x w (w'.setCell ⟨x,0,none⟩ v) :=
 ⟨by simpa using h.1,fun k hk hx=>((grownBy_setCell' w' x v).block k (by have:=h.1; omega) (fun e=>hx (by cases e; rfl))).trans (h.2 k hk hx)⟩
theorem eZ.alloc {n x:Nat} {w w':World} (h:eZ n x w w') (hn:n≤w.heap.size) (o:Obj):eZ n x w (w'.alloc o) :=
 ⟨by have:=h.1; simp; omega,fun k hk hx=>(Below.heap_alloc w' o k (by have:=h.1; omega)).trans (h.2 k hk hx)⟩
theorem eZ.box {n x:Nat} {w w':World} (h:eZ n x w w') {g:Nat} {e:TypeId} {xs:List Value} (b:Sx.aN w.heap g e xs) (hg:g<n) (hx:g≠x):Sx.aN w'.heap g e xs:=(h.2 g hg hx).trans b
theorem gC {w:World} {g off:Nat} {e:TypeId} {xs:List Value} (b:Sx.aN w.heap g e xs) (v:Value):Sx.aN (w.setCell ⟨g,off,none⟩ v).heap g e (xs.set off v):=(Sx.vf b v).1
theorem bG {w:World} {g g' off:Nat} {e:TypeId} {xs:List Value} (b:Sx.aN w.heap g e xs) (hne:g≠g') (v:Value):Sx.aN (w.setCell ⟨g',off,none⟩ v).heap g e xs :=
 (Below.heap_setCell w ⟨g',off,none⟩ v g hne).trans b
theorem wv (w:World):(Instr.makeMap 70 none).run Tryz.prog w=.ok (.map (some w.heap.size)) (w.alloc (.map #[] 0)):=rfl
attribute [local go_sem] wv
theorem GY {src:ByteArray} {w:dX} (h1:¬ 65536<src.size) (h2:¬ 4096<(cY src).length) (hr:dI fe 1 (cY src)=.ok w):cQ src=qY w:=by
 unfold cQ qY
 rw [if_neg h1,if_neg h2,hr]
 rfl
theorem H4 {src:ByteArray} {q:Nat × Nat} (h1:¬ 65536<src.size) (h2:¬ 4096<(cY src).length) (hr:dI fe 1 (cY src)=.error q):cQ src=.error q:=by
 unfold cQ
 rw [if_neg h1,if_neg h2,hr]
open Classical in
theorem Bm {h h':Sx.Hp} {b:Nat} {a b' c d:bI} {u:jv} (U:j9 h b a b' c d u) (hs:h.size≤h'.size) (hc:∀ i,pB h i→h'[i]?=h[i]?):j9 h' b a b' c d u:=by
 have k:Sx.Ch ((List.range h.size).filter (fun i=>decide (¬ pB h i))) h h':=⟨hs,fun i hi hn=>hc i (Classical.byContradiction fun hh=>hn (List.mem_filter.2 ⟨List.mem_range.2 hi,decide_eq_true hh⟩))⟩
 obtain ⟨ut,ud,ue,ow,C,S⟩:=U
 have f:∀ {e:TypeId} {sz:Nat} {p:Option Addr} {l c:Nat} {xs:List (List Value)},Sx.SL h b e sz p l c xs→Sx.SL h' b e sz p l c xs:=fun s=>Sx.SL.aS s k (fun i hi hm=>of_decide_eq_true (List.mem_filter.1 hm).2 (SL.pB s hi))
 exact ⟨ut,ud,ue,ow,⟨f C.t1,fun u hu=>f (C.t2 u hu),C.t3,f C.d1,fun u hu=>f (C.d2 u hu),C.d3,f C.e1,fun u hu=>f (C.e2 u hu),C.e3,C.o3,C.o4,C.o5,C.ot,C.od,C.oe⟩,f S⟩
theorem zj {h h':Sx.Hp} {v:Value} {e:Option (Nat × Nat)} (E:nk h v e) (hc:∀ i,pB h i→h'[i]?=h[i]?):nk h' v e:=by
 cases e with
 | none=>exact E
 | some e =>
  obtain ⟨a,h1,h2⟩:=E
  exact ⟨a,h1,(hc a ⟨_,_,_,h2⟩).trans h2⟩
def I5 (src:ByteArray) (W:World) (e:Ending) (w':World):Prop :=
 ∃ (a b' c d:bI) (ev:Value),e=.returned (.tuple #[ti a b' c d,ev])∧j9 w'.heap W.heap.size a b' c d (rj (cQ src)).1∧nk w'.heap ev (kX (cQ src))∧Below W.heap.size W w'
theorem uk {src:ByteArray} {W w':World} {q:Nat × Nat} {ax:Nat} (h:cQ src=.error q) (b:Sx.aN w'.heap ax 63 [.int .i64 (q.1:Int),.int .i64 (q.2:Int)]) (hb:Below W.heap.size W w') :
  I5 src W (.returned (.tuple #[.agg #[.slice none 0 0,.slice none 0 0,.slice none 0 0,.slice none 0 0],.iface 59 (.pointer (some ⟨ax,0,none⟩))])) w' :=
 ⟨fL,fL,fL,fL,_,rfl,by rw [h]; exact j9.zero _ _,by rw [h]; exact ⟨ax,rfl,b⟩,hb⟩
set_option maxHeartbeats 4000000 in
theorem IW (W:World) (src:ByteArray) (hl:Sx.Laid W.heap) (tb:lZ W.heap) (m:Int) (hm:W.cell? ⟨2,0,none⟩=some (.int .i64 m)) :
  CallsIn Fence.wide 7 Tryz.prog 10 #[.string src] W (I5 src W):=by
 have hW3:2<W.heap.size:=Hf hm
 refine callsIn_of_wp_marks Tryz.func10 rfl trivial ?_ rfl
 simp only [Tryz.ntmps10,List.size_toArray,List.length_cons,List.length_nil,Nat.reduceAdd,Nat.reduceSub,Array.replicate_succ,Array.replicate_zero,List.push_toArray,List.append_toArray,List.nil_append,List.cons_append]
 gi_wp2
 ·rename_i hbig
  refine zb (b0:=W.heap.size) (p:=W.heap.size) (q:=W.heap.size+1) (ev:=.iface 59 (.pointer (some ⟨W.heap.size+1+1,0,none⟩))) ⟨[],rfl,by simp,by simp⟩ rfl rfl (((Sx.aN.new W.heap 27 [.slice none 0 0,.slice none 0 0,.slice none 0 0,.slice none 0 0]).ah (Sx.Ext.push _ _) (by simp)).ah (Sx.Ext.push _ _) (by simp)) ?_ ?_
  ·have h1:=Sx.aN.new (W.heap.push (.cells #[.slice none 0 0,.slice none 0 0,.slice none 0 0,.slice none 0 0] 27)) 29 [.iface 59 (.pointer (some ⟨W.heap.size+1+1,0,none⟩))]
   simp only [Array.size_push] at h1
   exact h1.ah (Sx.Ext.push _ _) (by simp)
  ·intro w' hb hk
   have h2:=Sx.aN.new ((W.heap.push (.cells #[.slice none 0 0,.slice none 0 0,.slice none 0 0,.slice none 0 0] 27)).push (.cells #[.iface 59 (.pointer (some ⟨W.heap.size+1+1,0,none⟩))] 29)) 63 [.int .i64 (0:Int),.int .i64 (3:Int)]
   simp only [Array.size_push] at h2
   refine uk (q:=(0,3)) (by unfold cQ; rw [if_pos (by omega)]) ((hk _ (by unfold Sx.aN at h2; erw [h2]; simp)).trans h2) ?_
   exact (((Below.refl _ W).alloc (Nat.le_refl _) _).alloc (by simp) _ |>.alloc (by simp; omega) _).trans hb
 have hsz:src.size≤65536:=by omega
 refine tQ (Sx.Bx src _) (fun v h' h=>h.2.2.1) ?_
 rintro _ w2 B2 ⟨rfl,b2,-,z2⟩
 have hu0:Sx.aN w2.heap W.heap.size 27 [.slice none 0 0,.slice none 0 0,.slice none 0 0,.slice none 0 0] :=
  (B2.block _ (by simp; omega)).trans (((Sx.aN.new W.heap 27 [.slice none 0 0,.slice none 0 0,.slice none 0 0,.slice none 0 0]).ah (Sx.Ext.push _ _) (by simp)).ah (Sx.Ext.push _ _) (by simp))
 have he0:Sx.aN w2.heap (W.heap.size+1) 29 [.nilIface]:=by
  have h1:=Sx.aN.new (W.heap.push (.cells #[.slice none 0 0,.slice none 0 0,.slice none 0 0,.slice none 0 0] 27)) 29 [.nilIface]
  simp only [Array.size_push] at h1
  exact (B2.block _ (by simp)).trans (h1.ah (Sx.Ext.push _ _) (by simp))
 have hl0:Boxed w2 (W.heap.size+1+1) 3 (.int .i64 (0:Int)):=by
  have h1:=Boxed.new ((W.alloc (.cells #[.slice none 0 0,.slice none 0 0,.slice none 0 0,.slice none 0 0] 27)).alloc (.cells #[.nilIface] 29)) 3 (.int .i64 (0:Int))
  have h2:=Dm h1 B2 (by simp)
  simpa using h2
 have hb2:Boxed w2 (W.heap.size+1+1+1) 9 (.string src):=by
  have:Sx.aN w2.heap (W.heap.size+1+1+1) 9 [.string src]:=by simpa using b2
  exact this
 have BW:Below W.heap.size W w2:=((((Below.refl _ W).alloc (Nat.le_refl _) _).alloc (by simp) _).alloc (by simp; omega) _).trans (B2.mono (by simp; omega))
 have z2:w2.heap.size=W.heap.size+4:=by rw [z2]; simp
 clear B2 b2
 gi_wp2
 refine wpIn_rangeFunc_ownG (F:=Fence.wide) rfl (by omega) (gf:=62) (lb:=#[.pointer (some ⟨W.heap.size+1+1+1,0,none⟩)]) rfl trivial (enters_of Tryz.func62 (by kernel_rfl) rfl)
   (AF (W.heap.size+1+1+1) 3 src (by omega) Sx.yk m _ ((BW.cell (p:=⟨2,0,none⟩) hW3).trans hm) (by omega) (by omega) hb2.cell) belowK_t (belowK_b (by omega)) (Below.refl _ _) (fun _=>rfl)
   (fun pre W'=>Boxed W' (W.heap.size+1+1) 3 (.int .i64 (pre.length:Int))∧eZ w2.heap.size (W.heap.size+1+1) w2 W'∧Sx.bL w2 W')
   (fun c pre W'=>False)
   (fun s A B row hs hg hr=>⟨boxed_own (β:=List (Nat × ByteArray)) _ 3 (fun pre=>.int .i64 (pre.length:Int)) s A B row hs.1 hg (fun r e=>(hr r e).2),Ak (β:=Unit) (by simp) (Nat.le_refl _) () A B row hs.2.1 hg hr,⟨hg.os.trans hs.2.2.os,hg.tape.trans hs.2.2.tape,hg.output.trans hs.2.2.output⟩⟩)
   (fun c s A B row hs hg hr=>hs)
   ⟨hl0,⟨Nat.le_refl _,fun _ _ _=>rfl⟩,Sx.bL.refl _⟩
   (fun x=>{ tmps:=#[.string src,undef,.pointer (some ⟨W.heap.size,0,none⟩),.pointer (some ⟨W.heap.size+1,0,none⟩),.pointer (some ⟨W.heap.size+1+1,0,none⟩),undef,undef,undef,undef,undef,undef,undef,.string src,.int .i64 (src.size:Int),.bool (decide (65536<(src.size:Int))),undef,undef,undef,undef,.string src,.func (.func 62) #[] #[.pointer (some ⟨W.heap.size+1+1+1,0,none⟩)],.int .i64 (x.1:Int),.string x.2,undef,undef,undef,undef,undef,undef,undef,undef,undef,undef,undef,undef,undef,undef,undef,undef,undef,undef,undef,undef,undef,undef,undef,undef,undef,undef,undef,undef,undef,undef,undef,undef,undef,undef,undef,undef,undef,undef,undef,undef,undef,undef,undef,undef,undef,undef,undef,undef,undef,undef,undef,undef,undef,undef,undef,undef,undef,undef,undef,undef,undef,undef,undef,undef,undef,undef],defers:=[] }) ?assign ?body ?done ?stop
 case assign =>
  intro l x W' K hK
  unfold Dv
  gi_wp2
  exact hK
 case stop =>
  intro D c pre W' hD hS hx
  exact hx.elim
 case body =>
  rintro l pre x W' ⟨bn,hsv,hso⟩ hlen
  have e1:=bn.cell
  have f1:=bn.frozen
  have hll:=fg (src.size+1) 1 src
  have hwr:wrap64 ((pre.length:Int)+1)=((pre.length+1:Nat):Int):=by
   rw [Go.IntWalk.wrap64_in _ ⟨by omega,by omega⟩]
   omega
  gi_wp2
  refine ⟨(KeepsOthers.setCell _ _ _).from _,(Below.refl _ W').setCell (p:=⟨W.heap.size+1+1,0,none⟩) (by show 3≤_+1+1; omega) _,?_,hsv.Lm (Nat.le_refl _) _,⟨hso.os,hso.tape,hso.output⟩⟩
  rw [show (((pre++[x]).length:Nat):Int)=(pre.length:Int)+1 by simp]
  exact bn.set _
 case done =>
  rintro D1 ys w3 hD1 rfl ⟨bn,hsv,hso⟩ hK1
  have e1:=bn.cell
  have hll:=fg (src.size+1) 1 src
  have hu3:=hsv.box hu0 (by omega) (by omega)
  have he3:=hsv.box he0 (by omega) (by omega)
  have hu4:=hu3.ah (Sx.Ext.push w3.heap (.cells #[.int .i64 4097,.int .i64 4] 63)) (by simp)
  have he4:=he3.ah (Sx.Ext.push w3.heap (.cells #[.int .i64 4097,.int .i64 4] 63)) (by simp)
  have c0:(w3.alloc (.cells #[.int .i64 4097,.int .i64 4] 63)).cell? ⟨W.heap.size,0,none⟩=some (.slice none 0 0):=hu4.cell.trans rfl
  have c1:(w3.alloc (.cells #[.int .i64 4097,.int .i64 4] 63)).cell? ⟨W.heap.size,1,none⟩=some (.slice none 0 0):=hu4.cell.trans rfl
  have c2:(w3.alloc (.cells #[.int .i64 4097,.int .i64 4] 63)).cell? ⟨W.heap.size,2,none⟩=some (.slice none 0 0):=hu4.cell.trans rfl
  have c3:(w3.alloc (.cells #[.int .i64 4097,.int .i64 4] 63)).cell? ⟨W.heap.size,3,none⟩=some (.slice none 0 0):=hu4.cell.trans rfl
  have c4:(w3.alloc (.cells #[.int .i64 4097,.int .i64 4] 63)).cell? ⟨W.heap.size+1,0,none⟩=some .nilIface:=he4.cell.trans rfl
  have f0:(w3.alloc (.cells #[.int .i64 4097,.int .i64 4] 63)).frozen? ⟨W.heap.size,0,none⟩=false:=hu4.frozen
  have f1:(w3.alloc (.cells #[.int .i64 4097,.int .i64 4] 63)).frozen? ⟨W.heap.size,1,none⟩=false:=hu4.frozen
  have f2:(w3.alloc (.cells #[.int .i64 4097,.int .i64 4] 63)).frozen? ⟨W.heap.size,2,none⟩=false:=hu4.frozen
  have f3:(w3.alloc (.cells #[.int .i64 4097,.int .i64 4] 63)).frozen? ⟨W.heap.size,3,none⟩=false:=hu4.frozen
  have f4:(w3.alloc (.cells #[.int .i64 4097,.int .i64 4] 63)).frozen? ⟨W.heap.size+1,0,none⟩=false:=he4.frozen
  have BW3:Below W.heap.size W w3:=⟨hso.os.trans BW.os,hso.tape.trans BW.tape,hso.output.trans BW.output,by have:=hsv.1; omega,fun k hk=>(hsv.2 k (by omega) (by omega)).trans (BW.block k hk)⟩
  have hD1l:D1<w3.heap.size:=(Array.getElem?_eq_some_iff.1 hK1).1
  gi_wp2
  ·rename_i hmany
   have hu5:=bG (g':=W.heap.size+1) (off:=0) (gC (off:=3) (gC (off:=2) (gC (off:=1) (gC (off:=0) (w:=w3.alloc (.cells #[.int .i64 4097,.int .i64 4] 63)) hu4 (.slice none 0 0)) (.slice none 0 0)) (.slice none 0 0)) (.slice none 0 0)) (by omega) (.iface 59 (.pointer (some ⟨w3.heap.size,0,none⟩)))
   have he5:=gC (off:=0) (bG (g':=W.heap.size) (off:=3) (bG (g':=W.heap.size) (off:=2) (bG (g':=W.heap.size) (off:=1) (bG (g':=W.heap.size) (off:=0) (w:=w3.alloc (.cells #[.int .i64 4097,.int .i64 4] 63)) he4 (by omega) (.slice none 0 0)) (by omega) (.slice none 0 0)) (by omega) (.slice none 0 0)) (by omega) (.slice none 0 0)) (.iface 59 (.pointer (some ⟨w3.heap.size,0,none⟩)))
   have hx5:=bG (g':=W.heap.size+1) (off:=0) (bG (g':=W.heap.size) (off:=3) (bG (g':=W.heap.size) (off:=2) (bG (g':=W.heap.size) (off:=1) (bG (g':=W.heap.size) (off:=0) (w:=w3.alloc (.cells #[.int .i64 4097,.int .i64 4] 63)) (Sx.aN.new w3.heap 63 [.int .i64 4097,.int .i64 4]) (by have:=hsv.1; omega) (.slice none 0 0)) (by have:=hsv.1; omega) (.slice none 0 0)) (by have:=hsv.1; omega) (.slice none 0 0)) (by have:=hsv.1; omega) (.slice none 0 0)) (by have:=hsv.1; omega) (.iface 59 (.pointer (some ⟨w3.heap.size,0,none⟩)))
   refine zb (b0:=W.heap.size) (p:=W.heap.size) (q:=W.heap.size+1) (ev:=.iface 59 (.pointer (some ⟨w3.heap.size,0,none⟩))) ⟨[D1],rfl,by simp,?_⟩ rfl rfl hu5 he5 ?_
   ·intro D hD
    have hD:=List.mem_singleton.1 hD
    subst hD
    have da:D≠W.heap.size:=by omega
    have db:D≠W.heap.size+1:=by omega
    refine ⟨by omega,?_⟩
    refine (Below.heap_setCell _ _ _ _ db).trans ?_
    refine (Below.heap_setCell _ _ _ _ da).trans ?_
    refine (Below.heap_setCell _ _ _ _ da).trans ?_
    refine (Below.heap_setCell _ _ _ _ da).trans ?_
    refine (Below.heap_setCell _ _ _ _ da).trans ?_
    exact (Below.heap_alloc w3 _ D hD1l).trans hK1
   ·intro w' hb hk
    refine uk (q:=(4097,4)) (by unfold cQ; rw [if_neg (by omega),if_pos (by rw [← Sx.Ob.ug]; unfold Sx.GZ; rw [List.length_map]; omega)]) ((hk _ (by unfold Sx.aN at hx5; erw [hx5]; simp)).trans hx5) ?_
    exact ((((((BW3.alloc BW3.size _).setCell (p:=⟨W.heap.size,0,none⟩) (Nat.le_refl _) _).setCell (p:=⟨W.heap.size,1,none⟩) (Nat.le_refl _) _).setCell (p:=⟨W.heap.size,2,none⟩) (Nat.le_refl _) _).setCell (p:=⟨W.heap.size,3,none⟩) (Nat.le_refl _) _).setCell (p:=⟨W.heap.size+1,0,none⟩) (by show _≤_+1; omega) _).trans hb
  clear c0 c1 c2 c3 c4 f0 f1 f2 f3 f4 hu4 he4 e1
  refine tQ (Sx.Bx src _) (fun v h' h=>h.2.2.1) ?_
  rintro _ w5 B5 ⟨rfl,b5,-,z5⟩
  have z35:w5.heap.size=w3.heap.size+4:=by rw [z5]; simp
  have hold:∀ k,k<w3.heap.size→w5.heap[k]?=w3.heap[k]?:=fun k hk=>(B5.block k (by simp; omega)).trans ((Below.heap_alloc _ _ k (by simp; omega)).trans ((Below.heap_alloc _ _ k (by simp; omega)).trans (Below.heap_alloc _ _ k hk)))
  have hso5:Sx.bL W w5:=⟨B5.os.trans BW3.os,B5.tape.trans BW3.tape,B5.output.trans BW3.output⟩
  have hgm:w5.heap[w3.heap.size]?=some (.map #[] 0):=(B5.block _ (by simp; omega)).trans ((Below.heap_alloc _ _ _ (by simp; omega)).trans ((Below.heap_alloc _ _ _ (by simp)).trans (World.alloc_heap_new w3 _)))
  have hA5:Sx.aN w5.heap (w3.heap.size+1) 73 (kd fL fL fL 0 0 w3.heap.size fL):=by
   refine (B5.block _ (by simp)).trans ((Below.heap_alloc _ _ _ (by simp)).trans ?_)
   have:=World.alloc_heap_new (w3.alloc (.map #[] 0)) (.cells (kd fL fL fL 0 0 w3.heap.size fL).toArray 73)
   rwa [show (w3.alloc (.map #[] 0)).heap.size=w3.heap.size+1 by simp] at this
  have hv5:Sx.aN w5.heap (w3.heap.size+2) 69 [.pointer (some ⟨w3.heap.size+1,0,none⟩)]:=by
   refine (B5.block _ (by simp)).trans ?_
   have:=World.alloc_heap_new ((w3.alloc (.map #[] 0)).alloc (.cells (kd fL fL fL 0 0 w3.heap.size fL).toArray 73)) (.cells #[.pointer (some ⟨w3.heap.size+1,0,none⟩)] 69)
   rwa [show ((w3.alloc (.map #[] 0)).alloc (.cells (kd fL fL fL 0 0 w3.heap.size fL).toArray 73)).heap.size=w3.heap.size+2 by simp] at this
  have hs5:Boxed w5 (w3.heap.size+3) 9 (.string src):=by
   have h1:Sx.aN w5.heap (w3.heap.size+3) 9 [.string src]:=by simpa using b5
   exact h1
  clear B5 b5 z5
  have ha5:cX w5.heap w3.heap.size (w3.heap.size+1) w3.heap.size fe fL fL fL fL [] [] [] (fun i=>if i=w3.heap.size+1 then 6 else if i=w3.heap.size then 7 else 9) :=
   ⟨Core.nil _ _ _,hA5,⟨0,Sx.Ob.rA.new ⟨#[],0,hgm,rfl,⟨by simp,by simp,by simp⟩,by simp⟩⟩,Sx.SL.nil _ _ _ _,if_pos rfl,by simp,by simp [fL,Sx.ay],by omega,Nat.le_refl _⟩
  have hnum:((aR (src.size+1) 1 src).length:Int)≤4096:=by omega
  gi_wp2
  refine wpIn_rangeFunc_ownG (F:=Fence.wide) rfl (by omega) (gf:=62) (lb:=#[.pointer (some ⟨w3.heap.size+3,0,none⟩)]) rfl trivial (enters_of Tryz.func62 (by kernel_rfl) rfl)
   (Dr (w3.heap.size+3) 3 src (by omega) Sx.yk m _ (by
    have h1:w5.heap[2]?=W.heap[2]?:=(hold 2 (by have:=BW3.size; omega)).trans (BW3.block 2 hW3)
    exact (World.cell?_of_block (a:=⟨2,0,none⟩) h1).trans hm) (by omega) (by omega) hs5.cell) belowK_t (belowK_b (by omega)) (Below.refl _ _) (fun _=>rfl)
   (fun pre W'=>Sx.bL W W'∧w5.heap.size≤W'.heap.size∧(∀ k,k<w3.heap.size→W'.heap[k]?=w3.heap[k]?)∧Sx.aN W'.heap (w3.heap.size+2) 69 [.pointer (some ⟨w3.heap.size+1,0,none⟩)] ∧
    ∃ w t d e q ut ud ue ow,Sx.Ob.runN fe (pre.map (·.1))=.ok w∧cX W'.heap w3.heap.size (w3.heap.size+1) w3.heap.size w t d e q ut ud ue ow∧ow (w3.heap.size+2)=9∧AT w∧w.aZ.length≤pre.length∧w.aF.length≤pre.length)
   (fun c pre W'=>c=.ret∧Sx.bL W W'∧w5.heap.size≤W'.heap.size∧(∀ k,k<w3.heap.size→k≠W.heap.size→k≠W.heap.size+1→W'.heap[k]?=w3.heap[k]?)∧∃ q ax,Sx.Ob.runN fe (pre.map (·.1))=.error q∧Sx.aN W'.heap W.heap.size 27 [.slice none 0 0,.slice none 0 0,.slice none 0 0,.slice none 0 0]∧Sx.aN W'.heap (W.heap.size+1) 29 [.iface 59 (.pointer (some ⟨ax,0,none⟩))]∧Sx.aN W'.heap ax 63 [.int .i64 (q.1:Int),.int .i64 (q.2:Int)])
   ?own1 ?own2 ?start
   (fun y=>(fun (x:Nat × ByteArray)=>{ tmps:=#[.string src,undef,.pointer (some ⟨W.heap.size,0,none⟩),.pointer (some ⟨W.heap.size+1,0,none⟩),.pointer (some ⟨W.heap.size+1+1,0,none⟩),.pointer (some ⟨(w3.heap.size+2),0,none⟩),.int .i64 (x.1:Int),.string x.2,undef,undef,undef,undef,.string src,.int .i64 (src.size:Int),.bool (decide (65536<(src.size:Int))),undef,undef,undef,undef,.string src,.func (.func 62) #[] #[.pointer (some ⟨W.heap.size+1+1+1,0,none⟩)],undef,undef,undef,undef,.int .i64 ((aR (src.size+1) 1 src).length:Int),.bool (decide (4096<((aR (src.size+1) 1 src).length:Int))),undef,undef,undef,undef,.map (some w3.heap.size),.agg #[.slice none 0 0,.slice none 0 0,.slice none 0 0,.slice none 0 0,.int .i64 0,.int .i64 0,.map (some w3.heap.size),.slice none 0 0],.pointer (some ⟨(w3.heap.size+1),0,none⟩),.string src,.func (.func 62) #[] #[.pointer (some ⟨w3.heap.size+3,0,none⟩)],.int .i64 (x.1:Int),.string x.2,undef,undef,undef,undef,undef,undef,undef,undef,undef,undef,undef,undef,undef,undef,undef,undef,undef,undef,undef,undef,undef,undef,undef,undef,undef,undef,undef,undef,undef,undef,undef,undef,undef,undef,undef,undef,undef,undef,undef,undef,undef,undef,undef,undef,undef,undef,undef,undef,undef,undef,undef],defers:=[] }) y.1) ?assign ?body ?done ?stop
  case own1 =>
   rintro s A B row ⟨so,sz,ho,hb,w,t,d,e,q,ut,ud,ue,ow,hr,ha,h9,hW,hE,hG⟩ hg hrow
   refine ⟨⟨hg.os.trans so.os,hg.tape.trans so.tape,hg.output.trans so.output⟩,Nat.le_trans sz hg.size,fun k hk=>(hg.block k (by omega) (fun e=>by have:=(hrow k e.symm).1; omega)).trans (ho k hk),?_,?_⟩
   ·exact (hg.block _ (by omega) (fun e=>by have:=(hrow _ e.symm).1; omega)).trans hb
   ·obtain ⟨ow',a',h9'⟩:=ha.grown h9 hg (fun r e=>⟨by have:=(hrow r e).1; omega,(hrow r e).2⟩)
    exact ⟨w,t,d,e,q,ut,ud,ue,ow',hr,a',h9',hW,hE,hG⟩
  case own2 =>
   rintro c s A B row ⟨hc,so,sz,ho,q,ax,hq,h1,h2,h3⟩ hg hrow
   refine ⟨hc,⟨hg.os.trans so.os,hg.tape.trans so.tape,hg.output.trans so.output⟩,Nat.le_trans sz hg.size,fun k hk n1 n2=>(hg.block k (by omega) (fun e=>by have:=(hrow k e.symm).1; omega)).trans (ho k hk n1 n2),q,ax,hq,?_,?_,?_⟩
   ·exact (hg.block _ h1.lt (fun e=>by have:=(hrow _ e.symm).1; omega)).trans h1
   ·exact (hg.block _ h2.lt (fun e=>by have:=(hrow _ e.symm).1; omega)).trans h2
   ·refine (hg.block _ h3.lt (fun e=>?_)).trans h3
    obtain ⟨_,o,ho,hn⟩:=hrow _ e.symm
    rw [show A.heap[ax]?=_ from h3] at ho
    cases ho
    cases hn
  case start =>
   exact ⟨hso5,Nat.le_refl _,hold,hv5,fe,fL,fL,fL,fL,[],[],[],_,rfl,ha5,by rw [if_neg (by omega),if_neg (by omega)],AT.z,by simp [fe],by simp [fe]⟩
  case assign =>
   intro l x W' K hK
   unfold Dv
   gi_wp2
   exact hK
  case body =>
   rintro l pre x W' ⟨so,sz,ho,hb,w,t,d,e,q,ut,ud,ue,ow,hr,ha,h9,hW,hE,hG⟩ hlen
   have c0:W'.cell? ⟨w3.heap.size+2,0,none⟩=some (.pointer (some ⟨w3.heap.size+1,0,none⟩)):=hb.cell.trans rfl
   have E0:Sx.Ext W.heap W'.heap:=⟨by omega,fun k hk _=>(ho k (by omega)).trans (BW3.block k hk)⟩
   have tb':=tb.ah E0 (by simp)
   have ld':=hl.ext E0
   obtain ⟨ow1,ha1,h91,hn1⟩:=ha.nine
   have hx:=Hh x.2
   gi_wp2
   have z3:w3.heap.size≤W'.heap.size:=by omega
   refine ya (Ht tb' ld' ha1 z3 hW (by omega) (by omega) (n:=x.1.1) (by omega) x.1.2 (by omega) (qq:=fun i=>i<W'.heap.size∧(i=w3.heap.size+2∨((∃ o,W'.heap[i]?=some o∧o.isCells=false)∧i≠w3.heap.size))) (fun i h=>h.1) ?_) ?_
   ·rintro i ⟨hi,rfl | ⟨⟨o,h1,h2⟩,h3⟩⟩
    ·exact h91 _ h9
    ·exact hn1 i o h1 h2 h3
   intro v w7 so7 hR
   cases hlw:dH w x.1.1 x.1.2 with
   | error e0 =>
    rw [hlw] at hR
    obtain ⟨rfl,he0,ext⟩:=hR
    have z7:=ext.size
    have hu6:Sx.aN W'.heap W.heap.size 27 [.slice none 0 0,.slice none 0 0,.slice none 0 0,.slice none 0 0]:=(ho _ (by omega)).trans hu3
    have he6:Sx.aN W'.heap (W.heap.size+1) 29 [.nilIface]:=(ho _ (by omega)).trans he3
    have hu7:=hu6.ah ext (by simp)
    have he7:=he6.ah ext (by simp)
    have hu8:=hu7.ah (Sx.Ext.push w7.heap (.cells #[.int .i64 (x.1.1:Int),.int .i64 (e0:Int)] 63)) (by simp)
    have he8:=he7.ah (Sx.Ext.push w7.heap (.cells #[.int .i64 (x.1.1:Int),.int .i64 (e0:Int)] 63)) (by simp)
    have d0:(w7.alloc (.cells #[.int .i64 (x.1.1:Int),.int .i64 (e0:Int)] 63)).cell? ⟨W.heap.size,0,none⟩=some (.slice none 0 0):=hu8.cell.trans rfl
    have d1:(w7.alloc (.cells #[.int .i64 (x.1.1:Int),.int .i64 (e0:Int)] 63)).cell? ⟨W.heap.size,1,none⟩=some (.slice none 0 0):=hu8.cell.trans rfl
    have d2:(w7.alloc (.cells #[.int .i64 (x.1.1:Int),.int .i64 (e0:Int)] 63)).cell? ⟨W.heap.size,2,none⟩=some (.slice none 0 0):=hu8.cell.trans rfl
    have d3:(w7.alloc (.cells #[.int .i64 (x.1.1:Int),.int .i64 (e0:Int)] 63)).cell? ⟨W.heap.size,3,none⟩=some (.slice none 0 0):=hu8.cell.trans rfl
    have d4:(w7.alloc (.cells #[.int .i64 (x.1.1:Int),.int .i64 (e0:Int)] 63)).cell? ⟨W.heap.size+1,0,none⟩=some .nilIface:=he8.cell.trans rfl
    have f0:(w7.alloc (.cells #[.int .i64 (x.1.1:Int),.int .i64 (e0:Int)] 63)).frozen? ⟨W.heap.size,0,none⟩=false:=hu8.frozen
    have f1:(w7.alloc (.cells #[.int .i64 (x.1.1:Int),.int .i64 (e0:Int)] 63)).frozen? ⟨W.heap.size,1,none⟩=false:=hu8.frozen
    have f2:(w7.alloc (.cells #[.int .i64 (x.1.1:Int),.int .i64 (e0:Int)] 63)).frozen? ⟨W.heap.size,2,none⟩=false:=hu8.frozen
    have f3:(w7.alloc (.cells #[.int .i64 (x.1.1:Int),.int .i64 (e0:Int)] 63)).frozen? ⟨W.heap.size,3,none⟩=false:=hu8.frozen
    have f4:(w7.alloc (.cells #[.int .i64 (x.1.1:Int),.int .i64 (e0:Int)] 63)).frozen? ⟨W.heap.size+1,0,none⟩=false:=he8.frozen
    gi_wp2
    ·rename_i hne
     have hg5:w5.heap.size≤w7.heap.size:=by omega
     have hx8:=Sx.aN.new w7.heap 63 [.int .i64 (x.1.1:Int),.int .i64 (e0:Int)]
     have hu9:=bG (g':=W.heap.size+1) (off:=0) (gC (off:=3) (gC (off:=2) (gC (off:=1) (gC (off:=0) (w:=w7.alloc (.cells #[.int .i64 (x.1.1:Int),.int .i64 (e0:Int)] 63)) hu8 (.slice none 0 0)) (.slice none 0 0)) (.slice none 0 0)) (.slice none 0 0)) (by omega) (.iface 59 (.pointer (some ⟨w7.heap.size,0,none⟩)))
     have he9:=gC (off:=0) (bG (g':=W.heap.size) (off:=3) (bG (g':=W.heap.size) (off:=2) (bG (g':=W.heap.size) (off:=1) (bG (g':=W.heap.size) (off:=0) (w:=w7.alloc (.cells #[.int .i64 (x.1.1:Int),.int .i64 (e0:Int)] 63)) he8 (by omega) (.slice none 0 0)) (by omega) (.slice none 0 0)) (by omega) (.slice none 0 0)) (by omega) (.slice none 0 0)) (.iface 59 (.pointer (some ⟨w7.heap.size,0,none⟩)))
     have hx9:=bG (g':=W.heap.size+1) (off:=0) (bG (g':=W.heap.size) (off:=3) (bG (g':=W.heap.size) (off:=2) (bG (g':=W.heap.size) (off:=1) (bG (g':=W.heap.size) (off:=0) (w:=w7.alloc (.cells #[.int .i64 (x.1.1:Int),.int .i64 (e0:Int)] 63)) hx8 (by omega) (.slice none 0 0)) (by omega) (.slice none 0 0)) (by omega) (.slice none 0 0)) (by omega) (.slice none 0 0)) (by omega) (.iface 59 (.pointer (some ⟨w7.heap.size,0,none⟩)))
     have kk:∀ k,k<W'.heap.size→k≠W.heap.size→k≠W.heap.size+1→((((((w7.alloc (.cells #[.int .i64 (x.1.1:Int),.int .i64 (e0:Int)] 63)).setCell ⟨W.heap.size,0,none⟩ (.slice none 0 0)).setCell ⟨W.heap.size,1,none⟩ (.slice none 0 0)).setCell ⟨W.heap.size,2,none⟩ (.slice none 0 0)).setCell ⟨W.heap.size,3,none⟩ (.slice none 0 0)).setCell ⟨W.heap.size+1,0,none⟩ (.iface 59 (.pointer (some ⟨w7.heap.size,0,none⟩)))).heap[k]?=W'.heap[k]?:=by
      intro k hk n1 n2
      refine (Below.heap_setCell _ _ _ _ n2).trans ?_
      refine (Below.heap_setCell _ _ _ _ n1).trans ?_
      refine (Below.heap_setCell _ _ _ _ n1).trans ?_
      refine (Below.heap_setCell _ _ _ _ n1).trans ?_
      refine (Below.heap_setCell _ _ _ _ n1).trans ?_
      exact (Below.heap_alloc w7 _ k (by omega)).trans (ext.same k hk (by simp))
     refine ⟨⟨by simp; omega,fun k o hk h1 h2=>(kk k (Array.getElem?_eq_some_iff.1 h1).1 (by omega) (by omega)).trans h1⟩,rfl,⟨so7.os.trans so.os,so7.tape.trans so.tape,so7.output.trans so.output⟩,by simp; omega,fun k hk n1 n2=>(kk k (by omega) n1 n2).trans (ho k hk),(x.1.1,e0),w7.heap.size,?_,hu9,he9,hx9⟩
     rw [List.map_append,Sx.Ob.qx,hr]
     simp only [List.map_cons,List.map_nil,Sx.Ob.runN,hlw]
   | ok w1 =>
    rw [hlw] at hR
    obtain ⟨rfl,t',d',e',q',ut',ud',ue',ow2,a2,A2⟩:=hR
    have hsame:=A2.same
    have z7:=A2.size
    have hl2:=vW hlw
    gi_wp2
    refine ⟨⟨z7,fun k o hk h1 h2=>(hsame k (Array.getElem?_eq_some_iff.1 h1).1 (.inr ⟨(Array.getElem?_eq_some_iff.1 h1).1,.inr ⟨⟨o,h1,h2⟩,by omega⟩⟩)).trans h1⟩,⟨so7.os,so7.tape,so7.output,z7,fun k hk=>hsame k (by omega) (.inl (by omega))⟩,⟨so7.os.trans so.os,so7.tape.trans so.tape,so7.output.trans so.output⟩,Nat.le_trans sz z7,fun k hk=>(hsame k (by omega) (.inl hk)).trans (ho k hk),?_,?_⟩
    ·exact (hsame _ (by omega) (.inr ⟨by omega,.inl rfl⟩)).trans hb
    ·refine ⟨w1,t',d',e',q',ut',ud',ue',ow2,?_,a2,A2.qo _ ⟨by omega,.inl rfl⟩,Ad (by omega) hW hlw,?_,?_⟩
     ·rw [List.map_append,Sx.Ob.qx,hr]
      simp only [List.map_cons,List.map_nil,Sx.Ob.runN,hlw]
     ·rw [List.length_append]; simp only [List.length_cons,List.length_nil]; omega
     ·rw [List.length_append]; simp only [List.length_cons,List.length_nil]; omega
  case done =>
   rintro D2 ys w6 hD2 hys ⟨so,sz,ho,hb,w,t,d,e,q,ut,ud,ue,ow,hr,ha,h9,hW,hE,hG⟩ hK2
   have hrun:dI fe 1 (cY src)=.ok w:=by rw [← AA,← hys]; exact hr
   have hyl:ys.length=(aR (src.size+1) 1 src).length:=by have h0:=congrArg List.length hys; rwa [List.length_map] at h0
   have hasm:cQ src=qY w:=GY (by omega) (by rw [← Sx.Ob.ug]; unfold Sx.GZ; rw [List.length_map]; omega) hrun
   have hu6:Sx.aN w6.heap W.heap.size 27 [.slice none 0 0,.slice none 0 0,.slice none 0 0,.slice none 0 0]:=(ho _ (by omega)).trans hu3
   have he6:Sx.aN w6.heap (W.heap.size+1) 29 [.nilIface]:=(ho _ (by omega)).trans he3
   have hrest:=Hb ha hW (by omega) (u:=W.heap.size) (e:=W.heap.size+1) (v:=w3.heap.size+2) (by omega) (by omega) (by omega) (by omega) h9 hu6 rfl he6 hb
   rename_i K hK
   refine hK _ _ ?_
   refine wpIn_wide.2 (IT hrest (w:=w6) rfl rfl rfl rfl rfl rfl ?_)
   rintro x a' w7 hx hd' g2 g3 so7 ⟨v,k7,a,b',c,dd,ev,rfl,hU,hEr,hb1,hb2'⟩
   have D2l:D2<w6.heap.size:=(Array.getElem?_eq_some_iff.1 hK2).1
   have hm:Marks W.heap.size a'.defers w7:=by
    refine ⟨[D2,D1],hd',?_,?_⟩
    ·simp only [List.nodup_cons,List.mem_singleton,List.not_mem_nil,not_false_eq_true,List.nodup_nil,and_true]
     omega
    ·intro D hD
     rcases List.mem_cons.1 hD with rfl | hD
     ·refine ⟨by omega,(k7.same D D2l ?_).trans hK2⟩
      simp only [List.mem_cons,List.not_mem_nil,or_false]
      omega
     ·have hD:=List.mem_singleton.1 hD
      subst hD
      refine ⟨by omega,(k7.same D (by omega) ?_).trans ((ho D (by omega)).trans hK1)⟩
      simp only [List.mem_cons,List.not_mem_nil,or_false]
      omega
   have hfin:∀ w':World,Below W.heap.size w7 w'→(∀ B:Nat,w7.heap[B]?≠some (Obj.deferred (some []))→w'.heap[B]?=w7.heap[B]?)→I5 src W (.returned (.tuple #[ti a b' c dd,ev])) w':=by
    intro w' hb8 hk8
    have hcl:∀ i,pB w7.heap i→w'.heap[i]?=w7.heap[i]?:=by
     rintro i ⟨c,e,f,hi⟩
     exact hk8 i (by rw [hi]; simp)
    refine ⟨a,b',c,dd,ev,rfl,?_,?_,?_⟩
    ·rw [hasm]
     exact Bm (hU.mono (by omega)) hb8.size hcl
    ·rw [hasm]
     exact zj hEr hcl
    ·refine Below.trans ⟨so7.os.trans so.os,so7.tape.trans so.tape,so7.output.trans so.output,by have:=k7.size; omega,fun k hk'=>?_⟩ hb8
     refine (k7.same k (by omega) ?_).trans ((ho k (by omega)).trans (BW3.block k hk'))
     simp only [List.mem_cons,List.not_mem_nil,or_false]
     omega
   rcases hx with rfl | rfl
   ·exact zb (b0:=W.heap.size) hm g2 g3 hb1 hb2' hfin
   ·exact zb (b0:=W.heap.size) hm g2 g3 hb1 hb2' hfin
  case stop =>
   rintro D2 c pre w6 hD2 hpre ⟨rfl,so,sz,ho,q,ax,hq,h1,h2,h3⟩ hK2
   have D2l:D2<w6.heap.size:=(Array.getElem?_eq_some_iff.1 hK2).1
   have hasm:cQ src=.error q:=H4 (by omega) (by rw [← Sx.Ob.ug]; unfold Sx.GZ; rw [List.length_map]; omega) (by rw [← AA]; exact E3 hpre hq)
   gi_wp2
   refine zb (b0:=W.heap.size) (p:=W.heap.size) (q:=W.heap.size+1) (ev:=.iface 59 (.pointer (some ⟨ax,0,none⟩))) ⟨[D2,D1],rfl,?_,?_⟩ rfl rfl h1 h2 ?_
   ·simp only [List.nodup_cons,List.mem_singleton,List.not_mem_nil,not_false_eq_true,List.nodup_nil,and_true]
    omega
   ·intro D hD
    rcases List.mem_cons.1 hD with rfl | hD
    ·exact ⟨by omega,hK2⟩
    ·have hD:=List.mem_singleton.1 hD
     subst hD
     exact ⟨by omega,(ho D (by omega) (by omega) (by omega)).trans hK1⟩
   ·intro w' hb hk
    refine uk (q:=q) hasm ((hk _ (by unfold Sx.aN at h3; erw [h3]; simp)).trans h3) ?_
    exact Below.trans ⟨so.os,so.tape,so.output,by omega,fun k hk'=>(ho k (by omega) (by omega) (by omega)).trans (BW3.block k hk')⟩ hb
end Go.Proofs
set_option linter.unusedVariables false
set_option linter.unusedSimpArgs false
set_option maxRecDepth 100000
namespace Go.Sx.Ob
open Go.Proofs
def J7 (s:ByteArray) (h:Hp) (v:Value) (h':Hp):Prop:=Ext h h'∧∃ (a b c d:bI) (ev:Value),v=.tuple #[ti a b c d,ev]∧j9 h' h.size a b c d (rj (cQ s)).1∧nk h' ev (kX (cQ s))
theorem Jt (s:ByteArray) (h:Hp) (hl:Laid h) (tb:lZ h) (m:Int) (hm:∀ W:World,W.heap=h→W.cell? ⟨2,0,none⟩=some (.int .i64 m)):HC Tryz.prog 10 #[.string s] h (J7 s h):=by
 intro W hW
 subst hW
 refine callsIn_wide.1 ((IW W s hl tb m (hm W rfl)).mono ?_)
 rintro e w' ⟨a,b,c,d,ev,rfl,hU,hE,hB⟩
 exact ⟨_,rfl,⟨hB.os,hB.tape,hB.output⟩,⟨hB.size,fun i hi _=>hB.block i hi⟩,a,b,c,d,ev,rfl,hU,hE⟩
structure sg (u:jv):Prop where
 text:∀ x,x∈u.text→wQ x
 data:∀ x,x∈u.data→wQ x
 aZ:∀ x,x∈u.aZ→sG x.2∧x.1.size<65536
 aF:∀ x,x∈u.aF→x.size<65536
 m1:u.text.length+u.data.length≤8192
 m2:u.aZ.length≤4096
 m3:u.aF.length≤4096
theorem sg.z:sg rO:=⟨by simp [rO],by simp [rO],by simp [rO],by simp [rO],by simp [rO],by simp [rO],by simp [rO]⟩
theorem F4 {x:eJ} {n:Nat} (hn:n≤65535) (g:Good x) (hx:x.aw.length≤n):sG x :=
 ⟨by omega,fun t ht=>⟨by have:=jj (g.xo t ht); omega,(g.nf.EQ t ht).2⟩,g.num⟩
theorem GI {x:bw} {k n:Nat} (hn:n≤65535) (hr:cS x k=true) (g:Good x.e) (hx:Bd n x):wQ x:=by
 refine ⟨F4 hn g hx,?_,?_⟩
 ·have z:z1 x=true→x.name.size<65536:=fun e=>by
   have e:x.name=bK:=of_decide_eq_true e
   rw [e]; decide
  unfold cS at hr
  repeat' split at hr
  all_goals try simp only [Bool.and_eq_true] at hr
  ·have:=jj hr.1.1.1
   omega
  all_goals first | exact z hr.1.1.1 | exact z hr.1.1 | exact z hr.1.2 | exact z hr.1.1.1.2 | exact z hr.1.1.2 | (cases hr; done)
 ·have z:z2 x=true→Sm x.inst.op:=fun e=>by
   have e:x.inst=iI:=of_decide_eq_true e
   rw [e]; unfold Sm iI; simp
  unfold cS at hr
  repeat' split at hr
  all_goals try simp only [Bool.and_eq_true] at hr
  ·exact z hr.1.1.2
  ·have h1:=hr.1.1.2
   unfold yc at h1
   simp only [Bool.and_eq_true] at h1
   exact IU (of_decide_eq_true h1.1.1)
  all_goals first | exact z hr.1.1.1.2 | exact z hr.1.1.2 | exact z hr.1.2 | exact z hr.2 | (cases hr; done)
theorem oP:∀ (l d:List ByteArray),(l.foldl (fun d s=>lQ s d) d).length≤d.length+l.length
 | [],d=>by simp
 | s::l,d=>by
  have h:=oP l (lQ s d)
  have h2:(lQ s d).length≤d.length+1:=uE s d
  simp only [List.foldl_cons,List.length_cons]
  omega
theorem wW:∀ (l:List ByteArray) (w w':dX) (n:Nat),dI w n l=.ok w'→w'.aZ.length≤w.aZ.length+l.length∧w'.aF.length≤w.aF.length+l.length
 | [],w,w',n,h=>by
  simp only [dI] at h
  injection h with h
  subst h
  exact ⟨by simp,by simp⟩
 | s::l,w,w',n,h=>by
  simp only [dI] at h
  split at h
  ·cases h
  ·rename_i w1 h1
   have ih:=wW l w1 w' (n+1) h
   have h2:=vW h1
   simp only [List.length_cons]
   omega
theorem Ja {src:ByteArray} (hs:src.size≤60000) {u:jv} (h:cQ src=.ok u):sg u:=by
 unfold cQ at h
 split at h
 ·cases h
 rename_i hsz
 split at h
 ·cases h
 rename_i hl
 split at h
 ·cases h
 rename_i w hw
 have W:=Ck _ _ _ _ (fun s hs=>by have:=jw src s hs; omega) AT.z hw
 have S:=CQ (n:=60001) (cY src) fe w 1 (fun s hs'=>by have:=jw src s hs'; omega) ⟨by simp [fe],by simp [fe],by simp [fe]⟩ hw
 have L:=wW _ _ _ _ hw
 have hm:=W.many
 split at h
 ·cases h
 injection h with h
 subst h
 refine ⟨fun x hx=>GI (by omega) (W.text x hx).1 (W.text x hx).2 (S.text x hx),fun x hx=>GI (by omega) (W.data x hx).1 (W.data x hx).2 (S.data x hx),fun x hx=>⟨F4 (by omega) (W.aZ x hx).2 (S.aZ x hx),by have:=jj (W.aZ x hx).1; omega⟩,fun x hx=>?_,by simp only; omega,?_,?_⟩
 ·simp only at hx
  rw [rk] at hx
  obtain ⟨g,hg1,rfl⟩:=List.mem_map.1 hx
  have:=jj (W.aF g hg1)
  omega
 ·have:fe.aZ.length=0:=rfl
  simp only
  omega
 ·have h0:fe.aF.length=0:=rfl
  have:=oP (w.aF.map (·.1)) []
  simp only [List.length_map,List.length_nil] at this
  simp only
  unfold cj
  omega
theorem AV {src:ByteArray} (hs:src.size≤60000):sg (rj (cQ src)).1:=by
 cases h:cQ src with
 | error q=>exact sg.z
 | ok u=>exact Ja hs h
theorem j9.own {h:Hp} {b:Nat} {a b' c d:bI} {u:jv} (U:j9 h b a b' c d u) (z:sg u):gS h b a b' c d u∧KX a b':=by
 obtain ⟨ut,ud,ue,ow,C,S⟩:=U
 have l1:=congrArg List.length C.t3
 have l2:=congrArg List.length C.d3
 have l3:=congrArg List.length C.e3
 rw [List.length_map] at l1 l2 l3
 have m1:=z.m1
 have m2:=z.m2
 have m3:=z.m3
 refine ⟨⟨⟨ut,C.t3,by omega,C.t1,C.t2,fun x hx=>z.text _ (by rw [← C.t3]; exact List.mem_map_of_mem hx)⟩,⟨ud,C.d3,by omega,C.d1,C.d2,fun x hx=>z.data _ (by rw [← C.d3]; exact List.mem_map_of_mem hx)⟩,⟨ue,C.e3,by omega,C.e1,C.e2,fun x hx=>z.aZ _ (by rw [← C.e3]; exact List.mem_map_of_mem hx)⟩,⟨u.aF.map (fun x=>(fL,x)),by rw [List.map_map]; exact List.map_id _,by rw [List.length_map]; omega,?_,?_,?_⟩⟩,?_⟩
 ·have h1:(u.aF.map (fun x=>(fL,x))).map (fun (u:bI × ByteArray)=>[Value.string u.2])=u.aF.map F':=by rw [List.map_map]; rfl
  show SL h b 9 1 d.p d.l d.c ((u.aF.map (fun x=>(fL,x))).map (fun (u:bI × ByteArray)=>[Value.string u.2]))
  rw [h1]
  exact S
 ·intro x hx
  obtain ⟨y,hy,rfl⟩:=List.mem_map.1 hx
  exact SL.nil _ _ _ _
 ·intro x hx
  obtain ⟨y,hy,rfl⟩:=List.mem_map.1 hx
  exact z.aF y hy
 ·intro i hi hj
  have h1:=C.o3 i hi
  have h2:=C.o4 i hj
  omega
theorem j9.at {h:Hp} {b:Nat} {a b' c d:bI} {u:jv} (U:j9 h b a b' c d u) (z:sg u):iO h a b' c d u:=(U.own z).1.at
theorem DE {k:Nat} {ts:List Tok} {e:Nat} (w:Wf ts) (h:iN k ts=.error e):e=20∨e=21:=by
 unfold iN at h
 split at h
 ·split at h
  ·rename_i he
   injection h with h
   subst h
   exact gO w he
  ·cases h
 ·split at h
  ·rename_i he
   injection h with h
   subst h
   exact dM w he
  ·cases h
theorem pn {k:Nat} {e:Nat}:∀ (l:List (List Tok)),(∀ a,a∈l→Wf a)→cC k l=.error e→e=20∨e=21
 | [],w,h=>by cases h
 | t::ts,w,h=>by
  simp only [cC] at h
  split at h
  ·rename_i he
   injection h with h
   subst h
   exact DE (w t (by simp)) he
  ·split at h
   ·rename_i he
    injection h with h
    subst h
    exact pn ts (fun a ha=>w a (by simp [ha])) he
   ·cases h
theorem Kp {args:List (List Tok)} (hw:∀ a,a∈args→Wf a) (wn:Wf []) (i:Nat):Wf (ag args i):=by
 unfold ag
 rw [List.getD_eq_getElem?_getD]
 cases h:args[i]? with
 | none=>exact wn
 | some a=>exact hw a (List.mem_of_getElem? h)
theorem Gq {op:ByteArray} {args:List (List Tok)} {e:Nat} (hw:∀ a,a∈args→Wf a) (wn:Wf []) (h:fO op args=.error e):e=20∨e=21:=by
 unfold fO at h
 simp only at h
 have g:=Kp hw wn
 split at h
 ·injection h with h; exact .inl h.symm
 split at h
 ·cases h
 split at h
 ·split at h
  ·rename_i he
   injection h with h
   subst h
   exact gO (g 0) he
  ·split at h
   ·cases h
   ·injection h with h; exact .inr h.symm
 split at h
 ·split at h
  ·rename_i he
   injection h with h
   subst h
   exact gO (g 0) he
  ·cases h
 split at h
 ·split at h
  ·injection h with h; exact .inl h.symm
  ·split at h
   ·rename_i he
    injection h with h
    subst h
    exact pn _ hw he
   ·cases h
 split at h
 ·split at h
  ·injection h with h; exact .inl h.symm
  ·split at h
   ·rename_i he
    injection h with h
    subst h
    exact pn _ hw he
   ·cases h
 split at h
 ·split at h
  ·rename_i he
   injection h with h
   subst h
   exact .inl (qR he)
  ·split at h
   ·rename_i he
    injection h with h
    subst h
    exact dM (g 1) he
   ·cases h
 split at h
 ·split at h
  ·rename_i he
   injection h with h
   subst h
   exact .inl (qR he)
  ·cases h
 ·split at h
  ·split at h
   ·cases h
   ·split at h
    ·cases h
    ·injection h with h; exact .inl h.symm
  ·injection h with h; exact .inl h.symm
theorem DD {l:Ln} {d:Bool} {e:Nat} (hw:∀ a,a∈l.args→Wf a) (wn:Wf []) (h:dy l d=.error e):e=20∨e=21:=by
 unfold dy at h
 split at h
 ·cases h
 split at h
 ·split at h
  ·rename_i he
   injection h with h
   subst h
   exact xf hw he
  ·split at h
   ·injection h with h; exact .inr h.symm
   ·cases h
 ·split at h
  ·rename_i he
   injection h with h
   subst h
   exact Gq hw wn he
  ·rename_i t w he
   by_cases hc:w=2∨w=(if d then 1 else 0)
   ·rw [if_pos hc] at h; cases h
   ·rw [if_neg hc] at h; injection h with h; exact .inr h.symm
theorem zz (s:ByteArray):∀ (f k:Nat) (acc:List Tok),(jk s f k acc).2.2≤20
 | 0,k,acc=>by simp [jk]
 | f+1,k,acc=>by
  simp only [jk]
  split
  ·simp
  ·simp
  ·exact zz s f _ _
theorem Bf (s:ByteArray):(aJ s).2.2≤20:=by
 have ht:∀ (n:Nat) (lb:ByteArray) (us:List Tok),(bM n lb us).2.2≤20:=by
  intro n lb us
  unfold bM
  split
  ·simp
  ·split
   ·simp
   ·split <;> simp
 unfold aJ eH
 split
 ·exact zz s _ _ _
 ·split
  ·exact ht _ _ _
  ·exact ht _ _ _
theorem Dt {w:dX} {n e:Nat} {s:ByteArray} (hs:s.size≤2^20) (h:dH w n s=.error e):e<100:=by
 unfold dH at h
 have p:=Bf s
 split at h
 ·injection h with h; omega
 split at h
 ·injection h with h; omega
 split at h
 ·rename_i he
  injection h with h
  subst h
  have f:=gJ s hs
  have:=DD (fun a ha=>(f a ha).1) (fun t ht=>by cases ht) he
  omega
 split at h
 ·injection h with h; omega
 split at h
 ·injection h with h; omega
 ·cases h
theorem yL:∀ (l:List ByteArray) (w:dX) (n:Nat) (q:Nat × Nat),(∀ s,s∈l→s.size≤2^20)→dI w n l=.error q→q.2<100
 | [],w,n,q,_,h=>by cases h
 | s::l,w,n,q,hs,h=>by
  simp only [dI] at h
  split at h
  ·rename_i e he
   injection h with h
   subst h
   exact Dt (hs s (by simp)) he
  ·exact yL l _ _ q (fun x hx=>hs x (by simp [hx])) h
theorem B1 {s:ByteArray} {q:Nat × Nat} (h:cQ s=.error q):q.1≤2^60∧q.2<10^18:=by
 unfold cQ at h
 split at h
 ·injection h with h
  subst h
  exact ⟨by decide,by decide⟩
 rename_i hsz
 split at h
 ·injection h with h
  subst h
  exact ⟨by decide,by decide⟩
 rename_i hl
 have hls:∀ x,x∈cY s→x.size≤2^20:=fun x hx=>by have:=jw s x hx; omega
 split at h
 ·rename_i he
  injection h with h
  subst h
  have h1:=yL _ _ _ _ hls he
  have h2:=yS _ _ _ _ he
  exact ⟨by omega,by omega⟩
 ·rename_i w hw
  split at h
  ·rename_i g hg
   injection h with h
   subst h
   have hm:=List.mem_of_find?_eq_some hg
   rcases uT _ _ _ _ hw g hm with h3 | h3
   ·simp [fe] at h3
   ·exact ⟨by simp only; omega,show 23<10^18 by decide⟩
  ·cases h
theorem DY {s:ByteArray} {q:Nat × Nat} (h:kX (cQ s)=some q):q.1≤2^60∧q.2<10^18:=by
 cases hh:cQ s with
 | error e =>
  rw [hh] at h
  injection h with h
  subst h
  exact B1 hh
 | ok u=>rw [hh] at h; cases h
end Go.Sx.Ob
set_option linter.unusedVariables false
set_option maxRecDepth 100000
namespace Go.Proofs.YtfkjiiapldkoeaaGreatDoor
open Go.RowKit Go.Extern.Stop Go.Stop Go.Extern
theorem GA (v:Value) (w:World):(Extern.ReflectliteType.typeOf #[.iface 44 v]).run Tryz.prog w=.ok (.iface 163 (.agg #[.pointer (some ⟨8,44,none⟩)])) w:=by kernel_rfl
theorem yD (w : World) : ((Extern.ReflectliteType.method fun t => do Extern.Rtype.noPackHeld "Comparable" t; (fun a => Value.bool a.comparable) <$> typeInfo t) #[.agg #[.pointer (some ⟨8, 44, none⟩)]]).run Tryz.prog w = .ok (.bool true) w := by kernel_rfl
theorem pc (v : Value) (w : World) : (Go.method 442 163 v "Comparable").run Tryz.prog w = .ok (226, v) w := by kernel_rfl
theorem Kx (v:Value) (xT:TypeId) (w:World):(Instr.typeAssert (.iface 59 v) xT 197 true).run Tryz.prog w=.ok (.tuple #[.nilIface,.bool false]) w:=run_typeAssert_lacksB Tryz.underlying197 (by kernel_rfl) (by kernel_rfl) v xT w
theorem KB (v:Value) (xT:TypeId) (w:World):(Instr.typeAssert (.iface 44 v) xT 197 true).run Tryz.prog w=.ok (.tuple #[.nilIface,.bool false]) w:=run_typeAssert_lacksB Tryz.underlying197 (by kernel_rfl) (by kernel_rfl) v xT w
theorem B9 (v:Value) (xT:TypeId) (w:World):(Instr.typeAssert (.iface 59 v) xT 170 true).run Tryz.prog w=.ok (.tuple #[.iface 59 v,.bool true]) w:=run_typeAssert_hasB Tryz.underlying170 (by kernel_rfl) v xT w
theorem yu (v : Value) (w : World) : (Go.method 442 59 v "Unwrap").run Tryz.prog w = .ok (39, v) w := by kernel_rfl
theorem LR (n m:Int) (w:World):(binOp .eql 29 (.iface 44 (.int .i64 n)) (.iface 44 (.int .i64 m))).run Tryz.prog w=.ok (.bool (n==m)) w:=by kernel_rfl
theorem Mm (n:Int) (w:World):(binOp .eql 29 (.iface 44 (.int .i64 n)) (.iface 44 (.int .i64 n))).run Tryz.prog w=.ok (.bool true) w:=by rw [LR]; simp
theorem Et (a:Nat) (n:Int) (w:World) (h1:w.cell? ⟨a,0+1,none⟩=some (.int .i64 n)) :
  Calls Tryz.prog 40 #[.iface 59 (.pointer (some ⟨a,0,none⟩)),.iface 44 (.int .i64 n)] w fun e w'=>e=.returned (.bool true)∧w'=w:=by
 have h8:=@run_callFunc_extern Tryz.prog 73 _ Extern.ReflectliteType.typeOf Tryz.func73 (by kernel_rfl) (by kernel_rfl) (by kernel_rfl) (by kernel_rfl)
 have h32 := @run_callFunc_extern Tryz.prog 226 _ (Extern.ReflectliteType.method fun t => do Extern.Rtype.noPackHeld "Comparable" t; pure (.bool (← typeInfo t).comparable)) Tryz.func226 (by kernel_rfl) (by kernel_rfl) (by kernel_rfl) (by kernel_rfl)
 have tT:=GA
 have cT:=yD
 have mR:=pc
 have nE:=Kx
 have nW:=KB
 have uW:=B9
 have mU:=yu
 have heq:=Mm n w
 have hty:=run_eql_iface_types (P:=Tryz.prog) 59 44 (.pointer (some ⟨a,0,none⟩)) (.int .i64 n) Tryz.underlying29 (by decide) w
 go_enter Tryz.func40,Tryz.ntmps40
 go_wp2
 refine wp_loop_rounds 2 ?_
 rw [rounds_succ]
 go_wp2
 rw [rounds_succ]
 go_wp2
 go_ret
 exact ⟨rfl,rfl⟩
end Go.Proofs.YtfkjiiapldkoeaaGreatDoor
set_option linter.unusedVariables false
set_option linter.unusedSimpArgs false
set_option maxRecDepth 100000
namespace Go.Sx.Ob
open Go.Proofs
theorem SL.flat {h:Hp} {b:Nat} {e:TypeId} {sz:Nat} {a:Addr} {l c:Nat} {xs:List (List Value)} (s:SL h b e sz (some a) l c xs):aG h a 0 xs.flatten:=by
 obtain ⟨g,pre,rest,rfl,hbg,hlc,hbox,hr⟩:=s.2.2
 refine hbox.cells _ ?_
 rw [List.drop_left,List.take_left]
def mn (h:Hp):Prop:=∃ e f,h[3]?=some (.cells (Lib.pow10Tab.map fun z=>Value.int .u64 z).toArray e f)
theorem mn.ah {ws:List Nat} {h h':Hp} (p:mn h) (k:Ch ws h h') (hw:3∉ws):mn h':=by
 obtain ⟨e,f,hp⟩:=p
 exact ⟨e,f,k.get hp hw⟩
theorem IZ {W:World} {name:String} (hg:Tryz.prog.globalNamed name=some 3) (p:mn W.heap):Lib.TabIs Tryz.prog W name .u64 Lib.pow10Tab:=by
 obtain ⟨e,f,hp⟩:=p
 unfold Lib.TabIs World.var?
 rw [hg]
 show (match W.heap[3]? with | some (.cells cs _ _)=>some cs | _=>none)=_
 rw [hp]
theorem HG {h:Hp} (p:mn h) (n:Nat) (hn:n≤2^60):HC Tryz.prog 71 #[.int .i64 n] h fun v h'=>∃ s:ByteArray,v=.string s∧s.size≤1000∧Ext h h':=by
 intro W hW
 subst hW
 refine (Tryz.strconv_Itoa n (by omega) (by omega) W (IZ (by kernel_rfl) p)).mono ?_
 rintro e w' ⟨he,k,os,rfl⟩
 refine ⟨_,he,⟨rfl,rfl,rfl⟩,_,rfl,?_,?_⟩
 ·show (Lib.itoa (n:Int)).toArray.size≤1000
  have:=Lib.itoa_length_le (n:Int) (by omega) (by omega)
  simp
  omega
 ·refine ⟨by show W.heap.size≤(W.heap++os).size; simp,fun i hi _=>?_⟩
  show (W.heap++os)[i]?=_
  rw [Array.getElem?_append_left hi]
theorem Jc:Tryz.prog.underlying 42=some (.slice 5):=by kernel_rfl
theorem Km:Tryz.prog.underlying 5=some (.int .u8):=by kernel_rfl
theorem JJ:Tryz.prog.underlying 9=some .string:=by kernel_rfl
theorem Gu {L:Lp} {K:Value→Hp→Prop} {h:Hp} {b:Nat} {p:Option Addr} {l c:Nat} {bs:List UInt8} {k:ByteArray→T} (s:SL h b 5 1 p l c (wm bs)) (h0:bs≠[]) (hk:k ⟨bs.toArray⟩ L K h) :
  T.aV Tryz.prog (convert 42 9 (.slice p l c)) false [(false,[.string])] k L K h:=by
 show aE Tryz.prog (convert 42 9 (.slice p l c)) h _
 unfold convert
 rw [aj,az Jc,aj,az JJ]
 show aE Tryz.prog (do match ← underlying 5 with
  | .int .u8=>Conv.bytesToString (.slice p l c)
  | .int .i32=>Conv.runesToString (.slice p l c)
  | _ => stuck "Convert: a slice of what to string?") h _
 rw [aj,az Km]
 cases p with
 | none =>
  have h1:wm bs=[]:=s.2.2.2
  have:bs=[]:=by simpa [wm] using h1
  exact absurd this h0
 | some a =>
  have hl:l=bs.length:=by rw [s.1,uX]
  subst hl
  have hf:=SL.flat s
  rw [yO] at hf
  exact Ed a bs c _ hf ⟨(⟨bs.toArray⟩,()),rfl,hk⟩
theorem Jd (n:Nat):IntKind.wrap .u8 (IntKind.wrap .i64 ((48:Int)+(Int.tmod (n:Int) (10:Int))))=((UInt8.ofNat (48+n % 10)).toNat:Int):=by
 have e:Int.tmod (n:Int) 10=((n % 10:Nat):Int):=by
  rw [Int.tmod_eq_emod_of_nonneg (by omega)]
  rfl
 rw [e,wrap_i64 (by omega) (by omega),wrap_u8 (by omega) (by omega)]
 simp
 omega
theorem zS {P:Program} {h:Hp} {t ty e:TypeId} {i:TypeInfo} (ht:P.underlying t=some (.slice e)) (hi:P.info? e=some i) (a:Addr) (l:Nat) (K:Value→Hp→Prop) (hk:K (.slice (some a) l l) h) :
  aE P (Builtin.append_ #[t,t] ty #[.slice (some a) l l,.slice none 0 0]) h K:=by
 simp [Builtin.append_,aj,az ht,bj hi,cI hi,Builtin.lenOf,Builtin.firstCells]
 rw [ji]
 exact hk
theorem EN (h:Hp) (n:Nat) (hn:n<10^18):HC Tryz.prog 72 #[.int .i64 n] h fun v h'=>∃ s:ByteArray,v=.string s∧s.size≤1000∧Ext h h':=by
 refine aI (args:=[.int .i64 n]) mixed Tryz.func72 (by kernel_rfl) (kF n) ?_
 unfold gW
 refine af (fun _=>⟨_,rfl,by decide,Ch.refl _ _⟩) (fun _=>?_)
 refine af (fun _=>⟨_,rfl,by decide,Ch.refl _ _⟩) (fun _=>?_)
 refine af (fun _=>⟨_,rfl,by decide,Ch.refl _ _⟩) (fun _=>?_)
 refine af (fun _=>⟨_,rfl,by decide,Ch.refl _ _⟩) (fun _=>?_)
 refine bm (by rw [decide_eq_false_iff_not]; omega) ?_
 refine bC (cs:=[(false,[.int .i64]),(false,[.slice 0])]) (fun y m h'=>∃ (k:Nat) (bs:List UInt8) (p:Option Addr) (c:Nat),y=((k:Int),(p,bs.length,c),())∧m=k+(if bs=[] then 1 else 0)∧bs.length≤20∧k≤n∧k<10^(20-bs.length)∧SL h' h.size 5 1 p bs.length c (wm bs)∧Ext h h') ((n:Int),(none,0,0),()) (n+1) rfl
  ⟨n,[],none,0,rfl,rfl,by simp,Nat.le_refl _,Nat.lt_of_lt_of_le hn (Nat.pow_le_pow_right (by omega) (by simp)),SL.nil _ _ _ _,Ch.refl _ _⟩ ?_
 rintro ⟨n6,⟨p7,l8,l9⟩,⟨⟩⟩ m h1 ⟨k,bs,p,c,hy,hm,hbl,hkn,hkl,sl,e1⟩
 cases hy
 dsimp only [flat,aA,ai,nA,cA]
 have hz1:=e1.size
 have step:(0<k∨bs=[])→(T.need ((10:Int)≠(0:Int)) <|
    T.aV Tryz.prog (Instr.buildSlice 42 1 #[(0,.int .u8 (IntKind.wrap .u8 (IntKind.wrap .i64 ((48:Int)+(Int.tmod (k:Int) (10:Int))))))]) false [(false,[.slice 0])] fun (p5:Option Addr) (l6:Nat) (l7:Nat) =>
    T.aV Tryz.prog (Builtin.append_ #[42,42] 42 #[.slice p5 l6 l7,.slice p7 bs.length l9]) false [(false,[.slice 0])] fun (p8:Option Addr) (l9:Nat) (l10:Nat) =>
    T.need ((10:Int)≠(0:Int)) <|
    T.again 0 [.int .i64 (IntKind.wrap .i64 (Int.tdiv (k:Int) (10:Int))),.slice p8 l9 l10]) [Jl (cs:=[(false,[.int .i64]),(false,[.slice 0])]) (fun y m h'=>∃ (k:Nat) (bs:List UInt8) (p:Option Addr) (c:Nat),y=((k:Int),(p,bs.length,c),())∧m=k+(if bs=[] then 1 else 0)∧bs.length≤20∧k≤n∧k<10^(20-bs.length)∧SL h' h.size 5 1 p bs.length c (wm bs)∧Ext h h') m] (fun v h'=>∃ s:ByteArray,v=.string s∧s.size≤1000∧Ext h h') h1:=by
  intro hs
  have hk20:bs.length<20:=by
   rcases hs with hs | hs
   ·by_cases g:bs.length<20
    ·exact g
    ·have:20-bs.length=0:=by omega
     rw [this] at hkl
     simp at hkl
     omega
   ·rw [hs]; simp
  refine aB (by decide) ?_
  rw [Jd]
  refine ek Eh LU (by omega) (by omega) (J2 ((UInt8.ofNat (48+k % 10)).toNat:Int)) ?_
  intro h2 b2 e2 z2
  have s2:SL h2 h1.size 5 1 (some ⟨h1.size,0,none⟩) 1 1 (wm [UInt8.ofNat (48+k % 10)]) :=
   ⟨rfl,CM _,h1.size,[],[],rfl,Nat.le_refl _,⟨by omega,by omega⟩,b2,by simp⟩
  have sl2:=sl.ah e2 (by simp)
  obtain ⟨i5,hi5,hz5,hs5,hb5⟩:=mj LU
  have fin:∀ (bs':List UInt8) (p':Option Addr) (c':Nat) (h3:Hp),bs'=UInt8.ofNat (48+k % 10)::bs→SL h3 h1.size 5 1 p' bs'.length c' (wm bs')→Ext h1 h3→(T.need ((10:Int)≠(0:Int)) <|
    T.again 0 [.int .i64 (IntKind.wrap .i64 (Int.tdiv (k:Int) (10:Int))),.slice p' bs'.length c']) [Jl (cs:=[(false,[.int .i64]),(false,[.slice 0])]) (fun y m h'=>∃ (k:Nat) (bs:List UInt8) (p:Option Addr) (c:Nat),y=((k:Int),(p,bs.length,c),())∧m=k+(if bs=[] then 1 else 0)∧bs.length≤20∧k≤n∧k<10^(20-bs.length)∧SL h' h.size 5 1 p bs.length c (wm bs)∧Ext h h') m] (fun v h'=>∃ s:ByteArray,v=.string s∧s.size≤1000∧Ext h h') h3:=by
   intro bs' p' c' h3 hbs s3 e3
   refine aB (by decide) ?_
   have hdiv:Int.tdiv (k:Int) (10:Int)=((k / 10:Nat):Int):=by
    rw [Int.tdiv_eq_ediv_of_nonneg (by omega)]
    rfl
   rw [hdiv,wrap_i64 (by omega) (by omega)]
   refine aL (cs:=[(false,[.int .i64]),(false,[.slice 0])]) (((k / 10:Nat):Int),(p',bs'.length,c'),()) (k / 10) rfl ?_ rfl ?_
   ·rw [hm]
    rcases hs with hs | hs
    ·omega
    ·rw [if_pos hs]; omega
   ·refine ⟨k / 10,bs',p',c',rfl,?_,?_,by omega,?_,s3.mono (by omega),e1.trans e3⟩
    ·rw [if_neg (by rw [hbs]; simp)]; rfl
    ·rw [hbs]; simp; omega
    ·rw [hbs,List.length_cons]
     have:10^(20-bs.length)=10^(20-(bs.length+1))*10:=by
      rw [← Nat.pow_succ]
      congr 1
      omega
     rw [this] at hkl
     omega
  have hl7:bs.length=(wm bs).length:=(uX bs).symm
  cases p7 with
  | none =>
   have hb1:wm bs=[]:=sl2.2.2.2
   have hb3:l9=0:=sl2.2.2.1
   have:bs=[]:=by simpa [wm] using hb1
   subst this hb3
   refine cO (zS Eh hi5 _ 1 _ ?_)
   exact ⟨_,1,1,rfl,fin [UInt8.ofNat (48+k % 10)] _ 1 h2 rfl s2 e2⟩
  | some a7 =>
   refine cO (kf (i:=i5) Eh hi5 hz5 (by rw [hs5]; rfl) (by rw [hs5]; exact s2) (ys:=wm bs) hl7 (by rw [hs5]; exact CM bs) (SL.flat sl2) (CT bs) (by rw [hb5]; omega) (by omega) (by omega) ?_)
   intro p' c' h3 s3 k3 hp'
   refine ⟨p',1+bs.length,c',rfl,?_⟩
   have hlen:1+bs.length=(UInt8.ofNat (48+k % 10)::bs).length:=by simp; omega
   rw [hlen]
   refine fin _ p' c' h3 rfl ?_ (e2.st k3 (Nat.le_refl _))
   rw [← hlen]
   rw [hs5] at s3
   exact s3
 refine af (fun q=>?_) (fun q=>?_)
 ·have q:=of_decide_eq_true q
  exact step (.inl (by omega))
 ·refine af (fun w=>?_) (fun w=>?_)
  ·have w:bs.length=0:=eQ w
   exact step (.inr (List.eq_nil_of_length_eq_zero w))
  ·have w:¬ bs.length=0:=fx w
   refine Gu sl (fun e=>w (by rw [e]; rfl)) ?_
   have hsz:(⟨bs.toArray⟩:ByteArray).size=bs.length:=by show bs.toArray.size=_; simp
   refine aB (by rw [hsz]; omega) ?_
   refine ⟨_,rfl,?_,e1⟩
   rw [ByteArray.size_append,hsz]
   show 8+bs.length≤1000
   omega
end Go.Sx.Ob
set_option linter.unusedVariables false
set_option maxRecDepth 100000
namespace Go.Sx
open Go.Proofs
def fE (a:Value) (b:Int) (c:Int):T :=
 T.new [.int .i64 b,.int .i64 c] 33 fun (d:Addr) =>
 T.ae (d.add 1) [.int .i64] fun (e:Int) =>
 cond (e==(0:Int))
 (T.aV Tryz.prog (Sx.bJ (BinOp.eql) 29 (Operand.tmp 10) (Operand.const Value.nilIface) a .nilIface) false [(false,[.bool])] fun (f:Bool) =>
 T.ret (.bool f))
 (T.aV Tryz.prog (Instr.typeAssert a 29 59 true) true [(false,[.pointer 63]),(false,[.bool])] fun (f:Option Addr) (g:Bool) =>
 cond g
  (cond (!(/-?Option.isSome.match_1-/ match f with
  | some val=>false
  | none=>true))
  (T.au f fun (h:Addr) =>
  T.ae h [.int .i64] fun (i:Int) =>
  T.ae d [.int .i64] fun (j:Int) =>
  cond (i==j)
   (T.au f fun (k:Addr) =>
   T.ae (k.add 1) [.int .i64] fun (l:Int) =>
   T.ae (d.add 1) [.int .i64] fun (m:Int) =>
   cond (l==m)
   (T.call Tryz.prog 37 [.pointer f] false [(false,[.string])] fun (n:ByteArray) =>
   T.aO [((d.add 1),[.int .i64 m]),((k.add 1),[.int .i64 l]),(d,[.int .i64 j]),(h,[.int .i64 i])] <|
   cond (!((ByteArray.toList n)==[]))
    (T.au f fun (o:Addr) =>
    T.ae (o.add 1) [.int .i64] fun (p:Int) =>
    T.call Tryz.prog 39 [.pointer f] false [(false, [.interface #[("Error", 85)]])] fun (q : Value) =>
    T.aO [((o.add 1),[.int .i64 p]),((d.add 1),[.int .i64 m]),((k.add 1),[.int .i64 l]),(d,[.int .i64 j]),(h,[.int .i64 i])] <|
    T.call Tryz.prog 38 [q,.iface 44 (.int .i64 p)] false [(false,[.bool])] fun (r:Bool) =>
    T.aO [((o.add 1),[.int .i64 p]),((d.add 1),[.int .i64 m]),((k.add 1),[.int .i64 l]),(d,[.int .i64 j]),(h,[.int .i64 i])] <|
    cond r
    (T.ae (d.add 1) [.int .i64] fun (s:Int) =>
    T.call Tryz.prog 40 [a,.iface 44 (.int .i64 s)] false [(false,[.bool])] fun (t:Bool) =>
    T.aO [((d.add 1),[.int .i64 s]),((o.add 1),[.int .i64 p]),((d.add 1),[.int .i64 m]),((k.add 1),[.int .i64 l]),(d,[.int .i64 j]),(h,[.int .i64 i])] <|
    T.ret (.bool t))
    (T.ret (.bool false)))
    (T.ret (.bool false)))
   (T.ret (.bool false)))
   (T.ret (.bool false)))
  (T.ret (.bool false)))
  (T.ret (.bool false)))
theorem jl (a:Value) (b:Int) (c:Int):aY Tryz.prog [] Tryz.f12 [a,.agg #[.int .i64 b,.int .i64 c]]=fE a b c:=by kernel_rfl
end Go.Sx
set_option linter.unusedVariables false
set_option linter.unusedSimpArgs false
set_option maxRecDepth 100000
namespace Go.Sx.Ob
open Go.Proofs
theorem xE {h:Hp} {a:Nat} {x n:Int} (b:aN h a 63 [.int .i64 x,.int .i64 n]):tp Tryz.prog 40 [.iface 59 (ptr a),.iface 44 (.int .i64 n)] h (.bool true):=by
 intro W hW
 subst hW
 refine (Go.Proofs.YtfkjiiapldkoeaaGreatDoor.Et a n W ?_).mono ?_
 ·rw [dz,b.cell]
  rfl
 ·rintro e w' ⟨he,rfl⟩
  exact ⟨_,he,bL.refl _,rfl,rfl⟩
theorem Ee {h:Hp} {a:Nat} {x n:Int} (b:aN h a 63 [.int .i64 x,.int .i64 n]):tp Tryz.prog 39 [ptr a] h (.iface 44 (.int .i64 n)):=by
 refine dU mixed Tryz.func39 (by kernel_rfl) (jr (some ⟨a,0,none⟩)) ?_
 unfold fK
 refine an rfl ?_
 rw [ao]
 refine ad b (n,()) rfl ?_
 exact ⟨rfl,rfl⟩
theorem FQ {h:Hp} (p:mn h) {a x n:Nat} (hx:x≤2^60) (hn:n<10^18) (b:aN h a 63 [.int .i64 (x:Int),.int .i64 (n:Int)]):HC Tryz.prog 37 #[ptr a] h fun v h'=>∃ s:ByteArray,v=.string s∧s.data.toList≠[]∧Ext h h':=by
 refine aI (args:=[ptr a]) mixed Tryz.func37 (by kernel_rfl) (jL (some ⟨a,0,none⟩)) ?_
 unfold fZ
 refine an rfl ?_
 refine ad b ((x:Int),()) rfl ?_
 dsimp only [flat,aA,ai,nA,cA]
 refine an rfl ?_
 rw [ao]
 refine ad b ((n:Int),()) rfl ?_
 dsimp only [flat,aA,ai,nA,cA]
 refine aC (HG p x hx) ?_
 rintro _ h1 ⟨s,rfl,hs,e1⟩
 refine ⟨(s,()),rfl,?_⟩
 dsimp only [flat,aA,ai,nA,cA]
 have b1:=b.ah e1 (by simp)
 refine ⟨⟨b1.cells _ rfl,trivial⟩,?_⟩
 have z5:(⟨#[108,105,110,101,32]⟩:ByteArray).size=5:=rfl
 have z2:(⟨#[58,32]⟩:ByteArray).size=2:=rfl
 refine aB (by omega) (aB (by rw [ByteArray.size_append,z5]; omega) ?_)
 refine aC (EN h1 n hn) ?_
 rintro _ h2 ⟨t,rfl,ht,e2⟩
 refine ⟨(t,()),rfl,?_⟩
 dsimp only [flat,aA,ai,nA,cA]
 refine ⟨⟨(b1.ah e2 (by simp)).cells _ rfl,trivial⟩,?_⟩
 refine aB (by rw [ByteArray.size_append,ByteArray.size_append,z5,z2]; omega) ?_
 refine ⟨_,rfl,?_,e1.trans e2⟩
 intro h0
 have:=congrArg List.length h0
 simp at this
theorem Jh (o:Nat) (t:TypeId) (u:Value) (h:Hp) (K:Value→Hp→Prop):aE Tryz.prog (Sx.bJ (BinOp.eql) 29 (Operand.tmp o) (Operand.const Value.nilIface) (.iface t u) .nilIface) h K=K (.bool false) h:=by kernel_rfl
theorem Ke (o:Nat) (h:Hp) (K:Value→Hp→Prop):aE Tryz.prog (Sx.bJ (BinOp.eql) 29 (Operand.tmp o) (Operand.const Value.nilIface) .nilIface .nilIface) h K=K (.bool true) h:=by kernel_rfl
theorem LD (o:Nat) (t:TypeId) (u:Value) (h:Hp) (K:Value→Hp→Prop):aE Tryz.prog (Sx.bJ (BinOp.neq) 29 (Operand.tmp o) (Operand.const Value.nilIface) (.iface t u) .nilIface) h K=K (.bool true) h:=by kernel_rfl
theorem Le (o:Nat) (h:Hp) (K:Value→Hp→Prop):aE Tryz.prog (Sx.bJ (BinOp.neq) 29 (Operand.tmp o) (Operand.const Value.nilIface) .nilIface .nilIface) h K=K (.bool false) h:=by kernel_rfl
theorem Lr (n:Int) (o u:Nat) (h:Hp) (K:Value→Hp→Prop):aE Tryz.prog (Sx.bJ (BinOp.eql) 29 (Operand.tmp o) (Operand.tmp u) (.iface 44 (.int .i64 n)) (.iface 44 (.int .i64 n))) h K=K (.bool (n==n)) h:=by kernel_rfl
theorem Mj (a:Addr) (h:Hp) (K:Value→Hp→Prop):aE Tryz.prog (Instr.typeAssert (.iface 59 (.pointer (some a))) 29 59 true) h K=K (.tuple #[.pointer (some a),.bool true]) h:=by kernel_rfl
theorem Mh (h:Hp) (K:Value→Hp→Prop):aE Tryz.prog (Instr.typeAssert .nilIface 29 59 true) h K=K (.tuple #[.pointer none,.bool false]) h:=by kernel_rfl
theorem BX (h:Hp) (n:Int):tp Tryz.prog 38 [.iface 44 (.int .i64 n),.iface 44 (.int .i64 n)] h (.bool true):=by
 refine dU mixed Tryz.func38 (by kernel_rfl) (jn _ _) ?_
 unfold fJ
 refine bD (fun K' hK=>by rw [Jh]; exact hK) ?_
 refine bm rfl ?_
 refine bD (fun K' hK=>by rw [Jh]; exact hK) ?_
 refine bm rfl ?_
 refine bD (b:=true) (fun K' hK=>by rw [Lr]; simpa using hK) ?_
 exact ⟨rfl,rfl⟩
def qM (a w:Nat) (e:Option (Nat × Nat)):Bool:=if w=0 then decide (e=none) else decide (e=some (a,w))
theorem BA {h:Hp} (p:mn h) {ev:Value} {e:Option (Nat × Nat)} (v:nk h ev e) (hs:∀ q,e=some q→q.1≤2^60∧q.2<10^18) (a w:Nat) :
  HC Tryz.prog 12 #[ev,.agg #[.int .i64 (a:Int),.int .i64 (w:Int)]] h fun r h'=>r=.bool (qM a w e)∧Ext h h':=by
 refine aI (args:=[ev,.agg #[.int .i64 (a:Int),.int .i64 (w:Int)]]) mixed Tryz.func12 (by kernel_rfl) (jl ev a w) ?_
 unfold fE
 refine aT ?_
 intro h1 b1 e1 z1
 rw [ao]
 refine ad b1 ((w:Int),()) rfl ?_
 dsimp only [flat,aA,ai,nA,cA]
 cases e with
 | none =>
  have v:ev=.nilIface:=v
  subst v
  refine af (fun q=>?_) (fun q=>?_)
  ·have q:w=0:=eQ q
   refine bD (fun K' hK=>by rw [Ke]; exact hK) ?_
   exact ⟨by unfold qM; rw [if_pos q]; rfl,e1⟩
  ·have q:¬ w=0:=fx q
   show aE _ _ _ _
   rw [Mh]
   refine ⟨(none,false,()),rfl,?_⟩
   dsimp only [flat,aA,ai,nA,cA]
   refine bm rfl ?_
   exact ⟨by unfold qM; rw [if_neg q]; rfl,e1⟩
 | some er =>
  obtain ⟨ax,rfl,bx⟩:=v
  obtain ⟨hs1,hs2⟩:=hs er rfl
  have bx1:=bx.ah e1 (by simp)
  refine af (fun q=>?_) (fun q=>?_)
  ·have q:w=0:=eQ q
   refine bD (fun K' hK=>by rw [Jh]; exact hK) ?_
   exact ⟨by unfold qM; rw [if_pos q]; rfl,e1⟩
  have q:¬ w=0:=fx q
  have ww:qM a w (some er)=decide (er=(a,w)):=by
   unfold qM
   rw [if_neg q]
   simp
  show aE _ _ _ _
  rw [Mj]
  refine ⟨(some ⟨ax,0,none⟩,true,()),rfl,?_⟩
  dsimp only [flat,aA,ai,nA,cA]
  refine aX rfl ?_
  refine aX rfl ?_
  refine an rfl ?_
  refine ad bx1 ((er.1:Int),()) rfl ?_
  dsimp only [flat,aA,ai,nA,cA]
  refine ad b1 ((a:Int),()) rfl ?_
  dsimp only [flat,aA,ai,nA,cA]
  refine nD (fun r=>?_) (fun r=>?_)
  ·have r:¬ er.1=a:=fx r
   exact ⟨by rw [ww,decide_eq_false (fun e=>r (by rw [e]))],e1⟩
  have r:er.1=a:=eQ r
  refine an rfl ?_
  rw [ao]
  refine ad bx1 ((er.2:Int),()) rfl ?_
  dsimp only [flat,aA,ai,nA,cA]
  refine ad b1 ((w:Int),()) rfl ?_
  dsimp only [flat,aA,ai,nA,cA]
  refine nD (fun s=>?_) (fun s=>?_)
  ·have s:¬ er.2=w:=fx s
   exact ⟨by rw [ww,decide_eq_false (fun e=>s (by rw [e]))],e1⟩
  have s:er.2=w:=eQ s
  have ok:qM a w (some er)=true:=by
   rw [ww]
   exact decide_eq_true (Prod.ext r s)
  rw [ok]
  have p1:=p.ah e1 (by simp)
  refine aC (FQ p1 hs1 hs2 bx1) ?_
  rintro _ h2 ⟨t,rfl,ht,e2⟩
  refine ⟨(t,()),rfl,?_⟩
  dsimp only [flat,aA,ai,nA,cA]
  have b12:=b1.ah e2 (by simp)
  have bx2:=bx1.ah e2 (by simp)
  refine ⟨⟨b12.cells _ rfl,bx2.cells _ rfl,b12.cells _ rfl,bx2.cells _ rfl,trivial⟩,?_⟩
  refine aX (by rw [ByteArray.toList_eq]; simpa using ht) ?_
  refine an rfl ?_
  refine ad bx2 ((er.2:Int),()) rfl ?_
  dsimp only [flat,aA,ai,nA,cA]
  refine iS (Ee bx2) (.iface 44 (.int .i64 (er.2:Int)),()) rfl ?_
  dsimp only [flat,aA,ai,nA,cA]
  refine ⟨⟨bx2.cells _ rfl,b12.cells _ rfl,bx2.cells _ rfl,b12.cells _ rfl,bx2.cells _ rfl,trivial⟩,?_⟩
  refine aD (BX h2 er.2) ?_
  refine ⟨⟨bx2.cells _ rfl,b12.cells _ rfl,bx2.cells _ rfl,b12.cells _ rfl,bx2.cells _ rfl,trivial⟩,?_⟩
  refine aX rfl ?_
  refine ad b12 ((w:Int),()) rfl ?_
  dsimp only [flat,aA,ai,nA,cA]
  rw [s] at bx2
  refine aD (xE bx2) ?_
  refine ⟨⟨b12.cells _ rfl,bx2.cells _ (by rw [s]; rfl),b12.cells _ rfl,bx2.cells _ (by rw [s]; rfl),b12.cells _ rfl,bx2.cells _ rfl,trivial⟩,?_⟩
  exact ⟨rfl,e1.trans e2⟩
structure Fx (h:Hp):Prop where
 tb:lZ h
 ld:Laid h
 pw:mn h
 mx:∃ m:Int,aG h ⟨2,0,none⟩ 0 [.int .i64 m]
theorem Fx.ah {h h':Hp} (f:Fx h) (e:Ext h h'):Fx h':=by
 obtain ⟨m,b⟩:=f.mx
 exact ⟨f.tb.ah e (by simp),f.ld.ext e,f.pw.ah e (by simp),m,bk e (by simp) _ _ b⟩
theorem Fx.LA {h:Hp} (f:Fx h) (s:ByteArray):HC Tryz.prog 10 #[.string s] h (J7 s h):=by
 obtain ⟨m,b⟩:=f.mx
 refine Jt s h f.ld f.tb m (fun W hW=>?_)
 subst hW
 rw [dz]
 exact b.1
def xZ (s:ByteArray) (n:Nat):ByteArray:=if n<s.size then s.extract 0 n else s
theorem wZ (s:ByteArray) (n:Nat):(xZ s n).size≤n∧(xZ s n).size≤s.size:=by
 unfold xZ
 split
 ·rw [ByteArray.size_extract]; omega
 ·omega
theorem Fh (s:ByteArray) (n:Nat) (h:Hp):HC Tryz.prog 9 #[.string s,.int .i64 (n:Int)] h fun v h'=>v=.string (xZ s n)∧Ext h h':=by
 refine aI (args:=[.string s,.int .i64 (n:Int)]) mixed Tryz.func9 (by kernel_rfl) (lU s n) ?_
 unfold jg
 unfold xZ
 refine af (fun q=>?_) (fun q=>?_)
 ·have q:=of_decide_eq_true q
  rw [if_pos (by omega)]
  refine aB ⟨by omega,by omega,by omega⟩ ?_
  exact ⟨by rw [show Int.toNat (n:Int)=n by omega],Ch.refl _ _⟩
 ·have q:=of_decide_eq_false q
  rw [if_neg (by omega)]
  exact ⟨rfl,Ch.refl _ _⟩
theorem nk.aS {h h':Hp} {v:Value} {e:Option (Nat × Nat)} (E:nk h v e) (k:Ext h h'):nk h' v e:=by
 cases e with
 | none=>exact E
 | some e =>
  obtain ⟨a,h1,h2⟩:=E
  exact ⟨a,h1,h2.ah k (by simp)⟩
theorem Ij (s:ByteArray) (l w:Nat) (h:Hp) (f:Fx h):HC Tryz.prog 17 #[.string s,.int .i64 (l:Int),.int .i64 (w:Int)] h fun v h'=>v=.bool (qM l w (kX (cQ s)))∧Ext h h':=by
 refine aI (args:=[.string s,.int .i64 (l:Int),.int .i64 (w:Int)]) mixed Tryz.func17 (by kernel_rfl) (kM s l w) ?_
 unfold ic
 refine aC (f.LA s) ?_
 rintro _ h1 ⟨e1,a,b,c,d,ev,rfl,U,E⟩
 refine ⟨((a.p,a.l,a.c),(b.p,b.l,b.c),(c.p,c.l,c.c),(d.p,d.l,d.c),ev,()),rfl,?_⟩
 dsimp only [flat,aA,ai,nA,cA]
 refine aT ?_
 intro h2 b2 e2 z2
 refine ak b2 rfl (by simp) ?_
 intro h3 b3 k3 z3
 have e13:Ext h1 h3:=Ch.trans e2 k3 (fun i hi hl=>by simp at hi; omega)
 have e03:=e1.trans e13
 refine aC (BA (f.ah e03).pw (E.aS e13) (fun q hq=>DY hq) l w) ?_
 rintro _ h4 ⟨rfl,e4⟩
 refine ⟨(qM l w (kX (cQ s)),()),rfl,?_⟩
 exact ⟨rfl,e03.trans e4⟩
/-! Spans. -/
def JH (x:bw):Bool:=decide (x.kind=2) && B4 x.inst.op
def ma (l:List bw):Nat:=(l.filter JH).length
theorem BN (l:List bw) (i:Nat) (hi:i<l.length):ma (l.take (i+1))=ma (l.take i)+if JH l[i]=true then 1 else 0:=by
 unfold ma
 rw [List.take_succ_eq_append_getElem hi,List.filter_append,List.length_append]
 congr 1
 by_cases hk:JH l[i]=true <;> simp [hk]
theorem FU (l:List bw):ma l≤l.length:=List.length_filter_le _ _
theorem Dj {h:Hp} (t:yJ h) {a b c d:bI} {u:jv} (v:iO h a b c d u):HC Tryz.prog 21 #[ti a b c d] h fun w h'=>w=.int .i64 ((if AM u=0 then ma u.text else 0:Nat):Int)∧Ext h h':=by
 refine aI (args:=[ti a b c d]) mixed Tryz.func21 (by kernel_rfl) (th a.p a.l a.c b.p b.l b.c c.p c.l c.c d.p d.l d.c) ?_
 unfold qL
 refine aT ?_
 intro h1 b1 e1 z1
 have b1:aN h1 h.size 27 [a.v,b.v,c.v,d.v]:=b1
 refine ad b1 ((a.p,a.l,a.c),(b.p,b.l,b.c),(c.p,c.l,c.c),(d.p,d.l,d.c),()) rfl ?_
 dsimp only [flat,aA,ai,nA,cA]
 refine aC (pW (t.ah e1 (by simp)) (v.ah e1)) ?_
 rintro _ h2 ⟨rfl,e2⟩
 refine ⟨((AM u:Int),()),rfl,?_⟩
 dsimp only [flat,aA,ai,nA,cA]
 have e02:=e1.trans e2
 refine af (fun r=>?_) (fun r=>?_)
 ·have r:¬ AM u=0:=by simpa using r
  rw [if_neg r]
  exact ⟨rfl,e02⟩
 have r:AM u=0:=by simpa using r
 rw [if_pos r]
 have b2:=b1.ah e2 (by simp)
 refine ad b2 ((a.p,a.l,a.c),()) rfl ?_
 dsimp only [flat,aA,ai,nA,cA]
 have n:=v.text.len
 have m1:=v.text.many
 refine bC (cs:=[(false,[.int .i64]),(false,[.int .i64])]) (fun y m h'=>∃ i:Nat,y.2.1=(i:Int)∧y.1=(ma (u.text.take i):Int)∧m=u.text.length-i∧i≤u.text.length∧Ext h h') ((0:Int),(0:Int),()) u.text.length rfl
  ⟨0,rfl,rfl,rfl,by omega,e02⟩ ?_
 rintro ⟨n1,n2,⟨⟩⟩ m g ⟨i,hi,hn,rfl,hle,eg⟩
 simp only at hi hn
 subst hi hn
 dsimp only [flat,aA,ai,nA,cA]
 refine af (fun q=>?_) (fun q=>?_)
 ·have q:=of_decide_eq_true q
  have hil:i<u.text.length:=by omega
  obtain ⟨aa,pp,ll,cc,pT,hc,va⟩:=(v.text.ah eg).cells i hil
  have ht:=BN u.text i hil
  have hsl:ma (u.text.take i)≤i:=by have:=FU (u.text.take i); rw [List.length_take] at this; omega
  generalize u.text[i]=x at hc va ht
  refine aB ⟨by omega,by omega⟩ (an pT ?_)
  rw [show Int.toNat (i:Int)=i by omega]
  refine aH (x.kind,x.name,x.inst.op,x.inst.a,x.inst.b,x.inst.n,x.inst.form,(pp,ll,cc),(x.e.num:Int),x.n,()) hc ?_
  dsimp only [flat,aA,ai,nA,cA]
  refine aT ?_
  intro g1 c1 f1 y1
  refine ak c1 rfl (by simp) ?_
  intro g2 c2 k2 y2
  have c2:aN g2 g.size 96 (encI pp ll cc x):=c2
  have f2:Ext g g2:=Ch.trans f1 k2 (fun i hi hl=>by simp at hi; omega)
  have eg2:=eg.trans f2
  refine ad c2 (x.kind,()) rfl ?_
  dsimp only [flat,aA,ai,nA,cA]
  refine af (fun r=>?_) (fun r=>?_)
  ·have r:x.kind=2:=by simpa using r
   rw [ao]
   refine ad c2 (x.inst.op,()) rfl ?_
   dsimp only [flat,aA,ai,nA,cA]
   refine aC (AL (t.ah eg2 (by simp)) x.inst.op va.op.1 va.op.2) ?_
   rintro _ g3 ⟨rfl,f3⟩
   refine ⟨(B4 x.inst.op,()),rfl,?_⟩
   dsimp only [flat,aA,ai,nA,cA]
   refine af (fun s=>?_) (fun s=>?_)
   ·rw [if_pos (by unfold JH; rw [decide_eq_true r,s]; rfl)] at ht
    refine aL (cs:=[(false,[.int .i64]),(false,[.int .i64])]) (((ma (u.text.take i)+1:Nat):Int),((i+1:Nat):Int),()) (u.text.length-(i+1)) rfl (by omega) (by rw [wrap_i64 (by omega) (by omega),wrap_i64 (by omega) (by omega)]; rfl) ?_
    exact ⟨i+1,rfl,by rw [ht],rfl,by omega,eg2.trans f3⟩
   ·rw [if_neg (by unfold JH; rw [decide_eq_true r,s]; decide)] at ht
    refine aL (cs:=[(false,[.int .i64]),(false,[.int .i64])]) ((ma (u.text.take i):Int),((i+1:Nat):Int),()) (u.text.length-(i+1)) rfl (by omega) (by rw [wrap_i64 (by omega) (by omega)]; rfl) ?_
    exact ⟨i+1,rfl,by rw [ht]; rfl,rfl,by omega,eg2.trans f3⟩
  ·have r:¬ x.kind=2:=by simpa using r
   rw [if_neg (by unfold JH; rw [decide_eq_false r]; simp)] at ht
   refine aL (cs:=[(false,[.int .i64]),(false,[.int .i64])]) ((ma (u.text.take i):Int),((i+1:Nat):Int),()) (u.text.length-(i+1)) rfl (by omega) (by rw [wrap_i64 (by omega) (by omega)]; rfl) ?_
   exact ⟨i+1,rfl,by rw [ht]; rfl,rfl,by omega,eg2⟩
 ·have q:=of_decide_eq_false q
  have:i=u.text.length:=by omega
  subst this
  rw [List.take_length]
  exact ⟨rfl,eg⟩
theorem Mk:kX (cQ ⟨#[97,58,32,110,111,112,10,97,58,32,110,111,112]⟩)=some (2,22):=by kernel_rfl
theorem kc:kX (cQ ⟨#[103,108,111,98,97,108,32,98,10,110,111,112,101]⟩)=some (2,20):=by kernel_rfl
def s1:ByteArray:=⟨#[97,58,32,106,109,112,32,97]⟩
def s2:ByteArray:=⟨#[115,101,99,116,105,111,110,32,100,97,116,97,10,120,58,32,119,111,114,100,32,121,44,32,51,10,103,108,111,98,97,108,32,120,10,103,108,111,98,97,108,32,120]⟩
def u1:jv:=(rj (cQ s1)).1
def u2:jv:=(rj (cQ s2)).1
theorem k1:kX (cQ s1)=none:=by kernel_rfl
theorem L5:AM u1=0:=by kernel_rfl
theorem L7:u1.text.length=2:=by kernel_rfl
theorem Mb:ma u1.text=1:=by kernel_rfl
theorem Mg:(u1.text.map (·.name)).take 1=[⟨#[97]⟩]:=by kernel_rfl
theorem Ma:(u1.text.map (·.inst.op)).drop 1=[40]:=by kernel_rfl
theorem k2:kX (cQ s2)=none:=by kernel_rfl
theorem k3:cQ ⟨#[]⟩=.ok rO:=by kernel_rfl
theorem k4:AM ⟨[],[],[],[⟨#[97]⟩]⟩=31:=by kernel_rfl
theorem Bv (a:Addr):a.add 0=a:=by unfold Addr.add; simp
theorem LO:∃ x y,u1.text=[x,y]∧x.name=⟨#[97]⟩∧y.inst.op=40:=by
 obtain ⟨x,y,h⟩:∃ x y,u1.text=[x,y]:=by
  have hl:=L7
  match hu:u1.text,hl with
  | [x,y],_=>exact ⟨x,y,rfl⟩
 have h1:=Mg
 have h2:=Ma
 rw [h] at h1 h2
 simp at h1 h2
 exact ⟨x,y,h,h1,h2⟩
theorem tW (h:Hp) (f:Fx h):HC Tryz.prog 14 #[] h fun v h'=>v=.bool true∧Ext h h':=by
 refine aI (args:=[]) mixed Tryz.func14 (by kernel_rfl) jY ?_
 unfold gK
 refine aC (f.LA s1) ?_
 rintro _ h1 ⟨e1,a,b,c,d,ev,rfl,U,E⟩
 rw [k1] at E
 have E:ev=.nilIface:=E
 subst E
 refine ⟨((a.p,a.l,a.c),(b.p,b.l,b.c),(c.p,c.l,c.c),(d.p,d.l,d.c),.nilIface,()),rfl,?_⟩
 dsimp only [flat,aA,ai,nA,cA]
 refine aT ?_
 intro h2 b2 e2 z2
 refine ak b2 rfl (by simp) ?_
 intro h3 b3 k3 z3
 have b3:aN h3 h1.size 27 [a.v,b.v,c.v,d.v]:=b3
 have e13:Ext h1 h3:=Ch.trans e2 k3 (fun i hi hl=>by simp at hi; omega)
 have e03:=e1.trans e13
 have v:iO h3 a b c d u1:=(U.at (AV (by decide))).ah e13
 obtain ⟨x,y,hxy,hx,hy⟩:=LO
 have hl:=v.text.len
 have cx:=v.text.cells 0 (by rw [hxy]; simp)
 have cy:=v.text.cells 1 (by rw [hxy]; simp)
 obtain ⟨aa,q,m,cc,ha,hcx,-⟩:=cx
 obtain ⟨ab,q',m',cc',hb,hcy,-⟩:=cy
 rw [ha] at hb
 cases hb
 simp only [hxy,List.getElem_cons_zero,List.getElem_cons_succ,Nat.zero_mul,Nat.one_mul,Bv] at hcx hcy
 rw [hxy] at hl
 have hl:a.l=2:=hl
 refine bD (fun K' hK=>by rw [Ke]; exact hK) ?_
 refine aX rfl ?_
 refine ad b3 ((a.p,a.l,a.c),()) rfl ?_
 dsimp only [flat,aA,ai,nA,cA]
 refine aX (by rw [hl]; rfl) ?_
 refine ad b3 ((a.p,a.l,a.c),()) rfl ?_
 dsimp only [flat,aA,ai,nA,cA]
 refine aB ⟨by omega,by omega⟩ (an ha ?_)
 refine aH (x.name,()) ⟨hcx.2.1,trivial⟩ ?_
 dsimp only [flat,aA,ai,nA,cA]
 refine aX (by rw [hx,ByteArray.toList_eq]; rfl) ?_
 refine ad b3 ((a.p,a.l,a.c),()) rfl ?_
 dsimp only [flat,aA,ai,nA,cA]
 refine aB ⟨by omega,by omega⟩ (an ha ?_)
 refine aH (y.inst.op,()) ⟨by rw [add_add]; exact hcy.2.2.1,trivial⟩ ?_
 dsimp only [flat,aA,ai,nA,cA]
 refine aX (by rw [hy]; rfl) ?_
 refine ad b3 ((a.p,a.l,a.c),(b.p,b.l,b.c),(c.p,c.l,c.c),(d.p,d.l,d.c),()) rfl ?_
 dsimp only [flat,aA,ai,nA,cA]
 refine aC (Dj (f.ah e03).tb.K6 v) ?_
 rintro _ h4 ⟨rfl,e4⟩
 rw [L5,Mb,if_pos rfl]
 refine ⟨(((1:Nat):Int),()),rfl,?_⟩
 dsimp only [flat,aA,ai,nA,cA]
 refine aX rfl ?_
 have b4:=b3.ah e4 (by simp)
 refine ad b4 ((a.p,a.l,a.c),(b.p,b.l,b.c),(c.p,c.l,c.c),(d.p,d.l,d.c),()) rfl ?_
 dsimp only [flat,aA,ai,nA,cA]
 refine aC (pW (f.ah (e03.trans e4)).tb.K6 (v.ah e4)) ?_
 rintro _ h5 ⟨rfl,e5⟩
 rw [L5]
 refine ⟨(((0:Nat):Int),()),rfl,?_⟩
 dsimp only [flat,aA,ai,nA,cA]
 refine aX rfl ?_
 have e05:=(e03.trans e4).trans e5
 refine aC (Ij _ 2 22 _ (f.ah e05)) ?_
 rintro _ h6 ⟨rfl,e6⟩
 rw [Mk]
 refine ⟨(true,()),rfl,?_⟩
 exact ⟨rfl,e05.trans e6⟩
end Go.Sx.Ob
set_option linter.unusedVariables false
set_option linter.unusedSimpArgs false
set_option maxRecDepth 100000
namespace Go.Sx
open Go.Proofs Go.Sort Go.Maps Go.Sx.Ob
namespace Ob
end Ob
end Go.Sx
set_option linter.unusedVariables false
set_option linter.unusedSimpArgs false
set_option maxRecDepth 100000
namespace Go.Sx.Ob
open Go.Proofs
theorem uC {h:Hp} {a:Addr}:∀ (vs:List Value) (o i:Nat),aG h (a.add o) i vs→aG h a (o+i) vs
 | [],o,i,_=>trivial
 | v::vs,o,i,⟨h1,h2⟩=>⟨by rw [← add_add]; exact h1,by have:=uC vs o (i+1) h2; rwa [← Nat.add_assoc] at this⟩
theorem xR {h:Hp} {a:Addr}:∀ (A B:List Value) (i:Nat),aG h a i A→aG h a (i+A.length) B→aG h a i (A++B)
 | [],B,i,_,hb=>by simpa using hb
 | v::A,B,i,⟨h1,h2⟩,hb=>⟨h1,xR A B (i+1) h2 (by rw [show i+1+A.length=i+(v::A).length by simp; omega]; exact hb)⟩
theorem vu {h:Hp} {a:Addr} {sz:Nat} {P:Nat→List Value→Prop}:∀ n:Nat,(∀ i,i<n→∃ ys,ys.length=sz∧aG h (a.add (i*sz)) 0 ys∧P i ys) →
  ∃ xs:List (List Value),xs.length=n∧(∀ y,y∈xs→y.length=sz)∧aG h a 0 xs.flatten∧xs.flatten.length=n*sz∧∀ i,(hi:i<xs.length)→P i xs[i]
 | 0,_=>⟨[],rfl,by simp,trivial,by simp,fun i hi=>absurd hi (by simp)⟩
 | n+1,hc=>by
  obtain ⟨xs,h1,h2,h3,h4,h5⟩:=vu n fun i hi=>hc i (by omega)
  obtain ⟨ys,g1,g2,g3⟩:=hc n (by omega)
  refine ⟨xs++[ys],by simp [h1],fun y hy=>?_,?_,?_,fun i hi=>?_⟩
  ·rcases List.mem_append.1 hy with hy | hy
   ·exact h2 y hy
   ·rw [List.mem_singleton.1 hy]; exact g1
  ·rw [List.flatten_append]
   refine xR _ _ _ h3 ?_
   have:=uC _ _ _ g2
   simpa [h4] using this
  ·rw [List.flatten_append,List.length_append,h4]
   simp [g1,Nat.add_mul]
  ·rw [List.length_append] at hi
   by_cases hl:i<xs.length
   ·rw [List.getElem_append_left hl]
    exact h5 i hl
   ·have:i=n:=by simp at hi; omega
    subst this
    rw [List.getElem_append_right (by omega)]
    simpa [h1] using g3
def En (h:Hp) (p:Option Addr) (us:List bw):Prop:=∀ i,(hi:i<us.length)→∃ a q m c,p=some a∧aG h (a.add (i*10)) 0 (encI q m c us[i])
theorem En.ah {h h':Hp} {p:Option Addr} {us:List bw} (v:En h p us) (k:Ext h h'):En h' p us:=fun i hi=>by
 obtain ⟨a,q,m,c,ha,hc⟩:=v i hi
 exact ⟨a,q,m,c,ha,bk k (by simp) _ _ hc⟩
theorem En.join {h:Hp} {p:Option Addr} {us:List bw} (v:En h p us) (hn:0<us.length):∃ (a:Addr) (xs:List (List Value)),p=some a∧xs.length=us.length∧(∀ y,y∈xs→y.length=10)∧aG h a 0 xs.flatten∧∀ i,(hi:i<us.length)→(hi':i<xs.length)→∃ q m c,xs[i]=encI q m c us[i]:=by
 obtain ⟨a,q,m,c,ha,hc⟩:=v 0 hn
 obtain ⟨xs,h1,h2,h3,h4,h5⟩:=vu (h:=h) (a:=a) (sz:=10) (P:=fun i ys=>∀ hi:i<us.length,∃ q m c,ys=encI q m c us[i]) us.length (fun i hi=>by
  obtain ⟨a',q,m,c,ha',hc⟩:=v i hi
  rw [ha] at ha'
  cases ha'
  exact ⟨_,rfl,hc,fun _=>⟨q,m,c,rfl⟩⟩)
 exact ⟨a,xs,ha,h1,h2,h3,fun i hi hi'=>h5 i hi' hi⟩
end Go.Sx.Ob
set_option linter.unusedVariables false
set_option maxRecDepth 100000
namespace Go.Sx
open Go.Proofs
end Go.Sx
set_option linter.unusedVariables false
set_option linter.unusedSimpArgs false
set_option maxRecDepth 100000
namespace Go.Sx.Ob
open Go.Proofs
abbrev JD:=Ls 96 10 (fun s x=>encI s.p s.l s.c x) (fun x:bw=>x.e.aw) (fun _=>True)
abbrev KS:=Ls 99 3 (fun s (x:nh)=>Fl s.p s.l s.c x) (fun x=>x.2.aw) (fun _=>True)
theorem oJ {h:Hp} {a:Addr}:∀ (xs:List ByteArray) (k:Nat),(∀ i,(hi:i<xs.length)→aG h (a.add ((k+i)*1)) 0 [.string xs[i]])→aG h a k (xs.map F').flatten
 | [],_,_=>trivial
 | x::xs,k,hc=>by
  refine ⟨?_,?_⟩
  ·have:=(hc 0 (by simp)).1
   rw [add_add] at this
   simpa using this
  ·refine oJ xs (k+1) fun i hi=>?_
   have:=hc (i+1) (by simpa using hi)
   rw [show k+1+i=k+(i+1) by omega]
   simpa using this
theorem G8.flat {h:Hp} {a:Addr} {l:Nat} {xs:List ByteArray} (v:G8 h (some a) l xs):aG h a 0 (xs.map F').flatten :=
 oJ xs 0 fun i hi=>by
  obtain ⟨b,hb,hc,_⟩:=v.cells i hi
  cases hb
  rw [Nat.zero_add]
  exact hc
structure CU (h0:Hp) (a b c d:bI) (h:Hp):Prop where
 b1:aN h h0.size 27 [a.v,b.v,c.v,d.v]
 b2:aN h (h0.size+1) 27 zU
 ext:Ext h0 h
section
variable {h0 h h':Hp} {a b c d:bI}
theorem CU.ah (s:CU h0 a b c d h) (e:Ext h h'):CU h0 a b c d h':=⟨s.b1.ah e (by simp),s.b2.ah e (by simp),s.ext.trans e⟩
theorem CU.c0 (s:CU h0 a b c d h):aG h ⟨h0.size,0,none⟩ 0 [a.v]:=s.b1.cells _ rfl
theorem CU.c1 (s:CU h0 a b c d h):aG h (Addr.add ⟨h0.size,0,none⟩ 1) 0 [b.v]:=by rw [ao]; exact s.b1.cells _ rfl
theorem CU.c3 (s:CU h0 a b c d h):aG h (Addr.add ⟨h0.size,0,none⟩ 3) 0 [d.v]:=by rw [ao]; exact s.b1.cells _ rfl
theorem CU.sz (s:CU h0 a b c d h):h0.size+2≤h.size:=by have:=s.b2.lt; omega
end
def Iz (u:jv) (h:Hp) (w:Value) (h':Hp):Prop :=
 (∃ (a b c d:bI) (wT wD:List (bI × bw)) (wE:List (bI × nh)),w=ti a b c d∧JD h' h.size a.p a.l a.c wT∧JD h' h.size b.p b.l b.c wD∧KS h' h.size c.p c.l c.c wE∧SN h' h.size d.p d.l d.c u.aF∧wT.map (·.2)=u.text∧wD.map (·.2)=u.data∧wE.map (·.2)=u.aZ)∧Ext h h'
section
variable {L:Lp} {K:Value→Hp→Prop} {h0 h:Hp}
end
theorem SL.JS {h:Hp} {b:Nat} {e:TypeId} {sz:Nat} {p:Option Addr} {l c:Nat} {xs:List (List Value)} (s:SL h b e sz p l c xs):l≤c:=by
 cases p with
 | none =>
  have h2:=s.2.2.2
  have h3:=s.1
  rw [h2] at h3
  simp at h3
  omega
 | some a =>
  obtain ⟨g,pre,rest,rfl,hbg,hlc,_⟩:=s.2.2
  exact hlc.1
theorem GP.take {h:Hp} {p:Option Addr} {l:Nat} {bs:Bt} (v:GP h p l bs) {n:Nat} (hn:n≤l):GP h p n (bs.take n):=by
 have hl:=v.len
 refine ⟨by rw [List.length_take]; omega,fun i hi=>?_⟩
 rw [List.length_take] at hi
 obtain ⟨a,ha,hc⟩:=v.cells i (by omega)
 rw [List.getElem_take]
 exact ⟨a,ha,hc⟩
theorem ov {h:Hp} {a:Addr}:∀ (bs:Bt) (k:Nat),(∀ i,(hi:i<bs.length)→aG h (a.add ((k+i)*1)) 0 [.int .u8 (bs[i].toNat:Int)])→aG h a k (wm bs).flatten
 | [],_,_=>trivial
 | t::us,k,hc=>by
  have h0:=hc 0 (by simp)
  obtain ⟨h1,_⟩:=h0
  rw [add_add] at h1
  refine ⟨by simpa using h1,ov us (k+1) fun i hi=>?_⟩
  have:=hc (i+1) (by simpa using hi)
  rw [show k+(i+1)=k+1+i by omega] at this
  exact this
theorem GP.flat {h:Hp} {a:Addr} {l:Nat} {bs:Bt} (v:GP h (some a) l bs):aG h a 0 (wm bs).flatten:=by
 refine ov bs 0 fun i hi=>?_
 obtain ⟨a',e,hc⟩:=v.cells i hi
 cases e
 rw [Nat.zero_add]
 exact hc
theorem iO.zero (h:Hp):iO h fL fL fL fL rO:=⟨⟨rfl,by decide,fun i hi=>by cases hi⟩,⟨rfl,by decide,fun i hi=>by cases hi⟩,⟨rfl,by decide,fun i hi=>by cases hi⟩,⟨rfl,by decide,fun i hi=>by cases hi⟩⟩
end Go.Sx.Ob
set_option linter.unusedVariables false
set_option maxRecDepth 100000
namespace Go.Sx.BB
open Go.Sx Go.Sx.Ob
open Go.Proofs
structure q9 where
 p:Option Addr
 l:Nat
 c:Nat
 q:Option Addr
 d:Nat
 ts:Bt
def q9.one (e:q9):List Value:=[.slice e.p e.l e.c]
def q9.two (e:q9):List Value:=[.slice e.q e.l e.d]
def q9.zC (e:q9):List Nat:=ay e.p++ay e.q
theorem rE (p:Option Addr) (k:Nat):ay (p.map fun a=>a.add k)=ay p:=by
 cases p with
 | none=>rfl
 | some a=>simp [ay,gn]
def dG (b:Nat) (h h':Hp):Prop:=h.size≤h'.size∧∀ i,i<b→i<h.size→h'[i]?=h[i]?
theorem dG.of {ws:List Nat} {b:Nat} {h h':Hp} (k:Ch ws h h') (hw:∀ i,i∈ws→i<h.size→b≤i):dG b h h' :=
 ⟨k.size,fun i hi hl=>k.same i hl fun hm=>by have:=hw i hm hl; omega⟩
theorem dG.trans {b:Nat} {h h1 h2:Hp} (a:dG b h h1) (c:dG b h1 h2):dG b h h2 :=
 ⟨Nat.le_trans a.1 c.1,fun i hi hl=>(c.2 i hi (Nat.lt_of_lt_of_le hl a.1)).trans (a.2 i hi hl)⟩
theorem dG.ext {h h1 h2:Hp} (a:Ext h h1) (c:dG h.size h1 h2):Ext h h2 :=
 ⟨Nat.le_trans a.size c.1,fun i hi _=>(c.2 i hi (Nat.lt_of_lt_of_le hi a.size)).trans (a.same i hi (by simp))⟩
def Lf (i j:Int):Int:=IntKind.wrap .u8 (Int.fdiv (IntKind.wrap .i64 (i+(1:Int))) ((2:Int)^(min (IntKind.u64.wrap (IntKind.i64.wrap (8*j.tmod 3))).toNat IntKind.i64.bits)))
def Kh (k j:Nat):List Value:=[.int .u8 (Lf k j)]
def Room (h:Hp) (b:Nat) (p:Option Addr) (c k m:Nat):Prop :=
 match p with
 | none=>c=0
 | some a=>∃ g o cells,a=⟨g,o,none⟩∧b≤g∧c<9223372036854775808∧aN h g 5 cells∧o+c*1≤cells.length∧∀ j,j<m→(cells.drop (o+j*1)).take 1=Kh k j
theorem Room.ah {ws:List Nat} {h h':Hp} {b:Nat} {p:Option Addr} {c k m:Nat} (r:Room h b p c k m) (kk:Ch ws h h') (hw:∀ i,i∈ay p→i∉ws):Room h' b p c k m:=by
 cases p with
 | none=>exact r
 | some a =>
  obtain ⟨g,o,cells,rfl,hbg,hc,hbox,hr,hm⟩:=r
  exact ⟨g,o,cells,rfl,hbg,hc,hbox.ah kk (hw g (by simp [ay])),hr,hm⟩
end Go.Sx.BB
set_option linter.unusedVariables false
set_option linter.unusedSimpArgs false
set_option maxRecDepth 100000
namespace Go.Sx.Ob
open Go.Proofs
def GS (lo hi:Nat) (h h':Hp):Prop:=h.size≤h'.size∧∀ i,i<h.size→(i<lo∨hi≤i)→h'[i]?=h[i]?
theorem GS.refl (lo hi:Nat) (h:Hp):GS lo hi h h:=⟨Nat.le_refl _,fun _ _ _=>rfl⟩
theorem GS.step {lo hi:Nat} {h h1 h2:Hp} {ws:List Nat} (b:GS lo hi h h1) (k:Ch ws h1 h2) (hw:∀ i,i∈ws→i<h.size→lo≤i∧i<hi):GS lo hi h h2 :=
 ⟨Nat.le_trans b.1 k.size,fun i hi hb=>(k.same i (Nat.lt_of_lt_of_le hi b.1) (fun hm=>by have:=hw i hm hi; omega)).trans (b.2 i hi hb)⟩
theorem GS.box {lo hi:Nat} {h h':Hp} (b:GS lo hi h h') {g:Nat} {e:TypeId} {xs:List Value} (bx:aN h g e xs) (hg:g<lo∨hi≤g):aN h' g e xs:=(b.2 g bx.lt hg).trans bx
def JE (hq h':Hp):Prop:=∀ g cells,aN hq g 109 cells→∃ cells',aN h' g 109 cells'∧cells'.length=cells.length
theorem JE.ah {hq h1 h2:Hp} {ws:List Nat} (s:JE hq h1) (k:Ch ws h1 h2) (hw:∀ i,i∈ws→i<h1.size→∃ e ys,aN h1 i e ys∧e≠109):JE hq h2:=by
 intro g cells b
 obtain ⟨c',b',hl⟩:=s g cells b
 refine ⟨c',b'.ah k (fun hm=>?_),hl⟩
 obtain ⟨e,ys,b2,he⟩:=hw g hm b'.lt
 unfold aN at b' b2
 rw [b'] at b2
 simp only [Option.some.injEq,Obj.cells.injEq] at b2
 exact he b2.2.1.symm
theorem JE.store {hq h1 h2:Hp} {g:Nat} {cells cells':List Value} (s:JE hq h1) (b1:aN h1 g 109 cells) (b2:aN h2 g 109 cells') (hl:cells'.length=cells.length) (k:Ch [g] h1 h2):JE hq h2:=by
 intro g' cs b
 obtain ⟨c',b',hc⟩:=s g' cs b
 by_cases hg:g'=g
 ·subst hg
  refine ⟨cells',b2,?_⟩
  unfold aN at b1 b'
  rw [b1] at b'
  simp only [Option.some.injEq,Obj.cells.injEq] at b'
  have:=congrArg Array.size b'.1
  simp at this
  omega
 ·exact ⟨c',b'.ah k (by simpa using hg),hc⟩
end Go.Sx.Ob
set_option linter.unusedVariables false
set_option maxRecDepth 100000
namespace Go.Sx.BS
open Go.Sx Go.Sx.Ob
open Go.Proofs
structure q9 where
 p:Option Addr
 l:Nat
 c:Nat
 q:Option Addr
 d:Nat
 ts:List ByteArray
def q9.one (e:q9):List Value:=[.slice e.p e.l e.c]
def q9.two (e:q9):List Value:=[.slice e.q e.l e.d]
def q9.zC (e:q9):List Nat:=ay e.p++ay e.q
structure Bk (h:Hp) (gb b:Nat) (pl:Option Addr) (cl:Nat) (pw:Option Addr) (cw:Nat) (es:List q9):Prop where
 box:∃ held:Int,aN h gb 55 [.slice pl es.length cl,.slice pw es.length cw,.int .i64 held,.bool false]
 ge:b≤gb
 one:SL h b 25 1 pl es.length cl (es.map q9.one)
 two:SL h b 25 1 pw es.length cw (es.map q9.two)
 Kt:∀ e,e∈es→SL h b 9 1 e.p e.l e.c (e.ts.map F')∧SL h b 9 1 e.q e.l e.d (e.ts.map F')∧e.ts.length≤2^40
 Me:gb∉ay pl
 Ml:gb∉ay pw
 L9:∀ i,i∈ay pl→i∉ay pw
 eg:∀ e,e∈es→∀ i,i∈e.zC→i≠gb∧i∉ay pl∧i∉ay pw
 pq:∀ e,e∈es→∀ i,i∈ay e.p→i∉ay e.q
 ee:es.Pairwise fun e f=>∀ i,i∈e.zC→i∉f.zC
theorem Bk.lt {h:Hp} {gb b:Nat} {pl:Option Addr} {cl:Nat} {pw:Option Addr} {cw:Nat} {es:List q9} (B:Bk h gb b pl cl pw cw es):gb<h.size∧(∀ i,i∈ay pl→i<h.size)∧(∀ i,i∈ay pw→i<h.size)∧∀ e,e∈es→∀ i,i∈e.zC→i<h.size:=by
 obtain ⟨held,hb⟩:=B.box
 refine ⟨hb.lt,fun i hi=>(B.one.bN hi).2,fun i hi=>(B.two.bN hi).2,fun e he i hi=>?_⟩
 rcases List.mem_append.1 hi with hi | hi
 ·exact ((B.Kt e he).1.bN hi).2
 ·exact ((B.Kt e he).2.1.bN hi).2
theorem Bk.ah {ws:List Nat} {h h':Hp} {gb b:Nat} {pl:Option Addr} {cl:Nat} {pw:Option Addr} {cw:Nat} {es:List q9} (B:Bk h gb b pl cl pw cw es) (k:Ch ws h h')
  (h1:gb∉ws) (h2:∀ i,i∈ay pl→i∉ws) (h3:∀ i,i∈ay pw→i∉ws) (h4:∀ e,e∈es→∀ i,i∈e.zC→i∉ws):Bk h' gb b pl cl pw cw es:=by
 obtain ⟨held,hb⟩:=B.box
 exact ⟨⟨held,hb.ah k h1⟩,B.ge,B.one.aS k h2,B.two.aS k h3,fun e he=>⟨(B.Kt e he).1.aS k fun i hi=>h4 e he i (List.mem_append_left _ hi),(B.Kt e he).2.1.aS k fun i hi=>h4 e he i (List.mem_append_right _ hi),(B.Kt e he).2.2⟩,
  B.Me,B.Ml,B.L9,B.eg,B.pq,B.ee⟩
theorem rE (p:Option Addr) (k:Nat):ay (p.map fun a=>a.add k)=ay p:=by
 cases p with
 | none=>rfl
 | some a=>simp [ay,gn]
def dG (b:Nat) (h h':Hp):Prop:=h.size≤h'.size∧∀ i,i<b→i<h.size→h'[i]?=h[i]?
theorem dG.of {ws:List Nat} {b:Nat} {h h':Hp} (k:Ch ws h h') (hw:∀ i,i∈ws→i<h.size→b≤i):dG b h h' :=
 ⟨k.size,fun i hi hl=>k.same i hl fun hm=>by have:=hw i hm hl; omega⟩
theorem dG.trans {b:Nat} {h h1 h2:Hp} (a:dG b h h1) (c:dG b h1 h2):dG b h h2 :=
 ⟨Nat.le_trans a.1 c.1,fun i hi hl=>(c.2 i hi (Nat.lt_of_lt_of_le hl a.1)).trans (a.2 i hi hl)⟩
theorem dG.ext {h h1 h2:Hp} (a:Ext h h1) (c:dG h.size h1 h2):Ext h h2 :=
 ⟨Nat.le_trans a.size c.1,fun i hi _=>(c.2 i hi (Nat.lt_of_lt_of_le hi a.size)).trans (a.same i hi (by simp))⟩
def b8 (x:Int):UInt8:=UInt8.ofNat (IntKind.wrap .u8 x).toNat
def Lf (i:Int):ByteArray:=(⟨#[109,97,114,107,32]⟩:ByteArray)++(⟨[b8 i,b8 (Int.fdiv i 256),b8 (Int.fdiv i 65536)].toArray⟩:ByteArray)
def Kh (k j:Nat):List Value:=[.string (Lf k)]
def Room (h:Hp) (b:Nat) (p:Option Addr) (c k m:Nat):Prop :=
 match p with
 | none=>c=0
 | some a=>∃ g o cells,a=⟨g,o,none⟩∧b≤g∧c<9223372036854775808∧aN h g 9 cells∧o+c*1≤cells.length∧∀ j,j<m→(cells.drop (o+j*1)).take 1=Kh k j
theorem Room.ah {ws:List Nat} {h h':Hp} {b:Nat} {p:Option Addr} {c k m:Nat} (r:Room h b p c k m) (kk:Ch ws h h') (hw:∀ i,i∈ay p→i∉ws):Room h' b p c k m:=by
 cases p with
 | none=>exact r
 | some a =>
  obtain ⟨g,o,cells,rfl,hbg,hc,hbox,hr,hm⟩:=r
  exact ⟨g,o,cells,rfl,hbg,hc,hbox.ah kk (hw g (by simp [ay])),hr,hm⟩
structure x6 (h:Hp) (gb b:Nat) (pl:Option Addr) (cl:Nat) (es:List q9) (i m:Nat):Prop where
 box:∃ (v w:Value),aN h gb 55 [.slice pl es.length cl,v,w,.bool false]
 one:SL h b 25 1 pl es.length cl (es.map q9.one)
 room:∀ k,(hk:k<es.length)→Room h b es[k].p es[k].c k (if k<i then es[k].c else if k=i then m else 0)
theorem x6.ah {ws:List Nat} {h h':Hp} {gb b:Nat} {pl:Option Addr} {cl:Nat} {es:List q9} {i m:Nat} (M:x6 h gb b pl cl es i m) (k:Ch ws h h') (h1:gb∉ws) (h2:∀ i,i∈ay pl→i∉ws) (h3:∀ e,e∈es→∀ i,i∈e.zC→i∉ws) :
  x6 h' gb b pl cl es i m:=by
 obtain ⟨v,w,hb⟩:=M.box
 exact ⟨⟨v,w,hb.ah k h1⟩,M.one.aS k h2,fun j hj=>(M.room j hj).ah k fun x hx=>h3 es[j] (List.getElem_mem hj) x (List.mem_append_left _ hx)⟩
end Go.Sx.BS
set_option linter.unusedVariables false
set_option linter.unusedSimpArgs false
set_option maxRecDepth 100000
namespace Go.Sx.Ob
open Go.Proofs Go.Sx.BB
theorem JD.at {h h0:Hp} {b:Nat} {p p0:Option Addr} {l c l0:Nat} {ws:List (bI × bw)} {us:List bw} (s:JD h b p l c ws) (hu:ws.map (·.2)=us) (v:A8 h0 p0 l0 us):A8 h p l us:=by
 subst hu
 refine ⟨by rw [s.len,List.length_map],v.many,fun i hi=>?_⟩
 obtain ⟨_,_,_,_,_,_,v0⟩:=v.cells i hi
 rw [List.length_map] at hi
 obtain ⟨a,ha,hc⟩:=SL.at_ s.sl (i:=i) (by rw [List.length_map]; exact hi)
 rw [List.getElem_map] at hc v0 ⊢
 exact ⟨a,_,_,_,ha,hc,⟨⟨Sx.SL.EV (s.own _ (List.getElem_mem hi)),v0.wb.many,v0.wb.names⟩,v0.name,v0.op⟩⟩
theorem KS.at {h h0:Hp} {b:Nat} {p p0:Option Addr} {l c l0:Nat} {ws:List (bI × nh)} {us:List nh} (s:KS h b p l c ws) (hu:ws.map (·.2)=us) (v:Jf h0 p0 l0 us):Jf h p l us:=by
 subst hu
 refine ⟨by rw [s.len,List.length_map],v.many,fun i hi=>?_⟩
 obtain ⟨_,_,_,_,_,_,v0,n0⟩:=v.cells i hi
 rw [List.length_map] at hi
 obtain ⟨a,ha,hc⟩:=SL.at_ s.sl (i:=i) (by rw [List.length_map]; exact hi)
 rw [List.getElem_map] at hc v0 n0 ⊢
 exact ⟨a,_,_,_,ha,hc,⟨Sx.SL.EV (s.own _ (List.getElem_mem hi)),v0.many,v0.names⟩,n0⟩
theorem SN.at {h h0:Hp} {b:Nat} {p p0:Option Addr} {l c l0:Nat} {us:List ByteArray} (s:SN h b p l c us) (v:G8 h0 p0 l0 us):G8 h p l us:=by
 refine ⟨SN.len s,v.many,fun i hi=>?_⟩
 obtain ⟨_,_,_,n0⟩:=v.cells i hi
 obtain ⟨a,ha,hc⟩:=SN.cell s hi
 exact ⟨a,ha,hc,n0⟩
theorem Iz.at {u:jv} {h h':Hp} {w:Value} {a b c d:bI} (r:Iz u h w h') (v:iO h a b c d u):∃ a' b' c' d':bI,w=ti a' b' c' d'∧iO h' a' b' c' d' u:=by
 obtain ⟨⟨a',b',c',d',wT,wD,wE,rfl,lT,lD,lE,lS,eT,eD,eE⟩,e⟩:=r
 exact ⟨a',b',c',d',rfl,⟨JD.at lT eT v.text,JD.at lD eD v.data,KS.at lE eE v.aZ,SN.at lS v.aF⟩⟩
theorem GS.ch {lo hi:Nat} {h h':Hp} (b:GS lo hi h h'):Ch (List.range' lo (hi-lo)) h h' :=
 ⟨b.1,fun i hi hn=>b.2 i hi (by rw [List.mem_range'_1] at hn; omega)⟩
open Go.Proofs
open Go.Proofs Go.Sx.BS
def Mi {α:Type} (e:Option α):Bool:=match e with | none=>true | some _=>false
theorem F3 {L:Lp} {K:Value→Hp→Prop} {h:Hp} (f:Fx h) {s:ByteArray} (z:sg (rj (cQ s)).1) {k:Option Addr→Nat→Nat→Option Addr→Nat→Nat→Option Addr→Nat→Nat→Option Addr→Nat→Nat→Value→Addr→T}
  (hk:∀ (a b c d:bI) (ev:Value) h' h'',Ext h h'→gS h' h.size a b c d (rj (cQ s)).1→KX a b→iO h' a b c d (rj (cQ s)).1→nk h' ev (kX (cQ s))→Ext h' h''→aN h'' h'.size 27 [a.v,b.v,c.v,d.v]→a.l≤a.c→b.l≤b.c →
   k a.p a.l a.c b.p b.l b.c c.p c.l c.c d.p d.l d.c ev ⟨h'.size,0,none⟩ L K h'') :
  T.call Tryz.prog 10 [.string s] true [(true, [.slice 96, .slice 96, .slice 99, .slice 9]), (false, [.interface #[("Error", 85)]])] (fun (p2 : Option Addr) (l3 : Nat) (l4 : Nat) (p5 : Option Addr) (l6 : Nat) (l7 : Nat) (p8 : Option Addr) (l9 : Nat) (l10 : Nat) (p11 : Option Addr) (l12 : Nat) (l13 : Nat) (v14 : Value) =>
   T.new [.slice none 0 0,.slice none 0 0,.slice none 0 0,.slice none 0 0] 27 fun (a15:Addr) =>
   T.ap a15 [.slice p2 l3 l4,.slice p5 l6 l7,.slice p8 l9 l10,.slice p11 l12 l13] (k p2 l3 l4 p5 l6 l7 p8 l9 l10 p11 l12 l13 v14 a15)) L K h:=by
 refine aC (f.LA s) ?_
 rintro _ h1 ⟨e1,a,b,c,d,ev,rfl,U,E⟩
 refine ⟨((a.p,a.l,a.c),(b.p,b.l,b.c),(c.p,c.l,c.c),(d.p,d.l,d.c),ev,()),rfl,?_⟩
 dsimp only [flat,aA,ai,nA,cA]
 refine aT ?_
 intro h2 b2 e2 z2
 refine ak b2 rfl (by simp) ?_
 intro h3 b3 k3 z3
 have b3:aN h3 h1.size 27 [a.v,b.v,c.v,d.v]:=b3
 have e13:Ext h1 h3:=Ch.trans e2 k3 (fun i hi hl=>by simp at hi; omega)
 refine hk a b c d ev h1 h3 e1 (U.own z).1 (U.own z).2 (U.at z) E e13 b3 ?_ ?_
 ·obtain ⟨ut,ud,ue,ow,C,S⟩:=U
  exact SL.JS C.t1
 ·obtain ⟨ut,ud,ue,ow,C,S⟩:=U
  exact SL.JS C.d1
theorem Bk.empty {h:Hp} {gb:Nat} (b:aN h gb 55 [.slice none 0 0,.slice none 0 0,.int .i64 (0:Int),.bool false]):Bk h gb gb none 0 none 0 [] :=
 ⟨⟨0,b⟩,Nat.le_refl _,SL.nil _ _ _ _,SL.nil _ _ _ _,by simp,by simp [ay],by simp [ay],by simp [ay],by simp,by simp,List.Pairwise.nil⟩
end Go.Sx.Ob
set_option linter.unusedVariables false
set_option maxRecDepth 100000
namespace Go.Proofs.YtfkjiiapldkoeaaGreatDoor
open Go.RowKit Go.Extern.Stop Go.Stop Go.Extern
theorem Ju (t:Value) (w:World) :
  Calls Tryz.prog 30 #[.nilIface,t] w fun e w'=>e=.returned (.bool false)∧w'=w:=by
 go_enter Tryz.func30,Tryz.ntmps30
 go_wp2
 go_ret
 exact ⟨rfl,rfl⟩
theorem yF (t:Addr) (w:World):(ReflectliteValue.unpack (.iface 61 (.pointer (some t)))).run Tryz.prog w
  = .ok (.agg #[.pointer (some ⟨8,61,none⟩),.pointer (some ⟨w.heap.size,0,none⟩),.int .u64 150]) (w.alloc (.cells #[.pointer (some t)] 61)):=by kernel_rfl
theorem DN (a : Addr) (w : World) : (ReflectliteValue.methodAny (ReflectliteValue.valueError "reflectlite.Value.Type" 0) (fun t _ _ _ => ReflectliteType.toType t) #[.agg #[.pointer (some ⟨8, 61, none⟩), .pointer (some a), .int .u64 150]]).run Tryz.prog w
  = .ok (.iface 163 (.agg #[.pointer (some ⟨8,61,none⟩)])) w:=by kernel_rfl
theorem wB (h : Value) (w : World) : (Go.method 442 163 (.agg #[h]) "Kind").run Tryz.prog w = .ok (218, h) w := by kernel_rfl
theorem DJ (w:World):((ReflectliteType.abiMethod fun t=>(fun a:Nat=>Value.int IntKind.u8 (a:Int)) <$> Rtype.kind t) #[.pointer (some ⟨8,61,none⟩)]).run Tryz.prog w=.ok (.int .u8 22) w:=by kernel_rfl
theorem DI (w:World):((ReflectliteType.abiMethod fun t=>(fun a:Nat=>Value.int IntKind.u8 (a:Int)) <$> Rtype.kind t) #[.pointer (some ⟨8,59,none⟩)]).run Tryz.prog w=.ok (.int .u8 22) w:=by kernel_rfl
theorem LV (z:Sem Value) (f:TypeId→Addr→Nat→Nat→Sem Value) (v:Value) :
  ReflectliteValue.method z f #[v]=(do match ← ReflectliteValue.parts v with | none=>z | some (t,a,fl)=>f t a fl (fl % 32)):=rfl
theorem uL (a:Addr) (w:World):(ReflectliteValue.parts (.agg #[.pointer (some ⟨8,61,none⟩),.pointer (some a),.int .u64 150])).run Tryz.prog w=.ok (some (61,a,150)) w:=by kernel_rfl
theorem BC (a p:Addr) (W:World) (ha:W.cell? a=some (.pointer (some p))) :
  (ReflectliteValue.method (ReflectliteValue.valueError "reflectlite.Value.IsNil" 0) ReflectliteValue.isNil #[.agg #[.pointer (some ⟨8, 61, none⟩), .pointer (some a), .int .u64 150]]).run Tryz.prog W = .ok (.bool false) W := by
 rw [LV]
 simp only [Sem.run_bind,uL,Result.andThen]
 simp [ReflectliteValue.isNil,loadVar,isAgg,underlying,Tryz.underlying61,ha,Result.andThen]
theorem wz (h : Value) (w : World) : (Go.method 442 163 (.agg #[h]) "Elem").run Tryz.prog w = .ok (227, .agg #[h]) w := by kernel_rfl
theorem oh (h : Value) (w : World) : (Go.method 442 163 (.agg #[h]) "Implements").run Tryz.prog w = .ok (228, .agg #[h]) w := by kernel_rfl
theorem lL (h : Value) (w : World) : (Go.method 442 163 (.agg #[h]) "AssignableTo").run Tryz.prog w = .ok (225, .agg #[h]) w := by kernel_rfl
theorem DS (w:World):(ReflectliteType.method ReflectliteType.elem #[.agg #[.pointer (some ⟨8,61,none⟩)]]).run Tryz.prog w=.ok (.iface 163 (.agg #[.pointer (some ⟨8,59,none⟩)])) w:=by kernel_rfl
theorem sM (w : World) : (ReflectliteType.relation "Implements" ReflectliteType.implements_ #[.agg #[.pointer (some ⟨8, 59, none⟩)], .iface 163 (.agg #[.pointer (some ⟨8, 29, none⟩)])]).run Tryz.prog w = .ok (.bool true) w := by kernel_rfl
theorem zH (v:Value) (w:World):(ReflectliteType.typeOf #[.iface 59 v]).run Tryz.prog w=.ok (.iface 163 (.agg #[.pointer (some ⟨8,59,none⟩)])) w:=by kernel_rfl
theorem tn (w : World) : (ReflectliteType.relation "AssignableTo" ReflectliteType.assignableTo #[.agg #[.pointer (some ⟨8, 59, none⟩)], .iface 163 (.agg #[.pointer (some ⟨8, 59, none⟩)])]).run Tryz.prog w = .ok (.bool true) w := by kernel_rfl
theorem xV (e:Addr) (w:World):(ReflectliteValue.unpack (.iface 59 (.pointer (some e)))).run Tryz.prog w
  = .ok (.agg #[.pointer (some ⟨8,59,none⟩),.pointer (some ⟨w.heap.size,0,none⟩),.int .u64 150]) (w.alloc (.cells #[.pointer (some e)] 59)):=by kernel_rfl
theorem za (w:World):(Rtype.elem? 61).run Tryz.prog w=.ok (some 59) w:=by kernel_rfl
theorem H5 (p:Addr) (w:World):(ReflectliteValue.mk 59 p ReflectliteValue.flagAddr).run Tryz.prog w=.ok (.agg #[.pointer (some ⟨8,59,none⟩),.pointer (some p),.int .u64 406]) w:=by kernel_rfl
theorem Bn (a p:Addr) (W:World) (ha:W.cell? a=some (.pointer (some p))) :
  (ReflectliteValue.method (ReflectliteValue.valueError "reflectlite.Value.Elem" 0) ReflectliteValue.elem #[.agg #[.pointer (some ⟨8, 61, none⟩), .pointer (some a), .int .u64 150]]).run Tryz.prog W
   = .ok (.agg #[.pointer (some ⟨8,59,none⟩),.pointer (some p),.int .u64 406]) W:=by
 rw [LV]
 simp only [Sem.run_bind,uL,Result.andThen]
 simp [ReflectliteValue.elem,loadVar,isAgg,underlying,Tryz.underlying61,ha,Result.andThen,za,H5]
theorem Mf (v x:Value):ReflectliteValue.set #[v,x]=(do
  let (some (dst,a,fl),some (src,b,_)):=(← ReflectliteValue.parts v,← ReflectliteValue.parts x)
   | unsupported (.noEntry "extern/(internal/reflectlite.Value).Set.zeroValue")
  if fl / ReflectliteValue.flagAddr % 2 == 0 then unsupported (.noEntry "extern/(internal/reflectlite.Value).Set.unaddressable")
  let val ← loadVar src b
  if ← Rtype.directlyAssignable dst src then storeVar dst a val
  else if ← Rtype.implements dst src then
   if (← Rtype.kind src)==20 then
    match val with
    | .nilIface => unsupported (.noEntry "extern/reflectlite: a nil value of one interface type handed on as a value of another")
    | _=>storeVar dst a val
   else storeVar dst a (.iface src val)
  else panicString ("reflectlite.Set: value of type " ++ (← Rtype.spelt src) ++ " is not assignable to type " ++ (← Rtype.spelt dst))
  pure (.tuple #[])):=rfl
theorem zQ (a:Addr) (w:World):(ReflectliteValue.parts (.agg #[.pointer (some ⟨8,59,none⟩),.pointer (some a),.int .u64 406])).run Tryz.prog w=.ok (some (59,a,406)) w:=by kernel_rfl
theorem BG (a:Addr) (w:World):(ReflectliteValue.parts (.agg #[.pointer (some ⟨8,59,none⟩),.pointer (some a),.int .u64 150])).run Tryz.prog w=.ok (some (59,a,150)) w:=by kernel_rfl
theorem zp (w:World):(Rtype.directlyAssignable 59 59).run Tryz.prog w=.ok true w:=by kernel_rfl
theorem GD (ta b e:Addr) (old:Value) (W:World) (hb:W.cell? b=some (.pointer (some e))) (ht:W.cell? ta=some old) (hf:W.frozen? ta=false) :
  (ReflectliteValue.set #[.agg #[.pointer (some ⟨8,59,none⟩),.pointer (some ta),.int .u64 406],.agg #[.pointer (some ⟨8,59,none⟩),.pointer (some b),.int .u64 150]]).run Tryz.prog W
   = .ok (.tuple #[]) (W.setCell ta (.pointer (some e))):=by
 rw [Mf]
 simp only [Sem.run_bind,zQ,BG,Result.andThen]
 simp [ReflectliteValue.flagAddr,loadVar,isAgg,underlying,Tryz.underlying59,hb,Result.andThen,zp,storeVar,Value.cells,storeCells,Addr.add]
 rw [run_store Tryz.prog W ta _ _ (by rfl)]
 simp [ht,hf]
set_option maxHeartbeats 4000000 in
theorem Jo (e t:Addr) (old:Value) (w:World) (hg:w.cell? ⟨0,0,none⟩=some (.iface 163 (.agg #[.pointer (some ⟨8,29,none⟩)]))) (ht0:w.cell? t=some old) (hf0:w.frozen? t=false) :
  Calls Tryz.prog 30 #[.iface 59 (.pointer (some e)),.iface 61 (.pointer (some t))] w fun ev w'=>ev=.returned (.bool true)∧w'=((((w.alloc (.cells #[.pointer (some t)] 61)).alloc (.cells #[.pointer (some ⟨8,61,none⟩),.pointer (some ⟨w.heap.size,0,none⟩),.int .u64 150] 115)).alloc (.cells #[.pointer (some ⟨8,61,none⟩),.pointer (some ⟨w.heap.size,0,none⟩),.int .u64 150] 115)).alloc (.cells #[.pointer (some e)] 59)).setCell t (.pointer (some e)):=by
 have h6:=@run_callFunc_extern Tryz.prog 57 _ (fun args=>ReflectliteValue.unpack (args.getD 0 (.tuple #[]))) Tryz.func57 (by kernel_rfl) (by kernel_rfl) (by kernel_rfl) (by kernel_rfl)
 have h7 := @run_callFunc_extern Tryz.prog 58 _ (ReflectliteValue.methodAny (ReflectliteValue.valueError "reflectlite.Value.Type" 0) (fun t _ _ _ => ReflectliteType.toType t)) Tryz.func58 (by kernel_rfl) (by kernel_rfl) (by kernel_rfl) (by kernel_rfl)
 have h8 := @run_callFunc_extern Tryz.prog 59 _ (ReflectliteValue.method (ReflectliteValue.valueError "reflectlite.Value.IsNil" 0) ReflectliteValue.isNil) Tryz.func59 (by kernel_rfl) (by kernel_rfl) (by kernel_rfl) (by kernel_rfl)
 have h27:=@run_callFunc_extern Tryz.prog 218 _ (ReflectliteType.abiMethod fun t=>do pure (.int .u8 (← Rtype.kind t))) Tryz.func218 (by kernel_rfl) (by kernel_rfl) (by kernel_rfl) (by kernel_rfl)
 have h37:=@run_callFunc_extern Tryz.prog 227 _ (ReflectliteType.method ReflectliteType.elem) Tryz.func227 (by kernel_rfl) (by kernel_rfl) (by kernel_rfl) (by kernel_rfl)
 have h38 := @run_callFunc_extern Tryz.prog 228 _ (ReflectliteType.relation "Implements" ReflectliteType.implements_) Tryz.func228 (by kernel_rfl) (by kernel_rfl) (by kernel_rfl) (by kernel_rfl)
 have h10:=@run_callFunc_extern Tryz.prog 73 _ ReflectliteType.typeOf Tryz.func73 (by kernel_rfl) (by kernel_rfl) (by kernel_rfl) (by kernel_rfl)
 have h35 := @run_callFunc_extern Tryz.prog 225 _ (ReflectliteType.relation "AssignableTo" ReflectliteType.assignableTo) Tryz.func225 (by kernel_rfl) (by kernel_rfl) (by kernel_rfl) (by kernel_rfl)
 have h11 := @run_callFunc_extern Tryz.prog 92 _ (ReflectliteValue.method (ReflectliteValue.valueError "reflectlite.Value.Elem" 0) ReflectliteValue.elem) Tryz.func92 (by kernel_rfl) (by kernel_rfl) (by kernel_rfl) (by kernel_rfl)
 have h12:=@run_callFunc_extern Tryz.prog 93 _ ReflectliteValue.set Tryz.func93 (by kernel_rfl) (by kernel_rfl) (by kernel_rfl) (by kernel_rfl)
 have tO:=zH
 have mA:=lL
 have a25:=tn
 have v25:=xV
 have f6:=yF
 have f7:=DN
 have mK:=wB
 have mE:=wz
 have mI:=oh
 have k27:=DJ
 have k25:=DI
 have e27:=DS
 have i25:=sM
 have n8:=BC ⟨w.heap.size,0,none⟩ t ((w.alloc (.cells #[.pointer (some t)] 61)).alloc (.cells #[.pointer (some ⟨8,61,none⟩),.pointer (some ⟨w.heap.size,0,none⟩),.int .u64 150] 115)) (by simp)
 have hlt:0<w.heap.size:=by
  rcases Nat.eq_zero_or_pos w.heap.size with h0 | h
  ·simp [World.cell?,h0] at hg
  ·exact h
 have hg2:((w.alloc (.cells #[.pointer (some t)] 61)).alloc (.cells #[.pointer (some ⟨8,61,none⟩),.pointer (some ⟨w.heap.size,0,none⟩),.int .u64 150] 115)).cell? ⟨0,0,none⟩=some (.iface 163 (.agg #[.pointer (some ⟨8,29,none⟩)])):=by
  rw [World.cell?_alloc_lt _ _ ⟨0,0,none⟩ (by simp),World.cell?_alloc_lt _ _ ⟨0,0,none⟩ hlt]; exact hg
 have htl:t.block<w.heap.size:=by
  rcases Nat.lt_or_ge t.block w.heap.size with h | h
  ·exact h
  ·simp [World.cell?,Array.getElem?_eq_none h] at ht0
 have el:=Bn ⟨w.heap.size,0,none⟩ t (((w.alloc (.cells #[.pointer (some t)] 61)).alloc (.cells #[.pointer (some ⟨8,61,none⟩),.pointer (some ⟨w.heap.size,0,none⟩),.int .u64 150] 115)).alloc (.cells #[.pointer (some ⟨8,61,none⟩),.pointer (some ⟨w.heap.size,0,none⟩),.int .u64 150] 115)) (by rw [World.cell?_alloc_lt _ _ ⟨w.heap.size,0,none⟩ (by simp; omega)]; simp)
 have st:=GD t ⟨w.heap.size+1+1+1,0,none⟩ e old ((((w.alloc (.cells #[.pointer (some t)] 61)).alloc (.cells #[.pointer (some ⟨8,61,none⟩),.pointer (some ⟨w.heap.size,0,none⟩),.int .u64 150] 115)).alloc (.cells #[.pointer (some ⟨8,61,none⟩),.pointer (some ⟨w.heap.size,0,none⟩),.int .u64 150] 115)).alloc (.cells #[.pointer (some e)] 59))
  (by rw [World.cell?_alloc_at _ _ _ _ (by simp)]; rfl)
  (by rw [World.cell?_alloc_lt _ _ t (by simp; omega),World.cell?_alloc_lt _ _ t (by simp; omega),World.cell?_alloc_lt _ _ t (by simp; omega),World.cell?_alloc_lt _ _ t htl]; exact ht0)
  (by rw [World.frozen?_alloc_old _ _ t (by simp; omega),World.frozen?_alloc_old _ _ t (by simp; omega),World.frozen?_alloc_old _ _ t (by simp; omega),World.frozen?_alloc_old _ _ t (Nat.ne_of_lt htl)]; exact hf0)
 go_enter Tryz.func30,Tryz.ntmps30
 go_wp2
 refine wp_loop_rounds 1 ?_
 rw [rounds_succ]
 go_wp2
 go_ret
 exact ⟨rfl,rfl⟩
end Go.Proofs.YtfkjiiapldkoeaaGreatDoor
