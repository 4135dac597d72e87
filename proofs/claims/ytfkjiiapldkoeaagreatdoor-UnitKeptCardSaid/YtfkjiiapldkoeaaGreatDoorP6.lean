/- Contracts over heaps, and plain laws, for the functions that the laws of chapter 9 call, part 6: The document's assembling of a source, over heaps. How unit.Assemble ends: its r Condition: as each statement says. -/
import Derived.Test.YtfkjiiapldkoeaaGreatDoorP5
import Derived.Test.YtfkjiiapldkoeaaGreatDoorAtS
import Derived.Test.YtfkjiiapldkoeaaGreatDoorAobjShelf
import Derived.Test.YtfkjiiapldkoeaaGreatDoorAtN
import Derived.Test.YtfkjiiapldkoeaaGreatDoorAtO
import Derived.RangeFuncWrites
import Derived.LaidEql
import Derived.Stop.Asserts
import Derived.RowKitTokens
import Derived.Lib.ItoaLen
set_option linter.unusedVariables false
set_option linter.unusedSimpArgs false
set_option maxRecDepth 100000
namespace Go.Sx.Ob
open Go.Proofs
def xi:Except (Nat × Nat) fU→fU × (Nat × Nat)
 | .error q=>(tS,q)
 | .ok u=>(u,(0,0))
theorem lO.af {h h':Hp} {b:Nat} {a b' c d:bE} {u:fU} {ws:List Nat} (U:lO h b a b' c d u) (k:Ch ws h h') (hw:∀ i,i∈ws→i<h.size→i<b):lO h' b a b' c d u:=by
 obtain ⟨ut,ud,ue,ow,C,S⟩:=U
 exact ⟨ut,ud,ue,ow,C.af k (fun i h1 h2 h3=>by have:=hw i h1 h2; omega),SL.lZ S k hw⟩
theorem lO.mono {h:Hp} {b b1:Nat} {a b' c d:bE} {u:fU} (U:lO h b a b' c d u) (hb:b1≤b):lO h b1 a b' c d u:=by
 obtain ⟨ut,ud,ue,ow,C,S⟩:=U
 exact ⟨ut,ud,ue,ow,⟨Sx.SL.mono C.t1 hb,fun u hu=>Sx.SL.mono (C.t2 u hu) hb,C.t3,Sx.SL.mono C.d1 hb,fun u hu=>Sx.SL.mono (C.d2 u hu) hb,C.d3,Sx.SL.mono C.e1 hb,fun u hu=>Sx.SL.mono (C.e2 u hu) hb,C.e3,C.o3,C.o4,C.o5,C.ot,C.od,C.oe⟩,Sx.SL.mono S hb⟩
end Go.Sx.Ob
set_option linter.unusedVariables false
set_option linter.unusedSimpArgs false
set_option maxRecDepth 100000
namespace Go.Proofs
open Go.RowKit Go.Shelf Go.Sx.Ob
attribute [local go_sem] Oper.semAt_some
theorem LR {tmps:Array Value} {w:World} {p q:Nat} {va vb vc vd ev:Value} (h2:tmps.getD 2 undef=.pointer (some ⟨p,0,none⟩)) (h3:tmps.getD 3 undef=.pointer (some ⟨q,0,none⟩)) (bp:Sx.aM w.heap p 27 [va,vb,vc,vd]) (bq:Sx.aM w.heap q 29 [ev]) :
  (results Tryz.f10 tmps).run Tryz.prog w=.ok (.tuple #[.agg #[va,vb,vc,vd],ev]) w:=by
 have c0:w.cell? ⟨p,0,none⟩=some va:=by rw [Sx.eU,bp.cell]; rfl
 have c1:w.cell? ⟨p,1,none⟩=some vb:=by rw [Sx.eU,bp.cell]; rfl
 have c2:w.cell? ⟨p,2,none⟩=some vc:=by rw [Sx.eU,bp.cell]; rfl
 have c3:w.cell? ⟨p,3,none⟩=some vd:=by rw [Sx.eU,bp.cell]; rfl
 have c4:w.cell? ⟨q,0,none⟩=some ev:=by rw [Sx.eU,bq.cell]; rfl
 rw [Array.getD_eq_getD_getElem?] at h2 h3
 simp [results,Tryz.f10,go_sem,h2,h3,c0,c1,c2,c3,c4]
theorem Bb {R:Ending→World→Prop} {tmps:Array Value} {dl:List Deferred} {W':World} {b0 p q:Nat} {va vb vc vd ev:Value} (hm:Marks b0 dl W') (h2:tmps.getD 2 undef=.pointer (some ⟨p,0,none⟩)) (h3:tmps.getD 3 undef=.pointer (some ⟨q,0,none⟩)) (bp:Sx.aM W'.heap p 27 [va,vb,vc,vd]) (bq:Sx.aM W'.heap q 29 [ev])
  (hR:∀ w':World,Below b0 W' w'→(∀ B:Nat,W'.heap[B]?≠some (Obj.deferred (some []))→w'.heap[B]?=W'.heap[B]?)→R (.returned (.tuple #[.agg #[va,vb,vc,vd],ev])) w') :
  bodyPostM Fence.wide 7 Tryz.prog Tryz.f10 R Exit.ret { tmps:=tmps,defers:=dl } W':=by
 refine Marks.leaves hm fun w' hb hk=>?_
 have bp':Sx.aM w'.heap p 27 [va,vb,vc,vd]:=by
  unfold Sx.aM at bp ⊢
  rw [hk p (by rw [bp]; simp),bp]
 have bq':Sx.aM w'.heap q 29 [ev]:=by
  unfold Sx.aM at bq ⊢
  rw [hk q (by rw [bq]; simp),bq]
 exact ⟨_,LR h2 h3 bp' bq',hR w' hb hk⟩
theorem An {n f l:Nat} {args:Array Value} {W:World} {R:Value→Sx.Hp→Prop} {K:Ending→World→Prop} (h:Sx.HC Tryz.prog f args W.heap R) (hK:∀ v w',Sx.bW W w'→R v w'.heap→K (.returned v) w'):(Fence.wide.inRound l).fn f∧CallsIn (Fence.wide.inRound l) n Tryz.prog f args W K :=
 ⟨trivial,(CallsIn.inRound l (callsIn_wide.2 (h W rfl))).mono fun e w' ⟨v,hv,hb,hr⟩=>by subst hv; exact hK v w' hb hr⟩
end Go.Proofs
set_option linter.unusedVariables false
set_option maxRecDepth 100000
namespace Go.Proofs
open Go.RowKit Go.Maps Go.Sort Go.Shelf
def Tryz.yV:Go.Shelf.Ren:=⟨fun | 7=>35 | 10=>68 | n=>n,fun | 23=>70 | 26=>9 | 3=>4 | 28=>79 | 0=>0 | 27=>78 | 33=>39 | 4=>4 | n=>n,fun | n=>n⟩
theorem Tryz.Kj:Go.Proofs.SlLaysZ.n7 Tryz.prog Tryz.yV:={
 mixed:=by kernel_rfl
 f7:=⟨Tryz.f35.name,by decide,Tryz.func35.trans (congrArg some (by kernel_rfl))⟩
 f10:=⟨Tryz.f68.name,by decide,Tryz.func68.trans (congrArg some (by kernel_rfl))⟩
 t0:=Tryz.underlying0
 a0:=Tryz.isAgg0
 z0:=Tryz.sizeOf0
 v0:=Tryz.zeroValue0
 t4:=Tryz.underlying4
 a4:=Tryz.isAgg4
 z4:=Tryz.sizeOf4
 v4:=Tryz.zeroValue4
 t23:=Tryz.underlying70
 a23:=Tryz.isAgg70
 z23:=Tryz.sizeOf70
 v23:=Tryz.zeroValue70
 t26:=Tryz.underlying9
 a26:=Tryz.isAgg9
 z26:=Tryz.sizeOf9
 v26:=Tryz.zeroValue9
 t27:=Tryz.underlying78
 a27:=Tryz.isAgg78
 z27:=Tryz.sizeOf78
 v27:=Tryz.zeroValue78
 t28:=Tryz.underlying79
 a28:=Tryz.isAgg79
 z28:=Tryz.sizeOf79
 v28:=Tryz.zeroValue79
 t33:=Tryz.underlying39
 a33:=Tryz.isAgg39
 z33:=Tryz.sizeOf39
 v33:=Tryz.zeroValue39 }
theorem Tryz.Bm (mb:Option Nat) (W:World):CallsIn Fence.wide 5 Tryz.prog 35 #[.map mb] W fun e w'=>e=.returned (.func (.func 68) #[] #[.pointer (some ⟨W.heap.size,0,none⟩)])∧w'=W.alloc (.cells #[.map mb] 70) :=
 AnyZ.keys_in Tryz.Kj Fence.wide 5 trivial rfl mb W
theorem Tryz.nN {H:Type} (b nn:Nat) (D0:DataW H) (R:Value→Option (DataW H × List MemPlace)) (w:World) (hown:w.ownsMap Tryz.prog 9 R b nn D0) (hmax:Maps.size D0≤maxLen) (hbytes:Maps.size D0*16≤140737488355328) :
  CallsIn Fence.wide 5 Tryz.prog 34 #[.func (.func 68) #[] #[.pointer (some ⟨w.heap.size,0,none⟩)]] (w.alloc (.cells #[.map (some b)] 70)) fun e w'=>∃ (v:Value) (ss:List (List UInt8)),e=.returned v∧ss.Perm (strKeys D0) ∧
   w'.ownsRow (w.alloc (.cells #[.map (some b)] 70)).heap.size 9 1 v ss.length ((ss.mergeSort (fun x y=>decide (x≤y))).map encStr)∧(v=.slice none 0 0↔ss=[])∧Below (w.alloc (.cells #[.map (some b)] 70)).heap.size (w.alloc (.cells #[.map (some b)] 70)) w':=by
 have hbl:=hown.lt
 have hseq:SeqGives Fence.wide 2 Tryz.prog 68 #[.pointer (some ⟨w.heap.size,0,none⟩)] encStr (fun ss=>ss.Perm (strKeys D0)) (Maps.size D0) (w.alloc (.cells #[.map (some b)] 70)) :=
  AnyZ.keys_gives (ρ:=Tryz.yV) { Tryz.Kj with } Fence.wide _ trivial rfl (by omega) w.heap.size b nn D0 _ (by simp) (by simp) (by
   obtain ⟨es,clock,hb,Ft,hs,hD⟩:=hown
   exact ⟨es,clock,(Below.heap_alloc _ _ b hbl).trans hb,Ft,hs,hD⟩)
 exact AnyZ.sorted_in Tryz.zb Fence.wide 5 trivial trivial trivial trivial rfl (by omega) (Tryz.AI _) (enters_of Tryz.func43 (by kernel_rfl) rfl) 68 #[.pointer (some ⟨w.heap.size,0,none⟩)] trivial (enters_of Tryz.func68 (by kernel_rfl) rfl) _ _ hmax hbytes _ hseq
end Go.Proofs
namespace Go.Sx
open Go.Proofs
open Go.RowKit Go.Maps
theorem F0 (r:Option Nat) (h:Hp):HC Tryz.prog 35 #[.map r] h fun v h'=>v=.func (.func 68) #[] #[.pointer (some ⟨h.size,0,none⟩)]∧h'=h.push (.cells #[.map r] 70):=by
 intro W hW
 subst hW
 exact (callsIn_wide.1 (Tryz.Bm r W)).mono fun e w' ⟨he,hw⟩=>⟨_,he,by rw [hw]; exact bW.alloc _ _,rfl,by rw [hw]; rfl⟩
theorem DH {h:Hp} {g:Nat} {D:List (ByteArray × Value)} (m:fc h g D) (hl:D.length≤2^40) :
  HC Tryz.prog 34 #[.func (.func 68) #[] #[.pointer (some ⟨h.size,0,none⟩)]] (h.push (.cells #[.map (some g)] 70)) fun v h'=>∃ p l c,v=.slice p l c∧SL h' (h.size+1) 9 1 p l c ((keysOf D).map fun k=>[encStr k]) ∧
   Ext (h.push (.cells #[.map (some g)] 70)) h':=by
 intro W hW
 obtain ⟨D0,hown,hperm,hsize⟩:=fc.owns (W:={ W with heap:=h }) m (by unfold maxLen; omega)
 have hc:=callsIn_wide.1 (Tryz.nN g D.length D0 DF { W with heap:=h } hown (by rw [hsize]; unfold maxLen; omega) (by rw [hsize]; omega))
 rw [World.AO hW] at hc
 refine hc.mono fun e w' hr=>?_
 obtain ⟨v,ss,he,hp,hrow,_,hb⟩:=hr
 have hss:ss.mergeSort (fun x y=>decide (x≤y))=keysOf D:=mergeSort_of_perm (hp.trans hperm)
 have hlen:ss.length=((ss.mergeSort (fun x y=>decide (x≤y))).map encStr).length:=by rw [List.length_map,List.length_mergeSort]
 rw [hlen,hss] at hrow
 obtain ⟨p,l,c,hv,hsl⟩:=SL.GL hrow
 refine ⟨v,he,⟨hb.os,hb.tape,hb.output⟩,p,l,c,hv,?_,?_⟩
 ·rw [List.map_map] at hsl
  have:W.heap.size=h.size+1:=by rw [hW]; simp
  rw [this] at hsl
  exact hsl
 ·rw [← hW]
  exact ⟨hb.size,fun i hi _=>hb.block i hi⟩
end Go.Sx
set_option linter.unusedVariables false
set_option linter.unusedSimpArgs false
set_option maxRecDepth 100000
namespace Go.Sx.Ob
open Go.Proofs Go.Maps
theorem CB {D:List (ByteArray × Value)} {l:List ByteArray} (hn:(D.map (·.1)).Nodup) (hm:∀ s,s∈D.map (·.1)↔s∈l):keysOf D=(cP l).map (fun s=>s.data.toList):=by
 have hr:=xC l
 have nd:(cP l).Nodup:=hr.imp fun h=>xH h
 have hp:(D.map (·.1)).Perm (cP l):=(List.perm_ext_iff_of_nodup hn nd).2 fun s=>by rw [hm,tu]
 have h2:((cP l).map fun s=>s.data.toList).Perm (D.map fun p=>p.1.data.toList):=by
  have:=hp.symm.map (fun s:ByteArray=>s.data.toList)
  rw [List.map_map] at this
  exact this
 have h1:((cP l).map fun s=>s.data.toList).mergeSort (fun x y=>decide (x≤y))=keysOf D:=mergeSort_of_perm h2
 rw [← h1]
 refine List.mergeSort_of_pairwise ?_
 rw [List.pairwise_map]
 refine hr.imp fun {a b} h=>?_
 simp only [decide_eq_true_eq]
 exact List.le_of_lt h
theorem v8 (s:ByteArray):∀ (l:List ByteArray),(np s l).length≤l.length+1
 | []=>by simp [np]
 | x::l=>by
  have ih:=v8 s l
  unfold np
  split
  ·simp
  ·split
   ·simp
   ·simp only [List.length_cons]; omega
theorem zA:∀ (l d:List ByteArray),(l.foldl (fun d s=>np s d) d).length≤l.length+d.length
 | [],d=>by simp
 | x::l,d=>by
  rw [List.foldl_cons]
  have h1:=zA l (np x d)
  have h2:=v8 x d
  simp only [List.length_cons]
  omega
theorem Fp (l:List ByteArray):(cP l).length≤l.length:=by
 have:=zA l []
 simpa [cP] using this
theorem HH (l:List ByteArray):((l.map fun s=>s.data.toList).map fun k=>[encStr k])=l.map yM:=by
 rw [List.map_map]
 apply List.map_congr_left
 intro s _
 show [Value.string ⟨s.data.toList.toArray⟩]=[Value.string s]
 simp
def sM (w:eF):Except (Nat × Nat) fU:=match Jt w with
 | some g=>.error (g.2,23)
 | none=>.ok ⟨w.text,w.data,w.aQ,cP (w.aG.map (·.1))⟩
def vh:Except (Nat × Nat) fU→Option (Nat × Nat)
 | .error q=>some q
 | .ok _=>none
def MG (b u e A:Nat) (w:eF) (h:Hp) (v:Value) (h':Hp):Prop:=Ch [u,e,A] h h'∧∃ (a b' c d:bE) (ev:Value),v=.tuple #[jM a b' c d,ev]∧lO h' b a b' c d (xi (sM w)).1∧oR h' ev (vh (sM w))∧aM h' u 27 [a.v,b'.v,c.v,d.v]∧aM h' e 29 [ev]
theorem yG {w:eF}:∀ {l:List (ByteArray × Nat)} {i:Nat},(∀ g,g∈l.take i→fJ w.names g.1=true)→(hi:i<l.length)→fJ w.names l[i].1=false→l.find? (fun g=>!fJ w.names g.1)=some l[i]
 | x::l,0,_,_,h=>by
  rw [List.find?_cons]
  simp only [List.getElem_cons_zero] at h
  rw [h]
  rfl
 | x::l,i+1,h1,hi,h=>by
  rw [List.find?_cons,h1 x (by simp)]
  simp only [Bool.not_true]
  exact yG (fun g hg=>h1 g (by simp [hg])) (by simpa using hi) h
set_option maxHeartbeats 4000000 in
theorem JA {h:Hp} {b A g u e v:Nat} {w:eF} {t d e' q:bE} {ut ud:List (bE × bD)} {ue:List (bE × kl)} {ow:Nat→Nat} (a:dz h b A g w t d e' q ut ud ue ow) (W:CE w) (hG:w.aG.length≤2^20) (hu:u<b) (he:e<b) (hue:u≠e) (hb:b≤h.size) (hv:ow v=9)
  {xs:List Value} {x1:Value} (bu:aM h u 27 xs) (hxs:xs.length=4) (be:aM h e 29 [x1]) (bv:aM h v 69 [.pointer (some ⟨A,0,none⟩)]):dE u e v [] (MG b u e A w h) h:=by
 unfold dE
 have bA:=a.bA
 have hql:=a.ql
 have nvA:v≠A:=fun hh=>by have:=a.oA; rw [hh] at hv; omega
 refine Kp ?_
 intro h1 m1 e1 z1
 refine ad (bv.af e1 (by simp)) (some ⟨A,0,none⟩,()) rfl ?_
 dsimp only [flat,aD,aj,nA,cA]
 refine ai rfl ?_
 rw [au]
 refine ad (a.box.af e1 (by simp)) ((q.p,q.l,q.c),()) rfl ?_
 dsimp only [flat,aD,aj,nA,cA]
 refine aY (cs:=[(false,[.int .i64])]) (fun y m h'=>∃ i:Nat,y.1=(i:Int)∧m=w.aG.length-i∧i≤w.aG.length∧Ext h h'∧qc h' h.size ((w.aG.take i).map (·.1)).reverse∧∀ x,x∈w.aG.take i→fJ w.names x.1=true)
  ((0:Int),()) w.aG.length rfl ⟨0,rfl,rfl,by omega,e1,m1,by simp⟩ ?_
 rintro ⟨n7,⟨⟩⟩ m h2 ⟨i,hi,rfl,hil,e2,m2,hin⟩
 simp only at hi
 subst hi
 dsimp only [flat,aD,aj,nA,cA]
 have a2:=a.af e2 (by simp)
 have bu2:=bu.af e2 (by simp)
 have be2:=be.af e2 (by simp)
 have bv2:=bv.af e2 (by simp)
 have z2:=e2.size
 refine ah (fun r=>?_) (fun r=>?_)
 ·have r:=of_decide_eq_true r
  have hi':i<w.aG.length:=by omega
  have hleg:=W.aG w.aG[i] (List.getElem_mem hi')
  obtain ⟨aq,haq,hcq⟩:=SL.cells a2.aG (i:=i) (by rw [List.length_map]; exact hi')
  rw [List.getElem_map] at hcq
  refine aA ⟨by omega,by omega⟩ (ai haq ?_)
  rw [show Int.toNat (i:Int)=i by omega]
  refine aE (w.aG[i].1,(w.aG[i].2:Int),()) hcq ?_
  dsimp only [flat,aD,aj,nA,cA]
  have htk:w.aG.take (i+1)=w.aG.take i++[w.aG[i]]:=List.take_succ_eq_append_getElem hi'
  have hund:fJ w.names w.aG[i].1=false→sM w=.error (w.aG[i].2,23):=fun hf=>by
   unfold sM Jt
   rw [yG hin hi' hf]
  generalize w.aG[i]=gi at *
  refine aW ?_
  intro h3 b3 e3 z3
  refine an b3 rfl (by simp) ?_
  intro h4 b4 k4 z4
  have b4:aM h4 h2.size 76 [.string gi.1,.int .i64 (gi.2:Int)]:=b4
  have e24:Ext h2 h4:=Ch.trans e3 k4 (fun j hj hl=>by simp at hj; omega)
  have a4:=a2.af e24 (by simp)
  have bv4:=bv2.af e24 (by simp)
  refine ad bv4 (some ⟨A,0,none⟩,()) rfl ?_
  dsimp only [flat,aD,aj,nA,cA]
  refine ai rfl ?_
  rw [au]
  refine ad a4.box (some g,()) rfl ?_
  dsimp only [flat,aD,aj,nA,cA]
  refine ad b4 (gi.1,()) rfl ?_
  dsimp only [flat,aD,aj,nA,cA]
  refine xw a4.names gi.1 ?_
  refine ⟨⟨bv4.cells _ rfl,trivial⟩,?_⟩
  refine ah (fun r2=>?_) (fun r2=>?_)
  ·have r2:fJ w.names gi.1=false:=by simpa using r2
   have hend:=hund r2
   have bu4:=bu2.af e24 (by simp)
   have be4:=be2.af e24 (by simp)
   have e04:=e2.trans e24
   rw [au]
   refine ad b4 ((gi.2:Int),()) rfl ?_
   dsimp only [flat,aD,aj,nA,cA]
   have hl2:h2.size<h4.size:=b4.lt
   have hbu:=bu.lt
   have hbe:=be.lt
   have xl:∀ hh ys,aM hh u 27 ys→ys.length=4→∃ y1 y2 y3 y4,ys=[y1,y2,y3,y4]:=fun hh ys _ hl=>by
    match ys,hl with
    | [y1,y2,y3,y4],_=>exact ⟨y1,y2,y3,y4,rfl⟩
   obtain ⟨y1,y2,y3,y4,rfl⟩:=xl h4 xs bu4 hxs
   refine ⟨?_,?_,trivial⟩
   ·refine aW ?_
    intro h5 b5 e5 z5
    have b45:=b4.af e5 (by simp)
    refine ⟨⟨b45.cells _ rfl,trivial⟩,?_⟩
    refine an (bu4.af e5 (by simp)) rfl (by simp) ?_
    intro h6 b6 k6 z6
    have b6:aM h6 u 27 zU:=b6
    refine ⟨⟨(b45.af k6 (by simp; omega)).cells _ rfl,trivial⟩,?_⟩
    refine an ((be4.af e5 (by simp)).af k6 (by simp; omega)) rfl (by simp) ?_
    intro h7 b7 k7 z7
    have b7:aM h7 e 29 [.iface 59 (ptr h4.size)]:=b7
    have b67:aM h7 u 27 zU:=b6.af k7 (by simp; omega)
    have b57:=(b5.af k6 (by simp; omega)).af k7 (by simp; omega)
    refine ad b67 ((none,0,0),(none,0,0),(none,0,0),(none,0,0),()) rfl ?_
    dsimp only [flat,aD,aj,nA,cA]
    refine ad b7 (Value.iface 59 (ptr h4.size),()) rfl ?_
    refine ⟨(((e04.trans e5).mono (by simp)).trans k6 (fun j hj _=>by have hj:=List.mem_singleton.1 hj; simp [hj])).trans k7 (fun j hj _=>by have hj:=List.mem_singleton.1 hj; simp [hj]),fV,fV,fV,fV,_,rfl,?_,?_,b67,b7⟩
    ·rw [hend]; exact lO.zero _ _
    ·rw [hend]; exact ⟨_,rfl,b57⟩
   ·refine an bu4 rfl (by simp) ?_
    intro h6 b6 k6 z6
    have b6:aM h6 u 27 zU:=b6
    have b46:=b4.af k6 (by simp; omega)
    refine ⟨⟨b46.cells _ rfl,trivial⟩,?_⟩
    refine aW ?_
    intro h5 b5 e5 z5
    refine ⟨⟨(b46.af e5 (by simp)).cells _ rfl,trivial⟩,?_⟩
    refine an ((be4.af k6 (by simp; omega)).af e5 (by simp)) rfl (by simp) ?_
    intro h7 b7 k7 z7
    have b7:aM h7 e 29 [.iface 59 (ptr h6.size)]:=b7
    have b67:aM h7 u 27 zU:=(b6.af e5 (by simp)).af k7 (by simp; omega)
    have b57:=b5.af k7 (by simp; omega)
    refine ad b67 ((none,0,0),(none,0,0),(none,0,0),(none,0,0),()) rfl ?_
    dsimp only [flat,aD,aj,nA,cA]
    refine ad b7 (Value.iface 59 (ptr h6.size),()) rfl ?_
    refine ⟨(((e04.mono (by simp)).trans k6 (fun j hj _=>by have hj:=List.mem_singleton.1 hj; simp [hj])).trans e5 (by simp)).trans k7 (fun j hj _=>by have hj:=List.mem_singleton.1 hj; simp [hj]),fV,fV,fV,fV,_,rfl,?_,?_,b67,b7⟩
    ·rw [hend]; exact lO.zero _ _
    ·rw [hend]; exact ⟨_,rfl,b57⟩
  ·have r2:fJ w.names gi.1=true:=by simpa using r2
   refine ad b4 (gi.1,()) rfl ?_
   dsimp only [flat,aD,aj,nA,cA]
   refine GV (m2.af e24 (by simp)) (by have:=tG hleg; unfold maxLen; omega) ?_
   intro h5 m5 k5 z5
   refine aK (cs:=[(false,[.int .i64])]) (((i+1:Nat):Int),()) (w.aG.length-(i+1)) rfl (by omega) (by rw [wrap_i64 (by omega) (by omega)]; rfl) ?_
   refine ⟨i+1,rfl,rfl,by omega,Ch.trans (e2.trans e24) k5 (fun j hj hl=>by have hj:=List.mem_singleton.1 hj; omega),?_,?_⟩
   ·rw [htk,List.map_append,List.reverse_append]
    exact m5
   ·intro x hx
    rw [htk] at hx
    rcases List.mem_append.1 hx with hx | hx
    ·exact hin x hx
    ·rw [List.mem_singleton.1 hx]; exact r2
 ·have r:=of_decide_eq_false r
  have hie:i=w.aG.length:=by omega
  subst hie
  rw [List.take_length] at m2 hin
  have hend:sM w=.ok ⟨w.text,w.data,w.aQ,cP (w.aG.map (·.1))⟩:=by
   unfold sM Jt
   rw [List.find?_eq_none.2 (fun x hx=>by rw [hin x hx]; simp)]
  obtain ⟨nn,D,mD,hD,hDl⟩:=m2
  have hnd:=fc.nodup mD
  have hkeys:∀ s,s∈(vE eB D).map (·.1)↔s∈w.aG.map (·.1):=by
   intro s
   have h1:gE D s=(if fJ ((w.aG.map (·.1)).reverse) s=true then some true else none):=hD s
   have hv1:(vE eB D).map (·.1)=D.map (·.1):=by unfold vE; rw [List.map_map]; rfl
   rw [hv1]
   by_cases hs:s∈w.aG.map (·.1)
   ·refine ⟨fun _=>hs,fun _=>?_⟩
    rw [if_pos (px.2 (List.mem_reverse.2 hs))] at h1
    unfold gE at h1
    obtain ⟨x,hx,_⟩:=Option.map_eq_some_iff.1 h1
    have h3:=List.find?_some hx
    have h4:=List.mem_of_find?_eq_some hx
    rw [of_decide_eq_true h3]
    exact List.mem_map_of_mem h4
   ·refine ⟨fun hm=>?_,fun hm=>absurd hm hs⟩
    have hnin:fJ ((w.aG.map (·.1)).reverse) s=false:=by
     cases hh:fJ ((w.aG.map (·.1)).reverse) s with
     | false=>rfl
     | true=>exact absurd (List.mem_reverse.1 (px.1 hh)) hs
    rw [hnin] at h1
    unfold gE at h1
    simp only [Bool.false_eq_true,if_false,Option.map_eq_none_iff,List.find?_eq_none] at h1
    obtain ⟨x,hx,hxs⟩:=List.mem_map.1 hm
    exact absurd (decide_eq_true hxs.symm) (h1 x hx)
  have hks:=CB hnd hkeys
  have hDn:(vE eB D).length≤2^40:=by
   have h1:((vE eB D).map (·.1)).Perm (cP (w.aG.map (·.1))):=(List.perm_ext_iff_of_nodup hnd ((xC _).imp fun h=>xH h)).2 fun s=>by rw [hkeys,tu]
   have h2:=h1.length_eq
   rw [List.length_map] at h2
   have h3:=Fp (w.aG.map (·.1))
   rw [List.length_map] at h3
   omega
  refine ad bv2 (some ⟨A,0,none⟩,()) rfl ?_
  dsimp only [flat,aD,aj,nA,cA]
  refine aF (F0 (some h.size) h2) ?_
  rintro _ h3 ⟨rfl,rfl⟩
  refine ⟨(Value.func (.func 68) #[] #[.pointer (some ⟨h2.size,0,none⟩)],()),rfl,?_⟩
  dsimp only [flat,aD,aj,nA,cA]
  have e23:Ext h2 (h2.push (.cells #[.map (some h.size)] 70)):=Ext.push _ _
  refine ⟨⟨(bv2.af e23 (by simp)).cells _ rfl,trivial⟩,?_⟩
  refine aF (DH mD hDn) ?_
  rintro _ h4 ⟨ps,ls,cs,rfl,sS,e34⟩
  refine ⟨((ps,ls,cs),()),rfl,?_⟩
  dsimp only [flat,aD,aj,nA,cA]
  rw [hks,HH] at sS
  have e24:=e23.trans e34
  have bv4:=bv2.af e24 (by simp)
  have a4:=a2.af e24 (by simp)
  refine ⟨⟨bv4.cells _ rfl,trivial⟩,?_⟩
  refine ai rfl ?_
  rw [au]
  refine an a4.box rfl (by simp [lM]) ?_
  intro h5 b5 k5 z5
  have b5:aM h5 A 73 [t.v,d.v,e'.v,.slice ps ls cs,.int .i64 (w.sec:Int),.int .i64 ((w.text.length+w.data.length:Nat):Int),.map (some g),q.v]:=b5
  have bv5:=bv4.af k5 (by simp; exact nvA)
  refine ad bv5 (some ⟨A,0,none⟩,()) rfl ?_
  dsimp only [flat,aD,aj,nA,cA]
  refine ai rfl ?_
  refine ad b5 ((t.p,t.l,t.c),(d.p,d.l,d.c),(e'.p,e'.l,e'.c),(ps,ls,cs),()) rfl ?_
  dsimp only [flat,aD,aj,nA,cA]
  have bu5:=(bu2.af e24 (by simp)).af k5 (by simp; omega)
  have be5:=(be2.af e24 (by simp)).af k5 (by simp; omega)
  obtain ⟨y1,y2,y3,y4,rfl⟩:∃ y1 y2 y3 y4,xs=[y1,y2,y3,y4]:=by
   match xs,hxs with
   | [y1,y2,y3,y4],_=>exact ⟨y1,y2,y3,y4,rfl⟩
  refine an bu5 rfl (by simp) ?_
  intro h6 b6 k6 z6
  have b6:aM h6 u 27 [t.v,d.v,e'.v,.slice ps ls cs]:=b6
  refine an (be5.af k6 (by simp; omega)) rfl (by simp) ?_
  intro h7 b7 k7 z7
  have b7:aM h7 e 29 [.nilIface]:=b7
  have b67:=b6.af k7 (by simp; omega)
  refine ad b67 ((t.p,t.l,t.c),(d.p,d.l,d.c),(e'.p,e'.l,e'.c),(ps,ls,cs),()) rfl ?_
  dsimp only [flat,aD,aj,nA,cA]
  refine ad b7 (Value.nilIface,()) rfl ?_
  refine ⟨((((e2.trans e24).mono (by simp)).trans k5 (fun j hj _=>by have hj:=List.mem_singleton.1 hj; simp [hj])).trans k6 (fun j hj _=>by have hj:=List.mem_singleton.1 hj; simp [hj])).trans k7 (fun j hj _=>by have hj:=List.mem_singleton.1 hj; simp [hj]),t,d,e',⟨ps,ls,cs⟩,_,rfl,?_,?_,b67,b7⟩
  ·rw [hend]
   have C5:=a4.core.af k5 (fun j hj _ _=>by have hj:=List.mem_singleton.1 hj; subst hj; have:=a4.oA; omega)
   have C7:=(C5.af k6 (fun j hj _ hbj=>by have hj:=List.mem_singleton.1 hj; omega)).af k7 (fun j hj _ hbj=>by have hj:=List.mem_singleton.1 hj; omega)
   have hsz2:h2.size<(h2.push (.cells #[.map (some h.size)] 70)).size:=by simp
   refine ⟨ut,ud,ue,ow,C7,Sx.SL.mono (Sx.SL.aO (Sx.SL.aO (Sx.SL.aO sS k5 (fun j hj hm=>?_)) k6 (fun j hj hm=>?_)) k7 (fun j hj hm=>?_)) (by omega)⟩
   ·have:=(Sx.SL.bR sS hj).1; have hm:=List.mem_singleton.1 hm; have:=a.box.lt; omega
   ·have:=(Sx.SL.bR sS hj).1; have hm:=List.mem_singleton.1 hm; omega
   ·have:=(Sx.SL.bR sS hj).1; have hm:=List.mem_singleton.1 hm; omega
  ·rw [hend]; rfl
open Go.Proofs
def runN:eF→List (Nat × ByteArray)→Except (Nat × Nat) eF
 | w,[]=>.ok w
 | w,x::l=>match ew w x.1 x.2 with
  | .error e=>.error (x.1,e)
  | .ok w'=>runN w' l
theorem rV:∀ (a b:List (Nat × ByteArray)) (w:eF),runN w (a++b)=match runN w a with
  | .error e=>.error e
  | .ok w'=>runN w' b
 | [],b,w=>rfl
 | x::a,b,w=>by
  simp only [List.cons_append,runN]
  cases ew w x.1 x.2 with
  | error e=>rfl
  | ok w1=>exact rV a b w1
theorem AV:∀ (f n:Nat) (s:ByteArray) (w:eF),runN w (Go.Proofs.aX f n s)=gF w n ((Go.Proofs.aX f n s).map (·.2))
 | 0,n,s,w=>rfl
 | f+1,n,s,w=>by
  unfold Go.Proofs.aX
  split
  ·rfl
  ·simp only [List.map_cons,runN,gF]
   cases ew w n (Ax s) with
   | error e=>rfl
   | ok w1=>exact AV f (n+1) (pd s) w1
theorem B3 (src:ByteArray):runN gH (Go.Proofs.aX (src.size+1) 1 src)=gF gH 1 (gD src):=by
 rw [AV,← xc]
 rfl
theorem Gb {a l:List (Nat × ByteArray)} {w:eF} {q:Nat × Nat} (h:a <+: l) (he:runN w a=.error q):runN w l=.error q:=by
 obtain ⟨t,rfl⟩:=h
 rw [rV,he]
theorem IV {src:ByteArray} {x:Nat × ByteArray} (h:x∈Go.Proofs.aX (src.size+1) 1 src):x.1≤src.size+1∧x.2.size≤src.size:=by
 obtain ⟨k,hk,rfl⟩:=List.getElem_of_mem h
 have h1:=xA _ _ _ _ _ (List.getElem?_eq_getElem hk)
 have h2:=Go.Proofs.ie (src.size+1) 1 src
 refine ⟨by omega,?_⟩
 have h3:(Go.Proofs.aX (src.size+1) 1 src)[k].2∈JH src:=by
  unfold JH
  exact List.mem_map_of_mem h
 rw [xc] at h3
 exact kD src _ h3
def rj (h:Hp) (i:Nat):Prop:=∃ c e f,h[i]?=some (.cells c e f)
theorem SL.rj {h:Hp} {b:Nat} {e:TypeId} {sz:Nat} {p:Option Addr} {l c:Nat} {xs:List (List Value)} (s:SL h b e sz p l c xs) {i:Nat} (hi:i∈az p):rj h i:=by
 cases p with
 | none=>simp [az] at hi
 | some a =>
  obtain ⟨g,pre,rest,rfl,hbg,hlc,hbox,hr⟩:=s.2.2
  simp [az] at hi
  subst hi
  exact ⟨_,_,_,hbox⟩
section
variable {h h':Hp} {b A g:Nat} {w:eF} {t d e q:bE} {ut ud:List (bE × bD)} {ue:List (bE × kl)} {ow:Nat→Nat}
open Classical in
theorem dz.nine (a:dz h b A g w t d e q ut ud ue ow):∃ ow',dz h b A g w t d e q ut ud ue ow'∧(∀ i,ow i=9→ow' i=9)∧∀ i o,h[i]?=some o→o.isCells=false→i≠g→ow' i=9:=by
 obtain ⟨ow',how⟩:∃ ow':Nat→Nat,ow'=fun i=>if (∃ o,h[i]?=some o∧o.isCells=false)∧i≠g then 9 else ow i:=⟨_,rfl⟩
 have hc:∀ i,rj h i→ow' i=ow i:=by
  rintro i ⟨c,e,f,hi⟩
  rw [how]
  refine if_neg ?_
  rintro ⟨⟨o,ho,hn⟩,_⟩
  rw [hi] at ho
  cases ho
  cases hn
 have C:=a.core
 refine ⟨ow',⟨⟨C.t1,C.t2,C.t3,C.d1,C.d2,C.d3,C.e1,C.e2,C.e3,fun i hi=>(hc i (SL.rj C.t1 hi)).trans (C.o3 i hi),fun i hi=>(hc i (SL.rj C.d1 hi)).trans (C.o4 i hi),fun i hi=>(hc i (SL.rj C.e1 hi)).trans (C.o5 i hi),
  fun u hu i hi=>(hc i (SL.rj (C.t2 u hu) hi)).trans (C.ot u hu i hi),fun u hu i hi=>(hc i (SL.rj (C.d2 u hu) hi)).trans (C.od u hu i hi),fun u hu i hi=>(hc i (SL.rj (C.e2 u hu) hi)).trans (C.oe u hu i hi)⟩,
  a.box,a.names,a.aG,(hc A ⟨_,_,_,a.box⟩).trans a.oA,?_,fun i hi=>(hc i (SL.rj a.aG hi)).trans (a.oq i hi),a.bA,a.bg⟩,?_,?_⟩
 ·rw [how]
  exact (if_neg (fun x=>x.2 rfl)).trans a.og
 ·intro i hi
  rw [how]
  simp only
  split
  ·rfl
  ·exact hi
 ·intro i o ho hn hg
  rw [how]
  exact if_pos ⟨⟨o,ho,hn⟩,hg⟩
theorem dz.grown {W W':World} {row:Option Nat} {v:Nat} (a:dz W.heap b A g w t d e q ut ud ue ow) (hv:ow v=9) (hg:W.grownBy W' row) (hr:∀ r,row=some r→g<r∧∃ o:Obj,W.heap[r]?=some o∧o.isCells=false) :
  ∃ ow',dz W'.heap b A g w t d e q ut ud ue ow'∧ow' v=9:=by
 obtain ⟨ow',a',h9,hn⟩:=a.nine
 have k:Ch row.toList W.heap W'.heap:=⟨hg.size,fun i hi hw=>hg.block i hi (fun e=>hw (by rw [← e]; simp))⟩
 refine ⟨ow',a'.af k (fun i hi hl _=>?_),h9 v hv⟩
 have hrow:row=some i:=by simpa using hi
 obtain ⟨h1,o,h2,h3⟩:=hr i hrow
 rw [hn i o h2 h3 (by omega)]
 omega
end
end Go.Sx.Ob
set_option linter.unusedVariables false
set_option linter.unusedSimpArgs false
set_option maxRecDepth 100000
namespace Go.Sx
theorem CW {P:Program} {fn:Func} {cuts:List Nat} {c:Code} {env:Env} {a:Act} {h:Hp} {K:Value→Hp→Prop} {dl:List Deferred} {t:T} (hm:P.follows .mixedOrders=true) (he:Ig P cuts fn c env=t) (ht:t [] K h) (g:iJ ⟨fn.ntmps,dl⟩ env a) :
  cW P c (fun x a h=>(x=.normal∨x=.ret)∧a.defers=dl∧(∀ s v,s∉cZ c→bS env s=some v→a.tmps.getD s undef=v)∧∃ v,K v h) a h:=by
 subst he
 unfold Ig at ht
 refine B7 (n:=⟨fn.ntmps,dl⟩) (NY hm) 100000 c env _ [] K _ a h ?_ ht g
 intro x e a h L' hp hx g' fr
 cases x <;> simp only at hx <;> first | exact hx.elim | skip
 ·obtain ⟨vs,hk,hres⟩:=pN g' hx
  exact ⟨.inl rfl,g'.defers,fun s v hs hv=>g'.get s v ((fr s hs).trans hv),_,hk⟩
 ·obtain ⟨vs,hk,hres⟩:=pN g' hx
  exact ⟨.inr rfl,g'.defers,fun s v hs hv=>g'.get s v ((fr s hs).trans hv),_,hk⟩
end Go.Sx
namespace Go.Proofs
open Go.Sx Go.Sx.Ob
theorem H6:2∉cZ (tV 7 Tryz.f10)∧3∉cZ (tV 7 Tryz.f10):=by
 have h:(cZ (tV 7 Tryz.f10)).contains 2=false:=by kernel_rfl
 have h':(cZ (tV 7 Tryz.f10)).contains 3=false:=by kernel_rfl
 exact ⟨fun x=>Bool.noConfusion ((List.contains_iff_mem.2 x).symm.trans h),fun x=>Bool.noConfusion ((List.contains_iff_mem.2 x).symm.trans h')⟩
theorem K9 {h:Hp} {u e v:Nat} {K:Value→Hp→Prop} (ht:dE u e v [] K h) {a:Act} {dl:List Deferred} {w:World} (hw:w.heap=h) (hs:a.tmps.size=Tryz.f10.ntmps) (hd:a.defers=dl) (g2:a.tmps.getD 2 undef=.pointer (some ⟨u,0,none⟩)) (g3:a.tmps.getD 3 undef=.pointer (some ⟨e,0,none⟩)) (g5:a.tmps.getD 5 undef=.pointer (some ⟨v,0,none⟩))
  {Q:Exit→Act→World→Prop} (hQ:∀ x a' w',(x=.normal∨x=.ret)→a'.defers=dl→a'.tmps.getD 2 undef=.pointer (some ⟨u,0,none⟩)→a'.tmps.getD 3 undef=.pointer (some ⟨e,0,none⟩)→bW w w'→(∃ v,K v w'.heap)→Q x a' w') :
  (tV 7 Tryz.f10).wp Tryz.prog Q a w:=by
 have hr:∀ (s:Nat) (x:Value),bS [(2,some (.pointer (some (⟨u,0,none⟩:Addr)))),(3,some (.pointer (some (⟨e,0,none⟩:Addr)))),(5,some (.pointer (some (⟨v,0,none⟩:Addr))))] s=some x→a.tmps.getD s undef=x:=by
  intro s x hx
  by_cases h2:s=2
  ·subst h2
   exact g2.trans (Option.some.inj hx)
  by_cases h3:s=3
  ·subst h3
   exact g3.trans (Option.some.inj hx)
  by_cases h5:s=5
  ·subst h5
   exact g5.trans (Option.some.inj hx)
  ·exfalso
   have b2:Nat.beq 2 s=false:=by rw [Bool.eq_false_iff]; intro hh; exact h2 (Nat.eq_of_beq_eq_true hh).symm
   have b3:Nat.beq 3 s=false:=by rw [Bool.eq_false_iff]; intro hh; exact h3 (Nat.eq_of_beq_eq_true hh).symm
   have b5:Nat.beq 5 s=false:=by rw [Bool.eq_false_iff]; intro hh; exact h5 (Nat.eq_of_beq_eq_true hh).symm
   have b2':Nat.beq s 2=false:=by rw [Bool.eq_false_iff]; intro hh; exact h2 (Nat.eq_of_beq_eq_true hh)
   have b3':Nat.beq s 3=false:=by rw [Bool.eq_false_iff]; intro hh; exact h3 (Nat.eq_of_beq_eq_true hh)
   have b5':Nat.beq s 5=false:=by rw [Bool.eq_false_iff]; intro hh; exact h5 (Nat.eq_of_beq_eq_true hh)
   simp [bS,b2,b3,b5,b2',b3',b5'] at hx
 have hc:=CW (P:=Tryz.prog) (dl:=dl) mixed (lN u e v) ht ⟨hs,hd,hr⟩
 refine Code.wp_mono (fun x a' w' ⟨so,hx,hd',hk,hv⟩=>hQ x a' w' hx hd' (hk 2 _ H6.1 rfl) (hk 3 _ H6.2 rfl) so hv) (hc w w (bW.refl _) hw)
end Go.Proofs
set_option linter.unusedVariables false
set_option linter.unusedSimpArgs false
set_option maxRecDepth 100000
namespace Go.Proofs
open Go.RowKit Go.Shelf Go.Sx.Ob
attribute [local go_sem] Oper.semAt_some
theorem fD.Ng {n x:Nat} {w w':World} (h:fD n x w w') (hn:n≤w.heap.size) (v:Value):fD n x w (w'.setCell ⟨x,0,none⟩ v) :=
 ⟨by simpa using h.1,fun k hk hx=>((grownBy_setCell' w' x v).block k (by have:=h.1; omega) (fun e=>hx (by cases e; rfl))).trans (h.2 k hk hx)⟩
theorem fD.alloc {n x:Nat} {w w':World} (h:fD n x w w') (hn:n≤w.heap.size) (o:Obj):fD n x w (w'.alloc o) :=
 ⟨by have:=h.1; simp; omega,fun k hk hx=>(Below.heap_alloc w' o k (by have:=h.1; omega)).trans (h.2 k hk hx)⟩
theorem fD.box {n x:Nat} {w w':World} (h:fD n x w w') {g:Nat} {e:TypeId} {xs:List Value} (b:Sx.aM w.heap g e xs) (hg:g<n) (hx:g≠x):Sx.aM w'.heap g e xs:=(h.2 g hg hx).trans b
theorem ik {w:World} {g off:Nat} {e:TypeId} {xs:List Value} (b:Sx.aM w.heap g e xs) (v:Value):Sx.aM (w.setCell ⟨g,off,none⟩ v).heap g e (xs.set off v):=(Sx.B9 b v).1
theorem bP {w:World} {g g' off:Nat} {e:TypeId} {xs:List Value} (b:Sx.aM w.heap g e xs) (hne:g≠g') (v:Value):Sx.aM (w.setCell ⟨g',off,none⟩ v).heap g e xs :=
 (Below.heap_setCell w ⟨g',off,none⟩ v g hne).trans b
theorem yh (w:World):(Instr.makeMap 70 none).run Tryz.prog w=.ok (.map (some w.heap.size)) (w.alloc (.map #[] 0)):=rfl
attribute [local go_sem] yh
theorem IK {src:ByteArray} {w:eF} (h1:¬ 65536<src.size) (h2:¬ 4096<(gD src).length) (hr:gF gH 1 (gD src)=.ok w):eA src=sM w:=by
 unfold eA sM
 rw [if_neg h1,if_neg h2,hr]
 rfl
theorem IC {src:ByteArray} {q:Nat × Nat} (h1:¬ 65536<src.size) (h2:¬ 4096<(gD src).length) (hr:gF gH 1 (gD src)=.error q):eA src=.error q:=by
 unfold eA
 rw [if_neg h1,if_neg h2,hr]
open Classical in
theorem Dj {h h':Sx.Hp} {b:Nat} {a b' c d:bE} {u:fU} (U:lO h b a b' c d u) (hs:h.size≤h'.size) (hc:∀ i,rj h i→h'[i]?=h[i]?):lO h' b a b' c d u:=by
 have k:Sx.Ch ((List.range h.size).filter (fun i=>decide (¬ rj h i))) h h':=⟨hs,fun i hi hn=>hc i (Classical.byContradiction fun hh=>hn (List.mem_filter.2 ⟨List.mem_range.2 hi,decide_eq_true hh⟩))⟩
 obtain ⟨ut,ud,ue,ow,C,S⟩:=U
 have f:∀ {e:TypeId} {sz:Nat} {p:Option Addr} {l c:Nat} {xs:List (List Value)},Sx.SL h b e sz p l c xs→Sx.SL h' b e sz p l c xs:=fun s=>Sx.SL.aO s k (fun i hi hm=>of_decide_eq_true (List.mem_filter.1 hm).2 (SL.rj s hi))
 exact ⟨ut,ud,ue,ow,⟨f C.t1,fun u hu=>f (C.t2 u hu),C.t3,f C.d1,fun u hu=>f (C.d2 u hu),C.d3,f C.e1,fun u hu=>f (C.e2 u hu),C.e3,C.o3,C.o4,C.o5,C.ot,C.od,C.oe⟩,f S⟩
theorem Cc {h h':Sx.Hp} {v:Value} {e:Option (Nat × Nat)} (E:oR h v e) (hc:∀ i,rj h i→h'[i]?=h[i]?):oR h' v e:=by
 cases e with
 | none=>exact E
 | some e =>
  obtain ⟨a,h1,h2⟩:=E
  exact ⟨a,h1,(hc a ⟨_,_,_,h2⟩).trans h2⟩
def Lo (src:ByteArray) (W:World) (e:Ending) (w':World):Prop :=
 ∃ (a b' c d:bE) (ev:Value),e=.returned (.tuple #[jM a b' c d,ev])∧lO w'.heap W.heap.size a b' c d (xi (eA src)).1∧oR w'.heap ev (vh (eA src))∧Below W.heap.size W w'
theorem xb {src:ByteArray} {W w':World} {q:Nat × Nat} {ax:Nat} (h:eA src=.error q) (b:Sx.aM w'.heap ax 63 [.int .i64 (q.1:Int),.int .i64 (q.2:Int)]) (hb:Below W.heap.size W w') :
  Lo src W (.returned (.tuple #[.agg #[.slice none 0 0,.slice none 0 0,.slice none 0 0,.slice none 0 0],.iface 59 (.pointer (some ⟨ax,0,none⟩))])) w' :=
 ⟨fV,fV,fV,fV,_,rfl,by rw [h]; exact lO.zero _ _,by rw [h]; exact ⟨ax,rfl,b⟩,hb⟩
set_option maxHeartbeats 4000000 in
theorem K1 (W:World) (src:ByteArray) (hl:Sx.Laid W.heap) (tb:pO W.heap) (m:Int) (hm:W.cell? ⟨2,0,none⟩=some (.int .i64 m)) :
  CallsIn Fence.wide 7 Tryz.prog 10 #[.string src] W (Lo src W):=by
 have hW3:2<W.heap.size:=JR hm
 refine callsIn_of_wp_marks Tryz.func10 rfl trivial ?_ rfl
 simp only [Tryz.ntmps10,List.size_toArray,List.length_cons,List.length_nil,Nat.reduceAdd,Nat.reduceSub,Array.replicate_succ,Array.replicate_zero,List.push_toArray,List.append_toArray,List.nil_append,List.cons_append]
 gi_wp2
 ·rename_i hbig
  refine Bb (b0:=W.heap.size) (p:=W.heap.size) (q:=W.heap.size+1) (ev:=.iface 59 (.pointer (some ⟨W.heap.size+1+1,0,none⟩))) ⟨[],rfl,by simp,by simp⟩ rfl rfl (((Sx.aM.new W.heap 27 [.slice none 0 0,.slice none 0 0,.slice none 0 0,.slice none 0 0]).af (Sx.Ext.push _ _) (by simp)).af (Sx.Ext.push _ _) (by simp)) ?_ ?_
  ·have h1:=Sx.aM.new (W.heap.push (.cells #[.slice none 0 0,.slice none 0 0,.slice none 0 0,.slice none 0 0] 27)) 29 [.iface 59 (.pointer (some ⟨W.heap.size+1+1,0,none⟩))]
   simp only [Array.size_push] at h1
   exact h1.af (Sx.Ext.push _ _) (by simp)
  ·intro w' hb hk
   have h2:=Sx.aM.new ((W.heap.push (.cells #[.slice none 0 0,.slice none 0 0,.slice none 0 0,.slice none 0 0] 27)).push (.cells #[.iface 59 (.pointer (some ⟨W.heap.size+1+1,0,none⟩))] 29)) 63 [.int .i64 (0:Int),.int .i64 (3:Int)]
   simp only [Array.size_push] at h2
   refine xb (q:=(0,3)) (by unfold eA; rw [if_pos (by omega)]) ((hk _ (by unfold Sx.aM at h2; erw [h2]; simp)).trans h2) ?_
   exact (((Below.refl _ W).alloc (Nat.le_refl _) _).alloc (by simp) _ |>.alloc (by simp; omega) _).trans hb
 have hsz:src.size≤65536:=by omega
 refine wW (Sx.DB src _) (fun v h' h=>h.2.2.1) ?_
 rintro _ w2 B2 ⟨rfl,b2,-,z2⟩
 have hu0:Sx.aM w2.heap W.heap.size 27 [.slice none 0 0,.slice none 0 0,.slice none 0 0,.slice none 0 0] :=
  (B2.block _ (by simp; omega)).trans (((Sx.aM.new W.heap 27 [.slice none 0 0,.slice none 0 0,.slice none 0 0,.slice none 0 0]).af (Sx.Ext.push _ _) (by simp)).af (Sx.Ext.push _ _) (by simp))
 have he0:Sx.aM w2.heap (W.heap.size+1) 29 [.nilIface]:=by
  have h1:=Sx.aM.new (W.heap.push (.cells #[.slice none 0 0,.slice none 0 0,.slice none 0 0,.slice none 0 0] 27)) 29 [.nilIface]
  simp only [Array.size_push] at h1
  exact (B2.block _ (by simp)).trans (h1.af (Sx.Ext.push _ _) (by simp))
 have hl0:Boxed w2 (W.heap.size+1+1) 3 (.int .i64 (0:Int)):=by
  have h1:=Boxed.new ((W.alloc (.cells #[.slice none 0 0,.slice none 0 0,.slice none 0 0,.slice none 0 0] 27)).alloc (.cells #[.nilIface] 29)) 3 (.int .i64 (0:Int))
  have h2:=E9 h1 B2 (by simp)
  simpa using h2
 have hb2:Boxed w2 (W.heap.size+1+1+1) 9 (.string src):=by
  have:Sx.aM w2.heap (W.heap.size+1+1+1) 9 [.string src]:=by simpa using b2
  exact this
 have BW:Below W.heap.size W w2:=((((Below.refl _ W).alloc (Nat.le_refl _) _).alloc (by simp) _).alloc (by simp; omega) _).trans (B2.mono (by simp; omega))
 have z2:w2.heap.size=W.heap.size+4:=by rw [z2]; simp
 clear B2 b2
 gi_wp2
 refine wpIn_rangeFunc_ownG (F:=Fence.wide) rfl (by omega) (gf:=62) (lb:=#[.pointer (some ⟨W.heap.size+1+1+1,0,none⟩)]) rfl trivial (enters_of Tryz.func62 (by kernel_rfl) rfl)
   (B' (W.heap.size+1+1+1) 3 src (by omega) Sx.AA m _ ((BW.cell (p:=⟨2,0,none⟩) hW3).trans hm) (by omega) (by omega) hb2.cell) belowK_t (belowK_b (by omega)) (Below.refl _ _) (fun _=>rfl)
   (fun pre W'=>Boxed W' (W.heap.size+1+1) 3 (.int .i64 (pre.length:Int))∧fD w2.heap.size (W.heap.size+1+1) w2 W'∧Sx.bW w2 W')
   (fun c pre W'=>False)
   (fun s A B row hs hg hr=>⟨boxed_own (β:=List (Nat × ByteArray)) _ 3 (fun pre=>.int .i64 (pre.length:Int)) s A B row hs.1 hg (fun r e=>(hr r e).2),AU (β:=Unit) (by simp) (Nat.le_refl _) () A B row hs.2.1 hg hr,⟨hg.os.trans hs.2.2.os,hg.tape.trans hs.2.2.tape,hg.output.trans hs.2.2.output⟩⟩)
   (fun c s A B row hs hg hr=>hs)
   ⟨hl0,⟨Nat.le_refl _,fun _ _ _=>rfl⟩,Sx.bW.refl _⟩
   (fun x=>{ tmps:=#[.string src,undef,.pointer (some ⟨W.heap.size,0,none⟩),.pointer (some ⟨W.heap.size+1,0,none⟩),.pointer (some ⟨W.heap.size+1+1,0,none⟩),undef,undef,undef,undef,undef,undef,undef,.string src,.int .i64 (src.size:Int),.bool (decide (65536<(src.size:Int))),undef,undef,undef,undef,.string src,.func (.func 62) #[] #[.pointer (some ⟨W.heap.size+1+1+1,0,none⟩)],.int .i64 (x.1:Int),.string x.2,undef,undef,undef,undef,undef,undef,undef,undef,undef,undef,undef,undef,undef,undef,undef,undef,undef,undef,undef,undef,undef,undef,undef,undef,undef,undef,undef,undef,undef,undef,undef,undef,undef,undef,undef,undef,undef,undef,undef,undef,undef,undef,undef,undef,undef,undef,undef,undef,undef,undef,undef,undef,undef,undef,undef,undef,undef,undef,undef,undef,undef,undef,undef,undef,undef,undef],defers:=[] }) ?assign ?body ?done ?stop
 case assign =>
  intro l x W' K hK
  unfold EN
  gi_wp2
  exact hK
 case stop =>
  intro D c pre W' hD hS hx
  exact hx.elim
 case body =>
  rintro l pre x W' ⟨bn,hsv,hso⟩ hlen
  have e1:=bn.cell
  have f1:=bn.frozen
  have hll:=ie (src.size+1) 1 src
  have hwr:wrap64 ((pre.length:Int)+1)=((pre.length+1:Nat):Int):=by
   rw [Go.IntWalk.wrap64_in _ ⟨by omega,by omega⟩]
   omega
  gi_wp2
  refine ⟨(KeepsOthers.setCell _ _ _).from _,(Below.refl _ W').setCell (p:=⟨W.heap.size+1+1,0,none⟩) (by show 3≤_+1+1; omega) _,?_,hsv.Ng (Nat.le_refl _) _,⟨hso.os,hso.tape,hso.output⟩⟩
  rw [show (((pre++[x]).length:Nat):Int)=(pre.length:Int)+1 by simp]
  exact bn.set _
 case done =>
  rintro D1 ys w3 hD1 rfl ⟨bn,hsv,hso⟩ hK1
  have e1:=bn.cell
  have hll:=ie (src.size+1) 1 src
  have hu3:=hsv.box hu0 (by omega) (by omega)
  have he3:=hsv.box he0 (by omega) (by omega)
  have hu4:=hu3.af (Sx.Ext.push w3.heap (.cells #[.int .i64 4097,.int .i64 4] 63)) (by simp)
  have he4:=he3.af (Sx.Ext.push w3.heap (.cells #[.int .i64 4097,.int .i64 4] 63)) (by simp)
  have c0:(w3.alloc (.cells #[.int .i64 4097,.int .i64 4] 63)).cell? ⟨W.heap.size,0,none⟩=some (.slice none 0 0):=hu4.cell.trans rfl
  have c1:(w3.alloc (.cells #[.int .i64 4097,.int .i64 4] 63)).cell? ⟨W.heap.size,1,none⟩=some (.slice none 0 0):=hu4.cell.trans rfl
  have c2:(w3.alloc (.cells #[.int .i64 4097,.int .i64 4] 63)).cell? ⟨W.heap.size,2,none⟩=some (.slice none 0 0):=hu4.cell.trans rfl
  have c3:(w3.alloc (.cells #[.int .i64 4097,.int .i64 4] 63)).cell? ⟨W.heap.size,3,none⟩=some (.slice none 0 0):=hu4.cell.trans rfl
  have c4:(w3.alloc (.cells #[.int .i64 4097,.int .i64 4] 63)).cell? ⟨W.heap.size+1,0,none⟩=some .nilIface:=he4.cell.trans rfl
  have f0:(w3.alloc (.cells #[.int .i64 4097,.int .i64 4] 63)).frozen? ⟨W.heap.size,0,none⟩=false:=hu4.frozen
  have f1:(w3.alloc (.cells #[.int .i64 4097,.int .i64 4] 63)).frozen? ⟨W.heap.size,1,none⟩=false:=hu4.frozen
  have f2:(w3.alloc (.cells #[.int .i64 4097,.int .i64 4] 63)).frozen? ⟨W.heap.size,2,none⟩=false:=hu4.frozen
  have f3:(w3.alloc (.cells #[.int .i64 4097,.int .i64 4] 63)).frozen? ⟨W.heap.size,3,none⟩=false:=hu4.frozen
  have f4:(w3.alloc (.cells #[.int .i64 4097,.int .i64 4] 63)).frozen? ⟨W.heap.size+1,0,none⟩=false:=he4.frozen
  have BW3:Below W.heap.size W w3:=⟨hso.os.trans BW.os,hso.tape.trans BW.tape,hso.output.trans BW.output,by have:=hsv.1; omega,fun k hk=>(hsv.2 k (by omega) (by omega)).trans (BW.block k hk)⟩
  have hD1l:D1<w3.heap.size:=(Array.getElem?_eq_some_iff.1 hK1).1
  gi_wp2
  ·rename_i hmany
   have hu5:=bP (g':=W.heap.size+1) (off:=0) (ik (off:=3) (ik (off:=2) (ik (off:=1) (ik (off:=0) (w:=w3.alloc (.cells #[.int .i64 4097,.int .i64 4] 63)) hu4 (.slice none 0 0)) (.slice none 0 0)) (.slice none 0 0)) (.slice none 0 0)) (by omega) (.iface 59 (.pointer (some ⟨w3.heap.size,0,none⟩)))
   have he5:=ik (off:=0) (bP (g':=W.heap.size) (off:=3) (bP (g':=W.heap.size) (off:=2) (bP (g':=W.heap.size) (off:=1) (bP (g':=W.heap.size) (off:=0) (w:=w3.alloc (.cells #[.int .i64 4097,.int .i64 4] 63)) he4 (by omega) (.slice none 0 0)) (by omega) (.slice none 0 0)) (by omega) (.slice none 0 0)) (by omega) (.slice none 0 0)) (.iface 59 (.pointer (some ⟨w3.heap.size,0,none⟩)))
   have hx5:=bP (g':=W.heap.size+1) (off:=0) (bP (g':=W.heap.size) (off:=3) (bP (g':=W.heap.size) (off:=2) (bP (g':=W.heap.size) (off:=1) (bP (g':=W.heap.size) (off:=0) (w:=w3.alloc (.cells #[.int .i64 4097,.int .i64 4] 63)) (Sx.aM.new w3.heap 63 [.int .i64 4097,.int .i64 4]) (by have:=hsv.1; omega) (.slice none 0 0)) (by have:=hsv.1; omega) (.slice none 0 0)) (by have:=hsv.1; omega) (.slice none 0 0)) (by have:=hsv.1; omega) (.slice none 0 0)) (by have:=hsv.1; omega) (.iface 59 (.pointer (some ⟨w3.heap.size,0,none⟩)))
   refine Bb (b0:=W.heap.size) (p:=W.heap.size) (q:=W.heap.size+1) (ev:=.iface 59 (.pointer (some ⟨w3.heap.size,0,none⟩))) ⟨[D1],rfl,by simp,?_⟩ rfl rfl hu5 he5 ?_
   ·intro D hD
    have hD:=List.mem_singleton.1 hD
    subst hD
    have da:D≠W.heap.size:=by omega
    have db:D≠W.heap.size+1:=by omega
    refine ⟨by omega,?_⟩
    refine (Below.heap_setCell _ _ _ _ db).trans ?_
    refine (Below.heap_setCell _ _ _ _ da).trans ?_
    refine (Below.heap_setCell _ _ _ _ da).trans ?_
    refine (Below.heap_setCell _ _ _ _ da).trans ?_
    refine (Below.heap_setCell _ _ _ _ da).trans ?_
    exact (Below.heap_alloc w3 _ D hD1l).trans hK1
   ·intro w' hb hk
    refine xb (q:=(4097,4)) (by unfold eA; rw [if_neg (by omega),if_pos (by rw [← Sx.Ob.xc]; unfold Sx.JH; rw [List.length_map]; omega)]) ((hk _ (by unfold Sx.aM at hx5; erw [hx5]; simp)).trans hx5) ?_
    exact ((((((BW3.alloc BW3.size _).setCell (p:=⟨W.heap.size,0,none⟩) (Nat.le_refl _) _).setCell (p:=⟨W.heap.size,1,none⟩) (Nat.le_refl _) _).setCell (p:=⟨W.heap.size,2,none⟩) (Nat.le_refl _) _).setCell (p:=⟨W.heap.size,3,none⟩) (Nat.le_refl _) _).setCell (p:=⟨W.heap.size+1,0,none⟩) (by show _≤_+1; omega) _).trans hb
  clear c0 c1 c2 c3 c4 f0 f1 f2 f3 f4 hu4 he4 e1
  refine wW (Sx.DB src _) (fun v h' h=>h.2.2.1) ?_
  rintro _ w5 B5 ⟨rfl,b5,-,z5⟩
  have z35:w5.heap.size=w3.heap.size+4:=by rw [z5]; simp
  have hold:∀ k,k<w3.heap.size→w5.heap[k]?=w3.heap[k]?:=fun k hk=>(B5.block k (by simp; omega)).trans ((Below.heap_alloc _ _ k (by simp; omega)).trans ((Below.heap_alloc _ _ k (by simp; omega)).trans (Below.heap_alloc _ _ k hk)))
  have hso5:Sx.bW W w5:=⟨B5.os.trans BW3.os,B5.tape.trans BW3.tape,B5.output.trans BW3.output⟩
  have hgm:w5.heap[w3.heap.size]?=some (.map #[] 0):=(B5.block _ (by simp; omega)).trans ((Below.heap_alloc _ _ _ (by simp; omega)).trans ((Below.heap_alloc _ _ _ (by simp)).trans (World.alloc_heap_new w3 _)))
  have hA5:Sx.aM w5.heap (w3.heap.size+1) 73 (lM fV fV fV 0 0 w3.heap.size fV):=by
   refine (B5.block _ (by simp)).trans ((Below.heap_alloc _ _ _ (by simp)).trans ?_)
   have:=World.alloc_heap_new (w3.alloc (.map #[] 0)) (.cells (lM fV fV fV 0 0 w3.heap.size fV).toArray 73)
   rwa [show (w3.alloc (.map #[] 0)).heap.size=w3.heap.size+1 by simp] at this
  have hv5:Sx.aM w5.heap (w3.heap.size+2) 69 [.pointer (some ⟨w3.heap.size+1,0,none⟩)]:=by
   refine (B5.block _ (by simp)).trans ?_
   have:=World.alloc_heap_new ((w3.alloc (.map #[] 0)).alloc (.cells (lM fV fV fV 0 0 w3.heap.size fV).toArray 73)) (.cells #[.pointer (some ⟨w3.heap.size+1,0,none⟩)] 69)
   rwa [show ((w3.alloc (.map #[] 0)).alloc (.cells (lM fV fV fV 0 0 w3.heap.size fV).toArray 73)).heap.size=w3.heap.size+2 by simp] at this
  have hs5:Boxed w5 (w3.heap.size+3) 9 (.string src):=by
   have h1:Sx.aM w5.heap (w3.heap.size+3) 9 [.string src]:=by simpa using b5
   exact h1
  clear B5 b5 z5
  have ha5:dz w5.heap w3.heap.size (w3.heap.size+1) w3.heap.size gH fV fV fV fV [] [] [] (fun i=>if i=w3.heap.size+1 then 6 else if i=w3.heap.size then 7 else 9) :=
   ⟨Core.nil _ _ _,hA5,⟨0,Sx.Ob.to.new ⟨#[],0,hgm,rfl,⟨by simp,by simp,by simp⟩,by simp⟩⟩,Sx.SL.nil _ _ _ _,if_pos rfl,by simp,by simp [fV,Sx.az],by omega,Nat.le_refl _⟩
  have hnum:((aX (src.size+1) 1 src).length:Int)≤4096:=by omega
  gi_wp2
  refine wpIn_rangeFunc_ownG (F:=Fence.wide) rfl (by omega) (gf:=62) (lb:=#[.pointer (some ⟨w3.heap.size+3,0,none⟩)]) rfl trivial (enters_of Tryz.func62 (by kernel_rfl) rfl)
   (Fa (w3.heap.size+3) 3 src (by omega) Sx.AA m _ (by
    have h1:w5.heap[2]?=W.heap[2]?:=(hold 2 (by have:=BW3.size; omega)).trans (BW3.block 2 hW3)
    exact (World.cell?_of_block (a:=⟨2,0,none⟩) h1).trans hm) (by omega) (by omega) hs5.cell) belowK_t (belowK_b (by omega)) (Below.refl _ _) (fun _=>rfl)
   (fun pre W'=>Sx.bW W W'∧w5.heap.size≤W'.heap.size∧(∀ k,k<w3.heap.size→W'.heap[k]?=w3.heap[k]?)∧Sx.aM W'.heap (w3.heap.size+2) 69 [.pointer (some ⟨w3.heap.size+1,0,none⟩)] ∧
    ∃ w t d e q ut ud ue ow,Sx.Ob.runN gH (pre.map (·.1))=.ok w∧dz W'.heap w3.heap.size (w3.heap.size+1) w3.heap.size w t d e q ut ud ue ow∧ow (w3.heap.size+2)=9∧CE w∧w.aQ.length≤pre.length∧w.aG.length≤pre.length)
   (fun c pre W'=>c=.ret∧Sx.bW W W'∧w5.heap.size≤W'.heap.size∧(∀ k,k<w3.heap.size→k≠W.heap.size→k≠W.heap.size+1→W'.heap[k]?=w3.heap[k]?)∧∃ q ax,Sx.Ob.runN gH (pre.map (·.1))=.error q∧Sx.aM W'.heap W.heap.size 27 [.slice none 0 0,.slice none 0 0,.slice none 0 0,.slice none 0 0]∧Sx.aM W'.heap (W.heap.size+1) 29 [.iface 59 (.pointer (some ⟨ax,0,none⟩))]∧Sx.aM W'.heap ax 63 [.int .i64 (q.1:Int),.int .i64 (q.2:Int)])
   ?own1 ?own2 ?start
   (fun y=>(fun (x:Nat × ByteArray)=>{ tmps:=#[.string src,undef,.pointer (some ⟨W.heap.size,0,none⟩),.pointer (some ⟨W.heap.size+1,0,none⟩),.pointer (some ⟨W.heap.size+1+1,0,none⟩),.pointer (some ⟨(w3.heap.size+2),0,none⟩),.int .i64 (x.1:Int),.string x.2,undef,undef,undef,undef,.string src,.int .i64 (src.size:Int),.bool (decide (65536<(src.size:Int))),undef,undef,undef,undef,.string src,.func (.func 62) #[] #[.pointer (some ⟨W.heap.size+1+1+1,0,none⟩)],undef,undef,undef,undef,.int .i64 ((aX (src.size+1) 1 src).length:Int),.bool (decide (4096<((aX (src.size+1) 1 src).length:Int))),undef,undef,undef,undef,.map (some w3.heap.size),.agg #[.slice none 0 0,.slice none 0 0,.slice none 0 0,.slice none 0 0,.int .i64 0,.int .i64 0,.map (some w3.heap.size),.slice none 0 0],.pointer (some ⟨(w3.heap.size+1),0,none⟩),.string src,.func (.func 62) #[] #[.pointer (some ⟨w3.heap.size+3,0,none⟩)],.int .i64 (x.1:Int),.string x.2,undef,undef,undef,undef,undef,undef,undef,undef,undef,undef,undef,undef,undef,undef,undef,undef,undef,undef,undef,undef,undef,undef,undef,undef,undef,undef,undef,undef,undef,undef,undef,undef,undef,undef,undef,undef,undef,undef,undef,undef,undef,undef,undef,undef,undef,undef,undef,undef,undef,undef,undef],defers:=[] }) y.1) ?assign ?body ?done ?stop
  case own1 =>
   rintro s A B row ⟨so,sz,ho,hb,w,t,d,e,q,ut,ud,ue,ow,hr,ha,h9,hW,hE,hG⟩ hg hrow
   refine ⟨⟨hg.os.trans so.os,hg.tape.trans so.tape,hg.output.trans so.output⟩,Nat.le_trans sz hg.size,fun k hk=>(hg.block k (by omega) (fun e=>by have:=(hrow k e.symm).1; omega)).trans (ho k hk),?_,?_⟩
   ·exact (hg.block _ (by omega) (fun e=>by have:=(hrow _ e.symm).1; omega)).trans hb
   ·obtain ⟨ow',a',h9'⟩:=ha.grown h9 hg (fun r e=>⟨by have:=(hrow r e).1; omega,(hrow r e).2⟩)
    exact ⟨w,t,d,e,q,ut,ud,ue,ow',hr,a',h9',hW,hE,hG⟩
  case own2 =>
   rintro c s A B row ⟨hc,so,sz,ho,q,ax,hq,h1,h2,h3⟩ hg hrow
   refine ⟨hc,⟨hg.os.trans so.os,hg.tape.trans so.tape,hg.output.trans so.output⟩,Nat.le_trans sz hg.size,fun k hk n1 n2=>(hg.block k (by omega) (fun e=>by have:=(hrow k e.symm).1; omega)).trans (ho k hk n1 n2),q,ax,hq,?_,?_,?_⟩
   ·exact (hg.block _ h1.lt (fun e=>by have:=(hrow _ e.symm).1; omega)).trans h1
   ·exact (hg.block _ h2.lt (fun e=>by have:=(hrow _ e.symm).1; omega)).trans h2
   ·refine (hg.block _ h3.lt (fun e=>?_)).trans h3
    obtain ⟨_,o,ho,hn⟩:=hrow _ e.symm
    rw [show A.heap[ax]?=_ from h3] at ho
    cases ho
    cases hn
  case start =>
   exact ⟨hso5,Nat.le_refl _,hold,hv5,gH,fV,fV,fV,fV,[],[],[],_,rfl,ha5,by rw [if_neg (by omega),if_neg (by omega)],CE.z,by simp [gH],by simp [gH]⟩
  case assign =>
   intro l x W' K hK
   unfold EN
   gi_wp2
   exact hK
  case body =>
   rintro l pre x W' ⟨so,sz,ho,hb,w,t,d,e,q,ut,ud,ue,ow,hr,ha,h9,hW,hE,hG⟩ hlen
   have c0:W'.cell? ⟨w3.heap.size+2,0,none⟩=some (.pointer (some ⟨w3.heap.size+1,0,none⟩)):=hb.cell.trans rfl
   have E0:Sx.Ext W.heap W'.heap:=⟨by omega,fun k hk _=>(ho k (by omega)).trans (BW3.block k hk)⟩
   have tb':=tb.af E0 (by simp)
   have ld':=hl.ext E0
   obtain ⟨ow1,ha1,h91,hn1⟩:=ha.nine
   have hx:=IV x.2
   gi_wp2
   have z3:w3.heap.size≤W'.heap.size:=by omega
   refine An (JO tb' ld' ha1 z3 hW (by omega) (by omega) (n:=x.1.1) (by omega) x.1.2 (by omega) (qq:=fun i=>i<W'.heap.size∧(i=w3.heap.size+2∨((∃ o,W'.heap[i]?=some o∧o.isCells=false)∧i≠w3.heap.size))) (fun i h=>h.1) ?_) ?_
   ·rintro i ⟨hi,rfl | ⟨⟨o,h1,h2⟩,h3⟩⟩
    ·exact h91 _ h9
    ·exact hn1 i o h1 h2 h3
   intro v w7 so7 hR
   cases hlw:ew w x.1.1 x.1.2 with
   | error e0 =>
    rw [hlw] at hR
    obtain ⟨rfl,he0,ext⟩:=hR
    have z7:=ext.size
    have hu6:Sx.aM W'.heap W.heap.size 27 [.slice none 0 0,.slice none 0 0,.slice none 0 0,.slice none 0 0]:=(ho _ (by omega)).trans hu3
    have he6:Sx.aM W'.heap (W.heap.size+1) 29 [.nilIface]:=(ho _ (by omega)).trans he3
    have hu7:=hu6.af ext (by simp)
    have he7:=he6.af ext (by simp)
    have hu8:=hu7.af (Sx.Ext.push w7.heap (.cells #[.int .i64 (x.1.1:Int),.int .i64 (e0:Int)] 63)) (by simp)
    have he8:=he7.af (Sx.Ext.push w7.heap (.cells #[.int .i64 (x.1.1:Int),.int .i64 (e0:Int)] 63)) (by simp)
    have d0:(w7.alloc (.cells #[.int .i64 (x.1.1:Int),.int .i64 (e0:Int)] 63)).cell? ⟨W.heap.size,0,none⟩=some (.slice none 0 0):=hu8.cell.trans rfl
    have d1:(w7.alloc (.cells #[.int .i64 (x.1.1:Int),.int .i64 (e0:Int)] 63)).cell? ⟨W.heap.size,1,none⟩=some (.slice none 0 0):=hu8.cell.trans rfl
    have d2:(w7.alloc (.cells #[.int .i64 (x.1.1:Int),.int .i64 (e0:Int)] 63)).cell? ⟨W.heap.size,2,none⟩=some (.slice none 0 0):=hu8.cell.trans rfl
    have d3:(w7.alloc (.cells #[.int .i64 (x.1.1:Int),.int .i64 (e0:Int)] 63)).cell? ⟨W.heap.size,3,none⟩=some (.slice none 0 0):=hu8.cell.trans rfl
    have d4:(w7.alloc (.cells #[.int .i64 (x.1.1:Int),.int .i64 (e0:Int)] 63)).cell? ⟨W.heap.size+1,0,none⟩=some .nilIface:=he8.cell.trans rfl
    have f0:(w7.alloc (.cells #[.int .i64 (x.1.1:Int),.int .i64 (e0:Int)] 63)).frozen? ⟨W.heap.size,0,none⟩=false:=hu8.frozen
    have f1:(w7.alloc (.cells #[.int .i64 (x.1.1:Int),.int .i64 (e0:Int)] 63)).frozen? ⟨W.heap.size,1,none⟩=false:=hu8.frozen
    have f2:(w7.alloc (.cells #[.int .i64 (x.1.1:Int),.int .i64 (e0:Int)] 63)).frozen? ⟨W.heap.size,2,none⟩=false:=hu8.frozen
    have f3:(w7.alloc (.cells #[.int .i64 (x.1.1:Int),.int .i64 (e0:Int)] 63)).frozen? ⟨W.heap.size,3,none⟩=false:=hu8.frozen
    have f4:(w7.alloc (.cells #[.int .i64 (x.1.1:Int),.int .i64 (e0:Int)] 63)).frozen? ⟨W.heap.size+1,0,none⟩=false:=he8.frozen
    gi_wp2
    ·rename_i hne
     have hg5:w5.heap.size≤w7.heap.size:=by omega
     have hx8:=Sx.aM.new w7.heap 63 [.int .i64 (x.1.1:Int),.int .i64 (e0:Int)]
     have hu9:=bP (g':=W.heap.size+1) (off:=0) (ik (off:=3) (ik (off:=2) (ik (off:=1) (ik (off:=0) (w:=w7.alloc (.cells #[.int .i64 (x.1.1:Int),.int .i64 (e0:Int)] 63)) hu8 (.slice none 0 0)) (.slice none 0 0)) (.slice none 0 0)) (.slice none 0 0)) (by omega) (.iface 59 (.pointer (some ⟨w7.heap.size,0,none⟩)))
     have he9:=ik (off:=0) (bP (g':=W.heap.size) (off:=3) (bP (g':=W.heap.size) (off:=2) (bP (g':=W.heap.size) (off:=1) (bP (g':=W.heap.size) (off:=0) (w:=w7.alloc (.cells #[.int .i64 (x.1.1:Int),.int .i64 (e0:Int)] 63)) he8 (by omega) (.slice none 0 0)) (by omega) (.slice none 0 0)) (by omega) (.slice none 0 0)) (by omega) (.slice none 0 0)) (.iface 59 (.pointer (some ⟨w7.heap.size,0,none⟩)))
     have hx9:=bP (g':=W.heap.size+1) (off:=0) (bP (g':=W.heap.size) (off:=3) (bP (g':=W.heap.size) (off:=2) (bP (g':=W.heap.size) (off:=1) (bP (g':=W.heap.size) (off:=0) (w:=w7.alloc (.cells #[.int .i64 (x.1.1:Int),.int .i64 (e0:Int)] 63)) hx8 (by omega) (.slice none 0 0)) (by omega) (.slice none 0 0)) (by omega) (.slice none 0 0)) (by omega) (.slice none 0 0)) (by omega) (.iface 59 (.pointer (some ⟨w7.heap.size,0,none⟩)))
     have kk:∀ k,k<W'.heap.size→k≠W.heap.size→k≠W.heap.size+1→((((((w7.alloc (.cells #[.int .i64 (x.1.1:Int),.int .i64 (e0:Int)] 63)).setCell ⟨W.heap.size,0,none⟩ (.slice none 0 0)).setCell ⟨W.heap.size,1,none⟩ (.slice none 0 0)).setCell ⟨W.heap.size,2,none⟩ (.slice none 0 0)).setCell ⟨W.heap.size,3,none⟩ (.slice none 0 0)).setCell ⟨W.heap.size+1,0,none⟩ (.iface 59 (.pointer (some ⟨w7.heap.size,0,none⟩)))).heap[k]?=W'.heap[k]?:=by
      intro k hk n1 n2
      refine (Below.heap_setCell _ _ _ _ n2).trans ?_
      refine (Below.heap_setCell _ _ _ _ n1).trans ?_
      refine (Below.heap_setCell _ _ _ _ n1).trans ?_
      refine (Below.heap_setCell _ _ _ _ n1).trans ?_
      refine (Below.heap_setCell _ _ _ _ n1).trans ?_
      exact (Below.heap_alloc w7 _ k (by omega)).trans (ext.same k hk (by simp))
     refine ⟨⟨by simp; omega,fun k o hk h1 h2=>(kk k (Array.getElem?_eq_some_iff.1 h1).1 (by omega) (by omega)).trans h1⟩,rfl,⟨so7.os.trans so.os,so7.tape.trans so.tape,so7.output.trans so.output⟩,by simp; omega,fun k hk n1 n2=>(kk k (by omega) n1 n2).trans (ho k hk),(x.1.1,e0),w7.heap.size,?_,hu9,he9,hx9⟩
     rw [List.map_append,Sx.Ob.rV,hr]
     simp only [List.map_cons,List.map_nil,Sx.Ob.runN,hlw]
   | ok w1 =>
    rw [hlw] at hR
    obtain ⟨rfl,t',d',e',q',ut',ud',ue',ow2,a2,A2⟩:=hR
    have hsame:=A2.same
    have z7:=A2.size
    have hl2:=wz hlw
    gi_wp2
    refine ⟨⟨z7,fun k o hk h1 h2=>(hsame k (Array.getElem?_eq_some_iff.1 h1).1 (.inr ⟨(Array.getElem?_eq_some_iff.1 h1).1,.inr ⟨⟨o,h1,h2⟩,by omega⟩⟩)).trans h1⟩,⟨so7.os,so7.tape,so7.output,z7,fun k hk=>hsame k (by omega) (.inl (by omega))⟩,⟨so7.os.trans so.os,so7.tape.trans so.tape,so7.output.trans so.output⟩,Nat.le_trans sz z7,fun k hk=>(hsame k (by omega) (.inl hk)).trans (ho k hk),?_,?_⟩
    ·exact (hsame _ (by omega) (.inr ⟨by omega,.inl rfl⟩)).trans hb
    ·refine ⟨w1,t',d',e',q',ut',ud',ue',ow2,?_,a2,A2.qo _ ⟨by omega,.inl rfl⟩,Cb (by omega) hW hlw,?_,?_⟩
     ·rw [List.map_append,Sx.Ob.rV,hr]
      simp only [List.map_cons,List.map_nil,Sx.Ob.runN,hlw]
     ·rw [List.length_append]; simp only [List.length_cons,List.length_nil]; omega
     ·rw [List.length_append]; simp only [List.length_cons,List.length_nil]; omega
  case done =>
   rintro D2 ys w6 hD2 hys ⟨so,sz,ho,hb,w,t,d,e,q,ut,ud,ue,ow,hr,ha,h9,hW,hE,hG⟩ hK2
   have hrun:gF gH 1 (gD src)=.ok w:=by rw [← B3,← hys]; exact hr
   have hyl:ys.length=(aX (src.size+1) 1 src).length:=by have h0:=congrArg List.length hys; rwa [List.length_map] at h0
   have hasm:eA src=sM w:=IK (by omega) (by rw [← Sx.Ob.xc]; unfold Sx.JH; rw [List.length_map]; omega) hrun
   have hu6:Sx.aM w6.heap W.heap.size 27 [.slice none 0 0,.slice none 0 0,.slice none 0 0,.slice none 0 0]:=(ho _ (by omega)).trans hu3
   have he6:Sx.aM w6.heap (W.heap.size+1) 29 [.nilIface]:=(ho _ (by omega)).trans he3
   have hrest:=JA ha hW (by omega) (u:=W.heap.size) (e:=W.heap.size+1) (v:=w3.heap.size+2) (by omega) (by omega) (by omega) (by omega) h9 hu6 rfl he6 hb
   rename_i K hK
   refine hK _ _ ?_
   refine wpIn_wide.2 (K9 hrest (w:=w6) rfl rfl rfl rfl rfl rfl ?_)
   rintro x a' w7 hx hd' g2 g3 so7 ⟨v,k7,a,b',c,dd,ev,rfl,hU,hEr,hb1,hb2'⟩
   have D2l:D2<w6.heap.size:=(Array.getElem?_eq_some_iff.1 hK2).1
   have hm:Marks W.heap.size a'.defers w7:=by
    refine ⟨[D2,D1],hd',?_,?_⟩
    ·simp only [List.nodup_cons,List.mem_singleton,List.not_mem_nil,not_false_eq_true,List.nodup_nil,and_true]
     omega
    ·intro D hD
     rcases List.mem_cons.1 hD with rfl | hD
     ·refine ⟨by omega,(k7.same D D2l ?_).trans hK2⟩
      simp only [List.mem_cons,List.not_mem_nil,or_false]
      omega
     ·have hD:=List.mem_singleton.1 hD
      subst hD
      refine ⟨by omega,(k7.same D (by omega) ?_).trans ((ho D (by omega)).trans hK1)⟩
      simp only [List.mem_cons,List.not_mem_nil,or_false]
      omega
   have hfin:∀ w':World,Below W.heap.size w7 w'→(∀ B:Nat,w7.heap[B]?≠some (Obj.deferred (some []))→w'.heap[B]?=w7.heap[B]?)→Lo src W (.returned (.tuple #[jM a b' c dd,ev])) w':=by
    intro w' hb8 hk8
    have hcl:∀ i,rj w7.heap i→w'.heap[i]?=w7.heap[i]?:=by
     rintro i ⟨c,e,f,hi⟩
     exact hk8 i (by rw [hi]; simp)
    refine ⟨a,b',c,dd,ev,rfl,?_,?_,?_⟩
    ·rw [hasm]
     exact Dj (hU.mono (by omega)) hb8.size hcl
    ·rw [hasm]
     exact Cc hEr hcl
    ·refine Below.trans ⟨so7.os.trans so.os,so7.tape.trans so.tape,so7.output.trans so.output,by have:=k7.size; omega,fun k hk'=>?_⟩ hb8
     refine (k7.same k (by omega) ?_).trans ((ho k (by omega)).trans (BW3.block k hk'))
     simp only [List.mem_cons,List.not_mem_nil,or_false]
     omega
   rcases hx with rfl | rfl
   ·exact Bb (b0:=W.heap.size) hm g2 g3 hb1 hb2' hfin
   ·exact Bb (b0:=W.heap.size) hm g2 g3 hb1 hb2' hfin
  case stop =>
   rintro D2 c pre w6 hD2 hpre ⟨rfl,so,sz,ho,q,ax,hq,h1,h2,h3⟩ hK2
   have D2l:D2<w6.heap.size:=(Array.getElem?_eq_some_iff.1 hK2).1
   have hasm:eA src=.error q:=IC (by omega) (by rw [← Sx.Ob.xc]; unfold Sx.JH; rw [List.length_map]; omega) (by rw [← B3]; exact Gb hpre hq)
   gi_wp2
   refine Bb (b0:=W.heap.size) (p:=W.heap.size) (q:=W.heap.size+1) (ev:=.iface 59 (.pointer (some ⟨ax,0,none⟩))) ⟨[D2,D1],rfl,?_,?_⟩ rfl rfl h1 h2 ?_
   ·simp only [List.nodup_cons,List.mem_singleton,List.not_mem_nil,not_false_eq_true,List.nodup_nil,and_true]
    omega
   ·intro D hD
    rcases List.mem_cons.1 hD with rfl | hD
    ·exact ⟨by omega,hK2⟩
    ·have hD:=List.mem_singleton.1 hD
     subst hD
     exact ⟨by omega,(ho D (by omega) (by omega) (by omega)).trans hK1⟩
   ·intro w' hb hk
    refine xb (q:=q) hasm ((hk _ (by unfold Sx.aM at h3; erw [h3]; simp)).trans h3) ?_
    exact Below.trans ⟨so.os,so.tape,so.output,by omega,fun k hk'=>(ho k (by omega) (by omega) (by omega)).trans (BW3.block k hk')⟩ hb
end Go.Proofs
set_option linter.unusedVariables false
set_option linter.unusedSimpArgs false
set_option maxRecDepth 100000
namespace Go.Sx.Ob
open Go.Proofs
def LF (s:ByteArray) (h:Hp) (v:Value) (h':Hp):Prop:=Ext h h'∧∃ (a b c d:bE) (ev:Value),v=.tuple #[jM a b c d,ev]∧lO h' h.size a b c d (xi (eA s)).1∧oR h' ev (vh (eA s))
theorem Lm (s:ByteArray) (h:Hp) (hl:Laid h) (tb:pO h) (m:Int) (hm:∀ W:World,W.heap=h→W.cell? ⟨2,0,none⟩=some (.int .i64 m)):HC Tryz.prog 10 #[.string s] h (LF s h):=by
 intro W hW
 subst hW
 refine callsIn_wide.1 ((K1 W s hl tb m (hm W rfl)).mono ?_)
 rintro e w' ⟨a,b,c,d,ev,rfl,hU,hE,hB⟩
 exact ⟨_,rfl,⟨hB.os,hB.tape,hB.output⟩,⟨hB.size,fun i hi _=>hB.block i hi⟩,a,b,c,d,ev,rfl,hU,hE⟩
structure qn (u:fU):Prop where
 text:∀ x,x∈u.text→zk x
 data:∀ x,x∈u.data→zk x
 aQ:∀ x,x∈u.aQ→uz x.2∧x.1.size<65536
 aG:∀ x,x∈u.aG→x.size<65536
 m1:u.text.length+u.data.length≤8192
 m2:u.aQ.length≤4096
 m3:u.aG.length≤4096
theorem qn.z:qn tS:=⟨by simp [tS],by simp [tS],by simp [tS],by simp [tS],by simp [tS],by simp [tS],by simp [tS]⟩
theorem HP {x:fa} {n:Nat} (hn:n≤65535) (g:Good x) (hx:x.aC.length≤n):uz x :=
 ⟨by omega,fun t ht=>⟨by have:=jG (g.zD t ht); omega,(g.nf.Im t ht).2⟩,g.num⟩
theorem Gl {x:bD} {k n:Nat} (hn:n≤65535) (hr:dj x k=true) (g:Good x.e) (hx:Bd n x):zk x:=by
 refine ⟨HP hn g hx,?_,?_⟩
 ·have z:z1 x=true→x.name.size<65536:=fun e=>by
   have e:x.name=bT:=of_decide_eq_true e
   rw [e]; decide
  unfold dj at hr
  repeat' split at hr
  all_goals try simp only [Bool.and_eq_true] at hr
  ·have:=jG hr.1.1.1
   omega
  all_goals first | exact z hr.1.1.1 | exact z hr.1.1 | exact z hr.1.2 | exact z hr.1.1.1.2 | exact z hr.1.1.2 | (cases hr; done)
 ·have z:z2 x=true→Sm x.inst.op:=fun e=>by
   have e:x.inst=js:=of_decide_eq_true e
   rw [e]; unfold Sm js; simp
  unfold dj at hr
  repeat' split at hr
  all_goals try simp only [Bool.and_eq_true] at hr
  ·exact z hr.1.1.2
  ·have h1:=hr.1.1.2
   unfold Am at h1
   simp only [Bool.and_eq_true] at h1
   exact KN (of_decide_eq_true h1.1.1)
  all_goals first | exact z hr.1.1.1.2 | exact z hr.1.1.2 | exact z hr.1.2 | exact z hr.2 | (cases hr; done)
theorem qE:∀ (l d:List ByteArray),(l.foldl (fun d s=>np s d) d).length≤d.length+l.length
 | [],d=>by simp
 | s::l,d=>by
  have h:=qE l (np s d)
  have h2:(np s d).length≤d.length+1:=v8 s d
  simp only [List.foldl_cons,List.length_cons]
  omega
theorem zv:∀ (l:List ByteArray) (w w':eF) (n:Nat),gF w n l=.ok w'→w'.aQ.length≤w.aQ.length+l.length∧w'.aG.length≤w.aG.length+l.length
 | [],w,w',n,h=>by
  simp only [gF] at h
  injection h with h
  subst h
  exact ⟨by simp,by simp⟩
 | s::l,w,w',n,h=>by
  simp only [gF] at h
  split at h
  ·cases h
  ·rename_i w1 h1
   have ih:=zv l w1 w' (n+1) h
   have h2:=wz h1
   simp only [List.length_cons]
   omega
theorem Ll {src:ByteArray} (hs:src.size≤60000) {u:fU} (h:eA src=.ok u):qn u:=by
 unfold eA at h
 split at h
 ·cases h
 rename_i hsz
 split at h
 ·cases h
 rename_i hl
 split at h
 ·cases h
 rename_i w hw
 have W:=EA _ _ _ _ (fun s hs=>by have:=kD src s hs; omega) CE.z hw
 have S:=D6 (n:=60001) (gD src) gH w 1 (fun s hs'=>by have:=kD src s hs'; omega) ⟨by simp [gH],by simp [gH],by simp [gH]⟩ hw
 have L:=zv _ _ _ _ hw
 have hm:=W.many
 split at h
 ·cases h
 injection h with h
 subst h
 refine ⟨fun x hx=>Gl (by omega) (W.text x hx).1 (W.text x hx).2 (S.text x hx),fun x hx=>Gl (by omega) (W.data x hx).1 (W.data x hx).2 (S.data x hx),fun x hx=>⟨HP (by omega) (W.aQ x hx).2 (S.aQ x hx),by have:=jG (W.aQ x hx).1; omega⟩,fun x hx=>?_,by simp only; omega,?_,?_⟩
 ·simp only at hx
  rw [tu] at hx
  obtain ⟨g,hg1,rfl⟩:=List.mem_map.1 hx
  have:=jG (W.aG g hg1)
  omega
 ·have:gH.aQ.length=0:=rfl
  simp only
  omega
 ·have h0:gH.aG.length=0:=rfl
  have:=qE (w.aG.map (·.1)) []
  simp only [List.length_map,List.length_nil] at this
  simp only
  unfold cP
  omega
theorem Gc {src:ByteArray} (hs:src.size≤60000):qn (xi (eA src)).1:=by
 cases h:eA src with
 | error q=>exact qn.z
 | ok u=>exact Ll hs h
theorem lO.own {h:Hp} {b:Nat} {a b' c d:bE} {u:fU} (U:lO h b a b' c d u) (z:qn u):gY h b a b' c d u∧LG a b':=by
 obtain ⟨ut,ud,ue,ow,C,S⟩:=U
 have l1:=congrArg List.length C.t3
 have l2:=congrArg List.length C.d3
 have l3:=congrArg List.length C.e3
 rw [List.length_map] at l1 l2 l3
 have m1:=z.m1
 have m2:=z.m2
 have m3:=z.m3
 refine ⟨⟨⟨ut,C.t3,by omega,C.t1,C.t2,fun x hx=>z.text _ (by rw [← C.t3]; exact List.mem_map_of_mem hx)⟩,⟨ud,C.d3,by omega,C.d1,C.d2,fun x hx=>z.data _ (by rw [← C.d3]; exact List.mem_map_of_mem hx)⟩,⟨ue,C.e3,by omega,C.e1,C.e2,fun x hx=>z.aQ _ (by rw [← C.e3]; exact List.mem_map_of_mem hx)⟩,⟨u.aG.map (fun x=>(fV,x)),by rw [List.map_map]; exact List.map_id _,by rw [List.length_map]; omega,?_,?_,?_⟩⟩,?_⟩
 ·have h1:(u.aG.map (fun x=>(fV,x))).map (fun (u:bE × ByteArray)=>[Value.string u.2])=u.aG.map yM:=by rw [List.map_map]; rfl
  show SL h b 9 1 d.p d.l d.c ((u.aG.map (fun x=>(fV,x))).map (fun (u:bE × ByteArray)=>[Value.string u.2]))
  rw [h1]
  exact S
 ·intro x hx
  obtain ⟨y,hy,rfl⟩:=List.mem_map.1 hx
  exact SL.nil _ _ _ _
 ·intro x hx
  obtain ⟨y,hy,rfl⟩:=List.mem_map.1 hx
  exact z.aG y hy
 ·intro i hi hj
  have h1:=C.o3 i hi
  have h2:=C.o4 i hj
  omega
theorem lO.at {h:Hp} {b:Nat} {a b' c d:bE} {u:fU} (U:lO h b a b' c d u) (z:qn u):eZ h a b' c d u:=(U.own z).1.at
theorem FF {k:Nat} {ts:List Tok} {e:Nat} (w:Wf ts) (h:jI k ts=.error e):e=20∨e=21:=by
 unfold jI at h
 split at h
 ·split at h
  ·rename_i he
   injection h with h
   subst h
   exact iA w he
  ·cases h
 ·split at h
  ·rename_i he
   injection h with h
   subst h
   exact ea w he
  ·cases h
theorem qU {k:Nat} {e:Nat}:∀ (l:List (List Tok)),(∀ a,a∈l→Wf a)→cQ k l=.error e→e=20∨e=21
 | [],w,h=>by cases h
 | t::ts,w,h=>by
  simp only [cQ] at h
  split at h
  ·rename_i he
   injection h with h
   subst h
   exact FF (w t (by simp)) he
  ·split at h
   ·rename_i he
    injection h with h
    subst h
    exact qU ts (fun a ha=>w a (by simp [ha])) he
   ·cases h
theorem LU {args:List (List Tok)} (hw:∀ a,a∈args→Wf a) (wn:Wf []) (i:Nat):Wf (ag args i):=by
 unfold ag
 rw [List.getD_eq_getElem?_getD]
 cases h:args[i]? with
 | none=>exact wn
 | some a=>exact hw a (List.mem_of_getElem? h)
theorem GB {op:ByteArray} {args:List (List Tok)} {e:Nat} (hw:∀ a,a∈args→Wf a) (wn:Wf []) (h:gG op args=.error e):e=20∨e=21:=by
 unfold gG at h
 simp only at h
 have g:=LU hw wn
 split at h
 ·injection h with h; exact .inl h.symm
 split at h
 ·cases h
 split at h
 ·split at h
  ·rename_i he
   injection h with h
   subst h
   exact iA (g 0) he
  ·split at h
   ·cases h
   ·injection h with h; exact .inr h.symm
 split at h
 ·split at h
  ·rename_i he
   injection h with h
   subst h
   exact iA (g 0) he
  ·cases h
 split at h
 ·split at h
  ·injection h with h; exact .inl h.symm
  ·split at h
   ·rename_i he
    injection h with h
    subst h
    exact qU _ hw he
   ·cases h
 split at h
 ·split at h
  ·injection h with h; exact .inl h.symm
  ·split at h
   ·rename_i he
    injection h with h
    subst h
    exact qU _ hw he
   ·cases h
 split at h
 ·split at h
  ·rename_i he
   injection h with h
   subst h
   exact .inl (rU he)
  ·split at h
   ·rename_i he
    injection h with h
    subst h
    exact ea (g 1) he
   ·cases h
 split at h
 ·split at h
  ·rename_i he
   injection h with h
   subst h
   exact .inl (rU he)
  ·cases h
 ·split at h
  ·split at h
   ·cases h
   ·split at h
    ·cases h
    ·injection h with h; exact .inl h.symm
  ·injection h with h; exact .inl h.symm
theorem ES {l:Ln} {d:Bool} {e:Nat} (hw:∀ a,a∈l.args→Wf a) (wn:Wf []) (h:dQ l d=.error e):e=20∨e=21:=by
 unfold dQ at h
 split at h
 ·cases h
 split at h
 ·split at h
  ·rename_i he
   injection h with h
   subst h
   exact yZ hw he
  ·split at h
   ·injection h with h; exact .inr h.symm
   ·cases h
 ·split at h
  ·rename_i he
   injection h with h
   subst h
   exact GB hw wn he
  ·rename_i t w he
   by_cases hc:w=2∨w=(if d then 1 else 0)
   ·rw [if_pos hc] at h; cases h
   ·rw [if_neg hc] at h; injection h with h; exact .inr h.symm
theorem Bp (s:ByteArray):∀ (f k:Nat) (acc:List Tok),(kh s f k acc).2.2≤20
 | 0,k,acc=>by simp [kh]
 | f+1,k,acc=>by
  simp only [kh]
  split
  ·simp
  ·simp
  ·exact Bp s f _ _
theorem CR (s:ByteArray):(aN s).2.2≤20:=by
 have ht:∀ (n:Nat) (lb:ByteArray) (us:List Tok),(bV n lb us).2.2≤20:=by
  intro n lb us
  unfold bV
  split
  ·simp
  ·split
   ·simp
   ·split <;> simp
 unfold aN fe
 split
 ·exact Bp s _ _ _
 ·split
  ·exact ht _ _ _
  ·exact ht _ _ _
theorem E7 {w:eF} {n e:Nat} {s:ByteArray} (hs:s.size≤2^20) (h:ew w n s=.error e):e<100:=by
 unfold ew at h
 have p:=CR s
 split at h
 ·injection h with h; omega
 split at h
 ·injection h with h; omega
 split at h
 ·rename_i he
  injection h with h
  subst h
  have f:=ix s hs
  have:=ES (fun a ha=>(f a ha).1) (fun t ht=>by cases ht) he
  omega
 split at h
 ·injection h with h; omega
 split at h
 ·injection h with h; omega
 ·cases h
theorem Bw:∀ (l:List ByteArray) (w:eF) (n:Nat) (q:Nat × Nat),(∀ s,s∈l→s.size≤2^20)→gF w n l=.error q→q.2<100
 | [],w,n,q,_,h=>by cases h
 | s::l,w,n,q,hs,h=>by
  simp only [gF] at h
  split at h
  ·rename_i e he
   injection h with h
   subst h
   exact E7 (hs s (by simp)) he
  ·exact Bw l _ _ q (fun x hx=>hs x (by simp [hx])) h
theorem DI {s:ByteArray} {q:Nat × Nat} (h:eA s=.error q):q.1≤2^60∧q.2<10^18:=by
 unfold eA at h
 split at h
 ·injection h with h
  subst h
  exact ⟨by decide,by decide⟩
 rename_i hsz
 split at h
 ·injection h with h
  subst h
  exact ⟨by decide,by decide⟩
 rename_i hl
 have hls:∀ x,x∈gD s→x.size≤2^20:=fun x hx=>by have:=kD s x hx; omega
 split at h
 ·rename_i he
  injection h with h
  subst h
  have h1:=Bw _ _ _ _ hls he
  have h2:=BT _ _ _ _ he
  exact ⟨by omega,by omega⟩
 ·rename_i w hw
  split at h
  ·rename_i g hg
   injection h with h
   subst h
   have hm:=List.mem_of_find?_eq_some hg
   rcases vP _ _ _ _ hw g hm with h3 | h3
   ·simp [gH] at h3
   ·exact ⟨by simp only; omega,show 23<10^18 by decide⟩
  ·cases h
theorem EW {s:ByteArray} {q:Nat × Nat} (h:vh (eA s)=some q):q.1≤2^60∧q.2<10^18:=by
 cases hh:eA s with
 | error e =>
  rw [hh] at h
  injection h with h
  subst h
  exact DI hh
 | ok u=>rw [hh] at h; cases h
end Go.Sx.Ob
set_option linter.unusedVariables false
set_option maxRecDepth 100000
namespace Go.Proofs.YtfkjiiapldkoeaaGreatDoor
open Go.RowKit Go.Extern.Stop Go.Stop Go.Extern
theorem Hw (v:Value) (w:World):(Extern.ReflectliteType.typeOf #[.iface 44 v]).run Tryz.prog w=.ok (.iface 163 (.agg #[.pointer (some ⟨8,44,none⟩)])) w:=by kernel_rfl
theorem Ad (w : World) : ((Extern.ReflectliteType.method fun t => do Extern.Rtype.noPackHeld "Comparable" t; (fun a => Value.bool a.comparable) <$> typeInfo t) #[.agg #[.pointer (some ⟨8, 44, none⟩)]]).run Tryz.prog w = .ok (.bool true) w := by kernel_rfl
theorem rf (v : Value) (w : World) : (Go.method 442 163 v "Comparable").run Tryz.prog w = .ok (226, v) w := by kernel_rfl
theorem LP (v:Value) (xT:TypeId) (w:World):(Instr.typeAssert (.iface 59 v) xT 197 true).run Tryz.prog w=.ok (.tuple #[.nilIface,.bool false]) w:=run_typeAssert_lacksB Tryz.underlying197 (by kernel_rfl) (by kernel_rfl) v xT w
theorem MD (v:Value) (xT:TypeId) (w:World):(Instr.typeAssert (.iface 44 v) xT 197 true).run Tryz.prog w=.ok (.tuple #[.nilIface,.bool false]) w:=run_typeAssert_lacksB Tryz.underlying197 (by kernel_rfl) (by kernel_rfl) v xT w
theorem C9 (v:Value) (xT:TypeId) (w:World):(Instr.typeAssert (.iface 59 v) xT 170 true).run Tryz.prog w=.ok (.tuple #[.iface 59 v,.bool true]) w:=run_typeAssert_hasB Tryz.underlying170 (by kernel_rfl) v xT w
theorem Av (v : Value) (w : World) : (Go.method 442 59 v "Unwrap").run Tryz.prog w = .ok (39, v) w := by kernel_rfl
theorem Nr (n m:Int) (w:World):(binOp .eql 29 (.iface 44 (.int .i64 n)) (.iface 44 (.int .i64 m))).run Tryz.prog w=.ok (.bool (n==m)) w:=by kernel_rfl
theorem N0 (n:Int) (w:World):(binOp .eql 29 (.iface 44 (.int .i64 n)) (.iface 44 (.int .i64 n))).run Tryz.prog w=.ok (.bool true) w:=by rw [Nr]; simp
theorem Hn (a:Nat) (n:Int) (w:World) (h1:w.cell? ⟨a,0+1,none⟩=some (.int .i64 n)) :
  Calls Tryz.prog 40 #[.iface 59 (.pointer (some ⟨a,0,none⟩)),.iface 44 (.int .i64 n)] w fun e w'=>e=.returned (.bool true)∧w'=w:=by
 have h8:=@run_callFunc_extern Tryz.prog 73 _ Extern.ReflectliteType.typeOf Tryz.func73 (by kernel_rfl) (by kernel_rfl) (by kernel_rfl) (by kernel_rfl)
 have h32 := @run_callFunc_extern Tryz.prog 226 _ (Extern.ReflectliteType.method fun t => do Extern.Rtype.noPackHeld "Comparable" t; pure (.bool (← typeInfo t).comparable)) Tryz.func226 (by kernel_rfl) (by kernel_rfl) (by kernel_rfl) (by kernel_rfl)
 have tT:=Hw
 have cT:=Ad
 have mR:=rf
 have nE:=LP
 have nW:=MD
 have uW:=C9
 have mU:=Av
 have heq:=N0 n w
 have hty:=run_eql_iface_types (P:=Tryz.prog) 59 44 (.pointer (some ⟨a,0,none⟩)) (.int .i64 n) Tryz.underlying29 (by decide) w
 go_enter Tryz.func40,Tryz.ntmps40
 go_wp2
 refine wp_loop_rounds 2 ?_
 rw [rounds_succ]
 go_wp2
 rw [rounds_succ]
 go_wp2
 go_ret
 exact ⟨rfl,rfl⟩
end Go.Proofs.YtfkjiiapldkoeaaGreatDoor
set_option linter.unusedVariables false
set_option linter.unusedSimpArgs false
set_option maxRecDepth 100000
namespace Go.Sx.Ob
open Go.Proofs
theorem SL.flat {h:Hp} {b:Nat} {e:TypeId} {sz:Nat} {a:Addr} {l c:Nat} {xs:List (List Value)} (s:SL h b e sz (some a) l c xs):aH h a 0 xs.flatten:=by
 obtain ⟨g,pre,rest,rfl,hbg,hlc,hbox,hr⟩:=s.2.2
 refine hbox.cells _ ?_
 rw [List.drop_left,List.take_left]
def qg (h:Hp):Prop:=∃ e f,h[3]?=some (.cells (Lib.pow10Tab.map fun z=>Value.int .u64 z).toArray e f)
theorem qg.af {ws:List Nat} {h h':Hp} (p:qg h) (k:Ch ws h h') (hw:3∉ws):qg h':=by
 obtain ⟨e,f,hp⟩:=p
 exact ⟨e,f,k.get hp hw⟩
theorem La {W:World} {name:String} (hg:Tryz.prog.globalNamed name=some 3) (p:qg W.heap):Lib.TabIs Tryz.prog W name .u64 Lib.pow10Tab:=by
 obtain ⟨e,f,hp⟩:=p
 unfold Lib.TabIs World.var?
 rw [hg]
 show (match W.heap[3]? with | some (.cells cs _ _)=>some cs | _=>none)=_
 rw [hp]
theorem Ke {h:Hp} (p:qg h) (n:Nat) (hn:n≤2^60):HC Tryz.prog 71 #[.int .i64 n] h fun v h'=>∃ s:ByteArray,v=.string s∧s.size≤1000∧Ext h h':=by
 intro W hW
 subst hW
 refine (Tryz.strconv_Itoa n (by omega) (by omega) W (La (by kernel_rfl) p)).mono ?_
 rintro e w' ⟨he,k,os,rfl⟩
 refine ⟨_,he,⟨rfl,rfl,rfl⟩,_,rfl,?_,?_⟩
 ·show (Lib.itoa (n:Int)).toArray.size≤1000
  have:=Lib.itoa_length_le (n:Int) (by omega) (by omega)
  simp
  omega
 ·refine ⟨by show W.heap.size≤(W.heap++os).size; simp,fun i hi _=>?_⟩
  show (W.heap++os)[i]?=_
  rw [Array.getElem?_append_left hi]
theorem C8:Tryz.prog.underlying 42=some (.slice 5):=by kernel_rfl
theorem Kx:Tryz.prog.underlying 5=some (.int .u8):=by kernel_rfl
theorem Kn:Tryz.prog.underlying 9=some .string:=by kernel_rfl
theorem Hr {L:Lp} {K:Value→Hp→Prop} {h:Hp} {b:Nat} {p:Option Addr} {l c:Nat} {bs:List UInt8} {k:ByteArray→T} (s:SL h b 5 1 p l c (yo bs)) (h0:bs≠[]) (hk:k ⟨bs.toArray⟩ L K h) :
  T.aS Tryz.prog (convert 42 9 (.slice p l c)) false [(false,[.string])] k L K h:=by
 show aJ Tryz.prog (convert 42 9 (.slice p l c)) h _
 unfold convert
 rw [ak,ay C8,ak,ay Kn]
 show aJ Tryz.prog (do match ← underlying 5 with
  | .int .u8=>Conv.bytesToString (.slice p l c)
  | .int .i32=>Conv.runesToString (.slice p l c)
  | _ => stuck "Convert: a slice of what to string?") h _
 rw [ak,ay Kx]
 cases p with
 | none =>
  have h1:yo bs=[]:=s.2.2.2
  have:bs=[]:=by simpa [yo] using h1
  exact absurd this h0
 | some a =>
  have hl:l=bs.length:=by rw [s.1,wU]
  subst hl
  have hf:=SL.flat s
  rw [AP] at hf
  exact zE a bs c _ hf ⟨(⟨bs.toArray⟩,()),rfl,hk⟩
theorem KM (n:Nat):IntKind.wrap .u8 (IntKind.wrap .i64 ((48:Int)+(Int.tmod (n:Int) (10:Int))))=((UInt8.ofNat (48+n % 10)).toNat:Int):=by
 have e:Int.tmod (n:Int) 10=((n % 10:Nat):Int):=by
  rw [Int.tmod_eq_emod_of_nonneg (by omega)]
  rfl
 rw [e,wrap_i64 (by omega) (by omega),wrap_u8 (by omega) (by omega)]
 simp
 omega
theorem CD {P:Program} {h:Hp} {t ty e:TypeId} {i:TypeInfo} (ht:P.underlying t=some (.slice e)) (hi:P.info? e=some i) (a:Addr) (l:Nat) (K:Value→Hp→Prop) (hk:K (.slice (some a) l l) h) :
  aJ P (Builtin.append_ #[t,t] ty #[.slice (some a) l l,.slice none 0 0]) h K:=by
 simp [Builtin.append_,ak,ay ht,aT hi,bJ hi,Builtin.lenOf,Builtin.firstCells]
 rw [ft]
 exact hk
theorem He (h:Hp) (n:Nat) (hn:n<10^18):HC Tryz.prog 72 #[.int .i64 n] h fun v h'=>∃ s:ByteArray,v=.string s∧s.size≤1000∧Ext h h':=by
 refine aL (args:=[.int .i64 n]) mixed Tryz.func72 (by kernel_rfl) (mu n) ?_
 unfold iN
 refine ah (fun _=>⟨_,rfl,by decide,Ch.refl _ _⟩) (fun _=>?_)
 refine ah (fun _=>⟨_,rfl,by decide,Ch.refl _ _⟩) (fun _=>?_)
 refine ah (fun _=>⟨_,rfl,by decide,Ch.refl _ _⟩) (fun _=>?_)
 refine ah (fun _=>⟨_,rfl,by decide,Ch.refl _ _⟩) (fun _=>?_)
 refine bw (by rw [decide_eq_false_iff_not]; omega) ?_
 refine aY (cs:=[(false,[.int .i64]),(false,[.slice 0])]) (fun y m h'=>∃ (k:Nat) (bs:List UInt8) (p:Option Addr) (c:Nat),y=((k:Int),(p,bs.length,c),())∧m=k+(if bs=[] then 1 else 0)∧bs.length≤20∧k≤n∧k<10^(20-bs.length)∧SL h' h.size 5 1 p bs.length c (yo bs)∧Ext h h') ((n:Int),(none,0,0),()) (n+1) rfl
  ⟨n,[],none,0,rfl,rfl,by simp,Nat.le_refl _,Nat.lt_of_lt_of_le hn (Nat.pow_le_pow_right (by omega) (by simp)),SL.nil _ _ _ _,Ch.refl _ _⟩ ?_
 rintro ⟨n6,⟨p7,l8,l9⟩,⟨⟩⟩ m h1 ⟨k,bs,p,c,hy,hm,hbl,hkn,hkl,sl,e1⟩
 cases hy
 dsimp only [flat,aD,aj,nA,cA]
 have hz1:=e1.size
 have step:(0<k∨bs=[])→(T.need ((10:Int)≠(0:Int)) <|
    T.aS Tryz.prog (Instr.buildSlice 42 1 #[(0,.int .u8 (IntKind.wrap .u8 (IntKind.wrap .i64 ((48:Int)+(Int.tmod (k:Int) (10:Int))))))]) false [(false,[.slice 0])] fun (p5:Option Addr) (l6:Nat) (l7:Nat) =>
    T.aS Tryz.prog (Builtin.append_ #[42,42] 42 #[.slice p5 l6 l7,.slice p7 bs.length l9]) false [(false,[.slice 0])] fun (p8:Option Addr) (l9:Nat) (l10:Nat) =>
    T.need ((10:Int)≠(0:Int)) <|
    T.again 0 [.int .i64 (IntKind.wrap .i64 (Int.tdiv (k:Int) (10:Int))),.slice p8 l9 l10]) [Jl (cs:=[(false,[.int .i64]),(false,[.slice 0])]) (fun y m h'=>∃ (k:Nat) (bs:List UInt8) (p:Option Addr) (c:Nat),y=((k:Int),(p,bs.length,c),())∧m=k+(if bs=[] then 1 else 0)∧bs.length≤20∧k≤n∧k<10^(20-bs.length)∧SL h' h.size 5 1 p bs.length c (yo bs)∧Ext h h') m] (fun v h'=>∃ s:ByteArray,v=.string s∧s.size≤1000∧Ext h h') h1:=by
  intro hs
  have hk20:bs.length<20:=by
   rcases hs with hs | hs
   ·by_cases g:bs.length<20
    ·exact g
    ·have:20-bs.length=0:=by omega
     rw [this] at hkl
     simp at hkl
     omega
   ·rw [hs]; simp
  refine aA (by decide) ?_
  rw [KM]
  refine dY GU Nl (by omega) (by omega) (LW ((UInt8.ofNat (48+k % 10)).toNat:Int)) ?_
  intro h2 b2 e2 z2
  have s2:SL h2 h1.size 5 1 (some ⟨h1.size,0,none⟩) 1 1 (yo [UInt8.ofNat (48+k % 10)]) :=
   ⟨rfl,Ed _,h1.size,[],[],rfl,Nat.le_refl _,⟨by omega,by omega⟩,b2,by simp⟩
  have sl2:=sl.af e2 (by simp)
  obtain ⟨i5,hi5,hz5,hs5,hb5⟩:=fF Nl
  have fin:∀ (bs':List UInt8) (p':Option Addr) (c':Nat) (h3:Hp),bs'=UInt8.ofNat (48+k % 10)::bs→SL h3 h1.size 5 1 p' bs'.length c' (yo bs')→Ext h1 h3→(T.need ((10:Int)≠(0:Int)) <|
    T.again 0 [.int .i64 (IntKind.wrap .i64 (Int.tdiv (k:Int) (10:Int))),.slice p' bs'.length c']) [Jl (cs:=[(false,[.int .i64]),(false,[.slice 0])]) (fun y m h'=>∃ (k:Nat) (bs:List UInt8) (p:Option Addr) (c:Nat),y=((k:Int),(p,bs.length,c),())∧m=k+(if bs=[] then 1 else 0)∧bs.length≤20∧k≤n∧k<10^(20-bs.length)∧SL h' h.size 5 1 p bs.length c (yo bs)∧Ext h h') m] (fun v h'=>∃ s:ByteArray,v=.string s∧s.size≤1000∧Ext h h') h3:=by
   intro bs' p' c' h3 hbs s3 e3
   refine aA (by decide) ?_
   have hdiv:Int.tdiv (k:Int) (10:Int)=((k / 10:Nat):Int):=by
    rw [Int.tdiv_eq_ediv_of_nonneg (by omega)]
    rfl
   rw [hdiv,wrap_i64 (by omega) (by omega)]
   refine aK (cs:=[(false,[.int .i64]),(false,[.slice 0])]) (((k / 10:Nat):Int),(p',bs'.length,c'),()) (k / 10) rfl ?_ rfl ?_
   ·rw [hm]
    rcases hs with hs | hs
    ·omega
    ·rw [if_pos hs]; omega
   ·refine ⟨k / 10,bs',p',c',rfl,?_,?_,by omega,?_,s3.mono (by omega),e1.trans e3⟩
    ·rw [if_neg (by rw [hbs]; simp)]; rfl
    ·rw [hbs]; simp; omega
    ·rw [hbs,List.length_cons]
     have:10^(20-bs.length)=10^(20-(bs.length+1))*10:=by
      rw [← Nat.pow_succ]
      congr 1
      omega
     rw [this] at hkl
     omega
  have hl7:bs.length=(yo bs).length:=(wU bs).symm
  cases p7 with
  | none =>
   have hb1:yo bs=[]:=sl2.2.2.2
   have hb3:l9=0:=sl2.2.2.1
   have:bs=[]:=by simpa [yo] using hb1
   subst this hb3
   refine bN (CD GU hi5 _ 1 _ ?_)
   exact ⟨_,1,1,rfl,fin [UInt8.ofNat (48+k % 10)] _ 1 h2 rfl s2 e2⟩
  | some a7 =>
   refine bN (fL (i:=i5) GU hi5 hz5 (by rw [hs5]; rfl) (by rw [hs5]; exact s2) (ys:=yo bs) hl7 (by rw [hs5]; exact Ed bs) (SL.flat sl2) (Fz bs) (by rw [hb5]; omega) (by omega) (by omega) ?_)
   intro p' c' h3 s3 k3 hp'
   refine ⟨p',1+bs.length,c',rfl,?_⟩
   have hlen:1+bs.length=(UInt8.ofNat (48+k % 10)::bs).length:=by simp; omega
   rw [hlen]
   refine fin _ p' c' h3 rfl ?_ (e2.st k3 (Nat.le_refl _))
   rw [← hlen]
   rw [hs5] at s3
   exact s3
 refine ah (fun q=>?_) (fun q=>?_)
 ·have q:=of_decide_eq_true q
  exact step (.inl (by omega))
 ·refine ah (fun w=>?_) (fun w=>?_)
  ·have w:bs.length=0:=fp w
   exact step (.inr (List.eq_nil_of_length_eq_zero w))
  ·have w:¬ bs.length=0:=fR w
   refine Hr sl (fun e=>w (by rw [e]; rfl)) ?_
   have hsz:(⟨bs.toArray⟩:ByteArray).size=bs.length:=by show bs.toArray.size=_; simp
   refine aA (by rw [hsz]; omega) ?_
   refine ⟨_,rfl,?_,e1⟩
   rw [ByteArray.size_append,hsz]
   show 8+bs.length≤1000
   omega
end Go.Sx.Ob
set_option linter.unusedVariables false
set_option maxRecDepth 100000
namespace Go.Sx
open Go.Proofs
def gk (a:Value) (b:Int) (c:Int):T :=
 T.new [.int .i64 b,.int .i64 c] 33 fun (d:Addr) =>
 T.ae (d.add 1) [.int .i64] fun (e:Int) =>
 cond (e==(0:Int))
 (T.aS Tryz.prog (Sx.bU (BinOp.eql) 29 (Operand.tmp 10) (Operand.const Value.nilIface) a .nilIface) false [(false,[.bool])] fun (f:Bool) =>
 T.ret (.bool f))
 (T.aS Tryz.prog (Instr.typeAssert a 29 59 true) true [(false,[.pointer 63]),(false,[.bool])] fun (f:Option Addr) (g:Bool) =>
 cond g
  (cond (!(/-?Option.isSome.match_1-/ match f with
  | some val=>false
  | none=>true))
  (T.aw f fun (h:Addr) =>
  T.ae h [.int .i64] fun (i:Int) =>
  T.ae d [.int .i64] fun (j:Int) =>
  cond (i==j)
   (T.aw f fun (k:Addr) =>
   T.ae (k.add 1) [.int .i64] fun (l:Int) =>
   T.ae (d.add 1) [.int .i64] fun (m:Int) =>
   cond (l==m)
   (T.call Tryz.prog 37 [.pointer f] false [(false,[.string])] fun (n:ByteArray) =>
   T.aB [((d.add 1),[.int .i64 m]),((k.add 1),[.int .i64 l]),(d,[.int .i64 j]),(h,[.int .i64 i])] <|
   cond (!((ByteArray.toList n)==[]))
    (T.aw f fun (o:Addr) =>
    T.ae (o.add 1) [.int .i64] fun (p:Int) =>
    T.call Tryz.prog 39 [.pointer f] false [(false, [.interface #[("Error", 85)]])] fun (q : Value) =>
    T.aB [((o.add 1),[.int .i64 p]),((d.add 1),[.int .i64 m]),((k.add 1),[.int .i64 l]),(d,[.int .i64 j]),(h,[.int .i64 i])] <|
    T.call Tryz.prog 38 [q,.iface 44 (.int .i64 p)] false [(false,[.bool])] fun (r:Bool) =>
    T.aB [((o.add 1),[.int .i64 p]),((d.add 1),[.int .i64 m]),((k.add 1),[.int .i64 l]),(d,[.int .i64 j]),(h,[.int .i64 i])] <|
    cond r
    (T.ae (d.add 1) [.int .i64] fun (s:Int) =>
    T.call Tryz.prog 40 [a,.iface 44 (.int .i64 s)] false [(false,[.bool])] fun (t:Bool) =>
    T.aB [((d.add 1),[.int .i64 s]),((o.add 1),[.int .i64 p]),((d.add 1),[.int .i64 m]),((k.add 1),[.int .i64 l]),(d,[.int .i64 j]),(h,[.int .i64 i])] <|
    T.ret (.bool t))
    (T.ret (.bool false)))
    (T.ret (.bool false)))
   (T.ret (.bool false)))
   (T.ret (.bool false)))
  (T.ret (.bool false)))
  (T.ret (.bool false)))
theorem kn (a:Value) (b:Int) (c:Int):aZ Tryz.prog [] Tryz.f12 [a,.agg #[.int .i64 b,.int .i64 c]]=gk a b c:=by kernel_rfl
end Go.Sx
set_option linter.unusedVariables false
set_option linter.unusedSimpArgs false
set_option maxRecDepth 100000
namespace Go.Sx.Ob
open Go.Proofs
theorem zl {h:Hp} {a:Nat} {x n:Int} (b:aM h a 63 [.int .i64 x,.int .i64 n]):uj Tryz.prog 40 [.iface 59 (ptr a),.iface 44 (.int .i64 n)] h (.bool true):=by
 intro W hW
 subst hW
 refine (Go.Proofs.YtfkjiiapldkoeaaGreatDoor.Hn a n W ?_).mono ?_
 ·rw [eU,b.cell]
  rfl
 ·rintro e w' ⟨he,rfl⟩
  exact ⟨_,he,bW.refl _,rfl,rfl⟩
theorem EC {h:Hp} {a:Nat} {x n:Int} (b:aM h a 63 [.int .i64 x,.int .i64 n]):uj Tryz.prog 39 [ptr a] h (.iface 44 (.int .i64 n)):=by
 refine dU mixed Tryz.func39 (by kernel_rfl) (km (some ⟨a,0,none⟩)) ?_
 unfold fX
 refine ai rfl ?_
 rw [au]
 refine ad b (n,()) rfl ?_
 exact ⟨rfl,rfl⟩
theorem HB {h:Hp} (p:qg h) {a x n:Nat} (hx:x≤2^60) (hn:n<10^18) (b:aM h a 63 [.int .i64 (x:Int),.int .i64 (n:Int)]):HC Tryz.prog 37 #[ptr a] h fun v h'=>∃ s:ByteArray,v=.string s∧s.data.toList≠[]∧Ext h h':=by
 refine aL (args:=[ptr a]) mixed Tryz.func37 (by kernel_rfl) (kH (some ⟨a,0,none⟩)) ?_
 unfold gQ
 refine ai rfl ?_
 refine ad b ((x:Int),()) rfl ?_
 dsimp only [flat,aD,aj,nA,cA]
 refine ai rfl ?_
 rw [au]
 refine ad b ((n:Int),()) rfl ?_
 dsimp only [flat,aD,aj,nA,cA]
 refine aF (Ke p x hx) ?_
 rintro _ h1 ⟨s,rfl,hs,e1⟩
 refine ⟨(s,()),rfl,?_⟩
 dsimp only [flat,aD,aj,nA,cA]
 have b1:=b.af e1 (by simp)
 refine ⟨⟨b1.cells _ rfl,trivial⟩,?_⟩
 have z5:(⟨#[108,105,110,101,32]⟩:ByteArray).size=5:=rfl
 have z2:(⟨#[58,32]⟩:ByteArray).size=2:=rfl
 refine aA (by omega) (aA (by rw [ByteArray.size_append,z5]; omega) ?_)
 refine aF (He h1 n hn) ?_
 rintro _ h2 ⟨t,rfl,ht,e2⟩
 refine ⟨(t,()),rfl,?_⟩
 dsimp only [flat,aD,aj,nA,cA]
 refine ⟨⟨(b1.af e2 (by simp)).cells _ rfl,trivial⟩,?_⟩
 refine aA (by rw [ByteArray.size_append,ByteArray.size_append,z5,z2]; omega) ?_
 refine ⟨_,rfl,?_,e1.trans e2⟩
 intro h0
 have:=congrArg List.length h0
 simp at this
theorem I7 (o:Nat) (t:TypeId) (u:Value) (h:Hp) (K:Value→Hp→Prop):aJ Tryz.prog (Sx.bU (BinOp.eql) 29 (Operand.tmp o) (Operand.const Value.nilIface) (.iface t u) .nilIface) h K=K (.bool false) h:=by kernel_rfl
theorem KI (o:Nat) (h:Hp) (K:Value→Hp→Prop):aJ Tryz.prog (Sx.bU (BinOp.eql) 29 (Operand.tmp o) (Operand.const Value.nilIface) .nilIface .nilIface) h K=K (.bool true) h:=by kernel_rfl
theorem Nw (n:Int) (o u:Nat) (h:Hp) (K:Value→Hp→Prop):aJ Tryz.prog (Sx.bU (BinOp.eql) 29 (Operand.tmp o) (Operand.tmp u) (.iface 44 (.int .i64 n)) (.iface 44 (.int .i64 n))) h K=K (.bool (n==n)) h:=by kernel_rfl
theorem N9 (a:Addr) (h:Hp) (K:Value→Hp→Prop):aJ Tryz.prog (Instr.typeAssert (.iface 59 (.pointer (some a))) 29 59 true) h K=K (.tuple #[.pointer (some a),.bool true]) h:=by kernel_rfl
theorem N4 (h:Hp) (K:Value→Hp→Prop):aJ Tryz.prog (Instr.typeAssert .nilIface 29 59 true) h K=K (.tuple #[.pointer none,.bool false]) h:=by kernel_rfl
theorem Dd (h:Hp) (n:Int):uj Tryz.prog 38 [.iface 44 (.int .i64 n),.iface 44 (.int .i64 n)] h (.bool true):=by
 refine dU mixed Tryz.func38 (by kernel_rfl) (kf _ _) ?_
 unfold gB
 refine bK (fun K' hK=>by rw [I7]; exact hK) ?_
 refine bw rfl ?_
 refine bK (fun K' hK=>by rw [I7]; exact hK) ?_
 refine bw rfl ?_
 refine bK (b:=true) (fun K' hK=>by rw [Nw]; simpa using hK) ?_
 exact ⟨rfl,rfl⟩
def sA (a w:Nat) (e:Option (Nat × Nat)):Bool:=if w=0 then decide (e=none) else decide (e=some (a,w))
theorem Db {h:Hp} (p:qg h) {ev:Value} {e:Option (Nat × Nat)} (v:oR h ev e) (hs:∀ q,e=some q→q.1≤2^60∧q.2<10^18) (a w:Nat) :
  HC Tryz.prog 12 #[ev,.agg #[.int .i64 (a:Int),.int .i64 (w:Int)]] h fun r h'=>r=.bool (sA a w e)∧Ext h h':=by
 refine aL (args:=[ev,.agg #[.int .i64 (a:Int),.int .i64 (w:Int)]]) mixed Tryz.func12 (by kernel_rfl) (kn ev a w) ?_
 unfold gk
 refine aW ?_
 intro h1 b1 e1 z1
 rw [au]
 refine ad b1 ((w:Int),()) rfl ?_
 dsimp only [flat,aD,aj,nA,cA]
 cases e with
 | none =>
  have v:ev=.nilIface:=v
  subst v
  refine ah (fun q=>?_) (fun q=>?_)
  ·have q:w=0:=fp q
   refine bK (fun K' hK=>by rw [KI]; exact hK) ?_
   exact ⟨by unfold sA; rw [if_pos q]; rfl,e1⟩
  ·have q:¬ w=0:=fR q
   show aJ _ _ _ _
   rw [N4]
   refine ⟨(none,false,()),rfl,?_⟩
   dsimp only [flat,aD,aj,nA,cA]
   refine bw rfl ?_
   exact ⟨by unfold sA; rw [if_neg q]; rfl,e1⟩
 | some er =>
  obtain ⟨ax,rfl,bx⟩:=v
  obtain ⟨hs1,hs2⟩:=hs er rfl
  have bx1:=bx.af e1 (by simp)
  refine ah (fun q=>?_) (fun q=>?_)
  ·have q:w=0:=fp q
   refine bK (fun K' hK=>by rw [I7]; exact hK) ?_
   exact ⟨by unfold sA; rw [if_pos q]; rfl,e1⟩
  have q:¬ w=0:=fR q
  have ww:sA a w (some er)=decide (er=(a,w)):=by
   unfold sA
   rw [if_neg q]
   simp
  show aJ _ _ _ _
  rw [N9]
  refine ⟨(some ⟨ax,0,none⟩,true,()),rfl,?_⟩
  dsimp only [flat,aD,aj,nA,cA]
  refine bC rfl ?_
  refine bC rfl ?_
  refine ai rfl ?_
  refine ad bx1 ((er.1:Int),()) rfl ?_
  dsimp only [flat,aD,aj,nA,cA]
  refine ad b1 ((a:Int),()) rfl ?_
  dsimp only [flat,aD,aj,nA,cA]
  refine jf (fun r=>?_) (fun r=>?_)
  ·have r:¬ er.1=a:=fR r
   exact ⟨by rw [ww,decide_eq_false (fun e=>r (by rw [e]))],e1⟩
  have r:er.1=a:=fp r
  refine ai rfl ?_
  rw [au]
  refine ad bx1 ((er.2:Int),()) rfl ?_
  dsimp only [flat,aD,aj,nA,cA]
  refine ad b1 ((w:Int),()) rfl ?_
  dsimp only [flat,aD,aj,nA,cA]
  refine jf (fun s=>?_) (fun s=>?_)
  ·have s:¬ er.2=w:=fR s
   exact ⟨by rw [ww,decide_eq_false (fun e=>s (by rw [e]))],e1⟩
  have s:er.2=w:=fp s
  have ok:sA a w (some er)=true:=by
   rw [ww]
   exact decide_eq_true (Prod.ext r s)
  rw [ok]
  have p1:=p.af e1 (by simp)
  refine aF (HB p1 hs1 hs2 bx1) ?_
  rintro _ h2 ⟨t,rfl,ht,e2⟩
  refine ⟨(t,()),rfl,?_⟩
  dsimp only [flat,aD,aj,nA,cA]
  have b12:=b1.af e2 (by simp)
  have bx2:=bx1.af e2 (by simp)
  refine ⟨⟨b12.cells _ rfl,bx2.cells _ rfl,b12.cells _ rfl,bx2.cells _ rfl,trivial⟩,?_⟩
  refine bC (by rw [ByteArray.toList_eq]; simpa using ht) ?_
  refine ai rfl ?_
  refine ad bx2 ((er.2:Int),()) rfl ?_
  dsimp only [flat,aD,aj,nA,cA]
  refine iK (EC bx2) (.iface 44 (.int .i64 (er.2:Int)),()) rfl ?_
  dsimp only [flat,aD,aj,nA,cA]
  refine ⟨⟨bx2.cells _ rfl,b12.cells _ rfl,bx2.cells _ rfl,b12.cells _ rfl,bx2.cells _ rfl,trivial⟩,?_⟩
  refine aI (Dd h2 er.2) ?_
  refine ⟨⟨bx2.cells _ rfl,b12.cells _ rfl,bx2.cells _ rfl,b12.cells _ rfl,bx2.cells _ rfl,trivial⟩,?_⟩
  refine bC rfl ?_
  refine ad b12 ((w:Int),()) rfl ?_
  dsimp only [flat,aD,aj,nA,cA]
  rw [s] at bx2
  refine aI (zl bx2) ?_
  refine ⟨⟨b12.cells _ rfl,bx2.cells _ (by rw [s]; rfl),b12.cells _ rfl,bx2.cells _ (by rw [s]; rfl),b12.cells _ rfl,bx2.cells _ rfl,trivial⟩,?_⟩
  exact ⟨rfl,e1.trans e2⟩
structure Fx (h:Hp):Prop where
 tb:pO h
 ld:Laid h
 pw:qg h
 mx:∃ m:Int,aH h ⟨2,0,none⟩ 0 [.int .i64 m]
theorem Fx.af {h h':Hp} (f:Fx h) (e:Ext h h'):Fx h':=by
 obtain ⟨m,b⟩:=f.mx
 exact ⟨f.tb.af e (by simp),f.ld.ext e,f.pw.af e (by simp),m,bj e (by simp) _ _ b⟩
theorem Fx.Nq {h:Hp} (f:Fx h) (s:ByteArray):HC Tryz.prog 10 #[.string s] h (LF s h):=by
 obtain ⟨m,b⟩:=f.mx
 refine Lm s h f.ld f.tb m (fun W hW=>?_)
 subst hW
 rw [eU]
 exact b.1
def Dl (s:ByteArray) (n:Nat):ByteArray:=if n<s.size then s.extract 0 n else s
theorem Fk (s:ByteArray) (n:Nat):(Dl s n).size≤n∧(Dl s n).size≤s.size:=by
 unfold Dl
 split
 ·rw [ByteArray.size_extract]; omega
 ·omega
theorem KE (s:ByteArray) (n:Nat) (h:Hp):HC Tryz.prog 9 #[.string s,.int .i64 (n:Int)] h fun v h'=>v=.string (Dl s n)∧Ext h h':=by
 refine aL (args:=[.string s,.int .i64 (n:Int)]) mixed Tryz.func9 (by kernel_rfl) (nB s n) ?_
 unfold jx
 unfold Dl
 refine ah (fun q=>?_) (fun q=>?_)
 ·have q:=of_decide_eq_true q
  rw [if_pos (by omega)]
  refine aA ⟨by omega,by omega,by omega⟩ ?_
  exact ⟨by rw [show Int.toNat (n:Int)=n by omega],Ch.refl _ _⟩
 ·have q:=of_decide_eq_false q
  rw [if_neg (by omega)]
  exact ⟨rfl,Ch.refl _ _⟩
theorem oR.aO {h h':Hp} {v:Value} {e:Option (Nat × Nat)} (E:oR h v e) (k:Ext h h'):oR h' v e:=by
 cases e with
 | none=>exact E
 | some e =>
  obtain ⟨a,h1,h2⟩:=E
  exact ⟨a,h1,h2.af k (by simp)⟩
theorem JD (s:ByteArray) (l w:Nat) (h:Hp) (f:Fx h):HC Tryz.prog 17 #[.string s,.int .i64 (l:Int),.int .i64 (w:Int)] h fun v h'=>v=.bool (sA l w (vh (eA s)))∧Ext h h':=by
 refine aL (args:=[.string s,.int .i64 (l:Int),.int .i64 (w:Int)]) mixed Tryz.func17 (by kernel_rfl) (mg s l w) ?_
 unfold iP
 refine aF (f.Nq s) ?_
 rintro _ h1 ⟨e1,a,b,c,d,ev,rfl,U,E⟩
 refine ⟨((a.p,a.l,a.c),(b.p,b.l,b.c),(c.p,c.l,c.c),(d.p,d.l,d.c),ev,()),rfl,?_⟩
 dsimp only [flat,aD,aj,nA,cA]
 refine aW ?_
 intro h2 b2 e2 z2
 refine an b2 rfl (by simp) ?_
 intro h3 b3 k3 z3
 have e13:Ext h1 h3:=Ch.trans e2 k3 (fun i hi hl=>by simp at hi; omega)
 have e03:=e1.trans e13
 refine aF (Db (f.af e03).pw (E.aO e13) (fun q hq=>EW hq) l w) ?_
 rintro _ h4 ⟨rfl,e4⟩
 refine ⟨(sA l w (vh (eA s)),()),rfl,?_⟩
 exact ⟨rfl,e03.trans e4⟩
/-! Spans. -/
def Ly (x:bD):Bool:=decide (x.kind=2) && DJ x.inst.op
def oa (l:List bD):Nat:=(l.filter Ly).length
theorem CY (l:List bD) (i:Nat) (hi:i<l.length):oa (l.take (i+1))=oa (l.take i)+if Ly l[i]=true then 1 else 0:=by
 unfold oa
 rw [List.take_succ_eq_append_getElem hi,List.filter_append,List.length_append]
 congr 1
 by_cases hk:Ly l[i]=true <;> simp [hk]
theorem HN (l:List bD):oa l≤l.length:=List.length_filter_le _ _
theorem EY {h:Hp} (t:zK h) {a b c d:bE} {u:fU} (v:eZ h a b c d u):HC Tryz.prog 21 #[jM a b c d] h fun w h'=>w=.int .i64 ((if sC u=0 then oa u.text else 0:Nat):Int)∧Ext h h':=by
 refine aL (args:=[jM a b c d]) mixed Tryz.func21 (by kernel_rfl) (uO a.p a.l a.c b.p b.l b.c c.p c.l c.c d.p d.l d.c) ?_
 unfold sF
 refine aW ?_
 intro h1 b1 e1 z1
 have b1:aM h1 h.size 27 [a.v,b.v,c.v,d.v]:=b1
 refine ad b1 ((a.p,a.l,a.c),(b.p,b.l,b.c),(c.p,c.l,c.c),(d.p,d.l,d.c),()) rfl ?_
 dsimp only [flat,aD,aj,nA,cA]
 refine aF (mi (t.af e1 (by simp)) (v.af e1)) ?_
 rintro _ h2 ⟨rfl,e2⟩
 refine ⟨((sC u:Int),()),rfl,?_⟩
 dsimp only [flat,aD,aj,nA,cA]
 have e02:=e1.trans e2
 refine ah (fun r=>?_) (fun r=>?_)
 ·have r:¬ sC u=0:=by simpa using r
  rw [if_neg r]
  exact ⟨rfl,e02⟩
 have r:sC u=0:=by simpa using r
 rw [if_pos r]
 have b2:=b1.af e2 (by simp)
 refine ad b2 ((a.p,a.l,a.c),()) rfl ?_
 dsimp only [flat,aD,aj,nA,cA]
 have n:=v.text.len
 have m1:=v.text.many
 refine aY (cs:=[(false,[.int .i64]),(false,[.int .i64])]) (fun y m h'=>∃ i:Nat,y.2.1=(i:Int)∧y.1=(oa (u.text.take i):Int)∧m=u.text.length-i∧i≤u.text.length∧Ext h h') ((0:Int),(0:Int),()) u.text.length rfl
  ⟨0,rfl,rfl,rfl,by omega,e02⟩ ?_
 rintro ⟨n1,n2,⟨⟩⟩ m g ⟨i,hi,hn,rfl,hle,eg⟩
 simp only at hi hn
 subst hi hn
 dsimp only [flat,aD,aj,nA,cA]
 refine ah (fun q=>?_) (fun q=>?_)
 ·have q:=of_decide_eq_true q
  have hil:i<u.text.length:=by omega
  obtain ⟨aa,pp,ll,cc,kR,hc,va⟩:=(v.text.af eg).cells i hil
  have ht:=CY u.text i hil
  have hsl:oa (u.text.take i)≤i:=by have:=HN (u.text.take i); rw [List.length_take] at this; omega
  generalize u.text[i]=x at hc va ht
  refine aA ⟨by omega,by omega⟩ (ai kR ?_)
  rw [show Int.toNat (i:Int)=i by omega]
  refine aE (x.kind,x.name,x.inst.op,x.inst.a,x.inst.b,x.inst.n,x.inst.form,(pp,ll,cc),(x.e.num:Int),x.n,()) hc ?_
  dsimp only [flat,aD,aj,nA,cA]
  refine aW ?_
  intro g1 c1 f1 y1
  refine an c1 rfl (by simp) ?_
  intro g2 c2 k2 y2
  have c2:aM g2 g.size 96 (encI pp ll cc x):=c2
  have f2:Ext g g2:=Ch.trans f1 k2 (fun i hi hl=>by simp at hi; omega)
  have eg2:=eg.trans f2
  refine ad c2 (x.kind,()) rfl ?_
  dsimp only [flat,aD,aj,nA,cA]
  refine ah (fun r=>?_) (fun r=>?_)
  ·have r:x.kind=2:=by simpa using r
   rw [au]
   refine ad c2 (x.inst.op,()) rfl ?_
   dsimp only [flat,aD,aj,nA,cA]
   refine aF (Bz (t.af eg2 (by simp)) x.inst.op va.op.1 va.op.2) ?_
   rintro _ g3 ⟨rfl,f3⟩
   refine ⟨(DJ x.inst.op,()),rfl,?_⟩
   dsimp only [flat,aD,aj,nA,cA]
   refine ah (fun s=>?_) (fun s=>?_)
   ·rw [if_pos (by unfold Ly; rw [decide_eq_true r,s]; rfl)] at ht
    refine aK (cs:=[(false,[.int .i64]),(false,[.int .i64])]) (((oa (u.text.take i)+1:Nat):Int),((i+1:Nat):Int),()) (u.text.length-(i+1)) rfl (by omega) (by rw [wrap_i64 (by omega) (by omega),wrap_i64 (by omega) (by omega)]; rfl) ?_
    exact ⟨i+1,rfl,by rw [ht],rfl,by omega,eg2.trans f3⟩
   ·rw [if_neg (by unfold Ly; rw [decide_eq_true r,s]; decide)] at ht
    refine aK (cs:=[(false,[.int .i64]),(false,[.int .i64])]) ((oa (u.text.take i):Int),((i+1:Nat):Int),()) (u.text.length-(i+1)) rfl (by omega) (by rw [wrap_i64 (by omega) (by omega)]; rfl) ?_
    exact ⟨i+1,rfl,by rw [ht]; rfl,rfl,by omega,eg2.trans f3⟩
  ·have r:¬ x.kind=2:=by simpa using r
   rw [if_neg (by unfold Ly; rw [decide_eq_false r]; simp)] at ht
   refine aK (cs:=[(false,[.int .i64]),(false,[.int .i64])]) ((oa (u.text.take i):Int),((i+1:Nat):Int),()) (u.text.length-(i+1)) rfl (by omega) (by rw [wrap_i64 (by omega) (by omega)]; rfl) ?_
   exact ⟨i+1,rfl,by rw [ht]; rfl,rfl,by omega,eg2⟩
 ·have q:=of_decide_eq_false q
  have:i=u.text.length:=by omega
  subst this
  rw [List.take_length]
  exact ⟨rfl,eg⟩
theorem N6:vh (eA ⟨#[97,58,32,110,111,112,10,97,58,32,110,111,112]⟩)=some (2,22):=by kernel_rfl
theorem kb:vh (eA ⟨#[103,108,111,98,97,108,32,98]⟩)=some (1,23):=by kernel_rfl
theorem kc:vh (eA ⟨#[103,108,111,98,97,108,32,98,10,110,111,112,101]⟩)=some (2,20):=by kernel_rfl
def s1:ByteArray:=⟨#[97,58,32,106,109,112,32,97]⟩
def s2:ByteArray:=⟨#[115,101,99,116,105,111,110,32,100,97,116,97,10,120,58,32,119,111,114,100,32,121,44,32,51,10,103,108,111,98,97,108,32,120,10,103,108,111,98,97,108,32,120]⟩
def u1:fU:=(xi (eA s1)).1
def u2:fU:=(xi (eA s2)).1
theorem k1:vh (eA s1)=none:=by kernel_rfl
theorem NX:sC u1=0:=by kernel_rfl
theorem N':u1.text.length=2:=by kernel_rfl
theorem N5:oa u1.text=1:=by kernel_rfl
theorem N3:(u1.text.map (·.name)).take 1=[⟨#[97]⟩]:=by kernel_rfl
theorem N8:(u1.text.map (·.inst.op)).drop 1=[40]:=by kernel_rfl
theorem k2:vh (eA s2)=none:=by kernel_rfl
theorem k3:eA ⟨#[]⟩=.ok tS:=by kernel_rfl
theorem k4:sC ⟨[],[],[],[⟨#[97]⟩]⟩=31:=by kernel_rfl
theorem F5 (a:Addr):a.add 0=a:=by unfold Addr.add; simp
theorem NJ:∃ x y,u1.text=[x,y]∧x.name=⟨#[97]⟩∧y.inst.op=40:=by
 obtain ⟨x,y,h⟩:∃ x y,u1.text=[x,y]:=by
  have hl:=N'
  match hu:u1.text,hl with
  | [x,y],_=>exact ⟨x,y,rfl⟩
 have h1:=N3
 have h2:=N8
 rw [h] at h1 h2
 simp at h1 h2
 exact ⟨x,y,h,h1,h2⟩
theorem GQ (h:Hp) (f:Fx h):HC Tryz.prog 14 #[] h fun v h'=>v=.bool true∧Ext h h':=by
 refine aL (args:=[]) mixed Tryz.func14 (by kernel_rfl) kX ?_
 unfold iG
 refine aF (f.Nq s1) ?_
 rintro _ h1 ⟨e1,a,b,c,d,ev,rfl,U,E⟩
 rw [k1] at E
 have E:ev=.nilIface:=E
 subst E
 refine ⟨((a.p,a.l,a.c),(b.p,b.l,b.c),(c.p,c.l,c.c),(d.p,d.l,d.c),.nilIface,()),rfl,?_⟩
 dsimp only [flat,aD,aj,nA,cA]
 refine aW ?_
 intro h2 b2 e2 z2
 refine an b2 rfl (by simp) ?_
 intro h3 b3 k3 z3
 have b3:aM h3 h1.size 27 [a.v,b.v,c.v,d.v]:=b3
 have e13:Ext h1 h3:=Ch.trans e2 k3 (fun i hi hl=>by simp at hi; omega)
 have e03:=e1.trans e13
 have v:eZ h3 a b c d u1:=(U.at (Gc (by decide))).af e13
 obtain ⟨x,y,hxy,hx,hy⟩:=NJ
 have hl:=v.text.len
 have cx:=v.text.cells 0 (by rw [hxy]; simp)
 have cy:=v.text.cells 1 (by rw [hxy]; simp)
 obtain ⟨aa,q,m,cc,ha,hcx,-⟩:=cx
 obtain ⟨ab,q',m',cc',hb,hcy,-⟩:=cy
 rw [ha] at hb
 cases hb
 simp only [hxy,List.getElem_cons_zero,List.getElem_cons_succ,Nat.zero_mul,Nat.one_mul,F5] at hcx hcy
 rw [hxy] at hl
 have hl:a.l=2:=hl
 refine bK (fun K' hK=>by rw [KI]; exact hK) ?_
 refine bC rfl ?_
 refine ad b3 ((a.p,a.l,a.c),()) rfl ?_
 dsimp only [flat,aD,aj,nA,cA]
 refine bC (by rw [hl]; rfl) ?_
 refine ad b3 ((a.p,a.l,a.c),()) rfl ?_
 dsimp only [flat,aD,aj,nA,cA]
 refine aA ⟨by omega,by omega⟩ (ai ha ?_)
 refine aE (x.name,()) ⟨hcx.2.1,trivial⟩ ?_
 dsimp only [flat,aD,aj,nA,cA]
 refine bC (by rw [hx,ByteArray.toList_eq]; rfl) ?_
 refine ad b3 ((a.p,a.l,a.c),()) rfl ?_
 dsimp only [flat,aD,aj,nA,cA]
 refine aA ⟨by omega,by omega⟩ (ai ha ?_)
 refine aE (y.inst.op,()) ⟨by rw [add_add]; exact hcy.2.2.1,trivial⟩ ?_
 dsimp only [flat,aD,aj,nA,cA]
 refine bC (by rw [hy]; rfl) ?_
 refine ad b3 ((a.p,a.l,a.c),(b.p,b.l,b.c),(c.p,c.l,c.c),(d.p,d.l,d.c),()) rfl ?_
 dsimp only [flat,aD,aj,nA,cA]
 refine aF (EY (f.af e03).tb.MK v) ?_
 rintro _ h4 ⟨rfl,e4⟩
 rw [NX,N5,if_pos rfl]
 refine ⟨(((1:Nat):Int),()),rfl,?_⟩
 dsimp only [flat,aD,aj,nA,cA]
 refine bC rfl ?_
 have b4:=b3.af e4 (by simp)
 refine ad b4 ((a.p,a.l,a.c),(b.p,b.l,b.c),(c.p,c.l,c.c),(d.p,d.l,d.c),()) rfl ?_
 dsimp only [flat,aD,aj,nA,cA]
 refine aF (mi (f.af (e03.trans e4)).tb.MK (v.af e4)) ?_
 rintro _ h5 ⟨rfl,e5⟩
 rw [NX]
 refine ⟨(((0:Nat):Int),()),rfl,?_⟩
 dsimp only [flat,aD,aj,nA,cA]
 refine bC rfl ?_
 have e05:=(e03.trans e4).trans e5
 refine aF (JD _ 2 22 _ (f.af e05)) ?_
 rintro _ h6 ⟨rfl,e6⟩
 rw [N6]
 refine ⟨(true,()),rfl,?_⟩
 exact ⟨rfl,e05.trans e6⟩
end Go.Sx.Ob
set_option linter.unusedVariables false
set_option linter.unusedSimpArgs false
set_option maxRecDepth 100000
namespace Go.Sx
open Go.Proofs Go.Sort Go.Maps Go.Sx.Ob
def qz (xs:List ByteArray):List ByteArray:=((xs.map (·.data.toList)).mergeSort fun x y=>decide (x≤y)).map fun k=>⟨k.toArray⟩
theorem Ak (pre mid rest:List Value) (d:Array (List UInt8)) (hd:d.size=mid.length):putCells encStr pre.length d (pre++(mid++rest)).toArray=(pre++(d.toList.map encStr++rest)).toArray:=by
 apply Array.ext_getElem?
 intro k
 unfold putCells
 rw [Array.getElem?_mapIdx]
 simp only [List.getElem?_toArray]
 by_cases h1:k<pre.length
 ·rw [List.getElem?_append_left h1,List.getElem?_append_left h1,List.getElem?_eq_getElem h1,Option.map_some,if_neg (by omega)]
 ·rw [List.getElem?_append_right (l₁:=pre) (l₂:=mid++rest) (by omega),List.getElem?_append_right (l₁:=pre) (l₂:=d.toList.map encStr++rest) (by omega)]
  by_cases h2:k-pre.length<mid.length
  ·rw [List.getElem?_append_left (l₁:=mid) h2,List.getElem?_append_left (l₁:=d.toList.map encStr) (by simp; omega),List.getElem?_eq_getElem h2,Option.map_some,if_pos (by omega),List.getElem?_map]
   rw [getElem!_pos d (k-pre.length) (by omega),Array.getElem?_toList,Array.getElem?_eq_getElem (by omega)]
   rfl
  ·rw [List.getElem?_append_right (l₁:=mid) (by omega),List.getElem?_append_right (l₁:=d.toList.map encStr) (by simp; omega)]
   have e:(d.toList.map encStr).length=mid.length:=by simp [hd]
   rw [e]
   cases hr:rest[k-pre.length-mid.length]? with
   | none=>rfl
   | some v=>rw [Option.map_some,if_neg (by omega)]
theorem Bj (xs:List ByteArray):(xs.map MS).flatten=xs.map Value.string:=by
 induction xs with
 | nil=>rfl
 | cons x xs ih=>rw [List.map_cons,List.flatten_cons,ih]; rfl
theorem IL {h:Hp} {b:Nat} {p:Option Addr} {l c:Nat} {xs:List ByteArray} (s:SL h b 9 1 p l c (xs.map MS)) (hl:l≤2^40) :
  HC Tryz.prog 43 #[.slice p l c] h fun w h'=>w=.tuple #[]∧SL h' b 9 1 p l c ((qz xs).map MS)∧Ch (az p) h h':=by
 have hll:l=xs.length:=by rw [s.1,List.length_map]
 have hnil:xs=[]→HC Tryz.prog 43 #[.slice p l c] h fun w h'=>w=.tuple #[]∧SL h' b 9 1 p l c ((qz xs).map MS)∧Ch (az p) h h':=by
  intro hx
  subst hx
  have hl0:l=0:=hll
  subst hl0
  intro W hW
  refine (AnyM.slices_Sort_string_none Tryz.vx p c W).mono ?_
  rintro e w' ⟨rfl,rfl⟩
  have e0:qz []=[]:=by simp [qz]
  exact ⟨_,rfl,bW.refl _,rfl,by rw [hW,e0]; exact s,by rw [hW]; exact Ch.refl _ _⟩
 cases p with
 | none =>
  have:xs=[]:=by have:=s.2.2.2; simpa using this
  exact hnil this
 | some a =>
  obtain ⟨g,pre,rest,rfl,hbg,hlc,hbox,hr⟩:=s.2.2
  intro W hW
  subst hW
  rw [Bj] at hbox
  have hH:Holds encStr W g pre.length (xs.map (·.data.toList)).toArray:=by
   intro j hj
   have hj:j<xs.length:=by simpa using hj
   refine ⟨?_,hbox.frozen⟩
   rw [eU,hbox.cell,List.getElem?_append_right (by omega),show pre.length+j-pre.length=j by omega,List.getElem?_append_left (by simpa using hj),List.getElem?_map,List.getElem?_eq_getElem hj,getElem!_pos _ j (by simpa using hj)]
   simp [encStr]
  have hgl:=hbox.lt
  have hc:=AnyM.slices_Sort_string Tryz.vx g pre.length c (xs.map (·.data.toList)) W hH hgl (by simp; omega)
  rw [List.length_map,← hll] at hc
  refine Calls.mono hc ?_
  rintro e w' ⟨rfl,n,os,rfl⟩
  have hheap:(Go.Sort.grow (Go.Sort.putRow encStr (Go.Sort.ahead W n) g pre.length ((xs.map (·.data.toList)).mergeSort fun x y=>decide (x≤y)).toArray) os).heap=(W.heap.modify g (onCells (putCells encStr pre.length ((xs.map (·.data.toList)).mergeSort fun x y=>decide (x≤y)).toArray)))++os:=rfl
  refine ⟨_,rfl,⟨rfl,rfl,rfl⟩,rfl,?_,?_⟩
  ·rw [hheap]
   refine ⟨by rw [List.length_map]; unfold qz; rw [List.length_map,List.length_mergeSort,List.length_map]; exact hll,fun x hx=>?_,g,pre,rest,rfl,hbg,hlc,?_,hr⟩
   ·obtain ⟨y,_,rfl⟩:=List.mem_map.1 hx
    rfl
   ·unfold aM
    unfold aM at hbox
    rw [Array.getElem?_append,if_pos (by simpa using hgl),Array.getElem?_modify,if_pos rfl,hbox]
    show some (Obj.cells (putCells encStr pre.length _ (pre++(xs.map Value.string++rest)).toArray) 9 (0,0))=_
    have e:((xs.map (·.data.toList)).mergeSort fun x y=>decide (x≤y)).toArray.toList.map encStr=(qz xs).map Value.string:=by
     unfold qz
     rw [List.map_map]
     rfl
    rw [Ak pre (xs.map Value.string) rest _ (by simp [List.length_mergeSort]),Bj,e]
  ·rw [hheap]
   refine ⟨by simp,fun i hi hn=>?_⟩
   rw [Array.getElem?_append,if_pos (by simpa using hi),Array.getElem?_modify,if_neg]
   intro e
   subst e
   exact hn (by simp [az])
namespace Ob
end Ob
end Go.Sx
set_option linter.unusedVariables false
set_option linter.unusedSimpArgs false
set_option maxRecDepth 100000
namespace Go.Sx.Ob
open Go.Proofs
theorem wo {h:Hp} {a:Addr}:∀ (vs:List Value) (o i:Nat),aH h (a.add o) i vs→aH h a (o+i) vs
 | [],o,i,_=>trivial
 | v::vs,o,i,⟨h1,h2⟩=>⟨by rw [← add_add]; exact h1,by have:=wo vs o (i+1) h2; rwa [← Nat.add_assoc] at this⟩
theorem yR {h:Hp} {a:Addr}:∀ (A B:List Value) (i:Nat),aH h a i A→aH h a (i+A.length) B→aH h a i (A++B)
 | [],B,i,_,hb=>by simpa using hb
 | v::A,B,i,⟨h1,h2⟩,hb=>⟨h1,yR A B (i+1) h2 (by rw [show i+1+A.length=i+(v::A).length by simp; omega]; exact hb)⟩
theorem xJ {h:Hp} {a:Addr} {sz:Nat} {P:Nat→List Value→Prop}:∀ n:Nat,(∀ i,i<n→∃ ys,ys.length=sz∧aH h (a.add (i*sz)) 0 ys∧P i ys) →
  ∃ xs:List (List Value),xs.length=n∧(∀ y,y∈xs→y.length=sz)∧aH h a 0 xs.flatten∧xs.flatten.length=n*sz∧∀ i,(hi:i<xs.length)→P i xs[i]
 | 0,_=>⟨[],rfl,by simp,trivial,by simp,fun i hi=>absurd hi (by simp)⟩
 | n+1,hc=>by
  obtain ⟨xs,h1,h2,h3,h4,h5⟩:=xJ n fun i hi=>hc i (by omega)
  obtain ⟨ys,g1,g2,g3⟩:=hc n (by omega)
  refine ⟨xs++[ys],by simp [h1],fun y hy=>?_,?_,?_,fun i hi=>?_⟩
  ·rcases List.mem_append.1 hy with hy | hy
   ·exact h2 y hy
   ·rw [List.mem_singleton.1 hy]; exact g1
  ·rw [List.flatten_append]
   refine yR _ _ _ h3 ?_
   have:=wo _ _ _ g2
   simpa [h4] using this
  ·rw [List.flatten_append,List.length_append,h4]
   simp [g1,Nat.add_mul]
  ·rw [List.length_append] at hi
   by_cases hl:i<xs.length
   ·rw [List.getElem_append_left hl]
    exact h5 i hl
   ·have:i=n:=by simp at hi; omega
    subst this
    rw [List.getElem_append_right (by omega)]
    simpa [h1] using g3
def Iu (h:Hp) (p:Option Addr) (xs:List (List Value)):Prop :=
 match p with
 | none=>xs=[]
 | some a1=>aH h a1 0 xs.flatten
theorem A5 {P:Program} {h:Hp} {K:Value→Hp→Prop} {t ty e:TypeId} {i:TypeInfo} {z:Value} (ht:P.underlying t=some (.slice e)) (hi:P.info? e=some i) (hz:i.zero=some z) (hzs:z.cells.size=i.size)
  {p:Option Addr} {l:Nat} {xs ys:List (List Value)} (hxl:l=xs.length) (hxs:∀ x,x∈xs→x.length=i.size) (hx:Iu h p xs) {a:Addr} {m cc:Nat} (hm:m=ys.length) (hm0:0<m) (hys:∀ y,y∈ys→y.length=i.size)
  (hc:aH h a 0 ys.flatten) (hby:(2*(l+m)+1024)*i.bytes≤2^48) (hl:l+m≤2^48)
  (hk:∀ c' h',SL h' h.size e i.size (some ⟨h.size,0,none⟩) (l+m) c' (xs++ys)→Ext h h'→K (.slice (some ⟨h.size,0,none⟩) (l+m) c') h') :
  aJ P (Builtin.append_ #[t,t] ty #[.slice p l l,.slice (some a) m cc]) h K:=by
 have hyl:ys.flatten.length=m*i.size:=by rw [bF ys hys,hm]
 have hxll:xs.flatten.length=l*i.size:=by rw [bF xs hxs,hxl]
 have hall:∀ x,x∈xs++ys→x.length=i.size:=fun x hx=>(List.mem_append.1 hx).elim (hxs x) (hys x)
 have hlen:l+m=(xs++ys).length:=by rw [List.length_append,← hxl,hm]
 have hz':(P.info? e).bind (·.zero)=some z:=by rw [hi]; exact hz
 have hroom:¬ l+m≤l:=by omega
 have hcap:¬ 281474976710656<Builtin.nextslicecap (l+m) l*i.bytes:=by
  have h1:=vS (need:=l+m) (old:=l) (by omega)
  have h2:=Nat.mul_le_mul_right i.bytes h1
  have h3:(2:Nat)^48=281474976710656:=rfl
  omega
 have hbig:¬ (9223372036854775807<(l:Int)+(m:Int)∧i.bytes=0):=by
  have h3:(2:Nat)^48=281474976710656:=rfl
  omega
 simp [Builtin.append_,ak,ay ht,aT hi,bJ hi,Builtin.lenOf,Builtin.firstCells,hroom,fx hi,du hz',askRoom,hbig,hcap,show m≠0 by omega]
 intro tt
 have hge:=Al (l+m) l e tt
 generalize (Question.appendCap (l+m) l e).cut tt=nc at hge
 show aJ P (if roomBytes<nc*i.bytes then mark Mark.noRoom else pure ()) h _
 have hroomy:∀ K':Unit→Hp→Prop,K' () h→aJ P (if roomBytes<nc*i.bytes then mark Mark.noRoom else pure ()) h K':=by
  intro K' hk'
  split
  ·exact hk'
  ·exact hk'
 refine hroomy _ ?_
 have hold:∀ K':Array Value→Hp→Prop,K' xs.flatten.toArray h→aJ P (match Value.slice p l l with
   | Value.slice (some a) len cap=>loadCells a (l*i.size)
   | Value.slice none len cap=>pure #[]
   | Value.string s=>pure ((Array.map (fun b=>Value.int IntKind.u8 ↑b.toNat) s.data).extract 0 l)
   | x => stuck "slice or string expected") h K' := by
  intro K' hk'
  cases p with
  | none =>
   have:xs=[]:=hx
   subst this
   exact hk'
  | some a1=>exact cz hxll hx _ hk'
 refine hold _ ?_
 refine cz hyl hc _ ?_
 rw [ft]
 refine hk nc _ ⟨hlen,hall,h.size,[],(Builtin.zeroCells z.cells (nc-(l+m))).toList,rfl,Nat.le_refl _,⟨hge.1,hge.2 (by omega)⟩,?_,?_⟩ (Ext.push h _)
 ·have e1:xs.flatten.toArray++(ys.flatten.toArray++Builtin.zeroCells z.cells (nc-(l+m)))=((xs++ys).flatten++(Builtin.zeroCells z.cells (nc-(l+m))).toList).toArray:=by
   apply Array.toList_inj.1; simp
  rw [e1]
  exact aM.new h e _
 ·rw [Array.length_toList,nX,hzs]
theorem ry:Tryz.prog.underlying 23=some (.slice 96):=by kernel_rfl
def Au (h:Hp) (p:Option Addr) (us:List bD):Prop:=∀ i,(hi:i<us.length)→∃ a q m c,p=some a∧aH h (a.add (i*10)) 0 (encI q m c us[i])
theorem Au.af {h h':Hp} {p:Option Addr} {us:List bD} (v:Au h p us) (k:Ext h h'):Au h' p us:=fun i hi=>by
 obtain ⟨a,q,m,c,ha,hc⟩:=v i hi
 exact ⟨a,q,m,c,ha,bj k (by simp) _ _ hc⟩
theorem AH.ic {h:Hp} {p:Option Addr} {l:Nat} {us:List bD} (v:AH h p l us):Au h p us:=fun i hi=>by
 obtain ⟨a,q,m,c,ha,hc,_⟩:=v.cells i hi
 exact ⟨a,q,m,c,ha,hc⟩
theorem Au.join {h:Hp} {p:Option Addr} {us:List bD} (v:Au h p us) (hn:0<us.length):∃ (a:Addr) (xs:List (List Value)),p=some a∧xs.length=us.length∧(∀ y,y∈xs→y.length=10)∧aH h a 0 xs.flatten∧∀ i,(hi:i<us.length)→(hi':i<xs.length)→∃ q m c,xs[i]=encI q m c us[i]:=by
 obtain ⟨a,q,m,c,ha,hc⟩:=v 0 hn
 obtain ⟨xs,h1,h2,h3,h4,h5⟩:=xJ (h:=h) (a:=a) (sz:=10) (P:=fun i ys=>∀ hi:i<us.length,∃ q m c,ys=encI q m c us[i]) us.length (fun i hi=>by
  obtain ⟨a',q,m,c,ha',hc⟩:=v i hi
  rw [ha] at ha'
  cases ha'
  exact ⟨_,rfl,hc,fun _=>⟨q,m,c,rfl⟩⟩)
 exact ⟨a,xs,ha,h1,h2,h3,fun i hi hi'=>h5 i hi' hi⟩
theorem Mx {L:Lp} {K:Value→Hp→Prop} {h:Hp} {k:Option Addr→Nat→Nat→T} {p q:Option Addr} {l m d:Nat} {us vs:List bD} (v:Au h p us) (w:Au h q vs) (hl:l=us.length) (hm:m=vs.length) (hs:us.length+vs.length≤8192)
  (hk:∀ p' c' h',Au h' p' (us++vs)→Ext h h'→k p' (l+m) c' L K h') :
  T.aS Tryz.prog (Builtin.append_ #[23,23] 23 #[.slice p l l,.slice q m d]) false [(false,[.slice 0])] k L K h:=by
 obtain ⟨i,hi,hz,hsz,hby⟩:=fF Mq
 refine bN ?_
 by_cases hm0:m=0
 ·have:vs=[]:=List.eq_nil_of_length_eq_zero (by omega)
  subst this hm0
  have hfin:=hk p l h (by rw [List.append_nil]; exact v) (Ch.refl _ _)
  simp only [Nat.add_zero] at hfin
  cases p with
  | none =>
   cases q with
   | none =>
    simp [Builtin.append_,ak,ay ry,aT hi,bJ hi,Builtin.lenOf,Builtin.firstCells]
    exact ⟨_,_,_,rfl,hfin⟩
   | some b =>
    simp [Builtin.append_,ak,ay ry,aT hi,bJ hi,Builtin.lenOf,Builtin.firstCells]
    rw [ft]
    refine cz (vs:=[]) rfl trivial _ ?_
    exact ⟨_,_,_,rfl,hfin⟩
  | some a =>
   cases q with
   | none =>
    simp [Builtin.append_,ak,ay ry,aT hi,bJ hi,Builtin.lenOf,Builtin.firstCells]
    exact ⟨_,_,_,rfl,hfin⟩
   | some b =>
    simp [Builtin.append_,ak,ay ry,aT hi,bJ hi,Builtin.lenOf,Builtin.firstCells]
    refine cz (vs:=[]) rfl trivial _ ?_
    rw [ft]
    refine dC _ [] _ _ _ trivial ?_
    exact ⟨_,_,_,rfl,hfin⟩
 ·obtain ⟨b,ys,rfl,y1,y2,y3,y4⟩:=w.join (by omega)
  have hxs:∃ xs:List (List Value),l=xs.length∧(∀ y,y∈xs→y.length=10)∧Iu h p xs∧∀ i,(hi:i<us.length)→(hi':i<xs.length)→∃ q m c,xs[i]=encI q m c us[i]:=by
   by_cases hu:us.length=0
   ·refine ⟨[],by simp; omega,by simp,?_,fun i hi=>by omega⟩
    cases p with
    | none=>rfl
    | some a=>trivial
   ·obtain ⟨a,xs,rfl,x1,x2,x3,x4⟩:=v.join (by omega)
    exact ⟨xs,by omega,x2,x3,x4⟩
  obtain ⟨xs,x1,x2,x3,x4⟩:=hxs
  refine A5 (ys:=ys) ry hi hz (by rw [hsz]; rfl) x1 (by rw [hsz]; exact x2) x3 (by omega) (by omega) (by rw [hsz]; exact y2) y3 (by rw [hby]; omega) (by omega) ?_
  intro c' h' s' e'
  rw [hsz] at s'
  refine ⟨_,_,_,rfl,hk _ c' h' (fun j hj=>?_) e'⟩
  have hj':j<(xs++ys).length:=by rw [List.length_append] at hj ⊢; omega
  obtain ⟨a,ha,hc⟩:=SL.cells s' hj'
  have hex:∃ q m c,(xs++ys)[j]=encI q m c (us++vs)[j]:=by
   by_cases hju:j<us.length
   ·obtain ⟨q,m,c,hx⟩:=x4 j hju (by omega)
    exact ⟨q,m,c,by rw [List.getElem_append_left (by omega),List.getElem_append_left hju]; exact hx⟩
   ·have hxu:xs.length=us.length:=by omega
    rw [List.length_append] at hj
    obtain ⟨q,m,c,hx⟩:=y4 (j-us.length) (by omega) (by omega)
    refine ⟨q,m,c,?_⟩
    rw [List.getElem_append_right (by omega),List.getElem_append_right (by omega)]
    simp only [hxu]
    exact hx
  obtain ⟨q,m,c,hx⟩:=hex
  rw [hx] at hc
  exact ⟨a,q,m,c,ha,hc⟩
theorem JI {h:Hp} {p:Option Addr} {l c:Nat} (hlc:l≤c):uj Tryz.prog 42 [.slice p l c] h (.slice p l l):=by
 refine dU mixed Tryz.func42 (by kernel_rfl) (eV p l c) ?_
 unfold dk
 obtain ⟨i,hi,hz,hsz,hby⟩:=fF Mq
 refine bN ?_
 unfold Instr.sliceAt
 rw [ak,ay ry]
 show aJ Tryz.prog (Instr.slice 23 (.slice p l c) none (some (.int .i64 (l:Int))) (some (.int .i64 (l:Int)))) h _
 unfold Instr.slice Instr.sliceBounds
 rw [ak,ay ry]
 show aJ Tryz.prog ((Instr.sliceBound (.int .i64 (l:Int)) c .slice3Acap >>= fun m=>Instr.sliceBound (.int .i64 (l:Int)) m .slice3B >>= fun hh=>pure (0,hh,m)) >>= fun x=>_) h _
 rw [ak,ak,bZ c _ rfl (by omega) (by omega),ak,bZ _ _ rfl (by omega) (by omega)]
 rw [zg]
 dsimp only
 rw [ak,aT hi]
 show ∃ p' l' c',(Value.slice _ _ _)=.slice p' l' c'∧_
 have hp:(if Int.toNat (l:Int)=0 then p else p.map (·.add (0*Tryz.prog.cellsOf 96)))=p:=by
  split
  ·rfl
  ·cases p with
   | none=>rfl
   | some a=>simp [F5]
 refine ⟨p,l,l,?_,rfl,rfl⟩
 rw [hp]
 simp
def zQ (u:fU):List ByteArray:=if sC u=0 then qz (Bi u) else []
theorem EI (l:List kl) (i:Nat) (hi:i<l.length):(l.take (i+1)).map (·.1)=(l.take i).map (·.1)++[l[i].1]:=by
 rw [List.take_succ_eq_append_getElem hi,List.map_append]
 rfl
theorem xn {u:fU} (h:sC u=0):u.text.length+u.data.length≤8192∧u.aQ.length≤8192:=by
 unfold sC at h
 cases hm:vy u with
 | true=>rw [hm] at h; simp at h
 | false =>
  unfold vy at hm
  simp only [Bool.or_eq_false_iff,decide_eq_false_iff_not] at hm
  omega
theorem zf {L:Lp} {K:Value→Hp→Prop} {h:Hp} {g off:Nat} {e:TypeId} {xs vs:List Value} {t:T} (b:aM h g e xs) (hv:(xs.drop off).take vs.length=vs) (ht:t L K h):T.aB [((⟨g,off,none⟩:Addr),vs)] t L K h :=
 ⟨⟨b.cells _ hv,trivial⟩,ht⟩
set_option maxHeartbeats 1000000 in
theorem Cu {h:Hp} (t:zK h) {a b c d:bE} {u:fU} (v:eZ h a b c d u) (hac:a.l≤a.c):HC Tryz.prog 16 #[jM a b c d] h fun w h'=>(∃ p l c,w=.slice p l c∧SN h' h.size p l c (zQ u))∧Ext h h':=by
 refine aL (args:=[jM a b c d]) mixed Tryz.func16 (by kernel_rfl) (vo a.p a.l a.c b.p b.l b.c c.p c.l c.c d.p d.l d.c) ?_
 unfold ti
 refine aW ?_
 intro h1 b1 e1 z1
 have b1:aM h1 h.size 27 [a.v,b.v,c.v,d.v]:=b1
 refine ad b1 ((a.p,a.l,a.c),(b.p,b.l,b.c),(c.p,c.l,c.c),(d.p,d.l,d.c),()) rfl ?_
 dsimp only [flat,aD,aj,nA,cA]
 refine aF (mi (t.af e1 (by simp)) (v.af e1)) ?_
 rintro _ h2 ⟨rfl,e2⟩
 refine ⟨((sC u:Int),()),rfl,?_⟩
 dsimp only [flat,aD,aj,nA,cA]
 have e02:=e1.trans e2
 unfold zQ
 refine ah (fun r=>?_) (fun r=>?_)
 ·have r:¬ sC u=0:=by simpa using r
  rw [if_neg r]
  exact ⟨⟨none,0,0,rfl,SL.nil _ _ _ _⟩,e02⟩
 have r:sC u=0:=by simpa using r
 rw [if_pos r]
 obtain ⟨hs1,hs2⟩:=xn r
 have b2:=b1.af e2 (by simp)
 have n1:=v.text.len
 have n2:=v.data.len
 have n3:=v.aQ.len
 refine ad b2 ((a.p,a.l,a.c),()) rfl ?_
 dsimp only [flat,aD,aj,nA,cA]
 rw [au]
 refine ad b2 ((b.p,b.l,b.c),()) rfl ?_
 dsimp only [flat,aD,aj,nA,cA]
 refine iK (JI hac) ((a.p,a.l,a.l),()) rfl ?_
 dsimp only [flat,aD,aj,nA,cA]
 refine zf b2 rfl ?_
 refine Mx (AH.ic (v.text.af e02)) (AH.ic (v.data.af e02)) n1 n2 hs1 ?_
 intro p3 c3 h3 ic e3
 have b3:=b2.af e3 (by simp)
 have e03:=e02.trans e3
 refine zf b3 rfl ?_
 generalize hits:u.text++u.data=jZ at ic
 have hil0:a.l+b.l=jZ.length:=by rw [← hits,List.length_append]; omega
 rw [hil0]
 have hal:Bi u=dR jZ++u.aQ.map (·.1):=by
  unfold Bi
  rw [← hits]
  unfold dR
  rw [List.filter_append,List.map_append]
 have hz3:=e03.size
 refine aY (cs:=[(false,[.slice 0]),(false,[.int .i64])]) (fun y m h'=>∃ i:Nat,y.2.1=(i:Int)∧m=jZ.length-i∧i≤jZ.length∧Ext h3 h'∧(dR (jZ.take i)).length≤i∧SN h' h3.size y.1.1 y.1.2.1 y.1.2.2 (dR (jZ.take i))) ((none,0,0),(0:Int),()) jZ.length rfl
  ⟨0,rfl,rfl,by omega,Ch.refl _ _,by simp [dR],SL.nil _ _ _ _⟩ ?_
 rintro ⟨⟨p1,l2,l3⟩,n4,⟨⟩⟩ m h4 ⟨i,hi,rfl,hle,e4,hll,s⟩
 simp only at hi s
 subst hi
 dsimp only [flat,aD,aj,nA,cA]
 have hz4:=e4.size
 have ic4:=ic.af e4
 refine ah (fun q=>?_) (fun q=>?_)
 ·have q:=of_decide_eq_true q
  have hil:i<jZ.length:=by omega
  obtain ⟨aa,pp,ll,cc,kR,hc⟩:=ic4 i hil
  have ht:=yU jZ i hil
  generalize jZ[i]=x at hc ht
  refine aA ⟨by omega,by omega⟩ (ai kR ?_)
  rw [show Int.toNat (i:Int)=i by omega]
  refine aE (x.kind,x.name,x.inst.op,x.inst.a,x.inst.b,x.inst.n,x.inst.form,(pp,ll,cc),(x.e.num:Int),x.n,()) hc ?_
  dsimp only [flat,aD,aj,nA,cA]
  refine aW ?_
  intro g1 c1 f1 y1
  refine an c1 rfl (by simp) ?_
  intro g2 c2 k2 y2
  have c2:aM g2 h4.size 96 (encI pp ll cc x):=c2
  have f2:Ext h4 g2:=Ch.trans f1 k2 (fun i hi hl=>by simp at hi; omega)
  have e4g:=e4.trans f2
  have s5:SN g2 h3.size p1 l2 l3 (dR (jZ.take i)):=SL.af s f2 (by simp)
  refine ad c2 (x.kind,()) rfl ?_
  dsimp only [flat,aD,aj,nA,cA]
  refine ah (fun r=>?_) (fun r=>?_)
  ·have r:x.kind=1:=by simpa using r
   rw [if_pos r] at ht
   rw [au]
   refine ad c2 (x.name,()) rfl ?_
   dsimp only [flat,aD,aj,nA,cA]
   refine SN.push s5 x.name (by omega) (by have:=f2.size; omega) ?_
   intro p' c' h6 s6 k6
   refine aK (cs:=[(false,[.slice 0]),(false,[.int .i64])]) ((p',l2+1,c'),((i+1:Nat):Int),()) (jZ.length-(i+1)) rfl (by omega) (by rw [wrap_i64 (by omega) (by omega)]; rfl) ?_
   exact ⟨i+1,rfl,rfl,by omega,SN.ext e4g s5 (Nat.le_refl _) k6,by rw [ht,List.length_append]; simp; omega,by rw [ht]; exact s6⟩
  ·have r:¬ x.kind=1:=by simpa using r
   rw [if_neg r,List.append_nil] at ht
   refine aK (cs:=[(false,[.slice 0]),(false,[.int .i64])]) ((p1,l2,l3),((i+1:Nat):Int),()) (jZ.length-(i+1)) rfl (by omega) (by rw [wrap_i64 (by omega) (by omega)]; rfl) ?_
   exact ⟨i+1,rfl,rfl,by omega,e4g,by rw [ht]; omega,by rw [ht]; exact s5⟩
 ·have q:=of_decide_eq_false q
  have:i=jZ.length:=by omega
  subst this
  rw [List.take_length] at s
  have b4:=b3.af e4 (by simp)
  rw [au]
  refine ad b4 ((c.p,c.l,c.c),()) rfl ?_
  dsimp only [flat,aD,aj,nA,cA]
  have hlab:(dR jZ).length≤8192:=by have:=oQ jZ; omega
  have e04:=e03.trans e4
  refine aY (cs:=[(false,[.slice 0]),(false,[.int .i64])]) (fun y m h'=>∃ i:Nat,y.2.1=(i:Int)∧m=u.aQ.length-i∧i≤u.aQ.length∧Ext h3 h'∧SN h' h3.size y.1.1 y.1.2.1 y.1.2.2 (dR jZ++(u.aQ.take i).map (·.1))) ((p1,l2,l3),(0:Int),()) u.aQ.length rfl
   ⟨0,rfl,rfl,by omega,e4,by simpa using s⟩ ?_
  rintro ⟨⟨p5,l5,c5⟩,n5,⟨⟩⟩ m h5 ⟨i,hi,rfl,hle,e5,s⟩
  simp only at hi s
  subst hi
  dsimp only [flat,aD,aj,nA,cA]
  have ve:=v.aQ.af (e03.trans e5)
  have hz5:=e5.size
  have hlen:=SN.len s
  rw [List.length_append,List.length_map,List.length_take] at hlen
  refine ah (fun q=>?_) (fun q=>?_)
  ·have q:=of_decide_eq_true q
   have hil:i<u.aQ.length:=by omega
   obtain ⟨aa,pp,ll,cc,kR,hc,va,hsz⟩:=ve.cells i hil
   have ht:=EI u.aQ i hil
   generalize u.aQ[i]=x at hc ht
   refine aA ⟨by omega,by omega⟩ (ai kR ?_)
   rw [show Int.toNat (i:Int)=i by omega]
   refine aE (x.1,(pp,ll,cc),(x.2.num:Int),()) hc ?_
   dsimp only [flat,aD,aj,nA,cA]
   refine aW ?_
   intro g1 c1 f1 y1
   refine an c1 rfl (by simp) ?_
   intro g2 c2 k2 y2
   have c2:aM g2 h5.size 99 (rQ pp ll cc x):=c2
   have f2:Ext h5 g2:=Ch.trans f1 k2 (fun i hi hl=>by simp at hi; omega)
   have e5g:=e5.trans f2
   have s5:SN g2 h3.size p5 l5 c5 (dR jZ++(u.aQ.take i).map (·.1)):=SL.af s f2 (by simp)
   refine ad c2 (x.1,()) rfl ?_
   dsimp only [flat,aD,aj,nA,cA]
   refine SN.push s5 x.1 (by rw [List.length_append,List.length_map,List.length_take]; omega) (by have:=f2.size; omega) ?_
   intro p' c' h6 s6 k6
   refine aK (cs:=[(false,[.slice 0]),(false,[.int .i64])]) ((p',l5+1,c'),((i+1:Nat):Int),()) (u.aQ.length-(i+1)) rfl (by omega) (by rw [wrap_i64 (by omega) (by omega)]; rfl) ?_
   exact ⟨i+1,rfl,rfl,by omega,SN.ext e5g s5 (Nat.le_refl _) k6,by rw [ht,← List.append_assoc]; exact s6⟩
  ·have q:=of_decide_eq_false q
   have:i=u.aQ.length:=by omega
   subst this
   rw [List.take_length] at s
   rw [← hal] at s
   refine aF (IL s (by omega)) ?_
   rintro _ h6 ⟨rfl,s6,k6⟩
   refine ⟨(),rfl,?_⟩
   exact ⟨⟨p5,l5,c5,rfl,SL.mono s6 (by omega)⟩,e03.trans (SN.ext e5 s (Nat.le_refl _) k6)⟩
end Go.Sx.Ob
set_option linter.unusedVariables false
set_option maxRecDepth 100000
namespace Go.Sx
open Go.Proofs
def fw (a:Option Addr) (b c:Nat):T :=
 T.aS Tryz.prog (Instr.makeSlice 23 (.int .i64 (b:Int)) (.int .i64 (b:Int))) false [(false,[.slice 0])] fun (d:Option Addr) (e:Nat) (f:Nat) =>
 T.loop [(false,[.int .i64])] [.int .i64 (0:Int)] fun (g:Int) =>
 cond (decide (g<(b:Int)))
 (T.need (((0:Int)≤g)∧(g<(b:Int))) <|
 T.aw a fun (h:Addr) =>
 T.ae (h.add ((Int.toNat g)*10)) [.int .i64,.string,.int .i64,.int .i64,.int .i64,.int .i32,.int .i64,.slice 109,.int .u32,.int .i64] fun (i:Int) (j:ByteArray) (k:Int) (l:Int) (m:Int) (n:Int) (o:Int) (p:Option Addr) (q:Nat) (r:Nat) (s:Int) (t:Int) =>
 T.need (((0:Int)≤g)∧(g<(e:Int))) <|
 T.aw d fun (u:Addr) =>
 T.ao (u.add ((Int.toNat g)*10)) [.int .i64 i,.string j,.int .i64 k,.int .i64 l,.int .i64 m,.int .i32 n,.int .i64 o,.slice p q r,.int .u32 s,.int .i64 t] <|
 T.need (((0:Int)≤g)∧(g<(b:Int))) <|
 T.aw a fun (v:Addr) =>
 T.ae ((v.add ((Int.toNat g)*10)).add 7) [.slice 109,.int .u32] fun (w:Option Addr) (x:Nat) (y:Nat) (z:Int) =>
 T.call Tryz.prog 55 [.agg #[.slice w x y,.int .u32 z]] false [(true,[.slice 109,.int .u32])] fun (A:Option Addr) (B:Nat) (C:Nat) (D:Int) =>
 T.need (((0:Int)≤g)∧(g<(e:Int))) <|
 T.aw d fun (E:Addr) =>
 T.ao ((E.add ((Int.toNat g)*10)).add 7) [.slice A B C,.int .u32 D] <|
 T.again 0 [.int .i64 (IntKind.wrap .i64 (g+(1:Int)))])
 (T.ret (.slice d e f))
theorem jb (a:Option Addr) (b c:Nat):aZ Tryz.prog [] Tryz.f54 [.slice a b c]=fw a b c:=by kernel_rfl
def gw (a:Option Addr) (b c:Nat) (d:Int):T :=
 T.new [.slice a b c,.int .u32 d] 94 fun (e:Addr) =>
 T.new [.slice none 0 0,.int .u32 (0:Int)] 94 fun (f:Addr) =>
 T.ae e [.slice 109] fun (g:Option Addr) (h:Nat) (i:Nat) =>
 T.ae (e.add 1) [.int .u32] fun (j:Int) =>
 T.aS Tryz.prog (Instr.buildSlice 91 0 #[]) false [(false,[.slice 0])] fun (k:Option Addr) (l:Nat) (m:Nat) =>
 T.aB [((e.add 1),[.int .u32 j]),(e,[.slice g h i])] <|
 T.aS Tryz.prog (Builtin.append_ #[91,91] 91 #[.slice k l m,.slice g h i]) false [(false,[.slice 0])] fun (n:Option Addr) (o:Nat) (p:Nat) =>
 T.aB [((e.add 1),[.int .u32 j])] <|
 T.ao f [.slice n o p,.int .u32 j] <|
 T.ae f [.slice 109,.int .u32] fun (q:Option Addr) (r:Nat) (s:Nat) (t:Int) =>
 T.ret (.agg #[.slice q r s,.int .u32 t])
theorem kp (a:Option Addr) (b c:Nat) (d:Int):aZ Tryz.prog [] Tryz.f55 [.agg #[.slice a b c,.int .u32 d]]=gw a b c d:=by kernel_rfl
def iF (a:Option Addr) (b c:Nat) (d:Option Addr) (e f:Nat) (g:Option Addr) (h i:Nat) (j:Option Addr) (k l:Nat):T :=
 T.new [.slice a b c,.slice d e f,.slice g h i,.slice j k l] 27 fun (m:Addr) =>
 T.ae m [.slice 96] fun (n:Option Addr) (o:Nat) (p:Nat) =>
 T.ae (m.add 1) [.slice 96] fun (q:Option Addr) (r:Nat) (s:Nat) =>
 T.aS Tryz.prog (Instr.buildSlice 100 2 #[(0,.slice n o p),(1,.slice q r s)]) false [(false,[.slice 0])] fun (t:Option Addr) (u:Nat) (v:Nat) =>
 T.loop [(false,[.int .i64])] [.int .i64 (0:Int)] fun (w:Int) =>
 cond (decide (w<(u:Int)))
 (T.need (((0:Int)≤w)∧(w<(u:Int))) <|
 T.aw t fun (x:Addr) =>
 T.ae (x.add ((Int.toNat w)*1)) [.slice 96] fun (y:Option Addr) (z:Nat) (A:Nat) =>
 T.loop [(false,[.int .i64])] [.int .i64 (0:Int)] fun (B:Int) =>
 cond (decide (B<(z:Int)))
  (T.loop [(false,[.int .i64])] [.int .i64 (0:Int)] fun (C:Int) =>
  T.need (((0:Int)≤B)∧(B<(z:Int))) <|
  T.aw y fun (D:Addr) =>
  T.ae ((D.add ((Int.toNat B)*10)).add 7) [.slice 109] fun (E:Option Addr) (F:Nat) (G:Nat) =>
  cond (decide (C<(F:Int)))
  (T.need (((0:Int)≤B)∧(B<(z:Int))) <|
  T.aw y fun (H:Addr) =>
  T.ae ((H.add ((Int.toNat B)*10)).add 7) [.slice 109] fun (I:Option Addr) (J:Nat) (K:Nat) =>
  T.need (((0:Int)≤C)∧(C<(J:Int))) <|
  T.aw I fun (L:Addr) =>
  T.ao (L.add ((Int.toNat C)*2)) [.string ⟨#[115,112,111,105,108,116]⟩,.int .u32 (0:Int)] <|
  T.again 2 [.int .i64 (IntKind.wrap .i64 (C+(1:Int)))])
  (T.need (((0:Int)≤B)∧(B<(z:Int))) <|
  T.aw y fun (H:Addr) =>
  T.ao (H.add ((Int.toNat B)*10)) [.int .i64 (-9:Int),.string ⟨#[]⟩,.int .i64 (0:Int),.int .i64 (0:Int),.int .i64 (0:Int),.int .i32 (0:Int),.int .i64 (0:Int),.slice none 0 0,.int .u32 (0:Int),.int .i64 (0:Int)] <|
  T.again 1 [.int .i64 (IntKind.wrap .i64 (B+(1:Int)))]))
  (T.again 0 [.int .i64 (IntKind.wrap .i64 (w+(1:Int)))]))
 (T.loop [(false,[.int .i64])] [.int .i64 (0:Int)] fun (x:Int) =>
 T.ae (m.add 2) [.slice 99] fun (y:Option Addr) (z:Nat) (A:Nat) =>
 cond (decide (x<(z:Int)))
  (T.loop [(false,[.int .i64])] [.int .i64 (0:Int)] fun (B:Int) =>
  T.ae (m.add 2) [.slice 99] fun (C:Option Addr) (D:Nat) (E:Nat) =>
  T.need (((0:Int)≤x)∧(x<(D:Int))) <|
  T.aw C fun (F:Addr) =>
  T.ae ((F.add ((Int.toNat x)*3)).add 1) [.slice 109] fun (G:Option Addr) (H:Nat) (I:Nat) =>
  cond (decide (B<(H:Int)))
  (T.ae (m.add 2) [.slice 99] fun (J:Option Addr) (K:Nat) (L:Nat) =>
  T.need (((0:Int)≤x)∧(x<(K:Int))) <|
  T.aw J fun (M:Addr) =>
  T.ae ((M.add ((Int.toNat x)*3)).add 1) [.slice 109] fun (N:Option Addr) (O:Nat) (P:Nat) =>
  T.need (((0:Int)≤B)∧(B<(O:Int))) <|
  T.aw N fun (Q:Addr) =>
  T.ao (Q.add ((Int.toNat B)*2)) [.string ⟨#[115,112,111,105,108,116]⟩,.int .u32 (0:Int)] <|
  T.again 2 [.int .i64 (IntKind.wrap .i64 (B+(1:Int)))])
  (T.ae (m.add 2) [.slice 99] fun (J:Option Addr) (K:Nat) (L:Nat) =>
  T.need (((0:Int)≤x)∧(x<(K:Int))) <|
  T.aw J fun (M:Addr) =>
  T.ao (M.add ((Int.toNat x)*3)) [.string ⟨#[115,112,111,105,108,116]⟩,.slice none 0 0,.int .u32 (0:Int)] <|
  T.again 1 [.int .i64 (IntKind.wrap .i64 (x+(1:Int)))]))
  (T.loop [(false,[.int .i64])] [.int .i64 (0:Int)] fun (B:Int) =>
  T.ae (m.add 3) [.slice 9] fun (C:Option Addr) (D:Nat) (E:Nat) =>
  cond (decide (B<(D:Int)))
  (T.ae (m.add 3) [.slice 9] fun (F:Option Addr) (G:Nat) (H:Nat) =>
  T.need (((0:Int)≤B)∧(B<(G:Int))) <|
  T.aw F fun (I:Addr) =>
  T.ao (I.add ((Int.toNat B)*1)) [.string ⟨#[115,112,111,105,108,116]⟩] <|
  T.again 2 [.int .i64 (IntKind.wrap .i64 (B+(1:Int)))])
  (T.ret (.tuple #[]))))
theorem ln (a:Option Addr) (b c:Nat) (d:Option Addr) (e f:Nat) (g:Option Addr) (h i:Nat) (j:Option Addr) (k l:Nat):aZ Tryz.prog [] Tryz.f26 [.agg #[.slice a b c,.slice d e f,.slice g h i,.slice j k l]]=iF a b c d e f g h i j k l:=by kernel_rfl
end Go.Sx
set_option linter.unusedVariables false
set_option linter.unusedSimpArgs false
set_option maxRecDepth 100000
namespace Go.Sx.Ob
open Go.Proofs
theorem Jk {h:Hp} {p:Option Addr} {l:Nat} {us:dw} (v:qf h p l us):(p=none∧us.map cj=[])∨∃ a,p=some a∧aH h a 0 (us.map cj).flatten:=by
 cases p with
 | none =>
  left
  refine ⟨rfl,?_⟩
  cases us with
  | nil=>rfl
  | cons u us =>
   obtain ⟨a,ha,_⟩:=v.cells 0 (by simp)
   cases ha
 | some a=>exact .inr ⟨a,rfl,v.flat⟩
theorem Hg (us:dw):∀ y,y∈us.map cj→y.length=2:=by
 intro y hy
 obtain ⟨u,_,rfl⟩:=List.mem_map.1 hy
 rfl
theorem wF {h:Hp} {p:Option Addr} {l c:Nat} {x:fa} (v:qf h p l x.aC) (hl:x.aC.length≤2^40) :
  HC Tryz.prog 55 #[lW p l c x] h fun w h'=>(∃ p' l' c',w=lW p' l' c' x∧SL h' h.size 109 2 p' l' c' (x.aC.map cj))∧Ext h h':=by
 refine aL (args:=[lW p l c x]) mixed Tryz.func55 (by kernel_rfl) (kp p l c x.num) ?_
 unfold gw
 have hll:=v.len
 refine aW ?_
 intro h1 b1 e1 z1
 refine aW ?_
 intro h2 b2 e2 z2
 have b12:=b1.af e2 (by simp)
 have e02:=e1.trans e2
 refine ad b12 ((p,l,c),()) rfl ?_
 dsimp only [flat,aD,aj,nA,cA]
 rw [au]
 refine ad b12 ((x.num:Int),()) rfl ?_
 dsimp only [flat,aD,aj,nA,cA]
 have v2:=v.af e02 (by simp)
 refine Ep (e:=109) (z:=.agg #[.string ⟨#[]⟩,.int .u32 0]) (sz:=2) (by':=24) AK DZ ?_
 intro h3 s3 e3
 have b13:=b12.af e3 (by simp)
 refine ⟨⟨b13.cells _ rfl,b13.cells _ rfl,trivial⟩,?_⟩
 have hz3:=e3.size
 have fin:∀ (p':Option Addr) (c':Nat) (h':Hp),SL h' h2.size 109 2 p' l c' (x.aC.map cj)→Ext h2 h'→T.aB [(⟨h.size,0+1,none⟩,[.int .u32 (x.num:Int)])] (T.ao ⟨h1.size,0,none⟩ [.slice p' l c',.int .u32 (x.num:Int)] (T.ae ⟨h1.size,0,none⟩ [.slice 109,.int .u32] fun (p13:Option Addr) (l14:Nat) (l15:Nat) (n16:Int) =>
   T.ret (.agg #[.slice p13 l14 l15,.int .u32 n16]))) [] (fun w h'=>(∃ p' l' c',w=lW p' l' c' x∧SL h' h.size 109 2 p' l' c' (x.aC.map cj))∧Ext h h') h':=by
  intro p' c' h' s' e'
  have b1':=b12.af e' (by simp)
  refine ⟨⟨b1'.cells _ rfl,trivial⟩,?_⟩
  refine an (b2.af e' (by simp)) rfl (by simp) ?_
  intro h5 b5 k5 z5
  have b5:aM h5 h1.size 94 [.slice p' l c',.int .u32 (x.num:Int)]:=b5
  refine ad b5 ((p',l,c'),(x.num:Int),()) rfl ?_
  exact ⟨⟨p',l,c',rfl,(s'.aO k5 (fun j hj=>by have:=(s'.bR hj).1; simp; omega)).mono (by omega)⟩,Ch.trans (e02.trans e') k5 (fun j hj hl=>by simp at hj; omega)⟩
 obtain ⟨i,hi,hz,hsz,hby⟩:=fF DZ
 rcases Jk v2 with ⟨hp,hys⟩ | ⟨a,ha,hc⟩
 ·subst hp
  have hl0:l=0:=by
   have:=congrArg List.length hys
   rw [List.length_map,List.length_nil] at this
   omega
  subst hl0
  refine bN ?_
  simp [Builtin.append_,ak,ay AK,aT hi,Builtin.lenOf,Builtin.firstCells,storeCells]
  exact ⟨_,_,_,rfl,fin _ _ _ (by rw [hys]; exact s3) e3⟩
 ·subst ha
  refine bN ?_
  refine fL (ys:=x.aC.map cj) AK hi hz (by rw [hsz]; rfl) (by rw [hsz]; exact s3) (by rw [List.length_map]; omega) (fun y hy=>by rw [hsz]; exact Hg _ y hy) (bj e3 (by simp) _ _ hc) (C' _) (by rw [hby]; omega) (by omega) (by omega) ?_
  intro p' c' h4 s4 k4 hp4
  rw [Nat.zero_add,List.nil_append] at *
  rw [hsz] at s4
  exact ⟨p',l,c',rfl,fin p' c' h4 s4 (Ch.trans e3 k4 fun j hj hl=>by simp [az] at hj; omega)⟩
abbrev CF:=Ls 96 10 (fun s x=>encI s.p s.l s.c x) (fun x:bD=>x.e.aC) (fun _=>True)
abbrev Lq:=Ls 99 3 (fun s (x:kl)=>rQ s.p s.l s.c x) (fun x=>x.2.aC) (fun _=>True)
theorem Lr:Tryz.prog.underlying 23=some (.slice 96):=by kernel_rfl
theorem LY:(Tryz.prog.info? 96).map (fun i=>(i.zero,i.size,i.bytes))=some (some (.agg iz.toArray),10,104):=by kernel_rfl
theorem G9 (p:Option Addr) (l c:Nat) (x:bD):(encI p l c x).length=10:=rfl
def FR (u:bE × bD):List Value:=encI u.1.p u.1.l u.1.c u.2
theorem Gg (us:List (bE × bD)):(us.map FR).flatten.length=us.length*10:=by
 rw [bF (us.map FR) (sz:=10) (fun y hy=>by obtain ⟨u,_,rfl⟩:=List.mem_map.1 hy; rfl),List.length_map]
theorem AE {h : Hp} {p : Option Addr} {l c : Nat} {us : List bD} (v : AH h p l us) (hn : us.length ≤ 2 ^ 20) (ht : ∀ x, x ∈ us → x.e.aC.length ≤ 2 ^ 40) :
    HC Tryz.prog 54 #[.slice p l c] h fun w h' => (∃ p' c' ws, w = .slice p' l c' ∧ CF h' h.size p' l c' ws ∧ ws.map (·.2) = us) ∧ Ext h h' := by
  refine aL (args := [.slice p l c]) mixed Tryz.func54 (by kernel_rfl) (jb p l c) ?_
  unfold fw
  have hlen := v.len
  obtain ⟨i0, hi0, hz0, hsz, hby⟩ := fF LY
  refine bN (tn (l := l) (c := l) Lr hi0 hz0 (Nat.le_refl _) (by rw [hby]; omega) (by omega) ?_)
  intro h1 b1 e1 z1
  refine ⟨_, _, _, rfl, ?_⟩
  have hzl : ((List.range (l * i0.size)).map ((Value.agg iz.toArray).cells[· % (Value.agg iz.toArray).cells.size]!)).length = l * 10 := by rw [List.length_map, List.length_range, hsz]
  generalize (List.range (l * i0.size)).map ((Value.agg iz.toArray).cells[· % (Value.agg iz.toArray).cells.size]!) = Z at b1 hzl
  refine aY (cs := [(false, [.int .i64])]) (fun y m h' => ∃ (i : Nat) (ws : List (bE × bD)) (Z : List Value), y.1 = (i : Int) ∧ i ≤ l ∧ m = l - i ∧ Ext h h' ∧ h1.size ≤ h'.size ∧ ws.map (·.2) = us.take i ∧ ws.length = i ∧ Z.length = (l - i) * 10 ∧ aM h' h.size 96 ((ws.map FR).flatten ++ Z) ∧ ∀ u, u ∈ ws → SL h' h1.size 109 2 u.1.p u.1.l u.1.c (u.2.e.aC.map cj)) ((0 : Int), ()) l rfl
    ⟨0, [], Z, rfl, by omega, by omega, e1, Nat.le_refl _, rfl, rfl, by simpa using hzl, b1, by simp⟩ ?_
  clear b1 hzl
  rintro ⟨n4, ⟨⟩⟩ m h2 ⟨i, ws, Z, hi, hil, rfl, e2, z2, hws, hwl, hZ, b2, own⟩
  simp only at hi
  subst hi
  dsimp only [flat, aD, aj, nA, cA]
  refine ah (fun q => ?_) (fun q => ?_)
  · have q := of_decide_eq_true q
    have hlt : i < us.length := by omega
    obtain ⟨aa, pp, ll, cc, kR, hc0, va0⟩ := v.cells i hlt
    have htk : us.take (i + 1) = us.take i ++ [us[i]] := List.take_succ_eq_append_getElem hlt
    have htx := ht us[i] (List.getElem_mem hlt)
    generalize us[i] = x at hc0 va0 htk htx
    have hcv : ∀ h', Ext h h' → aH h' (aa.add (i * 10)) 0 (encI pp ll cc x) := fun h' e => bj e (by simp) _ _ hc0
    have hc := hcv h2 e2
    refine aA ⟨by omega, by omega⟩ (ai kR ?_)
    rw [show Int.toNat (i : Int) = i by omega]
    refine aE (x.kind, x.name, x.inst.op, x.inst.a, x.inst.b, x.inst.n, x.inst.form, (pp, ll, cc), (x.e.num : Int), x.n, ()) hc ?_
    dsimp only [flat, aD, aj, nA, cA]
    refine aA ⟨by omega, by omega⟩ (ai rfl ?_)
    rw [au]
    have hD := Gg ws
    have hZ2 : Z = Z.take 10 ++ Z.drop 10 := (List.take_append_drop 10 Z).symm
    have hZ10 : (Z.take 10).length = 10 := by
      have h1 : 1 ≤ l - i := by omega
      have h2 := Nat.mul_le_mul_right 10 h1
      rw [List.length_take, hZ, Nat.min_eq_left (by omega)]
    have hoff : (0 + i * 10) = ((ws.map FR).flatten).length := by rw [hD, hwl]; omega
    have hZl : (Z.drop 10).length = (l - (i + 1)) * 10 := by rw [List.length_drop, hZ, show l - i = (l - (i + 1)) + 1 by omega, Nat.add_mul]; omega
    refine an (off := 0 + i * 10) b2 rfl (by rw [List.length_append, hD, hZ, hwl]; show 0 + i * 10 + 10 ≤ _; have : i + (l - i) = l := by omega
                                             rw [← Nat.add_mul, this]; have := Nat.mul_le_mul_right 10 (show i + 1 ≤ l by omega); omega) ?_
    intro h3 b3 k3 z3
    have b3 : aM h3 h.size 96 ((ws.map FR).flatten ++ (encI pp ll cc x ++ Z.drop 10)) := by
      have b3 : aM h3 h.size 96 (eI ((ws.map FR).flatten ++ Z) (0 + i * 10) (encI pp ll cc x)) := b3
      rw [hoff, hZ2, xy (by rw [hZ10]; rfl)] at b3
      simpa using b3
    have e3 : Ext h h3 := e2.st k3 (Nat.le_refl _)
    have hc3 := hcv h3 e3
    refine aA ⟨by omega, by omega⟩ (ai kR ?_)
    refine aE ((pp, ll, cc), (x.e.num : Int), ()) ⟨by rw [add_add]; exact hc3.2.2.2.2.2.2.2.1, by rw [add_add]; exact hc3.2.2.2.2.2.2.2.2.1, trivial⟩ ?_
    dsimp only [flat, aD, aj, nA, cA]
    have va3 := va0.af e3
    refine aF (wF (c := cc) va3.uU.vw htx) ?_
    rintro _ h4 ⟨⟨pc, lc, ccc, rfl, sc⟩, e4⟩
    refine ⟨((pc, lc, ccc), (x.e.num : Int), ()), rfl, ?_⟩
    dsimp only [flat, aD, aj, nA, cA]
    refine aA ⟨by omega, by omega⟩ (ai rfl ?_)
    rw [au]
    have b4 := b3.af e4 (by simp)
    refine an (off := 0 + i * 10 + 7) b4 rfl ?_ ?_
    · rw [List.length_append, hD, List.length_append, G9, hwl]
      show 0 + i * 10 + 7 + 2 ≤ _
      omega
    intro h5 b5 k5 z5
    have b5 : aM h5 h.size 96 (((ws ++ [((⟨pc, lc, ccc⟩ : bE), x)]).map FR).flatten ++ Z.drop 10) := by
      have b5 : aM h5 h.size 96 (eI ((ws.map FR).flatten ++ (encI pp ll cc x ++ Z.drop 10)) (0 + i * 10 + 7) [.slice pc lc ccc, .int .u32 (x.e.num : Int)]) := b5
      rw [show (ws.map FR).flatten ++ (encI pp ll cc x ++ Z.drop 10) = ((ws.map FR).flatten ++ (encI pp ll cc x).take 7) ++ ([.slice pp ll cc, .int .u32 (x.e.num : Int)] ++ ([.int .i64 x.n] ++ Z.drop 10)) by simp [encI],
        show 0 + i * 10 + 7 = ((ws.map FR).flatten ++ (encI pp ll cc x).take 7).length by rw [List.length_append, hD, hwl]; simp [encI], xy (X := [.slice pp ll cc, .int .u32 (x.e.num : Int)]) (vs := [.slice pc lc ccc, .int .u32 (x.e.num : Int)]) rfl] at b5
      simpa [encI, FR] using b5
    have hz3 := e1.size
    have hz4 := e4.size
    rw [wrap_i64 (by omega) (by omega)]
    refine aK (cs := [(false, [.int .i64])]) (((i + 1 : Nat) : Int), ()) (l - (i + 1)) rfl (by omega) rfl ?_
    refine ⟨i + 1, ws ++ [((⟨pc, lc, ccc⟩ : bE), x)], Z.drop 10, rfl, by omega, rfl, (e3.trans e4).st k5 (Nat.le_refl _), by have := k3.size; have := k5.size; omega, by rw [List.map_append, hws, htk]; rfl, by simp [hwl], hZl, b5, ?_⟩
    intro u hu
    rcases List.mem_append.1 hu with hu | hu
    · have hb := Ob.SL.bR (own u hu)
      exact SL.lZ (SL.lZ (SL.lZ (own u hu) k3 (fun j hj _ => by simp at hj; omega)) e4 (by simp)) k5 (fun j hj _ => by simp at hj; omega)
    · rw [List.mem_singleton.1 hu]
      exact Sx.SL.mono (SL.lZ sc k5 (fun j hj _ => by simp at hj; have := k3.size; omega)) (by have := k3.size; omega)
  · have q := of_decide_eq_false q
    have : i = l := by omega
    subst this
    rw [List.take_of_length_le (by omega)] at hws
    refine ⟨⟨_, _, ws, rfl, ⟨?_, fun u hu => Sx.SL.mono (own u hu) (by have := e1.size; omega), fun _ _ => trivial⟩, hws⟩, e2⟩
    have hZ0 : Z = [] := List.length_eq_zero_iff.1 (by rw [hZ, Nat.sub_self, Nat.zero_mul])
    subst hZ0
    refine ⟨by rw [List.length_map]; exact hwl.symm, fun y hy => by obtain ⟨u, _, rfl⟩ := List.mem_map.1 hy; rfl, h.size, [], [], rfl, Nat.le_refl _, ⟨Nat.le_refl _, by omega⟩, b2, by simp⟩
end Go.Sx.Ob
