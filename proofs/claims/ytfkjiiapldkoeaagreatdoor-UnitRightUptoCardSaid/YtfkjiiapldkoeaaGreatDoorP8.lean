/- Contracts over heaps, and plain laws, for the functions that the laws of chapter 9 call, part 8: ref9.Sorted over heaps: the names, rising, each once. Lines of a source, two way Condition: as each statement says. -/
import Derived.Test.YtfkjiiapldkoeaaGreatDoorP7
import Derived.Test.YtfkjiiapldkoeaaGreatDoorAtS
import Derived.Test.YtfkjiiapldkoeaaGreatDoorAobjShelf
import Derived.RangeFuncWrites
import Derived.LaidEql
import Derived.Stop.Asserts
import Derived.RowKitTokens
import Derived.Lib.ItoaLen
set_option linter.unusedVariables false
set_option linter.unusedSimpArgs false
set_option maxRecDepth 100000
namespace Go.Sx.Ob
open Go.Proofs
theorem vY (l:List ByteArray) (x:ByteArray):bH (l++[x])=iI x (bH l):=by
 unfold bH
 rw [List.foldl_append]
 rfl
theorem yw (x:ByteArray):∀ (l:List ByteArray),l.Pairwise fE→x∈l→iI x l=l
 | [],_,h=>by simp at h
 | t::l,p,h=>by
  obtain ⟨h1,h2⟩:=List.pairwise_cons.1 p
  unfold iI
  rcases List.mem_cons.1 h with rfl | h
  ·rw [if_neg (qM _),if_pos rfl]
  ·have:=h1 x h
   rw [if_neg (sW this),if_neg (fun e=>nF this e.symm),yw x l h2 h]
theorem De (x:ByteArray):∀ (l:List ByteArray) (j:Nat),l.Pairwise fE→(∀ y,y∈l.take j→fE y x)→(∀ y,y∈l.drop j→fE x y)→iI x l=l.take j++x::l.drop j
 | [],j,_,_,_=>by simp [iI]
 | t::l,0,_,_,h=>by
  unfold iI
  rw [if_pos (h t (by simp))]
  rfl
 | t::l,j+1,p,h1,h2=>by
  obtain ⟨_,p2⟩:=List.pairwise_cons.1 p
  have:=h1 t (by simp)
  unfold iI
  rw [if_neg (sW this),if_neg (fun e=>nF this e.symm),De x l j p2 (fun y hy=>h1 y (by simp [hy])) (fun y hy=>h2 y (by simpa using hy))]
  rfl
theorem Ce {h : Hp} {b : Nat} {p : Option Addr} {l c : Nat} {xs : List ByteArray} (v : SN h b p l c xs) (hm : xs.length ≤ 2 ^ 30) :
    HC Tryz.prog 22 #[.slice p l c] h fun w h' => ∃ p' l' c', w = .slice p' l' c' ∧ SN h' h.size p' l' c' (bH xs) ∧ Ext h h' := by
  refine aK (args := [.slice p l c]) mixed Tryz.func22 (by kernel_rfl) (eW p l c) ?_
  unfold ef
  have n := SN.len v
  refine bh (cs := [(false, [.slice 0]), (false, [.int .i64])]) (fun y m h' => ∃ (i : Nat) (ys : List ByteArray), y.2.1 = (i : Int) ∧ m = xs.length - i ∧ i ≤ xs.length ∧ Ext h h' ∧ SN h' h.size y.1.1 y.1.2.1 y.1.2.2 ys ∧ ys.length ≤ i ∧ (∀ s, eb ys s = eb (xs.take i) s) ∧ ys = bH (xs.take i)) ((none, 0, 0), (0 : Int), ()) xs.length rfl
    ⟨0, [], rfl, rfl, by omega, Ch.refl _ _, SL.nil _ _ _ _, by simp, fun s => rfl, rfl⟩ ?_
  rintro ⟨⟨p1, l2, l3⟩, n4, ⟨⟩⟩ m h1 ⟨i, ys, hi, rfl, hle, e1, s, hyl, hin, hys⟩
  simp only at hi s
  subst hi
  dsimp only [flat, az, ah, nA, cA]
  have hz := e1.size
  have ny := SN.len s
  refine af (fun q => ?_) (fun q => ?_)
  · have q := of_decide_eq_true q
    have hil : i < xs.length := by omega
    have hx : ∀ {g}, Ext h g → ∃ a, p = some a ∧ aG g (a.add (i * 1)) 0 [.string xs[i]] := by
      intro g e
      obtain ⟨a, ha, hc⟩ := SN.cell v hil
      exact ⟨a, ha, bE e (by simp) _ _ hc⟩
    have hrise : ys.Pairwise fE := by rw [hys]; exact lS _
    have htk : xs.take (i + 1) = xs.take i ++ [xs[i]] := List.take_succ_eq_append_getElem hil
    generalize hxv : xs[i] = x at hx htk
    obtain ⟨a, ha, hc⟩ := hx e1
    refine ay ⟨by omega, by omega⟩ (aj ha ?_)
    rw [show Int.toNat (i : Int) = i by omega]
    refine aE (x, ()) hc ?_
    dsimp only [flat, az, ah, nA, cA]
    refine aD (zG s (by omega) x) ?_
    rw [hin]
    have hinx : eb (xs.take i) x = true ↔ x ∈ xs.take i := eI
    refine af (fun r => ?_) (fun r => ?_)
    · have r2 := hinx.1 r
      refine aI (cs := [(false, [.slice 0]), (false, [.int .i64])]) ((p1, l2, l3), ((i + 1 : Nat) : Int), ()) (xs.length - (i + 1)) rfl (by omega) (by rw [wrap_i64 (by omega) (by omega)]; rfl) ?_
      refine ⟨i + 1, ys, rfl, rfl, by omega, e1, s, by omega, fun t => ?_, ?_⟩
      · rw [hin, htk]
        by_cases e : x = t
        · subst e
          rw [r]
          exact (eI.2 (List.mem_append.2 (.inl r2))).symm
        · unfold eb
          rw [List.any_append]
          simp [e]
      · rw [htk, vY, ← hys]
        exact (yw x ys hrise (by rw [hys, gO]; exact r2)).symm
    · have r2 : x ∉ xs.take i := fun k => by rw [hinx.2 k] at r; cases r
      refine ay ⟨by omega, by omega⟩ (aj ha ?_)
      refine aE (x, ()) hc ?_
      dsimp only [flat, az, ah, nA, cA]
      refine SN.push s x (by omega) hz ?_
      intro p' c' h2 s2 k2
      have e2 := SN.ext e1 s (Nat.le_refl _) k2
      refine bh (cs := [(false, [.int .i64])]) (fun y m h' => ∃ (j : Nat) (zs : List ByteArray), y.1 = (j : Int) ∧ m = j ∧ j ≤ ys.length ∧ zs.length = ys.length + 1 ∧ zs.eraseIdx j = ys ∧ Ext h h' ∧ SN h' h.size p' (l2 + 1) c' zs ∧ (∀ y, y ∈ ys.drop j → fE x y)) ((l2 : Int), ()) ys.length rfl
        ⟨ys.length, ys ++ [x], by rw [ny], rfl, by omega, by simp, by rw [List.eraseIdx_append_of_length_le (by omega)]; simp, e2, s2, by simp⟩ ?_
      rintro ⟨n16, ⟨⟩⟩ m h3 ⟨j, zs, hj, rfl, hjl, hzl, hze, e3, s3, hbig⟩
      simp only at hj
      subst hj
      dsimp only [flat, az, ah, nA, cA]
      have hpl : ∃ a2, p' = some a2 := by
        obtain ⟨a2, h2, _⟩ := SN.cell s3 (i := 0) (by omega)
        exact ⟨a2, h2⟩
      obtain ⟨a2, ha2⟩ := hpl
      have hxn : x ∉ ys := fun k => r2 (by rw [hys, gO] at k; exact k)
      have last : (∀ y, y ∈ ys.take m → fE y x) → (T.aJ (((0 : Int) ≤ (i : Int)) ∧ ((i : Int) < (l : Int))) <|
         T.av p fun (a21 : Addr) =>
         T.ae (a21.add ((Int.toNat (i : Int)) * 1)) [.string] fun (s22 : ByteArray) =>
         T.aJ (((0 : Int) ≤ (m : Int)) ∧ ((m : Int) < ((l2 + 1 : Nat) : Int))) <|
         T.av p' fun (a23 : Addr) =>
         T.ap (a23.add ((Int.toNat (m : Int)) * 1)) [.string s22] <|
         T.again 0 [.slice p' (l2 + 1) c', .int .i64 (IntKind.wrap .i64 ((i : Int) + (1 : Int)))])
         ([] ++ [Jl (cs := [(false, [.slice 0]), (false, [.int .i64])]) (fun y m h' => ∃ (i : Nat) (ys : List ByteArray), y.2.1 = (i : Int) ∧ m = xs.length - i ∧ i ≤ xs.length ∧ Ext h h' ∧ SN h' h.size y.1.1 y.1.2.1 y.1.2.2 ys ∧ ys.length ≤ i ∧ (∀ s, eb ys s = eb (xs.take i) s) ∧ ys = bH (xs.take i)) (xs.length - i)] ++
          [Jl (cs := [(false, [.int .i64])]) (fun y m h' => ∃ (j : Nat) (zs : List ByteArray), y.1 = (j : Int) ∧ m = j ∧ j ≤ ys.length ∧ zs.length = ys.length + 1 ∧ zs.eraseIdx j = ys ∧ Ext h h' ∧ SN h' h.size p' (l2 + 1) c' zs ∧ (∀ y, y ∈ ys.drop j → fE x y)) m])
         (fun w h' => ∃ p' l' c', w = .slice p' l' c' ∧ SN h' h.size p' l' c' (bH xs) ∧ Ext h h') h3 := by
        intro hsm
        obtain ⟨a, ha, hc⟩ := hx e3
        refine ay ⟨by omega, by omega⟩ (aj ha ?_)
        rw [show Int.toNat (i : Int) = i by omega]
        refine aE (x, ()) hc ?_
        dsimp only [flat, az, ah, nA, cA]
        refine ay ⟨by omega, by omega⟩ (aj ha2 ?_)
        rw [show Int.toNat (m : Int) = m by omega]
        refine SN.put s3 (by omega) x ha2 ?_
        intro h4 s4 k4 z4
        refine aI (cs := [(false, [.slice 0]), (false, [.int .i64])]) ((p', l2 + 1, c'), ((i + 1 : Nat) : Int), ()) (xs.length - (i + 1)) rfl (by omega) (by rw [wrap_i64 (by omega) (by omega)]; rfl) ?_
        refine ⟨i + 1, zs.set m x, rfl, rfl, by omega, SN.ext e3 s3 (Nat.le_refl _) k4, s4, by rw [List.length_set]; omega, fun t => ?_, ?_⟩
        · rw [DJ zs m (by omega), hze, hin, htk]
          unfold eb
          rw [List.any_append]
          simp
        · rw [htk, vY, ← hys, De x ys m hrise hsm hbig, List.set_eq_take_append_cons_drop, if_pos (by omega), ← hze, List.eraseIdx_eq_take_drop_succ]
          have hl : (zs.take m).length = m := by rw [List.length_take]; omega
          rw [List.take_left' hl, List.drop_left' hl]
      refine af (fun q2 => ?_) (fun q2 => last (by have q2 := of_decide_eq_false q2; have : m = 0 := by omega
                                                   subst this; simp))
      have q2 := of_decide_eq_true q2
      rw [wrap_i64 (by omega) (by omega)]
      obtain ⟨a3, ha3, hc3⟩ := SN.cell s3 (i := m - 1) (by omega)
      refine ay ⟨by omega, by omega⟩ (aj ha3 ?_)
      rw [show Int.toNat ((m : Int) - 1) = m - 1 by omega]
      refine aE (zs[m - 1]'(by omega), ()) hc3 ?_
      dsimp only [flat, az, ah, nA, cA]
      obtain ⟨a, ha, hc⟩ := hx e3
      refine ay ⟨by omega, by omega⟩ (aj ha ?_)
      refine aE (x, ()) hc ?_
      dsimp only [flat, az, ah, nA, cA]
      have hyz : zs[m - 1]'(by omega) = ys[m - 1]'(by omega) := by
        have : ys[m - 1]? = zs[m - 1]? := by rw [← hze, List.getElem?_eraseIdx, if_pos (by omega)]
        rw [List.getElem?_eq_getElem (by omega), List.getElem?_eq_getElem (by omega)] at this
        exact (Option.some.inj this).symm
      rw [leB, Bool.not_not]
      refine af (fun q3 => ?_) (fun q3 => ?_)
      · have q3 := of_decide_eq_true q3
        refine ay ⟨by omega, by omega⟩ (aj ha3 ?_)
        refine aE (zs[m - 1]'(by omega), ()) hc3 ?_
        dsimp only [flat, az, ah, nA, cA]
        refine ay ⟨by omega, by omega⟩ (aj ha2 ?_)
        rw [show Int.toNat (m : Int) = m by omega]
        refine SN.put s3 (by omega) _ ha2 ?_
        intro h4 s4 k4 z4
        refine aI (cs := [(false, [.int .i64])]) (((m - 1 : Nat) : Int), ()) (m - 1) rfl (by omega) (by rw [show (m : Int) - 1 = ((m - 1 : Nat) : Int) by omega]; rfl) ?_
        exact ⟨m - 1, _, rfl, rfl, by omega, by rw [List.length_set]; exact hzl, by rw [tQ zs m (by omega) (by omega)]; exact hze, SN.ext e3 s3 (Nat.le_refl _) k4, s4, fun y hy => by
          rw [List.drop_eq_getElem_cons (by omega), show m - 1 + 1 = m by omega] at hy
          rcases List.mem_cons.1 hy with rfl | hy
          · rw [← hyz]; exact q3
          · exact hbig y hy⟩
      · have q3 := of_decide_eq_false q3
        have := last (fun y hy => by
          have hlt : fE (ys[m - 1]'(by omega)) x := by
            rw [hyz] at q3
            by_cases g : fE (ys[m - 1]'(by omega)) x
            · exact g
            · exact absurd (oS _ _ g q3 ▸ List.getElem_mem _) hxn
          obtain ⟨k, hk, rfl⟩ := List.getElem_of_mem hy
          rw [List.length_take] at hk
          rw [List.getElem_take]
          by_cases g : k = m - 1
          · subst g; exact hlt
          · exact gS (List.pairwise_iff_getElem.1 hrise k (m - 1) (by omega) (by omega) (by omega)) hlt)
        rw [show Int.toNat (i : Int) = i by omega] at this
        exact this
  · have q := of_decide_eq_false q
    have : i = xs.length := by omega
    subst this
    rw [List.take_length] at hys
    subst hys
    exact ⟨p1, l2, l3, rfl, s, e1⟩
theorem wR:∀ (l cj r:List UInt8),(∀ c,c∈l→nl c=true)→dJ cj (l++10::r)=(cj++l)::dJ [] r
 | [],cj,r,_=>by simp [om]
 | c::l,cj,r,h=>by
  have hc:¬ c=10:=by simpa [nl] using h c (by simp)
  rw [List.cons_append,om,if_neg hc,wR l (cj++[c]) r (fun x hx=>h x (by simp [hx]))]
  simp
theorem tG:∀ (l cj:List UInt8),(∀ c,c∈l→nl c=true)→dJ cj l=if cj++l=[] then [] else [cj++l]
 | [],cj,_=>by simp [Dd]
 | c::l,cj,h=>by
  have hc:¬ c=10:=by simpa [nl] using h c (by simp)
  rw [om,if_neg hc,tG l (cj++[c]) (fun x hx=>h x (by simp [hx]))]
  simp
theorem AP:∀ (f:Nat) (s:List UInt8),s.length<f→aW f s=dJ [] s
 | 0,s,h=>by omega
 | f+1,s,h=>by
  by_cases s0:s=[]
  ·subst s0; rfl
  rcases DN s with hn | ⟨l,r,rfl,hl⟩
  ·rw [tw f s hn s0,tG s [] hn,List.nil_append,if_neg s0]
  ·simp only [List.length_append,List.length_cons] at h
   rw [zo f l r hl,wR l [] r hl,AP f r (by omega)]
   rfl
theorem vU (s:ByteArray):Ig s=fV s:=by
 refine (Kb ?_).symm
 unfold fV
 rw [List.map_map,AP _ _ (by simp)]
 have:∀ l:List (List UInt8),l.map ((fun x:ByteArray=>x.data.toList) ∘ fun l=>(⟨l.toArray⟩:ByteArray))=l:=fun l=>by
  induction l with
  | nil=>rfl
  | cons x l ih=>rw [List.map_cons,ih]; simp
 exact this _
/-! Faults,a line more. -/
theorem wD {w w':ew} {n:Nat} {s:ByteArray} (h:et w n s=.ok w'):w'.aQ.length≤w.aQ.length+1∧w'.aF.length≤w.aF.length+1:=by
 unfold et at h
 split at h
 ·cases h
 split at h
 ·cases h
 split at h
 ·cases h
 split at h
 ·cases h
 split at h
 ·cases h
 injection h with h
 subst h
 unfold jD
 simp only
 constructor
 ·split
  ·simp
  ·omega
 ·split
  ·simp
  ·omega
/-! Sizes. -/
structure Mt (n:Nat) (w:ew):Prop where
 text:∀ x,x∈w.text→Bd n x
 data:∀ x,x∈w.data→Bd n x
 aQ:∀ x,x∈w.aQ→x.2.au.length≤n
theorem Hz {w w':ew} {n k:Nat} {s:ByteArray} (hs:s.size+1≤n) (hb:s.size≤2^20) (S:Mt n w) (h:et w k s=.ok w'):Mt n w':=by
 unfold et at h
 split at h
 ·cases h
 split at h
 ·cases h
 split at h
 ·cases h
 rename_i t ht
 split at h
 ·cases h
 split at h
 ·cases h
 injection h with h
 have f:=gX s hb
 have z:=Ao (n:=n) (by omega) (fun a ha=>⟨(f a ha).1,by have:=(eH s).1 a ha; omega⟩) (by have:=(eH s).2; omega) ht
 generalize (aL s).1.label=lb at *
 have hits:∀ x,x∈j3 lb t→Bd n x:=by
  intro x hx
  unfold j3 at hx
  rcases List.mem_append.1 hx with hx | hx
  ·split at hx
   ·simp at hx
   ·have:=List.mem_singleton.1 hx
    subst this
    simp [Bd,xj,cY,dT]
  ·exact z.item x hx
 subst h
 refine ⟨?_,?_,?_⟩
 ·intro x hx
  unfold jD at hx
  simp only at hx
  split at hx
  ·rcases List.mem_append.1 hx with hx | hx
   ·exact S.text x hx
   ·exact hits x hx
  ·exact S.text x hx
 ·intro x hx
  unfold jD at hx
  simp only at hx
  split at hx
  ·exact S.data x hx
  ·rcases List.mem_append.1 hx with hx | hx
   ·exact S.data x hx
   ·exact hits x hx
 ·intro x hx
  unfold jD at hx
  simp only at hx
  split at hx
  ·rcases List.mem_append.1 hx with hx | hx
   ·exact S.aQ x hx
   ·have:=List.mem_singleton.1 hx
    subst this
    exact z.e
  ·exact S.aQ x hx
theorem Dq {n:Nat}:∀ (l:List ByteArray) (w w':ew) (k:Nat),(∀ s,s∈l→s.size+1≤n∧s.size≤2^20)→Mt n w→fZ w k l=.ok w'→Mt n w'
 | [],w,w',k,_,S,h=>by
  simp only [fZ] at h
  injection h with h
  subst h
  exact S
 | s::l,w,w',k,hs,S,h=>by
  simp only [fZ] at h
  split at h
  ·cases h
  ·rename_i w1 h1
   exact Dq l w1 w' (k+1) (fun x hx=>hs x (by simp [hx])) (Hz (hs s (by simp)).1 (hs s (by simp)).2 S h1) h
def lF (h:Hp) (b:Nat) (a b' c d:bP) (u:fS):Prop:=∃ ut ud ue ow,Core h b u.text u.data u.aQ a b' c ut ud ue ow∧SN h b d.p d.l d.c u.aF
theorem lF.zero (h:Hp) (b:Nat):lF h b fX fX fX fX tq:=⟨[],[],[],fun _=>0,Core.nil _ _ _,SL.nil _ _ _ _⟩
set_option maxHeartbeats 4000000 in
def CB:Except (Nat × Nat) fS→fS × (Nat × Nat)
 | .error q=>(tq,q)
 | .ok u=>(u,(0,0))
theorem lF.ai {h h':Hp} {b:Nat} {a b' c d:bP} {u:fS} {ws:List Nat} (U:lF h b a b' c d u) (k:Ch ws h h') (hw:∀ i,i∈ws→i<h.size→i<b):lF h' b a b' c d u:=by
 obtain ⟨ut,ud,ue,ow,C,S⟩:=U
 exact ⟨ut,ud,ue,ow,C.ai k (fun i h1 h2 h3=>by have:=hw i h1 h2; omega),SL.vR S k hw⟩
theorem lF.mono {h:Hp} {b b1:Nat} {a b' c d:bP} {u:fS} (U:lF h b a b' c d u) (hb:b1≤b):lF h b1 a b' c d u:=by
 obtain ⟨ut,ud,ue,ow,C,S⟩:=U
 exact ⟨ut,ud,ue,ow,⟨Sx.SL.mono C.t1 hb,fun u hu=>Sx.SL.mono (C.t2 u hu) hb,C.t3,Sx.SL.mono C.d1 hb,fun u hu=>Sx.SL.mono (C.d2 u hu) hb,C.d3,Sx.SL.mono C.e1 hb,fun u hu=>Sx.SL.mono (C.e2 u hu) hb,C.e3,C.o3,C.o4,C.o5,C.ot,C.od,C.oe⟩,Sx.SL.mono S hb⟩
end Go.Sx.Ob
set_option linter.unusedVariables false
set_option linter.unusedSimpArgs false
set_option maxRecDepth 100000
namespace Go.Proofs
open Go.RowKit Go.Shelf Go.Sx.Ob
attribute [local go_sem] Oper.semAt_some
theorem Me {tmps:Array Value} {w:World} {p q:Nat} {va vb vc vd ev:Value} (h2:tmps.getD 2 undef=.pointer (some ⟨p,0,none⟩)) (h3:tmps.getD 3 undef=.pointer (some ⟨q,0,none⟩)) (bp:Sx.aO w.heap p 27 [va,vb,vc,vd]) (bq:Sx.aO w.heap q 29 [ev]) :
  (results Tryz.f10 tmps).run Tryz.prog w=.ok (.tuple #[.agg #[va,vb,vc,vd],ev]) w:=by
 have c0:w.cell? ⟨p,0,none⟩=some va:=by rw [Sx.dZ,bp.cell]; rfl
 have c1:w.cell? ⟨p,1,none⟩=some vb:=by rw [Sx.dZ,bp.cell]; rfl
 have c2:w.cell? ⟨p,2,none⟩=some vc:=by rw [Sx.dZ,bp.cell]; rfl
 have c3:w.cell? ⟨p,3,none⟩=some vd:=by rw [Sx.dZ,bp.cell]; rfl
 have c4:w.cell? ⟨q,0,none⟩=some ev:=by rw [Sx.dZ,bq.cell]; rfl
 rw [Array.getD_eq_getD_getElem?] at h2 h3
 simp [results,Tryz.f10,go_sem,h2,h3,c0,c1,c2,c3,c4]
theorem Ap {R:Ending→World→Prop} {tmps:Array Value} {dl:List Deferred} {W':World} {b0 p q:Nat} {va vb vc vd ev:Value} (hm:Marks b0 dl W') (h2:tmps.getD 2 undef=.pointer (some ⟨p,0,none⟩)) (h3:tmps.getD 3 undef=.pointer (some ⟨q,0,none⟩)) (bp:Sx.aO W'.heap p 27 [va,vb,vc,vd]) (bq:Sx.aO W'.heap q 29 [ev])
  (hR:∀ w':World,Below b0 W' w'→(∀ B:Nat,W'.heap[B]?≠some (Obj.deferred (some []))→w'.heap[B]?=W'.heap[B]?)→R (.returned (.tuple #[.agg #[va,vb,vc,vd],ev])) w') :
  bodyPostM Fence.wide 7 Tryz.prog Tryz.f10 R Exit.ret { tmps:=tmps,defers:=dl } W':=by
 refine Marks.leaves hm fun w' hb hk=>?_
 have bp':Sx.aO w'.heap p 27 [va,vb,vc,vd]:=by
  unfold Sx.aO at bp ⊢
  rw [hk p (by rw [bp]; simp),bp]
 have bq':Sx.aO w'.heap q 29 [ev]:=by
  unfold Sx.aO at bq ⊢
  rw [hk q (by rw [bq]; simp),bq]
 exact ⟨_,Me h2 h3 bp' bq',hR w' hb hk⟩
theorem zl {n f l:Nat} {args:Array Value} {W:World} {R:Value→Sx.Hp→Prop} {K:Ending→World→Prop} (h:Sx.HC Tryz.prog f args W.heap R) (hK:∀ v w',Sx.bT W w'→R v w'.heap→K (.returned v) w'):(Fence.wide.inRound l).fn f∧CallsIn (Fence.wide.inRound l) n Tryz.prog f args W K :=
 ⟨trivial,(CallsIn.inRound l (callsIn_wide.2 (h W rfl))).mono fun e w' ⟨v,hv,hb,hr⟩=>by subst hv; exact hK v w' hb hr⟩
end Go.Proofs
set_option linter.unusedVariables false
set_option maxRecDepth 100000
namespace Go.Proofs
open Go.RowKit Go.Maps Go.Sort Go.Shelf
def Tryz.x5:Go.Shelf.Ren:=⟨fun | 7=>35 | 10=>68 | n=>n,fun | 23=>70 | 26=>9 | 3=>4 | 28=>79 | 0=>0 | 27=>78 | 33=>39 | 4=>4 | n=>n,fun | n=>n⟩
theorem Tryz.JP:Go.Proofs.SlLaysZ.n7 Tryz.prog Tryz.x5:={
 mixed:=by kernel_rfl
 f7:=⟨Tryz.f35.name,by decide,Tryz.func35.trans (congrArg some (by kernel_rfl))⟩
 f10:=⟨Tryz.f68.name,by decide,Tryz.func68.trans (congrArg some (by kernel_rfl))⟩
 t0:=Tryz.underlying0
 a0:=Tryz.isAgg0
 z0:=Tryz.sizeOf0
 v0:=Tryz.zeroValue0
 t4:=Tryz.underlying4
 a4:=Tryz.isAgg4
 z4:=Tryz.sizeOf4
 v4:=Tryz.zeroValue4
 t23:=Tryz.underlying70
 a23:=Tryz.isAgg70
 z23:=Tryz.sizeOf70
 v23:=Tryz.zeroValue70
 t26:=Tryz.underlying9
 a26:=Tryz.isAgg9
 z26:=Tryz.sizeOf9
 v26:=Tryz.zeroValue9
 t27:=Tryz.underlying78
 a27:=Tryz.isAgg78
 z27:=Tryz.sizeOf78
 v27:=Tryz.zeroValue78
 t28:=Tryz.underlying79
 a28:=Tryz.isAgg79
 z28:=Tryz.sizeOf79
 v28:=Tryz.zeroValue79
 t33:=Tryz.underlying39
 a33:=Tryz.isAgg39
 z33:=Tryz.sizeOf39
 v33:=Tryz.zeroValue39 }
theorem Tryz.zX (mb:Option Nat) (W:World):CallsIn Fence.wide 5 Tryz.prog 35 #[.map mb] W fun e w'=>e=.returned (.func (.func 68) #[] #[.pointer (some ⟨W.heap.size,0,none⟩)])∧w'=W.alloc (.cells #[.map mb] 70) :=
 AnyZ.keys_in Tryz.JP Fence.wide 5 trivial rfl mb W
theorem Tryz.ov {H:Type} (b nn:Nat) (D0:DataW H) (R:Value→Option (DataW H × List MemPlace)) (w:World) (hown:w.ownsMap Tryz.prog 9 R b nn D0) (hmax:Maps.size D0≤maxLen) (hbytes:Maps.size D0*16≤140737488355328) :
  CallsIn Fence.wide 5 Tryz.prog 34 #[.func (.func 68) #[] #[.pointer (some ⟨w.heap.size,0,none⟩)]] (w.alloc (.cells #[.map (some b)] 70)) fun e w'=>∃ (v:Value) (ss:List (List UInt8)),e=.returned v∧ss.Perm (strKeys D0) ∧
   w'.ownsRow (w.alloc (.cells #[.map (some b)] 70)).heap.size 9 1 v ss.length ((ss.mergeSort (fun x y=>decide (x≤y))).map encStr)∧(v=.slice none 0 0↔ss=[])∧Below (w.alloc (.cells #[.map (some b)] 70)).heap.size (w.alloc (.cells #[.map (some b)] 70)) w':=by
 have hbl:=hown.lt
 have hseq:SeqGives Fence.wide 2 Tryz.prog 68 #[.pointer (some ⟨w.heap.size,0,none⟩)] encStr (fun ss=>ss.Perm (strKeys D0)) (Maps.size D0) (w.alloc (.cells #[.map (some b)] 70)) :=
  AnyZ.keys_gives (ρ:=Tryz.x5) { Tryz.JP with } Fence.wide _ trivial rfl (by omega) w.heap.size b nn D0 _ (by simp) (by simp) (by
   obtain ⟨es,clock,hb,Ft,hs,hD⟩:=hown
   exact ⟨es,clock,(Below.heap_alloc _ _ b hbl).trans hb,Ft,hs,hD⟩)
 exact AnyZ.sorted_in Tryz.yy Fence.wide 5 trivial trivial trivial trivial rfl (by omega) (Tryz.AW _) (enters_of Tryz.func43 (by kernel_rfl) rfl) 68 #[.pointer (some ⟨w.heap.size,0,none⟩)] trivial (enters_of Tryz.func68 (by kernel_rfl) rfl) _ _ hmax hbytes _ hseq
end Go.Proofs
namespace Go.Sx
open Go.Proofs
open Go.RowKit Go.Maps
theorem GV (r:Option Nat) (h:Hp):HC Tryz.prog 35 #[.map r] h fun v h'=>v=.func (.func 68) #[] #[.pointer (some ⟨h.size,0,none⟩)]∧h'=h.push (.cells #[.map r] 70):=by
 intro W hW
 subst hW
 exact (callsIn_wide.1 (Tryz.zX r W)).mono fun e w' ⟨he,hw⟩=>⟨_,he,by rw [hw]; exact bT.alloc _ _,rfl,by rw [hw]; rfl⟩
theorem CN {h:Hp} {g:Nat} {D:List (ByteArray × Value)} (m:eO h g D) (hl:D.length≤2^40) :
  HC Tryz.prog 34 #[.func (.func 68) #[] #[.pointer (some ⟨h.size,0,none⟩)]] (h.push (.cells #[.map (some g)] 70)) fun v h'=>∃ p l c,v=.slice p l c∧SL h' (h.size+1) 9 1 p l c ((keysOf D).map fun k=>[encStr k]) ∧
   Ext (h.push (.cells #[.map (some g)] 70)) h':=by
 intro W hW
 obtain ⟨D0,hown,hperm,hsize⟩:=eO.owns (W:={ W with heap:=h }) m (by unfold maxLen; omega)
 have hc:=callsIn_wide.1 (Tryz.ov g D.length D0 Da { W with heap:=h } hown (by rw [hsize]; unfold maxLen; omega) (by rw [hsize]; omega))
 rw [World.Ax hW] at hc
 refine hc.mono fun e w' hr=>?_
 obtain ⟨v,ss,he,hp,hrow,_,hb⟩:=hr
 have hss:ss.mergeSort (fun x y=>decide (x≤y))=keysOf D:=mergeSort_of_perm (hp.trans hperm)
 have hlen:ss.length=((ss.mergeSort (fun x y=>decide (x≤y))).map encStr).length:=by rw [List.length_map,List.length_mergeSort]
 rw [hlen,hss] at hrow
 obtain ⟨p,l,c,hv,hsl⟩:=SL.Gi hrow
 refine ⟨v,he,⟨hb.os,hb.tape,hb.output⟩,p,l,c,hv,?_,?_⟩
 ·rw [List.map_map] at hsl
  have:W.heap.size=h.size+1:=by rw [hW]; simp
  rw [this] at hsl
  exact hsl
 ·rw [← hW]
  exact ⟨hb.size,fun i hi _=>hb.block i hi⟩
end Go.Sx
set_option linter.unusedVariables false
set_option linter.unusedSimpArgs false
set_option maxRecDepth 100000
namespace Go.Sx.Ob
open Go.Proofs Go.Maps
theorem Bc {D:List (ByteArray × Value)} {l:List ByteArray} (hn:(D.map (·.1)).Nodup) (hm:∀ s,s∈D.map (·.1)↔s∈l):keysOf D=(bH l).map (fun s=>s.data.toList):=by
 have hr:=lS l
 have nd:(bH l).Nodup:=hr.imp fun h=>nF h
 have hp:(D.map (·.1)).Perm (bH l):=(List.perm_ext_iff_of_nodup hn nd).2 fun s=>by rw [hm,gO]
 have h2:((bH l).map fun s=>s.data.toList).Perm (D.map fun p=>p.1.data.toList):=by
  have:=hp.symm.map (fun s:ByteArray=>s.data.toList)
  rw [List.map_map] at this
  exact this
 have h1:((bH l).map fun s=>s.data.toList).mergeSort (fun x y=>decide (x≤y))=keysOf D:=mergeSort_of_perm h2
 rw [← h1]
 refine List.mergeSort_of_pairwise ?_
 rw [List.pairwise_map]
 refine hr.imp fun {a b} h=>?_
 simp only [decide_eq_true_eq]
 exact List.le_of_lt h
theorem wu (s:ByteArray):∀ (l:List ByteArray),(iI s l).length≤l.length+1
 | []=>by simp [iI]
 | x::l=>by
  have ih:=wu s l
  unfold iI
  split
  ·simp
  ·split
   ·simp
   ·simp only [List.length_cons]; omega
theorem yu:∀ (l d:List ByteArray),(l.foldl (fun d s=>iI s d) d).length≤l.length+d.length
 | [],d=>by simp
 | x::l,d=>by
  rw [List.foldl_cons]
  have h1:=yu l (iI x d)
  have h2:=wu x d
  simp only [List.length_cons]
  omega
theorem yB (l:List ByteArray):(bH l).length≤l.length:=by
 have:=yu l []
 simpa [bH] using this
theorem GQ (l:List ByteArray):((l.map fun s=>s.data.toList).map fun k=>[encStr k])=l.map IP:=by
 rw [List.map_map]
 apply List.map_congr_left
 intro s _
 show [Value.string ⟨s.data.toList.toArray⟩]=[Value.string s]
 simp
def sj (w:ew):Except (Nat × Nat) fS:=match Jo w with
 | some g=>.error (g.2,23)
 | none=>.ok ⟨w.text,w.data,w.aQ,bH (w.aF.map (·.1))⟩
def xB:Except (Nat × Nat) fS→Option (Nat × Nat)
 | .error q=>some q
 | .ok _=>none
def LP (b u e A:Nat) (w:ew) (h:Hp) (v:Value) (h':Hp):Prop:=Ch [u,e,A] h h'∧∃ (a b' c d:bP) (ev:Value),v=.tuple #[lh a b' c d,ev]∧lF h' b a b' c d (CB (sj w)).1∧si h' ev (xB (sj w))∧aO h' u 27 [a.v,b'.v,c.v,d.v]∧aO h' e 29 [ev]
theorem yi {w:ew}:∀ {l:List (ByteArray × Nat)} {i:Nat},(∀ g,g∈l.take i→eb w.names g.1=true)→(hi:i<l.length)→eb w.names l[i].1=false→l.find? (fun g=>!eb w.names g.1)=some l[i]
 | x::l,0,_,_,h=>by
  rw [List.find?_cons]
  simp only [List.getElem_cons_zero] at h
  rw [h]
  rfl
 | x::l,i+1,h1,hi,h=>by
  rw [List.find?_cons,h1 x (by simp)]
  simp only [Bool.not_true]
  exact yi (fun g hg=>h1 g (by simp [hg])) (by simpa using hi) h
set_option maxHeartbeats 4000000 in
theorem IU {h:Hp} {b A g u e v:Nat} {w:ew} {t d e' q:bP} {ut ud:List (bP × bD)} {ue:List (bP × lP)} {ow:Nat→Nat} (a:dm h b A g w t d e' q ut ud ue ow) (W:B6 w) (hG:w.aF.length≤2^20) (hu:u<b) (he:e<b) (hue:u≠e) (hb:b≤h.size) (hv:ow v=9)
  {xs:List Value} {x1:Value} (bu:aO h u 27 xs) (hxs:xs.length=4) (be:aO h e 29 [x1]) (bv:aO h v 69 [.pointer (some ⟨A,0,none⟩)]):dy u e v [] (LP b u e A w h) h:=by
 unfold dy
 have bA:=a.bA
 have hql:=a.ql
 have nvA:v≠A:=fun hh=>by have:=a.oA; rw [hh] at hv; omega
 refine J5 ?_
 intro h1 m1 e1 z1
 refine ad (bv.ai e1 (by simp)) (some ⟨A,0,none⟩,()) rfl ?_
 dsimp only [flat,az,ah,nA,cA]
 refine aj rfl ?_
 rw [ao]
 refine ad (a.box.ai e1 (by simp)) ((q.p,q.l,q.c),()) rfl ?_
 dsimp only [flat,az,ah,nA,cA]
 refine bh (cs:=[(false,[.int .i64])]) (fun y m h'=>∃ i:Nat,y.1=(i:Int)∧m=w.aF.length-i∧i≤w.aF.length∧Ext h h'∧pG h' h.size ((w.aF.take i).map (·.1)).reverse∧∀ x,x∈w.aF.take i→eb w.names x.1=true)
  ((0:Int),()) w.aF.length rfl ⟨0,rfl,rfl,by omega,e1,m1,by simp⟩ ?_
 rintro ⟨n7,⟨⟩⟩ m h2 ⟨i,hi,rfl,hil,e2,m2,hin⟩
 simp only at hi
 subst hi
 dsimp only [flat,az,ah,nA,cA]
 have a2:=a.ai e2 (by simp)
 have bu2:=bu.ai e2 (by simp)
 have be2:=be.ai e2 (by simp)
 have bv2:=bv.ai e2 (by simp)
 have z2:=e2.size
 refine af (fun r=>?_) (fun r=>?_)
 ·have r:=of_decide_eq_true r
  have hi':i<w.aF.length:=by omega
  have hleg:=W.aF w.aF[i] (List.getElem_mem hi')
  obtain ⟨aq,haq,hcq⟩:=SL.cells a2.aF (i:=i) (by rw [List.length_map]; exact hi')
  rw [List.getElem_map] at hcq
  refine ay ⟨by omega,by omega⟩ (aj haq ?_)
  rw [show Int.toNat (i:Int)=i by omega]
  refine aE (w.aF[i].1,(w.aF[i].2:Int),()) hcq ?_
  dsimp only [flat,az,ah,nA,cA]
  have htk:w.aF.take (i+1)=w.aF.take i++[w.aF[i]]:=List.take_succ_eq_append_getElem hi'
  have hund:eb w.names w.aF[i].1=false→sj w=.error (w.aF[i].2,23):=fun hf=>by
   unfold sj Jo
   rw [yi hin hi' hf]
  generalize w.aF[i]=gi at *
  refine aX ?_
  intro h3 b3 e3 z3
  refine an b3 rfl (by simp) ?_
  intro h4 b4 k4 z4
  have b4:aO h4 h2.size 76 [.string gi.1,.int .i64 (gi.2:Int)]:=b4
  have e24:Ext h2 h4:=Ch.trans e3 k4 (fun j hj hl=>by simp at hj; omega)
  have a4:=a2.ai e24 (by simp)
  have bv4:=bv2.ai e24 (by simp)
  refine ad bv4 (some ⟨A,0,none⟩,()) rfl ?_
  dsimp only [flat,az,ah,nA,cA]
  refine aj rfl ?_
  rw [ao]
  refine ad a4.box (some g,()) rfl ?_
  dsimp only [flat,az,ah,nA,cA]
  refine ad b4 (gi.1,()) rfl ?_
  dsimp only [flat,az,ah,nA,cA]
  refine vx a4.names gi.1 ?_
  refine ⟨⟨bv4.cells _ rfl,trivial⟩,?_⟩
  refine af (fun r2=>?_) (fun r2=>?_)
  ·have r2:eb w.names gi.1=false:=by simpa using r2
   have hend:=hund r2
   have bu4:=bu2.ai e24 (by simp)
   have be4:=be2.ai e24 (by simp)
   have e04:=e2.trans e24
   rw [ao]
   refine ad b4 ((gi.2:Int),()) rfl ?_
   dsimp only [flat,az,ah,nA,cA]
   have hl2:h2.size<h4.size:=b4.lt
   have hbu:=bu.lt
   have hbe:=be.lt
   have xl:∀ hh ys,aO hh u 27 ys→ys.length=4→∃ y1 y2 y3 y4,ys=[y1,y2,y3,y4]:=fun hh ys _ hl=>by
    match ys,hl with
    | [y1,y2,y3,y4],_=>exact ⟨y1,y2,y3,y4,rfl⟩
   obtain ⟨y1,y2,y3,y4,rfl⟩:=xl h4 xs bu4 hxs
   refine ⟨?_,?_,trivial⟩
   ·refine aX ?_
    intro h5 b5 e5 z5
    have b45:=b4.ai e5 (by simp)
    refine ⟨⟨b45.cells _ rfl,trivial⟩,?_⟩
    refine an (bu4.ai e5 (by simp)) rfl (by simp) ?_
    intro h6 b6 k6 z6
    have b6:aO h6 u 27 zU:=b6
    refine ⟨⟨(b45.ai k6 (by simp; omega)).cells _ rfl,trivial⟩,?_⟩
    refine an ((be4.ai e5 (by simp)).ai k6 (by simp; omega)) rfl (by simp) ?_
    intro h7 b7 k7 z7
    have b7:aO h7 e 29 [.iface 59 (ptr h4.size)]:=b7
    have b67:aO h7 u 27 zU:=b6.ai k7 (by simp; omega)
    have b57:=(b5.ai k6 (by simp; omega)).ai k7 (by simp; omega)
    refine ad b67 ((none,0,0),(none,0,0),(none,0,0),(none,0,0),()) rfl ?_
    dsimp only [flat,az,ah,nA,cA]
    refine ad b7 (Value.iface 59 (ptr h4.size),()) rfl ?_
    refine ⟨(((e04.trans e5).mono (by simp)).trans k6 (fun j hj _=>by have hj:=List.mem_singleton.1 hj; simp [hj])).trans k7 (fun j hj _=>by have hj:=List.mem_singleton.1 hj; simp [hj]),fX,fX,fX,fX,_,rfl,?_,?_,b67,b7⟩
    ·rw [hend]; exact lF.zero _ _
    ·rw [hend]; exact ⟨_,rfl,b57⟩
   ·refine an bu4 rfl (by simp) ?_
    intro h6 b6 k6 z6
    have b6:aO h6 u 27 zU:=b6
    have b46:=b4.ai k6 (by simp; omega)
    refine ⟨⟨b46.cells _ rfl,trivial⟩,?_⟩
    refine aX ?_
    intro h5 b5 e5 z5
    refine ⟨⟨(b46.ai e5 (by simp)).cells _ rfl,trivial⟩,?_⟩
    refine an ((be4.ai k6 (by simp; omega)).ai e5 (by simp)) rfl (by simp) ?_
    intro h7 b7 k7 z7
    have b7:aO h7 e 29 [.iface 59 (ptr h6.size)]:=b7
    have b67:aO h7 u 27 zU:=(b6.ai e5 (by simp)).ai k7 (by simp; omega)
    have b57:=b5.ai k7 (by simp; omega)
    refine ad b67 ((none,0,0),(none,0,0),(none,0,0),(none,0,0),()) rfl ?_
    dsimp only [flat,az,ah,nA,cA]
    refine ad b7 (Value.iface 59 (ptr h6.size),()) rfl ?_
    refine ⟨(((e04.mono (by simp)).trans k6 (fun j hj _=>by have hj:=List.mem_singleton.1 hj; simp [hj])).trans e5 (by simp)).trans k7 (fun j hj _=>by have hj:=List.mem_singleton.1 hj; simp [hj]),fX,fX,fX,fX,_,rfl,?_,?_,b67,b7⟩
    ·rw [hend]; exact lF.zero _ _
    ·rw [hend]; exact ⟨_,rfl,b57⟩
  ·have r2:eb w.names gi.1=true:=by simpa using r2
   refine ad b4 (gi.1,()) rfl ?_
   dsimp only [flat,az,ah,nA,cA]
   refine Hy (m2.ai e24 (by simp)) (by have:=sR hleg; unfold maxLen; omega) ?_
   intro h5 m5 k5 z5
   refine aI (cs:=[(false,[.int .i64])]) (((i+1:Nat):Int),()) (w.aF.length-(i+1)) rfl (by omega) (by rw [wrap_i64 (by omega) (by omega)]; rfl) ?_
   refine ⟨i+1,rfl,rfl,by omega,Ch.trans (e2.trans e24) k5 (fun j hj hl=>by have hj:=List.mem_singleton.1 hj; omega),?_,?_⟩
   ·rw [htk,List.map_append,List.reverse_append]
    exact m5
   ·intro x hx
    rw [htk] at hx
    rcases List.mem_append.1 hx with hx | hx
    ·exact hin x hx
    ·rw [List.mem_singleton.1 hx]; exact r2
 ·have r:=of_decide_eq_false r
  have hie:i=w.aF.length:=by omega
  subst hie
  rw [List.take_length] at m2 hin
  have hend:sj w=.ok ⟨w.text,w.data,w.aQ,bH (w.aF.map (·.1))⟩:=by
   unfold sj Jo
   rw [List.find?_eq_none.2 (fun x hx=>by rw [hin x hx]; simp)]
  obtain ⟨nn,D,mD,hD,hDl⟩:=m2
  have hnd:=eO.nodup mD
  have hkeys:∀ s,s∈(vE eB D).map (·.1)↔s∈w.aF.map (·.1):=by
   intro s
   have h1:gE D s=(if eb ((w.aF.map (·.1)).reverse) s=true then some true else none):=hD s
   have hv1:(vE eB D).map (·.1)=D.map (·.1):=by unfold vE; rw [List.map_map]; rfl
   rw [hv1]
   by_cases hs:s∈w.aF.map (·.1)
   ·refine ⟨fun _=>hs,fun _=>?_⟩
    rw [if_pos (eI.2 (List.mem_reverse.2 hs))] at h1
    unfold gE at h1
    obtain ⟨x,hx,_⟩:=Option.map_eq_some_iff.1 h1
    have h3:=List.find?_some hx
    have h4:=List.mem_of_find?_eq_some hx
    rw [of_decide_eq_true h3]
    exact List.mem_map_of_mem h4
   ·refine ⟨fun hm=>?_,fun hm=>absurd hm hs⟩
    have hnin:eb ((w.aF.map (·.1)).reverse) s=false:=by
     cases hh:eb ((w.aF.map (·.1)).reverse) s with
     | false=>rfl
     | true=>exact absurd (List.mem_reverse.1 (eI.1 hh)) hs
    rw [hnin] at h1
    unfold gE at h1
    simp only [Bool.false_eq_true,if_false,Option.map_eq_none_iff,List.find?_eq_none] at h1
    obtain ⟨x,hx,hxs⟩:=List.mem_map.1 hm
    exact absurd (decide_eq_true hxs.symm) (h1 x hx)
  have hks:=Bc hnd hkeys
  have hDn:(vE eB D).length≤2^40:=by
   have h1:((vE eB D).map (·.1)).Perm (bH (w.aF.map (·.1))):=(List.perm_ext_iff_of_nodup hnd ((lS _).imp fun h=>nF h)).2 fun s=>by rw [hkeys,gO]
   have h2:=h1.length_eq
   rw [List.length_map] at h2
   have h3:=yB (w.aF.map (·.1))
   rw [List.length_map] at h3
   omega
  refine ad bv2 (some ⟨A,0,none⟩,()) rfl ?_
  dsimp only [flat,az,ah,nA,cA]
  refine aB (GV (some h.size) h2) ?_
  rintro _ h3 ⟨rfl,rfl⟩
  refine ⟨(Value.func (.func 68) #[] #[.pointer (some ⟨h2.size,0,none⟩)],()),rfl,?_⟩
  dsimp only [flat,az,ah,nA,cA]
  have e23:Ext h2 (h2.push (.cells #[.map (some h.size)] 70)):=Ext.push _ _
  refine ⟨⟨(bv2.ai e23 (by simp)).cells _ rfl,trivial⟩,?_⟩
  refine aB (CN mD hDn) ?_
  rintro _ h4 ⟨ps,ls,cs,rfl,sS,e34⟩
  refine ⟨((ps,ls,cs),()),rfl,?_⟩
  dsimp only [flat,az,ah,nA,cA]
  rw [hks,GQ] at sS
  have e24:=e23.trans e34
  have bv4:=bv2.ai e24 (by simp)
  have a4:=a2.ai e24 (by simp)
  refine ⟨⟨bv4.cells _ rfl,trivial⟩,?_⟩
  refine aj rfl ?_
  rw [ao]
  refine an a4.box rfl (by simp [kR]) ?_
  intro h5 b5 k5 z5
  have b5:aO h5 A 73 [t.v,d.v,e'.v,.slice ps ls cs,.int .i64 (w.sec:Int),.int .i64 ((w.text.length+w.data.length:Nat):Int),.map (some g),q.v]:=b5
  have bv5:=bv4.ai k5 (by simp; exact nvA)
  refine ad bv5 (some ⟨A,0,none⟩,()) rfl ?_
  dsimp only [flat,az,ah,nA,cA]
  refine aj rfl ?_
  refine ad b5 ((t.p,t.l,t.c),(d.p,d.l,d.c),(e'.p,e'.l,e'.c),(ps,ls,cs),()) rfl ?_
  dsimp only [flat,az,ah,nA,cA]
  have bu5:=(bu2.ai e24 (by simp)).ai k5 (by simp; omega)
  have be5:=(be2.ai e24 (by simp)).ai k5 (by simp; omega)
  obtain ⟨y1,y2,y3,y4,rfl⟩:∃ y1 y2 y3 y4,xs=[y1,y2,y3,y4]:=by
   match xs,hxs with
   | [y1,y2,y3,y4],_=>exact ⟨y1,y2,y3,y4,rfl⟩
  refine an bu5 rfl (by simp) ?_
  intro h6 b6 k6 z6
  have b6:aO h6 u 27 [t.v,d.v,e'.v,.slice ps ls cs]:=b6
  refine an (be5.ai k6 (by simp; omega)) rfl (by simp) ?_
  intro h7 b7 k7 z7
  have b7:aO h7 e 29 [.nilIface]:=b7
  have b67:=b6.ai k7 (by simp; omega)
  refine ad b67 ((t.p,t.l,t.c),(d.p,d.l,d.c),(e'.p,e'.l,e'.c),(ps,ls,cs),()) rfl ?_
  dsimp only [flat,az,ah,nA,cA]
  refine ad b7 (Value.nilIface,()) rfl ?_
  refine ⟨((((e2.trans e24).mono (by simp)).trans k5 (fun j hj _=>by have hj:=List.mem_singleton.1 hj; simp [hj])).trans k6 (fun j hj _=>by have hj:=List.mem_singleton.1 hj; simp [hj])).trans k7 (fun j hj _=>by have hj:=List.mem_singleton.1 hj; simp [hj]),t,d,e',⟨ps,ls,cs⟩,_,rfl,?_,?_,b67,b7⟩
  ·rw [hend]
   have C5:=a4.core.ai k5 (fun j hj _ _=>by have hj:=List.mem_singleton.1 hj; subst hj; have:=a4.oA; omega)
   have C7:=(C5.ai k6 (fun j hj _ hbj=>by have hj:=List.mem_singleton.1 hj; omega)).ai k7 (fun j hj _ hbj=>by have hj:=List.mem_singleton.1 hj; omega)
   have hsz2:h2.size<(h2.push (.cells #[.map (some h.size)] 70)).size:=by simp
   refine ⟨ut,ud,ue,ow,C7,Sx.SL.mono (Sx.SL.bf (Sx.SL.bf (Sx.SL.bf sS k5 (fun j hj hm=>?_)) k6 (fun j hj hm=>?_)) k7 (fun j hj hm=>?_)) (by omega)⟩
   ·have:=(Sx.SL.bW sS hj).1; have hm:=List.mem_singleton.1 hm; have:=a.box.lt; omega
   ·have:=(Sx.SL.bW sS hj).1; have hm:=List.mem_singleton.1 hm; omega
   ·have:=(Sx.SL.bW sS hj).1; have hm:=List.mem_singleton.1 hm; omega
  ·rw [hend]; rfl
open Go.Proofs
def runN:ew→List (Nat × ByteArray)→Except (Nat × Nat) ew
 | w,[]=>.ok w
 | w,x::l=>match et w x.1 x.2 with
  | .error e=>.error (x.1,e)
  | .ok w'=>runN w' l
theorem rL:∀ (a b:List (Nat × ByteArray)) (w:ew),runN w (a++b)=match runN w a with
  | .error e=>.error e
  | .ok w'=>runN w' b
 | [],b,w=>rfl
 | x::a,b,w=>by
  simp only [List.cons_append,runN]
  cases et w x.1 x.2 with
  | error e=>rfl
  | ok w1=>exact rL a b w1
theorem AT:∀ (f n:Nat) (s:ByteArray) (w:ew),runN w (Go.Proofs.aW f n s)=fZ w n ((Go.Proofs.aW f n s).map (·.2))
 | 0,n,s,w=>rfl
 | f+1,n,s,w=>by
  unfold Go.Proofs.aW
  split
  ·rfl
  ·simp only [List.map_cons,runN,fZ]
   cases et w n (zc s) with
   | error e=>rfl
   | ok w1=>exact AT f (n+1) (oi s) w1
theorem AQ (src:ByteArray):runN fY (Go.Proofs.aW (src.size+1) 1 src)=fZ fY 1 (fV src):=by
 rw [AT,← vU]
 rfl
theorem GK {a l:List (Nat × ByteArray)} {w:ew} {q:Nat × Nat} (h:a <+: l) (he:runN w a=.error q):runN w l=.error q:=by
 obtain ⟨t,rfl⟩:=h
 rw [rL,he]
theorem Ii {src:ByteArray} {x:Nat × ByteArray} (h:x∈Go.Proofs.aW (src.size+1) 1 src):x.1≤src.size+1∧x.2.size≤src.size:=by
 obtain ⟨k,hk,rfl⟩:=List.getElem_of_mem h
 have h1:=wI _ _ _ _ _ (List.getElem?_eq_getElem hk)
 have h2:=Go.Proofs.gL (src.size+1) 1 src
 refine ⟨by omega,?_⟩
 have h3:(Go.Proofs.aW (src.size+1) 1 src)[k].2∈Ig src:=by
  unfold Ig
  exact List.mem_map_of_mem h
 rw [vU] at h3
 exact j' src _ h3
def qV (h:Hp) (i:Nat):Prop:=∃ c e f,h[i]?=some (.cells c e f)
theorem SL.qV {h:Hp} {b:Nat} {e:TypeId} {sz:Nat} {p:Option Addr} {l c:Nat} {xs:List (List Value)} (s:SL h b e sz p l c xs) {i:Nat} (hi:i∈aC p):qV h i:=by
 cases p with
 | none=>simp [aC] at hi
 | some a =>
  obtain ⟨g,pre,rest,rfl,hbg,hlc,hbox,hr⟩:=s.2.2
  simp [aC] at hi
  subst hi
  exact ⟨_,_,_,hbox⟩
section
variable {h h':Hp} {b A g:Nat} {w:ew} {t d e q:bP} {ut ud:List (bP × bD)} {ue:List (bP × lP)} {ow:Nat→Nat}
open Classical in
theorem dm.nine (a:dm h b A g w t d e q ut ud ue ow):∃ ow',dm h b A g w t d e q ut ud ue ow'∧(∀ i,ow i=9→ow' i=9)∧∀ i o,h[i]?=some o→o.isCells=false→i≠g→ow' i=9:=by
 obtain ⟨ow',how⟩:∃ ow':Nat→Nat,ow'=fun i=>if (∃ o,h[i]?=some o∧o.isCells=false)∧i≠g then 9 else ow i:=⟨_,rfl⟩
 have hc:∀ i,qV h i→ow' i=ow i:=by
  rintro i ⟨c,e,f,hi⟩
  rw [how]
  refine if_neg ?_
  rintro ⟨⟨o,ho,hn⟩,_⟩
  rw [hi] at ho
  cases ho
  cases hn
 have C:=a.core
 refine ⟨ow',⟨⟨C.t1,C.t2,C.t3,C.d1,C.d2,C.d3,C.e1,C.e2,C.e3,fun i hi=>(hc i (SL.qV C.t1 hi)).trans (C.o3 i hi),fun i hi=>(hc i (SL.qV C.d1 hi)).trans (C.o4 i hi),fun i hi=>(hc i (SL.qV C.e1 hi)).trans (C.o5 i hi),
  fun u hu i hi=>(hc i (SL.qV (C.t2 u hu) hi)).trans (C.ot u hu i hi),fun u hu i hi=>(hc i (SL.qV (C.d2 u hu) hi)).trans (C.od u hu i hi),fun u hu i hi=>(hc i (SL.qV (C.e2 u hu) hi)).trans (C.oe u hu i hi)⟩,
  a.box,a.names,a.aF,(hc A ⟨_,_,_,a.box⟩).trans a.oA,?_,fun i hi=>(hc i (SL.qV a.aF hi)).trans (a.oq i hi),a.bA,a.bg⟩,?_,?_⟩
 ·rw [how]
  exact (if_neg (fun x=>x.2 rfl)).trans a.og
 ·intro i hi
  rw [how]
  simp only
  split
  ·rfl
  ·exact hi
 ·intro i o ho hn hg
  rw [how]
  exact if_pos ⟨⟨o,ho,hn⟩,hg⟩
theorem dm.grown {W W':World} {row:Option Nat} {v:Nat} (a:dm W.heap b A g w t d e q ut ud ue ow) (hv:ow v=9) (hg:W.grownBy W' row) (hr:∀ r,row=some r→g<r∧∃ o:Obj,W.heap[r]?=some o∧o.isCells=false) :
  ∃ ow',dm W'.heap b A g w t d e q ut ud ue ow'∧ow' v=9:=by
 obtain ⟨ow',a',h9,hn⟩:=a.nine
 have k:Ch row.toList W.heap W'.heap:=⟨hg.size,fun i hi hw=>hg.block i hi (fun e=>hw (by rw [← e]; simp))⟩
 refine ⟨ow',a'.ai k (fun i hi hl _=>?_),h9 v hv⟩
 have hrow:row=some i:=by simpa using hi
 obtain ⟨h1,o,h2,h3⟩:=hr i hrow
 rw [hn i o h2 h3 (by omega)]
 omega
end
end Go.Sx.Ob
set_option linter.unusedVariables false
set_option linter.unusedSimpArgs false
set_option maxRecDepth 100000
namespace Go.Sx
theorem CS {P:Program} {fn:Func} {cuts:List Nat} {c:Code} {env:Env} {a:Act} {h:Hp} {K:Value→Hp→Prop} {dl:List Deferred} {t:T} (hm:P.follows .mixedOrders=true) (he:HG P cuts fn c env=t) (ht:t [] K h) (g:iH ⟨fn.ntmps,dl⟩ env a) :
  cW P c (fun x a h=>(x=.normal∨x=.ret)∧a.defers=dl∧(∀ s v,s∉cU c→bO env s=some v→a.tmps.getD s undef=v)∧∃ v,K v h) a h:=by
 subst he
 unfold HG at ht
 refine BT (n:=⟨fn.ntmps,dl⟩) (Np hm) 100000 c env _ [] K _ a h ?_ ht g
 intro x e a h L' hp hx g' fr
 cases x <;> simp only at hx <;> first | exact hx.elim | skip
 ·obtain ⟨vs,hk,hres⟩:=pj g' hx
  exact ⟨.inl rfl,g'.defers,fun s v hs hv=>g'.get s v ((fr s hs).trans hv),_,hk⟩
 ·obtain ⟨vs,hk,hres⟩:=pj g' hx
  exact ⟨.inr rfl,g'.defers,fun s v hs hv=>g'.get s v ((fr s hs).trans hv),_,hk⟩
end Go.Sx
namespace Go.Proofs
open Go.Sx Go.Sx.Ob
theorem GZ:2∉cU (sT 7 Tryz.f10)∧3∉cU (sT 7 Tryz.f10):=by
 have h:(cU (sT 7 Tryz.f10)).contains 2=false:=by kernel_rfl
 have h':(cU (sT 7 Tryz.f10)).contains 3=false:=by kernel_rfl
 exact ⟨fun x=>Bool.noConfusion ((List.contains_iff_mem.2 x).symm.trans h),fun x=>Bool.noConfusion ((List.contains_iff_mem.2 x).symm.trans h')⟩
theorem Kx {h:Hp} {u e v:Nat} {K:Value→Hp→Prop} (ht:dy u e v [] K h) {a:Act} {dl:List Deferred} {w:World} (hw:w.heap=h) (hs:a.tmps.size=Tryz.f10.ntmps) (hd:a.defers=dl) (g2:a.tmps.getD 2 undef=.pointer (some ⟨u,0,none⟩)) (g3:a.tmps.getD 3 undef=.pointer (some ⟨e,0,none⟩)) (g5:a.tmps.getD 5 undef=.pointer (some ⟨v,0,none⟩))
  {Q:Exit→Act→World→Prop} (hQ:∀ x a' w',(x=.normal∨x=.ret)→a'.defers=dl→a'.tmps.getD 2 undef=.pointer (some ⟨u,0,none⟩)→a'.tmps.getD 3 undef=.pointer (some ⟨e,0,none⟩)→bT w w'→(∃ v,K v w'.heap)→Q x a' w') :
  (sT 7 Tryz.f10).wp Tryz.prog Q a w:=by
 have hr:∀ (s:Nat) (x:Value),bO [(2,some (.pointer (some (⟨u,0,none⟩:Addr)))),(3,some (.pointer (some (⟨e,0,none⟩:Addr)))),(5,some (.pointer (some (⟨v,0,none⟩:Addr))))] s=some x→a.tmps.getD s undef=x:=by
  intro s x hx
  by_cases h2:s=2
  ·subst h2
   exact g2.trans (Option.some.inj hx)
  by_cases h3:s=3
  ·subst h3
   exact g3.trans (Option.some.inj hx)
  by_cases h5:s=5
  ·subst h5
   exact g5.trans (Option.some.inj hx)
  ·exfalso
   have b2:Nat.beq 2 s=false:=by rw [Bool.eq_false_iff]; intro hh; exact h2 (Nat.eq_of_beq_eq_true hh).symm
   have b3:Nat.beq 3 s=false:=by rw [Bool.eq_false_iff]; intro hh; exact h3 (Nat.eq_of_beq_eq_true hh).symm
   have b5:Nat.beq 5 s=false:=by rw [Bool.eq_false_iff]; intro hh; exact h5 (Nat.eq_of_beq_eq_true hh).symm
   have b2':Nat.beq s 2=false:=by rw [Bool.eq_false_iff]; intro hh; exact h2 (Nat.eq_of_beq_eq_true hh)
   have b3':Nat.beq s 3=false:=by rw [Bool.eq_false_iff]; intro hh; exact h3 (Nat.eq_of_beq_eq_true hh)
   have b5':Nat.beq s 5=false:=by rw [Bool.eq_false_iff]; intro hh; exact h5 (Nat.eq_of_beq_eq_true hh)
   simp [bO,b2,b3,b5,b2',b3',b5'] at hx
 have hc:=CS (P:=Tryz.prog) (dl:=dl) mixed (lE u e v) ht ⟨hs,hd,hr⟩
 refine Code.wp_mono (fun x a' w' ⟨so,hx,hd',hk,hv⟩=>hQ x a' w' hx hd' (hk 2 _ GZ.1 rfl) (hk 3 _ GZ.2 rfl) so hv) (hc w w (bT.refl _) hw)
end Go.Proofs
set_option linter.unusedVariables false
set_option linter.unusedSimpArgs false
set_option maxRecDepth 100000
namespace Go.Proofs
open Go.RowKit Go.Shelf Go.Sx.Ob
attribute [local go_sem] Oper.semAt_some
theorem fm.MK {n x:Nat} {w w':World} (h:fm n x w w') (hn:n≤w.heap.size) (v:Value):fm n x w (w'.setCell ⟨x,0,none⟩ v) :=
 ⟨by simpa using h.1,fun k hk hx=>((grownBy_setCell' w' x v).block k (by have:=h.1; omega) (fun e=>hx (by cases e; rfl))).trans (h.2 k hk hx)⟩
theorem fm.alloc {n x:Nat} {w w':World} (h:fm n x w w') (hn:n≤w.heap.size) (o:Obj):fm n x w (w'.alloc o) :=
 ⟨by have:=h.1; simp; omega,fun k hk hx=>(Below.heap_alloc w' o k (by have:=h.1; omega)).trans (h.2 k hk hx)⟩
theorem fm.box {n x:Nat} {w w':World} (h:fm n x w w') {g:Nat} {e:TypeId} {xs:List Value} (b:Sx.aO w.heap g e xs) (hg:g<n) (hx:g≠x):Sx.aO w'.heap g e xs:=(h.2 g hg hx).trans b
theorem gU {w:World} {g off:Nat} {e:TypeId} {xs:List Value} (b:Sx.aO w.heap g e xs) (v:Value):Sx.aO (w.setCell ⟨g,off,none⟩ v).heap g e (xs.set off v):=(Sx.zZ b v).1
theorem bN {w:World} {g g' off:Nat} {e:TypeId} {xs:List Value} (b:Sx.aO w.heap g e xs) (hne:g≠g') (v:Value):Sx.aO (w.setCell ⟨g',off,none⟩ v).heap g e xs :=
 (Below.heap_setCell w ⟨g',off,none⟩ v g hne).trans b
theorem xK (w:World):(Instr.makeMap 70 none).run Tryz.prog w=.ok (.map (some w.heap.size)) (w.alloc (.map #[] 0)):=rfl
attribute [local go_sem] xK
theorem HY {src:ByteArray} {w:ew} (h1:¬ 65536<src.size) (h2:¬ 4096<(fV src).length) (hr:fZ fY 1 (fV src)=.ok w):fD src=sj w:=by
 unfold fD sj
 rw [if_neg h1,if_neg h2,hr]
 rfl
theorem IR {src:ByteArray} {q:Nat × Nat} (h1:¬ 65536<src.size) (h2:¬ 4096<(fV src).length) (hr:fZ fY 1 (fV src)=.error q):fD src=.error q:=by
 unfold fD
 rw [if_neg h1,if_neg h2,hr]
open Classical in
theorem Ck {h h':Sx.Hp} {b:Nat} {a b' c d:bP} {u:fS} (U:lF h b a b' c d u) (hs:h.size≤h'.size) (hc:∀ i,qV h i→h'[i]?=h[i]?):lF h' b a b' c d u:=by
 have k:Sx.Ch ((List.range h.size).filter (fun i=>decide (¬ qV h i))) h h':=⟨hs,fun i hi hn=>hc i (Classical.byContradiction fun hh=>hn (List.mem_filter.2 ⟨List.mem_range.2 hi,decide_eq_true hh⟩))⟩
 obtain ⟨ut,ud,ue,ow,C,S⟩:=U
 have f:∀ {e:TypeId} {sz:Nat} {p:Option Addr} {l c:Nat} {xs:List (List Value)},Sx.SL h b e sz p l c xs→Sx.SL h' b e sz p l c xs:=fun s=>Sx.SL.bf s k (fun i hi hm=>of_decide_eq_true (List.mem_filter.1 hm).2 (SL.qV s hi))
 exact ⟨ut,ud,ue,ow,⟨f C.t1,fun u hu=>f (C.t2 u hu),C.t3,f C.d1,fun u hu=>f (C.d2 u hu),C.d3,f C.e1,fun u hu=>f (C.e2 u hu),C.e3,C.o3,C.o4,C.o5,C.ot,C.od,C.oe⟩,f S⟩
theorem Bm {h h':Sx.Hp} {v:Value} {e:Option (Nat × Nat)} (E:si h v e) (hc:∀ i,qV h i→h'[i]?=h[i]?):si h' v e:=by
 cases e with
 | none=>exact E
 | some e =>
  obtain ⟨a,h1,h2⟩:=E
  exact ⟨a,h1,(hc a ⟨_,_,_,h2⟩).trans h2⟩
def Kc (src:ByteArray) (W:World) (e:Ending) (w':World):Prop :=
 ∃ (a b' c d:bP) (ev:Value),e=.returned (.tuple #[lh a b' c d,ev])∧lF w'.heap W.heap.size a b' c d (CB (fD src)).1∧si w'.heap ev (xB (fD src))∧Below W.heap.size W w'
theorem wE {src:ByteArray} {W w':World} {q:Nat × Nat} {ax:Nat} (h:fD src=.error q) (b:Sx.aO w'.heap ax 63 [.int .i64 (q.1:Int),.int .i64 (q.2:Int)]) (hb:Below W.heap.size W w') :
  Kc src W (.returned (.tuple #[.agg #[.slice none 0 0,.slice none 0 0,.slice none 0 0,.slice none 0 0],.iface 59 (.pointer (some ⟨ax,0,none⟩))])) w' :=
 ⟨fX,fX,fX,fX,_,rfl,by rw [h]; exact lF.zero _ _,by rw [h]; exact ⟨ax,rfl,b⟩,hb⟩
set_option maxHeartbeats 4000000 in
theorem KW (W:World) (src:ByteArray) (hl:Sx.Laid W.heap) (tb:pJ W.heap) (m:Int) (hm:W.cell? ⟨2,0,none⟩=some (.int .i64 m)) :
  CallsIn Fence.wide 7 Tryz.prog 10 #[.string src] W (Kc src W):=by
 have hW3:2<W.heap.size:=IA hm
 refine callsIn_of_wp_marks Tryz.func10 rfl trivial ?_ rfl
 simp only [Tryz.ntmps10,List.size_toArray,List.length_cons,List.length_nil,Nat.reduceAdd,Nat.reduceSub,Array.replicate_succ,Array.replicate_zero,List.push_toArray,List.append_toArray,List.nil_append,List.cons_append]
 gi_wp2
 ·rename_i hbig
  refine Ap (b0:=W.heap.size) (p:=W.heap.size) (q:=W.heap.size+1) (ev:=.iface 59 (.pointer (some ⟨W.heap.size+1+1,0,none⟩))) ⟨[],rfl,by simp,by simp⟩ rfl rfl (((Sx.aO.new W.heap 27 [.slice none 0 0,.slice none 0 0,.slice none 0 0,.slice none 0 0]).ai (Sx.Ext.push _ _) (by simp)).ai (Sx.Ext.push _ _) (by simp)) ?_ ?_
  ·have h1:=Sx.aO.new (W.heap.push (.cells #[.slice none 0 0,.slice none 0 0,.slice none 0 0,.slice none 0 0] 27)) 29 [.iface 59 (.pointer (some ⟨W.heap.size+1+1,0,none⟩))]
   simp only [Array.size_push] at h1
   exact h1.ai (Sx.Ext.push _ _) (by simp)
  ·intro w' hb hk
   have h2:=Sx.aO.new ((W.heap.push (.cells #[.slice none 0 0,.slice none 0 0,.slice none 0 0,.slice none 0 0] 27)).push (.cells #[.iface 59 (.pointer (some ⟨W.heap.size+1+1,0,none⟩))] 29)) 63 [.int .i64 (0:Int),.int .i64 (3:Int)]
   simp only [Array.size_push] at h2
   refine wE (q:=(0,3)) (by unfold fD; rw [if_pos (by omega)]) ((hk _ (by unfold Sx.aO at h2; erw [h2]; simp)).trans h2) ?_
   exact (((Below.refl _ W).alloc (Nat.le_refl _) _).alloc (by simp) _ |>.alloc (by simp; omega) _).trans hb
 have hsz:src.size≤65536:=by omega
 refine xt (Sx.wT src _) (fun v h' h=>h.2.2.1) ?_
 rintro _ w2 B2 ⟨rfl,b2,-,z2⟩
 have hu0:Sx.aO w2.heap W.heap.size 27 [.slice none 0 0,.slice none 0 0,.slice none 0 0,.slice none 0 0] :=
  (B2.block _ (by simp; omega)).trans (((Sx.aO.new W.heap 27 [.slice none 0 0,.slice none 0 0,.slice none 0 0,.slice none 0 0]).ai (Sx.Ext.push _ _) (by simp)).ai (Sx.Ext.push _ _) (by simp))
 have he0:Sx.aO w2.heap (W.heap.size+1) 29 [.nilIface]:=by
  have h1:=Sx.aO.new (W.heap.push (.cells #[.slice none 0 0,.slice none 0 0,.slice none 0 0,.slice none 0 0] 27)) 29 [.nilIface]
  simp only [Array.size_push] at h1
  exact (B2.block _ (by simp)).trans (h1.ai (Sx.Ext.push _ _) (by simp))
 have hl0:Boxed w2 (W.heap.size+1+1) 3 (.int .i64 (0:Int)):=by
  have h1:=Boxed.new ((W.alloc (.cells #[.slice none 0 0,.slice none 0 0,.slice none 0 0,.slice none 0 0] 27)).alloc (.cells #[.nilIface] 29)) 3 (.int .i64 (0:Int))
  have h2:=EE h1 B2 (by simp)
  simpa using h2
 have hb2:Boxed w2 (W.heap.size+1+1+1) 9 (.string src):=by
  have:Sx.aO w2.heap (W.heap.size+1+1+1) 9 [.string src]:=by simpa using b2
  exact this
 have BW:Below W.heap.size W w2:=((((Below.refl _ W).alloc (Nat.le_refl _) _).alloc (by simp) _).alloc (by simp; omega) _).trans (B2.mono (by simp; omega))
 have z2:w2.heap.size=W.heap.size+4:=by rw [z2]; simp
 clear B2 b2
 gi_wp2
 refine wpIn_rangeFunc_ownG (F:=Fence.wide) rfl (by omega) (gf:=62) (lb:=#[.pointer (some ⟨W.heap.size+1+1+1,0,none⟩)]) rfl trivial (enters_of Tryz.func62 (by kernel_rfl) rfl)
   (Bl (W.heap.size+1+1+1) 3 src (by omega) Sx.zF m _ ((BW.cell (p:=⟨2,0,none⟩) hW3).trans hm) (by omega) (by omega) hb2.cell) belowK_t (belowK_b (by omega)) (Below.refl _ _) (fun _=>rfl)
   (fun pre W'=>Boxed W' (W.heap.size+1+1) 3 (.int .i64 (pre.length:Int))∧fm w2.heap.size (W.heap.size+1+1) w2 W'∧Sx.bT w2 W')
   (fun c pre W'=>False)
   (fun s A B row hs hg hr=>⟨boxed_own (β:=List (Nat × ByteArray)) _ 3 (fun pre=>.int .i64 (pre.length:Int)) s A B row hs.1 hg (fun r e=>(hr r e).2),AG (β:=Unit) (by simp) (Nat.le_refl _) () A B row hs.2.1 hg hr,⟨hg.os.trans hs.2.2.os,hg.tape.trans hs.2.2.tape,hg.output.trans hs.2.2.output⟩⟩)
   (fun c s A B row hs hg hr=>hs)
   ⟨hl0,⟨Nat.le_refl _,fun _ _ _=>rfl⟩,Sx.bT.refl _⟩
   (fun x=>{ tmps:=#[.string src,undef,.pointer (some ⟨W.heap.size,0,none⟩),.pointer (some ⟨W.heap.size+1,0,none⟩),.pointer (some ⟨W.heap.size+1+1,0,none⟩),undef,undef,undef,undef,undef,undef,undef,.string src,.int .i64 (src.size:Int),.bool (decide (65536<(src.size:Int))),undef,undef,undef,undef,.string src,.func (.func 62) #[] #[.pointer (some ⟨W.heap.size+1+1+1,0,none⟩)],.int .i64 (x.1:Int),.string x.2,undef,undef,undef,undef,undef,undef,undef,undef,undef,undef,undef,undef,undef,undef,undef,undef,undef,undef,undef,undef,undef,undef,undef,undef,undef,undef,undef,undef,undef,undef,undef,undef,undef,undef,undef,undef,undef,undef,undef,undef,undef,undef,undef,undef,undef,undef,undef,undef,undef,undef,undef,undef,undef,undef,undef,undef,undef,undef,undef,undef,undef,undef,undef,undef,undef,undef],defers:=[] }) ?assign ?body ?done ?stop
 case assign =>
  intro l x W' K hK
  unfold Fh
  gi_wp2
  exact hK
 case stop =>
  intro D c pre W' hD hS hx
  exact hx.elim
 case body =>
  rintro l pre x W' ⟨bn,hsv,hso⟩ hlen
  have e1:=bn.cell
  have f1:=bn.frozen
  have hll:=gL (src.size+1) 1 src
  have hwr:wrap64 ((pre.length:Int)+1)=((pre.length+1:Nat):Int):=by
   rw [Go.IntWalk.wrap64_in _ ⟨by omega,by omega⟩]
   omega
  gi_wp2
  refine ⟨(KeepsOthers.setCell _ _ _).from _,(Below.refl _ W').setCell (p:=⟨W.heap.size+1+1,0,none⟩) (by show 3≤_+1+1; omega) _,?_,hsv.MK (Nat.le_refl _) _,⟨hso.os,hso.tape,hso.output⟩⟩
  rw [show (((pre++[x]).length:Nat):Int)=(pre.length:Int)+1 by simp]
  exact bn.set _
 case done =>
  rintro D1 ys w3 hD1 rfl ⟨bn,hsv,hso⟩ hK1
  have e1:=bn.cell
  have hll:=gL (src.size+1) 1 src
  have hu3:=hsv.box hu0 (by omega) (by omega)
  have he3:=hsv.box he0 (by omega) (by omega)
  have hu4:=hu3.ai (Sx.Ext.push w3.heap (.cells #[.int .i64 4097,.int .i64 4] 63)) (by simp)
  have he4:=he3.ai (Sx.Ext.push w3.heap (.cells #[.int .i64 4097,.int .i64 4] 63)) (by simp)
  have c0:(w3.alloc (.cells #[.int .i64 4097,.int .i64 4] 63)).cell? ⟨W.heap.size,0,none⟩=some (.slice none 0 0):=hu4.cell.trans rfl
  have c1:(w3.alloc (.cells #[.int .i64 4097,.int .i64 4] 63)).cell? ⟨W.heap.size,1,none⟩=some (.slice none 0 0):=hu4.cell.trans rfl
  have c2:(w3.alloc (.cells #[.int .i64 4097,.int .i64 4] 63)).cell? ⟨W.heap.size,2,none⟩=some (.slice none 0 0):=hu4.cell.trans rfl
  have c3:(w3.alloc (.cells #[.int .i64 4097,.int .i64 4] 63)).cell? ⟨W.heap.size,3,none⟩=some (.slice none 0 0):=hu4.cell.trans rfl
  have c4:(w3.alloc (.cells #[.int .i64 4097,.int .i64 4] 63)).cell? ⟨W.heap.size+1,0,none⟩=some .nilIface:=he4.cell.trans rfl
  have f0:(w3.alloc (.cells #[.int .i64 4097,.int .i64 4] 63)).frozen? ⟨W.heap.size,0,none⟩=false:=hu4.frozen
  have f1:(w3.alloc (.cells #[.int .i64 4097,.int .i64 4] 63)).frozen? ⟨W.heap.size,1,none⟩=false:=hu4.frozen
  have f2:(w3.alloc (.cells #[.int .i64 4097,.int .i64 4] 63)).frozen? ⟨W.heap.size,2,none⟩=false:=hu4.frozen
  have f3:(w3.alloc (.cells #[.int .i64 4097,.int .i64 4] 63)).frozen? ⟨W.heap.size,3,none⟩=false:=hu4.frozen
  have f4:(w3.alloc (.cells #[.int .i64 4097,.int .i64 4] 63)).frozen? ⟨W.heap.size+1,0,none⟩=false:=he4.frozen
  have BW3:Below W.heap.size W w3:=⟨hso.os.trans BW.os,hso.tape.trans BW.tape,hso.output.trans BW.output,by have:=hsv.1; omega,fun k hk=>(hsv.2 k (by omega) (by omega)).trans (BW.block k hk)⟩
  have hD1l:D1<w3.heap.size:=(Array.getElem?_eq_some_iff.1 hK1).1
  gi_wp2
  ·rename_i hmany
   have hu5:=bN (g':=W.heap.size+1) (off:=0) (gU (off:=3) (gU (off:=2) (gU (off:=1) (gU (off:=0) (w:=w3.alloc (.cells #[.int .i64 4097,.int .i64 4] 63)) hu4 (.slice none 0 0)) (.slice none 0 0)) (.slice none 0 0)) (.slice none 0 0)) (by omega) (.iface 59 (.pointer (some ⟨w3.heap.size,0,none⟩)))
   have he5:=gU (off:=0) (bN (g':=W.heap.size) (off:=3) (bN (g':=W.heap.size) (off:=2) (bN (g':=W.heap.size) (off:=1) (bN (g':=W.heap.size) (off:=0) (w:=w3.alloc (.cells #[.int .i64 4097,.int .i64 4] 63)) he4 (by omega) (.slice none 0 0)) (by omega) (.slice none 0 0)) (by omega) (.slice none 0 0)) (by omega) (.slice none 0 0)) (.iface 59 (.pointer (some ⟨w3.heap.size,0,none⟩)))
   have hx5:=bN (g':=W.heap.size+1) (off:=0) (bN (g':=W.heap.size) (off:=3) (bN (g':=W.heap.size) (off:=2) (bN (g':=W.heap.size) (off:=1) (bN (g':=W.heap.size) (off:=0) (w:=w3.alloc (.cells #[.int .i64 4097,.int .i64 4] 63)) (Sx.aO.new w3.heap 63 [.int .i64 4097,.int .i64 4]) (by have:=hsv.1; omega) (.slice none 0 0)) (by have:=hsv.1; omega) (.slice none 0 0)) (by have:=hsv.1; omega) (.slice none 0 0)) (by have:=hsv.1; omega) (.slice none 0 0)) (by have:=hsv.1; omega) (.iface 59 (.pointer (some ⟨w3.heap.size,0,none⟩)))
   refine Ap (b0:=W.heap.size) (p:=W.heap.size) (q:=W.heap.size+1) (ev:=.iface 59 (.pointer (some ⟨w3.heap.size,0,none⟩))) ⟨[D1],rfl,by simp,?_⟩ rfl rfl hu5 he5 ?_
   ·intro D hD
    have hD:=List.mem_singleton.1 hD
    subst hD
    have da:D≠W.heap.size:=by omega
    have db:D≠W.heap.size+1:=by omega
    refine ⟨by omega,?_⟩
    refine (Below.heap_setCell _ _ _ _ db).trans ?_
    refine (Below.heap_setCell _ _ _ _ da).trans ?_
    refine (Below.heap_setCell _ _ _ _ da).trans ?_
    refine (Below.heap_setCell _ _ _ _ da).trans ?_
    refine (Below.heap_setCell _ _ _ _ da).trans ?_
    exact (Below.heap_alloc w3 _ D hD1l).trans hK1
   ·intro w' hb hk
    refine wE (q:=(4097,4)) (by unfold fD; rw [if_neg (by omega),if_pos (by rw [← Sx.Ob.vU]; unfold Sx.Ig; rw [List.length_map]; omega)]) ((hk _ (by unfold Sx.aO at hx5; erw [hx5]; simp)).trans hx5) ?_
    exact ((((((BW3.alloc BW3.size _).setCell (p:=⟨W.heap.size,0,none⟩) (Nat.le_refl _) _).setCell (p:=⟨W.heap.size,1,none⟩) (Nat.le_refl _) _).setCell (p:=⟨W.heap.size,2,none⟩) (Nat.le_refl _) _).setCell (p:=⟨W.heap.size,3,none⟩) (Nat.le_refl _) _).setCell (p:=⟨W.heap.size+1,0,none⟩) (by show _≤_+1; omega) _).trans hb
  clear c0 c1 c2 c3 c4 f0 f1 f2 f3 f4 hu4 he4 e1
  refine xt (Sx.wT src _) (fun v h' h=>h.2.2.1) ?_
  rintro _ w5 B5 ⟨rfl,b5,-,z5⟩
  have z35:w5.heap.size=w3.heap.size+4:=by rw [z5]; simp
  have hold:∀ k,k<w3.heap.size→w5.heap[k]?=w3.heap[k]?:=fun k hk=>(B5.block k (by simp; omega)).trans ((Below.heap_alloc _ _ k (by simp; omega)).trans ((Below.heap_alloc _ _ k (by simp; omega)).trans (Below.heap_alloc _ _ k hk)))
  have hso5:Sx.bT W w5:=⟨B5.os.trans BW3.os,B5.tape.trans BW3.tape,B5.output.trans BW3.output⟩
  have hgm:w5.heap[w3.heap.size]?=some (.map #[] 0):=(B5.block _ (by simp; omega)).trans ((Below.heap_alloc _ _ _ (by simp; omega)).trans ((Below.heap_alloc _ _ _ (by simp)).trans (World.alloc_heap_new w3 _)))
  have hA5:Sx.aO w5.heap (w3.heap.size+1) 73 (kR fX fX fX 0 0 w3.heap.size fX):=by
   refine (B5.block _ (by simp)).trans ((Below.heap_alloc _ _ _ (by simp)).trans ?_)
   have:=World.alloc_heap_new (w3.alloc (.map #[] 0)) (.cells (kR fX fX fX 0 0 w3.heap.size fX).toArray 73)
   rwa [show (w3.alloc (.map #[] 0)).heap.size=w3.heap.size+1 by simp] at this
  have hv5:Sx.aO w5.heap (w3.heap.size+2) 69 [.pointer (some ⟨w3.heap.size+1,0,none⟩)]:=by
   refine (B5.block _ (by simp)).trans ?_
   have:=World.alloc_heap_new ((w3.alloc (.map #[] 0)).alloc (.cells (kR fX fX fX 0 0 w3.heap.size fX).toArray 73)) (.cells #[.pointer (some ⟨w3.heap.size+1,0,none⟩)] 69)
   rwa [show ((w3.alloc (.map #[] 0)).alloc (.cells (kR fX fX fX 0 0 w3.heap.size fX).toArray 73)).heap.size=w3.heap.size+2 by simp] at this
  have hs5:Boxed w5 (w3.heap.size+3) 9 (.string src):=by
   have h1:Sx.aO w5.heap (w3.heap.size+3) 9 [.string src]:=by simpa using b5
   exact h1
  clear B5 b5 z5
  have ha5:dm w5.heap w3.heap.size (w3.heap.size+1) w3.heap.size fY fX fX fX fX [] [] [] (fun i=>if i=w3.heap.size+1 then 6 else if i=w3.heap.size then 7 else 9) :=
   ⟨Core.nil _ _ _,hA5,⟨0,Sx.Ob.sI.new ⟨#[],0,hgm,rfl,⟨by simp,by simp,by simp⟩,by simp⟩⟩,Sx.SL.nil _ _ _ _,if_pos rfl,by simp,by simp [fX,Sx.aC],by omega,Nat.le_refl _⟩
  have hnum:((aW (src.size+1) 1 src).length:Int)≤4096:=by omega
  gi_wp2
  refine wpIn_rangeFunc_ownG (F:=Fence.wide) rfl (by omega) (gf:=62) (lb:=#[.pointer (some ⟨w3.heap.size+3,0,none⟩)]) rfl trivial (enters_of Tryz.func62 (by kernel_rfl) rfl)
   (EB (w3.heap.size+3) 3 src (by omega) Sx.zF m _ (by
    have h1:w5.heap[2]?=W.heap[2]?:=(hold 2 (by have:=BW3.size; omega)).trans (BW3.block 2 hW3)
    exact (World.cell?_of_block (a:=⟨2,0,none⟩) h1).trans hm) (by omega) (by omega) hs5.cell) belowK_t (belowK_b (by omega)) (Below.refl _ _) (fun _=>rfl)
   (fun pre W'=>Sx.bT W W'∧w5.heap.size≤W'.heap.size∧(∀ k,k<w3.heap.size→W'.heap[k]?=w3.heap[k]?)∧Sx.aO W'.heap (w3.heap.size+2) 69 [.pointer (some ⟨w3.heap.size+1,0,none⟩)] ∧
    ∃ w t d e q ut ud ue ow,Sx.Ob.runN fY (pre.map (·.1))=.ok w∧dm W'.heap w3.heap.size (w3.heap.size+1) w3.heap.size w t d e q ut ud ue ow∧ow (w3.heap.size+2)=9∧B6 w∧w.aQ.length≤pre.length∧w.aF.length≤pre.length)
   (fun c pre W'=>c=.ret∧Sx.bT W W'∧w5.heap.size≤W'.heap.size∧(∀ k,k<w3.heap.size→k≠W.heap.size→k≠W.heap.size+1→W'.heap[k]?=w3.heap[k]?)∧∃ q ax,Sx.Ob.runN fY (pre.map (·.1))=.error q∧Sx.aO W'.heap W.heap.size 27 [.slice none 0 0,.slice none 0 0,.slice none 0 0,.slice none 0 0]∧Sx.aO W'.heap (W.heap.size+1) 29 [.iface 59 (.pointer (some ⟨ax,0,none⟩))]∧Sx.aO W'.heap ax 63 [.int .i64 (q.1:Int),.int .i64 (q.2:Int)])
   ?own1 ?own2 ?start
   (fun y=>(fun (x:Nat × ByteArray)=>{ tmps:=#[.string src,undef,.pointer (some ⟨W.heap.size,0,none⟩),.pointer (some ⟨W.heap.size+1,0,none⟩),.pointer (some ⟨W.heap.size+1+1,0,none⟩),.pointer (some ⟨(w3.heap.size+2),0,none⟩),.int .i64 (x.1:Int),.string x.2,undef,undef,undef,undef,.string src,.int .i64 (src.size:Int),.bool (decide (65536<(src.size:Int))),undef,undef,undef,undef,.string src,.func (.func 62) #[] #[.pointer (some ⟨W.heap.size+1+1+1,0,none⟩)],undef,undef,undef,undef,.int .i64 ((aW (src.size+1) 1 src).length:Int),.bool (decide (4096<((aW (src.size+1) 1 src).length:Int))),undef,undef,undef,undef,.map (some w3.heap.size),.agg #[.slice none 0 0,.slice none 0 0,.slice none 0 0,.slice none 0 0,.int .i64 0,.int .i64 0,.map (some w3.heap.size),.slice none 0 0],.pointer (some ⟨(w3.heap.size+1),0,none⟩),.string src,.func (.func 62) #[] #[.pointer (some ⟨w3.heap.size+3,0,none⟩)],.int .i64 (x.1:Int),.string x.2,undef,undef,undef,undef,undef,undef,undef,undef,undef,undef,undef,undef,undef,undef,undef,undef,undef,undef,undef,undef,undef,undef,undef,undef,undef,undef,undef,undef,undef,undef,undef,undef,undef,undef,undef,undef,undef,undef,undef,undef,undef,undef,undef,undef,undef,undef,undef,undef,undef,undef,undef],defers:=[] }) y.1) ?assign ?body ?done ?stop
  case own1 =>
   rintro s A B row ⟨so,sz,ho,hb,w,t,d,e,q,ut,ud,ue,ow,hr,ha,h9,hW,hE,hG⟩ hg hrow
   refine ⟨⟨hg.os.trans so.os,hg.tape.trans so.tape,hg.output.trans so.output⟩,Nat.le_trans sz hg.size,fun k hk=>(hg.block k (by omega) (fun e=>by have:=(hrow k e.symm).1; omega)).trans (ho k hk),?_,?_⟩
   ·exact (hg.block _ (by omega) (fun e=>by have:=(hrow _ e.symm).1; omega)).trans hb
   ·obtain ⟨ow',a',h9'⟩:=ha.grown h9 hg (fun r e=>⟨by have:=(hrow r e).1; omega,(hrow r e).2⟩)
    exact ⟨w,t,d,e,q,ut,ud,ue,ow',hr,a',h9',hW,hE,hG⟩
  case own2 =>
   rintro c s A B row ⟨hc,so,sz,ho,q,ax,hq,h1,h2,h3⟩ hg hrow
   refine ⟨hc,⟨hg.os.trans so.os,hg.tape.trans so.tape,hg.output.trans so.output⟩,Nat.le_trans sz hg.size,fun k hk n1 n2=>(hg.block k (by omega) (fun e=>by have:=(hrow k e.symm).1; omega)).trans (ho k hk n1 n2),q,ax,hq,?_,?_,?_⟩
   ·exact (hg.block _ h1.lt (fun e=>by have:=(hrow _ e.symm).1; omega)).trans h1
   ·exact (hg.block _ h2.lt (fun e=>by have:=(hrow _ e.symm).1; omega)).trans h2
   ·refine (hg.block _ h3.lt (fun e=>?_)).trans h3
    obtain ⟨_,o,ho,hn⟩:=hrow _ e.symm
    rw [show A.heap[ax]?=_ from h3] at ho
    cases ho
    cases hn
  case start =>
   exact ⟨hso5,Nat.le_refl _,hold,hv5,fY,fX,fX,fX,fX,[],[],[],_,rfl,ha5,by rw [if_neg (by omega),if_neg (by omega)],B6.z,by simp [fY],by simp [fY]⟩
  case assign =>
   intro l x W' K hK
   unfold Fh
   gi_wp2
   exact hK
  case body =>
   rintro l pre x W' ⟨so,sz,ho,hb,w,t,d,e,q,ut,ud,ue,ow,hr,ha,h9,hW,hE,hG⟩ hlen
   have c0:W'.cell? ⟨w3.heap.size+2,0,none⟩=some (.pointer (some ⟨w3.heap.size+1,0,none⟩)):=hb.cell.trans rfl
   have E0:Sx.Ext W.heap W'.heap:=⟨by omega,fun k hk _=>(ho k (by omega)).trans (BW3.block k hk)⟩
   have tb':=tb.ai E0 (by simp)
   have ld':=hl.ext E0
   obtain ⟨ow1,ha1,h91,hn1⟩:=ha.nine
   have hx:=Ii x.2
   gi_wp2
   have z3:w3.heap.size≤W'.heap.size:=by omega
   refine zl (Jg tb' ld' ha1 z3 hW (by omega) (by omega) (n:=x.1.1) (by omega) x.1.2 (by omega) (qq:=fun i=>i<W'.heap.size∧(i=w3.heap.size+2∨((∃ o,W'.heap[i]?=some o∧o.isCells=false)∧i≠w3.heap.size))) (fun i h=>h.1) ?_) ?_
   ·rintro i ⟨hi,rfl | ⟨⟨o,h1,h2⟩,h3⟩⟩
    ·exact h91 _ h9
    ·exact hn1 i o h1 h2 h3
   intro v w7 so7 hR
   cases hlw:et w x.1.1 x.1.2 with
   | error e0 =>
    rw [hlw] at hR
    obtain ⟨rfl,he0,ext⟩:=hR
    have z7:=ext.size
    have hu6:Sx.aO W'.heap W.heap.size 27 [.slice none 0 0,.slice none 0 0,.slice none 0 0,.slice none 0 0]:=(ho _ (by omega)).trans hu3
    have he6:Sx.aO W'.heap (W.heap.size+1) 29 [.nilIface]:=(ho _ (by omega)).trans he3
    have hu7:=hu6.ai ext (by simp)
    have he7:=he6.ai ext (by simp)
    have hu8:=hu7.ai (Sx.Ext.push w7.heap (.cells #[.int .i64 (x.1.1:Int),.int .i64 (e0:Int)] 63)) (by simp)
    have he8:=he7.ai (Sx.Ext.push w7.heap (.cells #[.int .i64 (x.1.1:Int),.int .i64 (e0:Int)] 63)) (by simp)
    have d0:(w7.alloc (.cells #[.int .i64 (x.1.1:Int),.int .i64 (e0:Int)] 63)).cell? ⟨W.heap.size,0,none⟩=some (.slice none 0 0):=hu8.cell.trans rfl
    have d1:(w7.alloc (.cells #[.int .i64 (x.1.1:Int),.int .i64 (e0:Int)] 63)).cell? ⟨W.heap.size,1,none⟩=some (.slice none 0 0):=hu8.cell.trans rfl
    have d2:(w7.alloc (.cells #[.int .i64 (x.1.1:Int),.int .i64 (e0:Int)] 63)).cell? ⟨W.heap.size,2,none⟩=some (.slice none 0 0):=hu8.cell.trans rfl
    have d3:(w7.alloc (.cells #[.int .i64 (x.1.1:Int),.int .i64 (e0:Int)] 63)).cell? ⟨W.heap.size,3,none⟩=some (.slice none 0 0):=hu8.cell.trans rfl
    have d4:(w7.alloc (.cells #[.int .i64 (x.1.1:Int),.int .i64 (e0:Int)] 63)).cell? ⟨W.heap.size+1,0,none⟩=some .nilIface:=he8.cell.trans rfl
    have f0:(w7.alloc (.cells #[.int .i64 (x.1.1:Int),.int .i64 (e0:Int)] 63)).frozen? ⟨W.heap.size,0,none⟩=false:=hu8.frozen
    have f1:(w7.alloc (.cells #[.int .i64 (x.1.1:Int),.int .i64 (e0:Int)] 63)).frozen? ⟨W.heap.size,1,none⟩=false:=hu8.frozen
    have f2:(w7.alloc (.cells #[.int .i64 (x.1.1:Int),.int .i64 (e0:Int)] 63)).frozen? ⟨W.heap.size,2,none⟩=false:=hu8.frozen
    have f3:(w7.alloc (.cells #[.int .i64 (x.1.1:Int),.int .i64 (e0:Int)] 63)).frozen? ⟨W.heap.size,3,none⟩=false:=hu8.frozen
    have f4:(w7.alloc (.cells #[.int .i64 (x.1.1:Int),.int .i64 (e0:Int)] 63)).frozen? ⟨W.heap.size+1,0,none⟩=false:=he8.frozen
    gi_wp2
    ·rename_i hne
     have hg5:w5.heap.size≤w7.heap.size:=by omega
     have hx8:=Sx.aO.new w7.heap 63 [.int .i64 (x.1.1:Int),.int .i64 (e0:Int)]
     have hu9:=bN (g':=W.heap.size+1) (off:=0) (gU (off:=3) (gU (off:=2) (gU (off:=1) (gU (off:=0) (w:=w7.alloc (.cells #[.int .i64 (x.1.1:Int),.int .i64 (e0:Int)] 63)) hu8 (.slice none 0 0)) (.slice none 0 0)) (.slice none 0 0)) (.slice none 0 0)) (by omega) (.iface 59 (.pointer (some ⟨w7.heap.size,0,none⟩)))
     have he9:=gU (off:=0) (bN (g':=W.heap.size) (off:=3) (bN (g':=W.heap.size) (off:=2) (bN (g':=W.heap.size) (off:=1) (bN (g':=W.heap.size) (off:=0) (w:=w7.alloc (.cells #[.int .i64 (x.1.1:Int),.int .i64 (e0:Int)] 63)) he8 (by omega) (.slice none 0 0)) (by omega) (.slice none 0 0)) (by omega) (.slice none 0 0)) (by omega) (.slice none 0 0)) (.iface 59 (.pointer (some ⟨w7.heap.size,0,none⟩)))
     have hx9:=bN (g':=W.heap.size+1) (off:=0) (bN (g':=W.heap.size) (off:=3) (bN (g':=W.heap.size) (off:=2) (bN (g':=W.heap.size) (off:=1) (bN (g':=W.heap.size) (off:=0) (w:=w7.alloc (.cells #[.int .i64 (x.1.1:Int),.int .i64 (e0:Int)] 63)) hx8 (by omega) (.slice none 0 0)) (by omega) (.slice none 0 0)) (by omega) (.slice none 0 0)) (by omega) (.slice none 0 0)) (by omega) (.iface 59 (.pointer (some ⟨w7.heap.size,0,none⟩)))
     have kk:∀ k,k<W'.heap.size→k≠W.heap.size→k≠W.heap.size+1→((((((w7.alloc (.cells #[.int .i64 (x.1.1:Int),.int .i64 (e0:Int)] 63)).setCell ⟨W.heap.size,0,none⟩ (.slice none 0 0)).setCell ⟨W.heap.size,1,none⟩ (.slice none 0 0)).setCell ⟨W.heap.size,2,none⟩ (.slice none 0 0)).setCell ⟨W.heap.size,3,none⟩ (.slice none 0 0)).setCell ⟨W.heap.size+1,0,none⟩ (.iface 59 (.pointer (some ⟨w7.heap.size,0,none⟩)))).heap[k]?=W'.heap[k]?:=by
      intro k hk n1 n2
      refine (Below.heap_setCell _ _ _ _ n2).trans ?_
      refine (Below.heap_setCell _ _ _ _ n1).trans ?_
      refine (Below.heap_setCell _ _ _ _ n1).trans ?_
      refine (Below.heap_setCell _ _ _ _ n1).trans ?_
      refine (Below.heap_setCell _ _ _ _ n1).trans ?_
      exact (Below.heap_alloc w7 _ k (by omega)).trans (ext.same k hk (by simp))
     refine ⟨⟨by simp; omega,fun k o hk h1 h2=>(kk k (Array.getElem?_eq_some_iff.1 h1).1 (by omega) (by omega)).trans h1⟩,rfl,⟨so7.os.trans so.os,so7.tape.trans so.tape,so7.output.trans so.output⟩,by simp; omega,fun k hk n1 n2=>(kk k (by omega) n1 n2).trans (ho k hk),(x.1.1,e0),w7.heap.size,?_,hu9,he9,hx9⟩
     rw [List.map_append,Sx.Ob.rL,hr]
     simp only [List.map_cons,List.map_nil,Sx.Ob.runN,hlw]
   | ok w1 =>
    rw [hlw] at hR
    obtain ⟨rfl,t',d',e',q',ut',ud',ue',ow2,a2,A2⟩:=hR
    have hsame:=A2.same
    have z7:=A2.size
    have hl2:=wD hlw
    gi_wp2
    refine ⟨⟨z7,fun k o hk h1 h2=>(hsame k (Array.getElem?_eq_some_iff.1 h1).1 (.inr ⟨(Array.getElem?_eq_some_iff.1 h1).1,.inr ⟨⟨o,h1,h2⟩,by omega⟩⟩)).trans h1⟩,⟨so7.os,so7.tape,so7.output,z7,fun k hk=>hsame k (by omega) (.inl (by omega))⟩,⟨so7.os.trans so.os,so7.tape.trans so.tape,so7.output.trans so.output⟩,Nat.le_trans sz z7,fun k hk=>(hsame k (by omega) (.inl hk)).trans (ho k hk),?_,?_⟩
    ·exact (hsame _ (by omega) (.inr ⟨by omega,.inl rfl⟩)).trans hb
    ·refine ⟨w1,t',d',e',q',ut',ud',ue',ow2,?_,a2,A2.qo _ ⟨by omega,.inl rfl⟩,BC (by omega) hW hlw,?_,?_⟩
     ·rw [List.map_append,Sx.Ob.rL,hr]
      simp only [List.map_cons,List.map_nil,Sx.Ob.runN,hlw]
     ·rw [List.length_append]; simp only [List.length_cons,List.length_nil]; omega
     ·rw [List.length_append]; simp only [List.length_cons,List.length_nil]; omega
  case done =>
   rintro D2 ys w6 hD2 hys ⟨so,sz,ho,hb,w,t,d,e,q,ut,ud,ue,ow,hr,ha,h9,hW,hE,hG⟩ hK2
   have hrun:fZ fY 1 (fV src)=.ok w:=by rw [← AQ,← hys]; exact hr
   have hyl:ys.length=(aW (src.size+1) 1 src).length:=by have h0:=congrArg List.length hys; rwa [List.length_map] at h0
   have hasm:fD src=sj w:=HY (by omega) (by rw [← Sx.Ob.vU]; unfold Sx.Ig; rw [List.length_map]; omega) hrun
   have hu6:Sx.aO w6.heap W.heap.size 27 [.slice none 0 0,.slice none 0 0,.slice none 0 0,.slice none 0 0]:=(ho _ (by omega)).trans hu3
   have he6:Sx.aO w6.heap (W.heap.size+1) 29 [.nilIface]:=(ho _ (by omega)).trans he3
   have hrest:=IU ha hW (by omega) (u:=W.heap.size) (e:=W.heap.size+1) (v:=w3.heap.size+2) (by omega) (by omega) (by omega) (by omega) h9 hu6 rfl he6 hb
   rename_i K hK
   refine hK _ _ ?_
   refine wpIn_wide.2 (Kx hrest (w:=w6) rfl rfl rfl rfl rfl rfl ?_)
   rintro x a' w7 hx hd' g2 g3 so7 ⟨v,k7,a,b',c,dd,ev,rfl,hU,hEr,hb1,hb2'⟩
   have D2l:D2<w6.heap.size:=(Array.getElem?_eq_some_iff.1 hK2).1
   have hm:Marks W.heap.size a'.defers w7:=by
    refine ⟨[D2,D1],hd',?_,?_⟩
    ·simp only [List.nodup_cons,List.mem_singleton,List.not_mem_nil,not_false_eq_true,List.nodup_nil,and_true]
     omega
    ·intro D hD
     rcases List.mem_cons.1 hD with rfl | hD
     ·refine ⟨by omega,(k7.same D D2l ?_).trans hK2⟩
      simp only [List.mem_cons,List.not_mem_nil,or_false]
      omega
     ·have hD:=List.mem_singleton.1 hD
      subst hD
      refine ⟨by omega,(k7.same D (by omega) ?_).trans ((ho D (by omega)).trans hK1)⟩
      simp only [List.mem_cons,List.not_mem_nil,or_false]
      omega
   have hfin:∀ w':World,Below W.heap.size w7 w'→(∀ B:Nat,w7.heap[B]?≠some (Obj.deferred (some []))→w'.heap[B]?=w7.heap[B]?)→Kc src W (.returned (.tuple #[lh a b' c dd,ev])) w':=by
    intro w' hb8 hk8
    have hcl:∀ i,qV w7.heap i→w'.heap[i]?=w7.heap[i]?:=by
     rintro i ⟨c,e,f,hi⟩
     exact hk8 i (by rw [hi]; simp)
    refine ⟨a,b',c,dd,ev,rfl,?_,?_,?_⟩
    ·rw [hasm]
     exact Ck (hU.mono (by omega)) hb8.size hcl
    ·rw [hasm]
     exact Bm hEr hcl
    ·refine Below.trans ⟨so7.os.trans so.os,so7.tape.trans so.tape,so7.output.trans so.output,by have:=k7.size; omega,fun k hk'=>?_⟩ hb8
     refine (k7.same k (by omega) ?_).trans ((ho k (by omega)).trans (BW3.block k hk'))
     simp only [List.mem_cons,List.not_mem_nil,or_false]
     omega
   rcases hx with rfl | rfl
   ·exact Ap (b0:=W.heap.size) hm g2 g3 hb1 hb2' hfin
   ·exact Ap (b0:=W.heap.size) hm g2 g3 hb1 hb2' hfin
  case stop =>
   rintro D2 c pre w6 hD2 hpre ⟨rfl,so,sz,ho,q,ax,hq,h1,h2,h3⟩ hK2
   have D2l:D2<w6.heap.size:=(Array.getElem?_eq_some_iff.1 hK2).1
   have hasm:fD src=.error q:=IR (by omega) (by rw [← Sx.Ob.vU]; unfold Sx.Ig; rw [List.length_map]; omega) (by rw [← AQ]; exact GK hpre hq)
   gi_wp2
   refine Ap (b0:=W.heap.size) (p:=W.heap.size) (q:=W.heap.size+1) (ev:=.iface 59 (.pointer (some ⟨ax,0,none⟩))) ⟨[D2,D1],rfl,?_,?_⟩ rfl rfl h1 h2 ?_
   ·simp only [List.nodup_cons,List.mem_singleton,List.not_mem_nil,not_false_eq_true,List.nodup_nil,and_true]
    omega
   ·intro D hD
    rcases List.mem_cons.1 hD with rfl | hD
    ·exact ⟨by omega,hK2⟩
    ·have hD:=List.mem_singleton.1 hD
     subst hD
     exact ⟨by omega,(ho D (by omega) (by omega) (by omega)).trans hK1⟩
   ·intro w' hb hk
    refine wE (q:=q) hasm ((hk _ (by unfold Sx.aO at h3; erw [h3]; simp)).trans h3) ?_
    exact Below.trans ⟨so.os,so.tape,so.output,by omega,fun k hk'=>(ho k (by omega) (by omega) (by omega)).trans (BW3.block k hk')⟩ hb
end Go.Proofs
set_option linter.unusedVariables false
set_option linter.unusedSimpArgs false
set_option maxRecDepth 100000
namespace Go.Sx.Ob
open Go.Proofs
def L7 (s:ByteArray) (h:Hp) (v:Value) (h':Hp):Prop:=Ext h h'∧∃ (a b c d:bP) (ev:Value),v=.tuple #[lh a b c d,ev]∧lF h' h.size a b c d (CB (fD s)).1∧si h' ev (xB (fD s))
theorem KE (s:ByteArray) (h:Hp) (hl:Laid h) (tb:pJ h) (m:Int) (hm:∀ W:World,W.heap=h→W.cell? ⟨2,0,none⟩=some (.int .i64 m)):HC Tryz.prog 10 #[.string s] h (L7 s h):=by
 intro W hW
 subst hW
 refine callsIn_wide.1 ((KW W s hl tb m (hm W rfl)).mono ?_)
 rintro e w' ⟨a,b,c,d,ev,rfl,hU,hE,hB⟩
 exact ⟨_,rfl,⟨hB.os,hB.tape,hB.output⟩,⟨hB.size,fun i hi _=>hB.block i hi⟩,a,b,c,d,ev,rfl,hU,hE⟩
structure vX (u:fS):Prop where
 text:∀ x,x∈u.text→yY x
 data:∀ x,x∈u.data→yY x
 aQ:∀ x,x∈u.aQ→tI x.2∧x.1.size<65536
 aF:∀ x,x∈u.aF→x.size<65536
 m1:u.text.length+u.data.length≤8192
 m2:u.aQ.length≤4096
 m3:u.aF.length≤4096
theorem vX.z:vX tq:=⟨by simp [tq],by simp [tq],by simp [tq],by simp [tq],by simp [tq],by simp [tq],by simp [tq]⟩
theorem Gz {x:ey} {n:Nat} (hn:n≤65535) (g:Good x) (hx:x.au.length≤n):tI x :=
 ⟨by omega,fun t ht=>⟨by have:=jy (g.yb t ht); omega,(g.nf.D6 t ht).2⟩,g.num⟩
theorem G8 {x:bD} {k n:Nat} (hn:n≤65535) (hr:bm x k=true) (g:Good x.e) (hx:Bd n x):yY x:=by
 refine ⟨Gz hn g hx,?_,?_⟩
 ·have z:z1 x=true→x.name.size<65536:=fun e=>by
   have e:x.name=bI:=of_decide_eq_true e
   rw [e]; decide
  unfold bm at hr
  repeat' split at hr
  all_goals try simp only [Bool.and_eq_true] at hr
  ·have:=jy hr.1.1.1
   omega
  all_goals first | exact z hr.1.1.1 | exact z hr.1.1 | exact z hr.1.2 | exact z hr.1.1.1.2 | exact z hr.1.1.2 | (cases hr; done)
 ·have z:z2 x=true→Sm x.inst.op:=fun e=>by
   have e:x.inst=iG:=of_decide_eq_true e
   rw [e]; unfold Sm iG; simp
  unfold bm at hr
  repeat' split at hr
  all_goals try simp only [Bool.and_eq_true] at hr
  ·exact z hr.1.1.2
  ·have h1:=hr.1.1.2
   unfold uP at h1
   simp only [Bool.and_eq_true] at h1
   exact J9 (of_decide_eq_true h1.1.1)
  all_goals first | exact z hr.1.1.1.2 | exact z hr.1.1.2 | exact z hr.1.2 | exact z hr.2 | (cases hr; done)
theorem pX:∀ (l d:List ByteArray),(l.foldl (fun d s=>iI s d) d).length≤d.length+l.length
 | [],d=>by simp
 | s::l,d=>by
  have h:=pX l (iI s d)
  have h2:(iI s d).length≤d.length+1:=wu s d
  simp only [List.foldl_cons,List.length_cons]
  omega
theorem xP:∀ (l:List ByteArray) (w w':ew) (n:Nat),fZ w n l=.ok w'→w'.aQ.length≤w.aQ.length+l.length∧w'.aF.length≤w.aF.length+l.length
 | [],w,w',n,h=>by
  simp only [fZ] at h
  injection h with h
  subst h
  exact ⟨by simp,by simp⟩
 | s::l,w,w',n,h=>by
  simp only [fZ] at h
  split at h
  ·cases h
  ·rename_i w1 h1
   have ih:=xP l w1 w' (n+1) h
   have h2:=wD h1
   simp only [List.length_cons]
   omega
theorem KG {src:ByteArray} (hs:src.size≤60000) {u:fS} (h:fD src=.ok u):vX u:=by
 unfold fD at h
 split at h
 ·cases h
 rename_i hsz
 split at h
 ·cases h
 rename_i hl
 split at h
 ·cases h
 rename_i w hw
 have W:=Di _ _ _ _ (fun s hs=>by have:=j' src s hs; omega) B6.z hw
 have S:=Dq (n:=60001) (fV src) fY w 1 (fun s hs'=>by have:=j' src s hs'; omega) ⟨by simp [fY],by simp [fY],by simp [fY]⟩ hw
 have L:=xP _ _ _ _ hw
 have hm:=W.many
 split at h
 ·cases h
 injection h with h
 subst h
 refine ⟨fun x hx=>G8 (by omega) (W.text x hx).1 (W.text x hx).2 (S.text x hx),fun x hx=>G8 (by omega) (W.data x hx).1 (W.data x hx).2 (S.data x hx),fun x hx=>⟨Gz (by omega) (W.aQ x hx).2 (S.aQ x hx),by have:=jy (W.aQ x hx).1; omega⟩,fun x hx=>?_,by simp only; omega,?_,?_⟩
 ·simp only at hx
  rw [gO] at hx
  obtain ⟨g,hg1,rfl⟩:=List.mem_map.1 hx
  have:=jy (W.aF g hg1)
  omega
 ·have:fY.aQ.length=0:=rfl
  simp only
  omega
 ·have h0:fY.aF.length=0:=rfl
  have:=pX (w.aF.map (·.1)) []
  simp only [List.length_map,List.length_nil] at this
  simp only
  unfold bH
  omega
theorem Kz {src:ByteArray} (hs:src.size≤60000):vX (CB (fD src)).1:=by
 cases h:fD src with
 | error q=>exact vX.z
 | ok u=>exact KG hs h
theorem lF.own {h:Hp} {b:Nat} {a b' c d:bP} {u:fS} (U:lF h b a b' c d u) (z:vX u):jC h b a b' c d u∧MN a b':=by
 obtain ⟨ut,ud,ue,ow,C,S⟩:=U
 have l1:=congrArg List.length C.t3
 have l2:=congrArg List.length C.d3
 have l3:=congrArg List.length C.e3
 rw [List.length_map] at l1 l2 l3
 have m1:=z.m1
 have m2:=z.m2
 have m3:=z.m3
 refine ⟨⟨⟨ut,C.t3,by omega,C.t1,C.t2,fun x hx=>z.text _ (by rw [← C.t3]; exact List.mem_map_of_mem hx)⟩,⟨ud,C.d3,by omega,C.d1,C.d2,fun x hx=>z.data _ (by rw [← C.d3]; exact List.mem_map_of_mem hx)⟩,⟨ue,C.e3,by omega,C.e1,C.e2,fun x hx=>z.aQ _ (by rw [← C.e3]; exact List.mem_map_of_mem hx)⟩,⟨u.aF.map (fun x=>(fX,x)),by rw [List.map_map]; exact List.map_id _,by rw [List.length_map]; omega,?_,?_,?_⟩⟩,?_⟩
 ·have h1:(u.aF.map (fun x=>(fX,x))).map (fun (u:bP × ByteArray)=>[Value.string u.2])=u.aF.map IP:=by rw [List.map_map]; rfl
  show SL h b 9 1 d.p d.l d.c ((u.aF.map (fun x=>(fX,x))).map (fun (u:bP × ByteArray)=>[Value.string u.2]))
  rw [h1]
  exact S
 ·intro x hx
  obtain ⟨y,hy,rfl⟩:=List.mem_map.1 hx
  exact SL.nil _ _ _ _
 ·intro x hx
  obtain ⟨y,hy,rfl⟩:=List.mem_map.1 hx
  exact z.aF y hy
 ·intro i hi hj
  have h1:=C.o3 i hi
  have h2:=C.o4 i hj
  omega
theorem lF.at {h:Hp} {b:Nat} {a b' c d:bP} {u:fS} (U:lF h b a b' c d u) (z:vX u):gn h a b' c d u:=(U.own z).1.at
theorem Ex {k:Nat} {ts:List Tok} {e:Nat} (w:Wf ts) (h:jQ k ts=.error e):e=20∨e=21:=by
 unfold jQ at h
 split at h
 ·split at h
  ·rename_i he
   injection h with h
   subst h
   exact gZ w he
  ·cases h
 ·split at h
  ·rename_i he
   injection h with h
   subst h
   exact dS w he
  ·cases h
theorem qv {k:Nat} {e:Nat}:∀ (l:List (List Tok)),(∀ a,a∈l→Wf a)→cO k l=.error e→e=20∨e=21
 | [],w,h=>by cases h
 | t::ts,w,h=>by
  simp only [cO] at h
  split at h
  ·rename_i he
   injection h with h
   subst h
   exact Ex (w t (by simp)) he
  ·split at h
   ·rename_i he
    injection h with h
    subst h
    exact qv ts (fun a ha=>w a (by simp [ha])) he
   ·cases h
theorem K2 {args:List (List Tok)} (hw:∀ a,a∈args→Wf a) (wn:Wf []) (i:Nat):Wf (ag args i):=by
 unfold ag
 rw [List.getD_eq_getElem?_getD]
 cases h:args[i]? with
 | none=>exact wn
 | some a=>exact hw a (List.mem_of_getElem? h)
theorem Gk {op:ByteArray} {args:List (List Tok)} {e:Nat} (hw:∀ a,a∈args→Wf a) (wn:Wf []) (h:ga op args=.error e):e=20∨e=21:=by
 unfold ga at h
 simp only at h
 have g:=K2 hw wn
 split at h
 ·injection h with h; exact .inl h.symm
 split at h
 ·cases h
 split at h
 ·split at h
  ·rename_i he
   injection h with h
   subst h
   exact gZ (g 0) he
  ·split at h
   ·cases h
   ·injection h with h; exact .inr h.symm
 split at h
 ·split at h
  ·rename_i he
   injection h with h
   subst h
   exact gZ (g 0) he
  ·cases h
 split at h
 ·split at h
  ·injection h with h; exact .inl h.symm
  ·split at h
   ·rename_i he
    injection h with h
    subst h
    exact qv _ hw he
   ·cases h
 split at h
 ·split at h
  ·injection h with h; exact .inl h.symm
  ·split at h
   ·rename_i he
    injection h with h
    subst h
    exact qv _ hw he
   ·cases h
 split at h
 ·split at h
  ·rename_i he
   injection h with h
   subst h
   exact .inl (rQ he)
  ·split at h
   ·rename_i he
    injection h with h
    subst h
    exact dS (g 1) he
   ·cases h
 split at h
 ·split at h
  ·rename_i he
   injection h with h
   subst h
   exact .inl (rQ he)
  ·cases h
 ·split at h
  ·split at h
   ·cases h
   ·split at h
    ·cases h
    ·injection h with h; exact .inl h.symm
  ·injection h with h; exact .inl h.symm
theorem EC {l:Ln} {d:Bool} {e:Nat} (hw:∀ a,a∈l.args→Wf a) (wn:Wf []) (h:dG l d=.error e):e=20∨e=21:=by
 unfold dG at h
 split at h
 ·cases h
 split at h
 ·split at h
  ·rename_i he
   injection h with h
   subst h
   exact yR hw he
  ·split at h
   ·injection h with h; exact .inr h.symm
   ·cases h
 ·split at h
  ·rename_i he
   injection h with h
   subst h
   exact Gk hw wn he
  ·rename_i t w he
   by_cases hc:w=2∨w=(if d then 1 else 0)
   ·rw [if_pos hc] at h; cases h
   ·rw [if_neg hc] at h; injection h with h; exact .inr h.symm
theorem As (s:ByteArray):∀ (f k:Nat) (acc:List Tok),(j7 s f k acc).2.2≤20
 | 0,k,acc=>by simp [j7]
 | f+1,k,acc=>by
  simp only [j7]
  split
  ·simp
  ·simp
  ·exact As s f _ _
theorem Cw (s:ByteArray):(aL s).2.2≤20:=by
 have ht:∀ (n:Nat) (lb:ByteArray) (us:List Tok),(bU n lb us).2.2≤20:=by
  intro n lb us
  unfold bU
  split
  ·simp
  ·split
   ·simp
   ·split <;> simp
 unfold aL eP
 split
 ·exact As s _ _ _
 ·split
  ·exact ht _ _ _
  ·exact ht _ _ _
theorem Er {w:ew} {n e:Nat} {s:ByteArray} (hs:s.size≤2^20) (h:et w n s=.error e):e<100:=by
 unfold et at h
 have p:=Cw s
 split at h
 ·injection h with h; omega
 split at h
 ·injection h with h; omega
 split at h
 ·rename_i he
  injection h with h
  subst h
  have f:=gX s hs
  have:=EC (fun a ha=>(f a ha).1) (fun t ht=>by cases ht) he
  omega
 split at h
 ·injection h with h; omega
 split at h
 ·injection h with h; omega
 ·cases h
theorem Aw:∀ (l:List ByteArray) (w:ew) (n:Nat) (q:Nat × Nat),(∀ s,s∈l→s.size≤2^20)→fZ w n l=.error q→q.2<100
 | [],w,n,q,_,h=>by cases h
 | s::l,w,n,q,hs,h=>by
  simp only [fZ] at h
  split at h
  ·rename_i e he
   injection h with h
   subst h
   exact Er (hs s (by simp)) he
  ·exact Aw l _ _ q (fun x hx=>hs x (by simp [hx])) h
theorem Cv {s:ByteArray} {q:Nat × Nat} (h:fD s=.error q):q.1≤2^60∧q.2<10^18:=by
 unfold fD at h
 split at h
 ·injection h with h
  subst h
  exact ⟨by decide,by decide⟩
 rename_i hsz
 split at h
 ·injection h with h
  subst h
  exact ⟨by decide,by decide⟩
 rename_i hl
 have hls:∀ x,x∈fV s→x.size≤2^20:=fun x hx=>by have:=j' s x hx; omega
 split at h
 ·rename_i he
  injection h with h
  subst h
  have h1:=Aw _ _ _ _ hls he
  have h2:=BG _ _ _ _ he
  exact ⟨by omega,by omega⟩
 ·rename_i w hw
  split at h
  ·rename_i g hg
   injection h with h
   subst h
   have hm:=List.mem_of_find?_eq_some hg
   rcases wF _ _ _ _ hw g hm with h3 | h3
   ·simp [fY] at h3
   ·exact ⟨by simp only; omega,show 23<10^18 by decide⟩
  ·cases h
theorem EZ {s:ByteArray} {q:Nat × Nat} (h:xB (fD s)=some q):q.1≤2^60∧q.2<10^18:=by
 cases hh:fD s with
 | error e =>
  rw [hh] at h
  injection h with h
  subst h
  exact Cv hh
 | ok u=>rw [hh] at h; cases h
end Go.Sx.Ob
set_option linter.unusedVariables false
set_option maxRecDepth 100000
namespace Go.Proofs.YtfkjiiapldkoeaaGreatDoor
open Go.RowKit Go.Extern.Stop Go.Stop Go.Extern
theorem Hn (v:Value) (w:World):(Extern.ReflectliteType.typeOf #[.iface 44 v]).run Tryz.prog w=.ok (.iface 163 (.agg #[.pointer (some ⟨8,44,none⟩)])) w:=by kernel_rfl
theorem zp (w : World) : ((Extern.ReflectliteType.method fun t => do Extern.Rtype.noPackHeld "Comparable" t; (fun a => Value.bool a.comparable) <$> typeInfo t) #[.agg #[.pointer (some ⟨8, 44, none⟩)]]).run Tryz.prog w = .ok (.bool true) w := by kernel_rfl
theorem qt (v : Value) (w : World) : (Go.method 442 163 v "Comparable").run Tryz.prog w = .ok (226, v) w := by kernel_rfl
theorem LZ (v:Value) (xT:TypeId) (w:World):(Instr.typeAssert (.iface 59 v) xT 197 true).run Tryz.prog w=.ok (.tuple #[.nilIface,.bool false]) w:=run_typeAssert_lacksB Tryz.underlying197 (by kernel_rfl) (by kernel_rfl) v xT w
theorem Lr (v:Value) (xT:TypeId) (w:World):(Instr.typeAssert (.iface 44 v) xT 197 true).run Tryz.prog w=.ok (.tuple #[.nilIface,.bool false]) w:=run_typeAssert_lacksB Tryz.underlying197 (by kernel_rfl) (by kernel_rfl) v xT w
theorem CV (v:Value) (xT:TypeId) (w:World):(Instr.typeAssert (.iface 59 v) xT 170 true).run Tryz.prog w=.ok (.tuple #[.iface 59 v,.bool true]) w:=run_typeAssert_hasB Tryz.underlying170 (by kernel_rfl) v xT w
theorem zN (v : Value) (w : World) : (Go.method 442 59 v "Unwrap").run Tryz.prog w = .ok (39, v) w := by kernel_rfl
theorem MG (n m:Int) (w:World):(binOp .eql 29 (.iface 44 (.int .i64 n)) (.iface 44 (.int .i64 m))).run Tryz.prog w=.ok (.bool (n==m)) w:=by kernel_rfl
theorem NH (n:Int) (w:World):(binOp .eql 29 (.iface 44 (.int .i64 n)) (.iface 44 (.int .i64 n))).run Tryz.prog w=.ok (.bool true) w:=by rw [MG]; simp
theorem Gw (a:Nat) (n:Int) (w:World) (h1:w.cell? ⟨a,0+1,none⟩=some (.int .i64 n)) :
  Calls Tryz.prog 40 #[.iface 59 (.pointer (some ⟨a,0,none⟩)),.iface 44 (.int .i64 n)] w fun e w'=>e=.returned (.bool true)∧w'=w:=by
 have h8:=@run_callFunc_extern Tryz.prog 73 _ Extern.ReflectliteType.typeOf Tryz.func73 (by kernel_rfl) (by kernel_rfl) (by kernel_rfl) (by kernel_rfl)
 have h32 := @run_callFunc_extern Tryz.prog 226 _ (Extern.ReflectliteType.method fun t => do Extern.Rtype.noPackHeld "Comparable" t; pure (.bool (← typeInfo t).comparable)) Tryz.func226 (by kernel_rfl) (by kernel_rfl) (by kernel_rfl) (by kernel_rfl)
 have tT:=Hn
 have cT:=zp
 have mR:=qt
 have nE:=LZ
 have nW:=Lr
 have uW:=CV
 have mU:=zN
 have heq:=NH n w
 have hty:=run_eql_iface_types (P:=Tryz.prog) 59 44 (.pointer (some ⟨a,0,none⟩)) (.int .i64 n) Tryz.underlying29 (by decide) w
 go_enter Tryz.func40,Tryz.ntmps40
 go_wp2
 refine wp_loop_rounds 2 ?_
 rw [rounds_succ]
 go_wp2
 rw [rounds_succ]
 go_wp2
 go_ret
 exact ⟨rfl,rfl⟩
end Go.Proofs.YtfkjiiapldkoeaaGreatDoor
set_option linter.unusedVariables false
set_option linter.unusedSimpArgs false
set_option maxRecDepth 100000
namespace Go.Sx.Ob
open Go.Proofs
theorem SL.flat {h:Hp} {b:Nat} {e:TypeId} {sz:Nat} {a:Addr} {l c:Nat} {xs:List (List Value)} (s:SL h b e sz (some a) l c xs):aG h a 0 xs.flatten:=by
 obtain ⟨g,pre,rest,rfl,hbg,hlc,hbox,hr⟩:=s.2.2
 refine hbox.cells _ ?_
 rw [List.drop_left,List.take_left]
def qc (h:Hp):Prop:=∃ e f,h[3]?=some (.cells (Lib.pow10Tab.map fun z=>Value.int .u64 z).toArray e f)
theorem qc.ai {ws:List Nat} {h h':Hp} (p:qc h) (k:Ch ws h h') (hw:3∉ws):qc h':=by
 obtain ⟨e,f,hp⟩:=p
 exact ⟨e,f,k.get hp hw⟩
theorem KS {W:World} {name:String} (hg:Tryz.prog.globalNamed name=some 3) (p:qc W.heap):Lib.TabIs Tryz.prog W name .u64 Lib.pow10Tab:=by
 obtain ⟨e,f,hp⟩:=p
 unfold Lib.TabIs World.var?
 rw [hg]
 show (match W.heap[3]? with | some (.cells cs _ _)=>some cs | _=>none)=_
 rw [hp]
theorem It {h:Hp} (p:qc h) (n:Nat) (hn:n≤2^60):HC Tryz.prog 71 #[.int .i64 n] h fun v h'=>∃ s:ByteArray,v=.string s∧s.size≤1000∧Ext h h':=by
 intro W hW
 subst hW
 refine (Tryz.strconv_Itoa n (by omega) (by omega) W (KS (by kernel_rfl) p)).mono ?_
 rintro e w' ⟨he,k,os,rfl⟩
 refine ⟨_,he,⟨rfl,rfl,rfl⟩,_,rfl,?_,?_⟩
 ·show (Lib.itoa (n:Int)).toArray.size≤1000
  have:=Lib.itoa_length_le (n:Int) (by omega) (by omega)
  simp
  omega
 ·refine ⟨by show W.heap.size≤(W.heap++os).size; simp,fun i hi _=>?_⟩
  show (W.heap++os)[i]?=_
  rw [Array.getElem?_append_left hi]
theorem Kl:Tryz.prog.underlying 42=some (.slice 5):=by kernel_rfl
theorem Lw:Tryz.prog.underlying 5=some (.int .u8):=by kernel_rfl
theorem LU:Tryz.prog.underlying 9=some .string:=by kernel_rfl
theorem Hi {L:Lp} {K:Value→Hp→Prop} {h:Hp} {b:Nat} {p:Option Addr} {l c:Nat} {bs:List UInt8} {k:ByteArray→T} (s:SL h b 5 1 p l c (xA bs)) (h0:bs≠[]) (hk:k ⟨bs.toArray⟩ L K h) :
  T.bj Tryz.prog (convert 42 9 (.slice p l c)) false [(false,[.string])] k L K h:=by
 show aH Tryz.prog (convert 42 9 (.slice p l c)) h _
 unfold convert
 rw [ak,aw Kl,ak,aw LU]
 show aH Tryz.prog (do match ← underlying 5 with
  | .int .u8=>Conv.bytesToString (.slice p l c)
  | .int .i32=>Conv.runesToString (.slice p l c)
  | _ => stuck "Convert: a slice of what to string?") h _
 rw [ak,aw Lw]
 cases p with
 | none =>
  have h1:xA bs=[]:=s.2.2.2
  have:bs=[]:=by simpa [xA] using h1
  exact absurd this h0
 | some a =>
  have hl:l=bs.length:=by rw [s.1,wM]
  subst hl
  have hf:=SL.flat s
  rw [AO] at hf
  exact EA a bs c _ hf ⟨(⟨bs.toArray⟩,()),rfl,hk⟩
theorem KP (n:Nat):IntKind.wrap .u8 (IntKind.wrap .i64 ((48:Int)+(Int.tmod (n:Int) (10:Int))))=((UInt8.ofNat (48+n % 10)).toNat:Int):=by
 have e:Int.tmod (n:Int) 10=((n % 10:Nat):Int):=by
  rw [Int.tmod_eq_emod_of_nonneg (by omega)]
  rfl
 rw [e,wrap_i64 (by omega) (by omega),wrap_u8 (by omega) (by omega)]
 simp
 omega
theorem AN {P:Program} {h:Hp} {t ty e:TypeId} {i:TypeInfo} (ht:P.underlying t=some (.slice e)) (hi:P.info? e=some i) (a:Addr) (l:Nat) (K:Value→Hp→Prop) (hk:K (.slice (some a) l l) h) :
  aH P (Builtin.append_ #[t,t] ty #[.slice (some a) l l,.slice none 0 0]) h K:=by
 simp [Builtin.append_,ak,aw ht,aZ hi,bK hi,Builtin.lenOf,Builtin.firstCells]
 rw [fa]
 exact hk
theorem GO (h:Hp) (n:Nat) (hn:n<10^18):HC Tryz.prog 72 #[.int .i64 n] h fun v h'=>∃ s:ByteArray,v=.string s∧s.size≤1000∧Ext h h':=by
 refine aK (args:=[.int .i64 n]) mixed Tryz.func72 (by kernel_rfl) (mn n) ?_
 unfold iU
 refine af (fun _=>⟨_,rfl,by decide,Ch.refl _ _⟩) (fun _=>?_)
 refine af (fun _=>⟨_,rfl,by decide,Ch.refl _ _⟩) (fun _=>?_)
 refine af (fun _=>⟨_,rfl,by decide,Ch.refl _ _⟩) (fun _=>?_)
 refine af (fun _=>⟨_,rfl,by decide,Ch.refl _ _⟩) (fun _=>?_)
 refine aU (by rw [decide_eq_false_iff_not]; omega) ?_
 refine bh (cs:=[(false,[.int .i64]),(false,[.slice 0])]) (fun y m h'=>∃ (k:Nat) (bs:List UInt8) (p:Option Addr) (c:Nat),y=((k:Int),(p,bs.length,c),())∧m=k+(if bs=[] then 1 else 0)∧bs.length≤20∧k≤n∧k<10^(20-bs.length)∧SL h' h.size 5 1 p bs.length c (xA bs)∧Ext h h') ((n:Int),(none,0,0),()) (n+1) rfl
  ⟨n,[],none,0,rfl,rfl,by simp,Nat.le_refl _,Nat.lt_of_lt_of_le hn (Nat.pow_le_pow_right (by omega) (by simp)),SL.nil _ _ _ _,Ch.refl _ _⟩ ?_
 rintro ⟨n6,⟨p7,l8,l9⟩,⟨⟩⟩ m h1 ⟨k,bs,p,c,hy,hm,hbl,hkn,hkl,sl,e1⟩
 cases hy
 dsimp only [flat,az,ah,nA,cA]
 have hz1:=e1.size
 have step:(0<k∨bs=[])→(T.aJ ((10:Int)≠(0:Int)) <|
    T.bj Tryz.prog (Instr.buildSlice 42 1 #[(0,.int .u8 (IntKind.wrap .u8 (IntKind.wrap .i64 ((48:Int)+(Int.tmod (k:Int) (10:Int))))))]) false [(false,[.slice 0])] fun (p5:Option Addr) (l6:Nat) (l7:Nat) =>
    T.bj Tryz.prog (Builtin.append_ #[42,42] 42 #[.slice p5 l6 l7,.slice p7 bs.length l9]) false [(false,[.slice 0])] fun (p8:Option Addr) (l9:Nat) (l10:Nat) =>
    T.aJ ((10:Int)≠(0:Int)) <|
    T.again 0 [.int .i64 (IntKind.wrap .i64 (Int.tdiv (k:Int) (10:Int))),.slice p8 l9 l10]) [Jl (cs:=[(false,[.int .i64]),(false,[.slice 0])]) (fun y m h'=>∃ (k:Nat) (bs:List UInt8) (p:Option Addr) (c:Nat),y=((k:Int),(p,bs.length,c),())∧m=k+(if bs=[] then 1 else 0)∧bs.length≤20∧k≤n∧k<10^(20-bs.length)∧SL h' h.size 5 1 p bs.length c (xA bs)∧Ext h h') m] (fun v h'=>∃ s:ByteArray,v=.string s∧s.size≤1000∧Ext h h') h1:=by
  intro hs
  have hk20:bs.length<20:=by
   rcases hs with hs | hs
   ·by_cases g:bs.length<20
    ·exact g
    ·have:20-bs.length=0:=by omega
     rw [this] at hkl
     simp at hkl
     omega
   ·rw [hs]; simp
  refine ay (by decide) ?_
  rw [KP]
  refine dP GR Nx (by omega) (by omega) (LW ((UInt8.ofNat (48+k % 10)).toNat:Int)) ?_
  intro h2 b2 e2 z2
  have s2:SL h2 h1.size 5 1 (some ⟨h1.size,0,none⟩) 1 1 (xA [UInt8.ofNat (48+k % 10)]) :=
   ⟨rfl,Dz _,h1.size,[],[],rfl,Nat.le_refl _,⟨by omega,by omega⟩,b2,by simp⟩
  have sl2:=sl.ai e2 (by simp)
  obtain ⟨i5,hi5,hz5,hs5,hb5⟩:=kj Nx
  have fin:∀ (bs':List UInt8) (p':Option Addr) (c':Nat) (h3:Hp),bs'=UInt8.ofNat (48+k % 10)::bs→SL h3 h1.size 5 1 p' bs'.length c' (xA bs')→Ext h1 h3→(T.aJ ((10:Int)≠(0:Int)) <|
    T.again 0 [.int .i64 (IntKind.wrap .i64 (Int.tdiv (k:Int) (10:Int))),.slice p' bs'.length c']) [Jl (cs:=[(false,[.int .i64]),(false,[.slice 0])]) (fun y m h'=>∃ (k:Nat) (bs:List UInt8) (p:Option Addr) (c:Nat),y=((k:Int),(p,bs.length,c),())∧m=k+(if bs=[] then 1 else 0)∧bs.length≤20∧k≤n∧k<10^(20-bs.length)∧SL h' h.size 5 1 p bs.length c (xA bs)∧Ext h h') m] (fun v h'=>∃ s:ByteArray,v=.string s∧s.size≤1000∧Ext h h') h3:=by
   intro bs' p' c' h3 hbs s3 e3
   refine ay (by decide) ?_
   have hdiv:Int.tdiv (k:Int) (10:Int)=((k / 10:Nat):Int):=by
    rw [Int.tdiv_eq_ediv_of_nonneg (by omega)]
    rfl
   rw [hdiv,wrap_i64 (by omega) (by omega)]
   refine aI (cs:=[(false,[.int .i64]),(false,[.slice 0])]) (((k / 10:Nat):Int),(p',bs'.length,c'),()) (k / 10) rfl ?_ rfl ?_
   ·rw [hm]
    rcases hs with hs | hs
    ·omega
    ·rw [if_pos hs]; omega
   ·refine ⟨k / 10,bs',p',c',rfl,?_,?_,by omega,?_,s3.mono (by omega),e1.trans e3⟩
    ·rw [if_neg (by rw [hbs]; simp)]; rfl
    ·rw [hbs]; simp; omega
    ·rw [hbs,List.length_cons]
     have:10^(20-bs.length)=10^(20-(bs.length+1))*10:=by
      rw [← Nat.pow_succ]
      congr 1
      omega
     rw [this] at hkl
     omega
  have hl7:bs.length=(xA bs).length:=(wM bs).symm
  cases p7 with
  | none =>
   have hb1:xA bs=[]:=sl2.2.2.2
   have hb3:l9=0:=sl2.2.2.1
   have:bs=[]:=by simpa [xA] using hb1
   subst this hb3
   refine cG (AN GR hi5 _ 1 _ ?_)
   exact ⟨_,1,1,rfl,fin [UInt8.ofNat (48+k % 10)] _ 1 h2 rfl s2 e2⟩
  | some a7 =>
   refine cG (kY (i:=i5) GR hi5 hz5 (by rw [hs5]; rfl) (by rw [hs5]; exact s2) (ys:=xA bs) hl7 (by rw [hs5]; exact Dz bs) (SL.flat sl2) (EN bs) (by rw [hb5]; omega) (by omega) (by omega) ?_)
   intro p' c' h3 s3 k3 hp'
   refine ⟨p',1+bs.length,c',rfl,?_⟩
   have hlen:1+bs.length=(UInt8.ofNat (48+k % 10)::bs).length:=by simp; omega
   rw [hlen]
   refine fin _ p' c' h3 rfl ?_ (e2.st k3 (Nat.le_refl _))
   rw [← hlen]
   rw [hs5] at s3
   exact s3
 refine af (fun q=>?_) (fun q=>?_)
 ·have q:=of_decide_eq_true q
  exact step (.inl (by omega))
 ·refine af (fun w=>?_) (fun w=>?_)
  ·have w:bs.length=0:=dO w
   exact step (.inr (List.eq_nil_of_length_eq_zero w))
  ·have w:¬ bs.length=0:=dX w
   refine Hi sl (fun e=>w (by rw [e]; rfl)) ?_
   have hsz:(⟨bs.toArray⟩:ByteArray).size=bs.length:=by show bs.toArray.size=_; simp
   refine ay (by rw [hsz]; omega) ?_
   refine ⟨_,rfl,?_,e1⟩
   rw [ByteArray.size_append,hsz]
   show 8+bs.length≤1000
   omega
end Go.Sx.Ob
set_option linter.unusedVariables false
set_option maxRecDepth 100000
namespace Go.Sx
open Go.Proofs
def fJ (a:Value) (b:Int) (c:Int):T :=
 T.new [.int .i64 b,.int .i64 c] 33 fun (d:Addr) =>
 T.ae (d.add 1) [.int .i64] fun (e:Int) =>
 cond (e==(0:Int))
 (T.bj Tryz.prog (Sx.bX (BinOp.eql) 29 (Operand.tmp 10) (Operand.const Value.nilIface) a .nilIface) false [(false,[.bool])] fun (f:Bool) =>
 T.ret (.bool f))
 (T.bj Tryz.prog (Instr.typeAssert a 29 59 true) true [(false,[.pointer 63]),(false,[.bool])] fun (f:Option Addr) (g:Bool) =>
 cond g
  (cond (!(/-?Option.isSome.match_1-/ match f with
  | some val=>false
  | none=>true))
  (T.av f fun (h:Addr) =>
  T.ae h [.int .i64] fun (i:Int) =>
  T.ae d [.int .i64] fun (j:Int) =>
  cond (i==j)
   (T.av f fun (k:Addr) =>
   T.ae (k.add 1) [.int .i64] fun (l:Int) =>
   T.ae (d.add 1) [.int .i64] fun (m:Int) =>
   cond (l==m)
   (T.call Tryz.prog 37 [.pointer f] false [(false,[.string])] fun (n:ByteArray) =>
   T.aM [((d.add 1),[.int .i64 m]),((k.add 1),[.int .i64 l]),(d,[.int .i64 j]),(h,[.int .i64 i])] <|
   cond (!((ByteArray.toList n)==[]))
    (T.av f fun (o:Addr) =>
    T.ae (o.add 1) [.int .i64] fun (p:Int) =>
    T.call Tryz.prog 39 [.pointer f] false [(false, [.interface #[("Error", 85)]])] fun (q : Value) =>
    T.aM [((o.add 1),[.int .i64 p]),((d.add 1),[.int .i64 m]),((k.add 1),[.int .i64 l]),(d,[.int .i64 j]),(h,[.int .i64 i])] <|
    T.call Tryz.prog 38 [q,.iface 44 (.int .i64 p)] false [(false,[.bool])] fun (r:Bool) =>
    T.aM [((o.add 1),[.int .i64 p]),((d.add 1),[.int .i64 m]),((k.add 1),[.int .i64 l]),(d,[.int .i64 j]),(h,[.int .i64 i])] <|
    cond r
    (T.ae (d.add 1) [.int .i64] fun (s:Int) =>
    T.call Tryz.prog 40 [a,.iface 44 (.int .i64 s)] false [(false,[.bool])] fun (t:Bool) =>
    T.aM [((d.add 1),[.int .i64 s]),((o.add 1),[.int .i64 p]),((d.add 1),[.int .i64 m]),((k.add 1),[.int .i64 l]),(d,[.int .i64 j]),(h,[.int .i64 i])] <|
    T.ret (.bool t))
    (T.ret (.bool false)))
    (T.ret (.bool false)))
   (T.ret (.bool false)))
   (T.ret (.bool false)))
  (T.ret (.bool false)))
  (T.ret (.bool false)))
theorem jX (a:Value) (b:Int) (c:Int):aV Tryz.prog [] Tryz.f12 [a,.agg #[.int .i64 b,.int .i64 c]]=fJ a b c:=by kernel_rfl
end Go.Sx
set_option linter.unusedVariables false
set_option linter.unusedSimpArgs false
set_option maxRecDepth 100000
namespace Go.Sx.Ob
open Go.Proofs
theorem yS {h:Hp} {a:Nat} {x n:Int} (b:aO h a 63 [.int .i64 x,.int .i64 n]):pQ Tryz.prog 40 [.iface 59 (ptr a),.iface 44 (.int .i64 n)] h (.bool true):=by
 intro W hW
 subst hW
 refine (Go.Proofs.YtfkjiiapldkoeaaGreatDoor.Gw a n W ?_).mono ?_
 ·rw [dZ,b.cell]
  rfl
 ·rintro e w' ⟨he,rfl⟩
  exact ⟨_,he,bT.refl _,rfl,rfl⟩
theorem E7 {h:Hp} {a:Nat} {x n:Int} (b:aO h a 63 [.int .i64 x,.int .i64 n]):pQ Tryz.prog 39 [ptr a] h (.iface 44 (.int .i64 n)):=by
 refine cK mixed Tryz.func39 (by kernel_rfl) (j1 (some ⟨a,0,none⟩)) ?_
 unfold fG
 refine aj rfl ?_
 rw [ao]
 refine ad b (n,()) rfl ?_
 exact ⟨rfl,rfl⟩
theorem F3 {h:Hp} (p:qc h) {a x n:Nat} (hx:x≤2^60) (hn:n<10^18) (b:aO h a 63 [.int .i64 (x:Int),.int .i64 (n:Int)]):HC Tryz.prog 37 #[ptr a] h fun v h'=>∃ s:ByteArray,v=.string s∧s.data.toList≠[]∧Ext h h':=by
 refine aK (args:=[ptr a]) mixed Tryz.func37 (by kernel_rfl) (kp (some ⟨a,0,none⟩)) ?_
 unfold gH
 refine aj rfl ?_
 refine ad b ((x:Int),()) rfl ?_
 dsimp only [flat,az,ah,nA,cA]
 refine aj rfl ?_
 rw [ao]
 refine ad b ((n:Int),()) rfl ?_
 dsimp only [flat,az,ah,nA,cA]
 refine aB (It p x hx) ?_
 rintro _ h1 ⟨s,rfl,hs,e1⟩
 refine ⟨(s,()),rfl,?_⟩
 dsimp only [flat,az,ah,nA,cA]
 have b1:=b.ai e1 (by simp)
 refine ⟨⟨b1.cells _ rfl,trivial⟩,?_⟩
 have z5:(⟨#[108,105,110,101,32]⟩:ByteArray).size=5:=rfl
 have z2:(⟨#[58,32]⟩:ByteArray).size=2:=rfl
 refine ay (by omega) (ay (by rw [ByteArray.size_append,z5]; omega) ?_)
 refine aB (GO h1 n hn) ?_
 rintro _ h2 ⟨t,rfl,ht,e2⟩
 refine ⟨(t,()),rfl,?_⟩
 dsimp only [flat,az,ah,nA,cA]
 refine ⟨⟨(b1.ai e2 (by simp)).cells _ rfl,trivial⟩,?_⟩
 refine ay (by rw [ByteArray.size_append,ByteArray.size_append,z5,z2]; omega) ?_
 refine ⟨_,rfl,?_,e1.trans e2⟩
 intro h0
 have:=congrArg List.length h0
 simp at this
theorem Ka (o:Nat) (t:TypeId) (u:Value) (h:Hp) (K:Value→Hp→Prop):aH Tryz.prog (Sx.bX (BinOp.eql) 29 (Operand.tmp o) (Operand.const Value.nilIface) (.iface t u) .nilIface) h K=K (.bool false) h:=by kernel_rfl
theorem LR (o:Nat) (h:Hp) (K:Value→Hp→Prop):aH Tryz.prog (Sx.bX (BinOp.eql) 29 (Operand.tmp o) (Operand.const Value.nilIface) .nilIface .nilIface) h K=K (.bool true) h:=by kernel_rfl
theorem Nj (n:Int) (o u:Nat) (h:Hp) (K:Value→Hp→Prop):aH Tryz.prog (Sx.bX (BinOp.eql) 29 (Operand.tmp o) (Operand.tmp u) (.iface 44 (.int .i64 n)) (.iface 44 (.int .i64 n))) h K=K (.bool (n==n)) h:=by kernel_rfl
theorem NE (a:Addr) (h:Hp) (K:Value→Hp→Prop):aH Tryz.prog (Instr.typeAssert (.iface 59 (.pointer (some a))) 29 59 true) h K=K (.tuple #[.pointer (some a),.bool true]) h:=by kernel_rfl
theorem NS (h:Hp) (K:Value→Hp→Prop):aH Tryz.prog (Instr.typeAssert .nilIface 29 59 true) h K=K (.tuple #[.pointer none,.bool false]) h:=by kernel_rfl
theorem C8 (h:Hp) (n:Int):pQ Tryz.prog 38 [.iface 44 (.int .i64 n),.iface 44 (.int .i64 n)] h (.bool true):=by
 refine cK mixed Tryz.func38 (by kernel_rfl) (j2 _ _) ?_
 unfold fR
 refine bR (fun K' hK=>by rw [Ka]; exact hK) ?_
 refine aU rfl ?_
 refine bR (fun K' hK=>by rw [Ka]; exact hK) ?_
 refine aU rfl ?_
 refine bR (b:=true) (fun K' hK=>by rw [Nj]; simpa using hK) ?_
 exact ⟨rfl,rfl⟩
def rn (a w:Nat) (e:Option (Nat × Nat)):Bool:=if w=0 then decide (e=none) else decide (e=some (a,w))
theorem C9 {h:Hp} (p:qc h) {ev:Value} {e:Option (Nat × Nat)} (v:si h ev e) (hs:∀ q,e=some q→q.1≤2^60∧q.2<10^18) (a w:Nat) :
  HC Tryz.prog 12 #[ev,.agg #[.int .i64 (a:Int),.int .i64 (w:Int)]] h fun r h'=>r=.bool (rn a w e)∧Ext h h':=by
 refine aK (args:=[ev,.agg #[.int .i64 (a:Int),.int .i64 (w:Int)]]) mixed Tryz.func12 (by kernel_rfl) (jX ev a w) ?_
 unfold fJ
 refine aX ?_
 intro h1 b1 e1 z1
 rw [ao]
 refine ad b1 ((w:Int),()) rfl ?_
 dsimp only [flat,az,ah,nA,cA]
 cases e with
 | none =>
  have v:ev=.nilIface:=v
  subst v
  refine af (fun q=>?_) (fun q=>?_)
  ·have q:w=0:=dO q
   refine bR (fun K' hK=>by rw [LR]; exact hK) ?_
   exact ⟨by unfold rn; rw [if_pos q]; rfl,e1⟩
  ·have q:¬ w=0:=dX q
   show aH _ _ _ _
   rw [NS]
   refine ⟨(none,false,()),rfl,?_⟩
   dsimp only [flat,az,ah,nA,cA]
   refine aU rfl ?_
   exact ⟨by unfold rn; rw [if_neg q]; rfl,e1⟩
 | some er =>
  obtain ⟨ax,rfl,bx⟩:=v
  obtain ⟨hs1,hs2⟩:=hs er rfl
  have bx1:=bx.ai e1 (by simp)
  refine af (fun q=>?_) (fun q=>?_)
  ·have q:w=0:=dO q
   refine bR (fun K' hK=>by rw [Ka]; exact hK) ?_
   exact ⟨by unfold rn; rw [if_pos q]; rfl,e1⟩
  have q:¬ w=0:=dX q
  have ww:rn a w (some er)=decide (er=(a,w)):=by
   unfold rn
   rw [if_neg q]
   simp
  show aH _ _ _ _
  rw [NE]
  refine ⟨(some ⟨ax,0,none⟩,true,()),rfl,?_⟩
  dsimp only [flat,az,ah,nA,cA]
  refine aT rfl ?_
  refine aT rfl ?_
  refine aj rfl ?_
  refine ad bx1 ((er.1:Int),()) rfl ?_
  dsimp only [flat,az,ah,nA,cA]
  refine ad b1 ((a:Int),()) rfl ?_
  dsimp only [flat,az,ah,nA,cA]
  refine uV (fun r=>?_) (fun r=>?_)
  ·have r:¬ er.1=a:=dX r
   exact ⟨by rw [ww,decide_eq_false (fun e=>r (by rw [e]))],e1⟩
  have r:er.1=a:=dO r
  refine aj rfl ?_
  rw [ao]
  refine ad bx1 ((er.2:Int),()) rfl ?_
  dsimp only [flat,az,ah,nA,cA]
  refine ad b1 ((w:Int),()) rfl ?_
  dsimp only [flat,az,ah,nA,cA]
  refine uV (fun s=>?_) (fun s=>?_)
  ·have s:¬ er.2=w:=dX s
   exact ⟨by rw [ww,decide_eq_false (fun e=>s (by rw [e]))],e1⟩
  have s:er.2=w:=dO s
  have ok:rn a w (some er)=true:=by
   rw [ww]
   exact decide_eq_true (Prod.ext r s)
  rw [ok]
  have p1:=p.ai e1 (by simp)
  refine aB (F3 p1 hs1 hs2 bx1) ?_
  rintro _ h2 ⟨t,rfl,ht,e2⟩
  refine ⟨(t,()),rfl,?_⟩
  dsimp only [flat,az,ah,nA,cA]
  have b12:=b1.ai e2 (by simp)
  have bx2:=bx1.ai e2 (by simp)
  refine ⟨⟨b12.cells _ rfl,bx2.cells _ rfl,b12.cells _ rfl,bx2.cells _ rfl,trivial⟩,?_⟩
  refine aT (by rw [ByteArray.toList_eq]; simpa using ht) ?_
  refine aj rfl ?_
  refine ad bx2 ((er.2:Int),()) rfl ?_
  dsimp only [flat,az,ah,nA,cA]
  refine iF (E7 bx2) (.iface 44 (.int .i64 (er.2:Int)),()) rfl ?_
  dsimp only [flat,az,ah,nA,cA]
  refine ⟨⟨bx2.cells _ rfl,b12.cells _ rfl,bx2.cells _ rfl,b12.cells _ rfl,bx2.cells _ rfl,trivial⟩,?_⟩
  refine aD (C8 h2 er.2) ?_
  refine ⟨⟨bx2.cells _ rfl,b12.cells _ rfl,bx2.cells _ rfl,b12.cells _ rfl,bx2.cells _ rfl,trivial⟩,?_⟩
  refine aT rfl ?_
  refine ad b12 ((w:Int),()) rfl ?_
  dsimp only [flat,az,ah,nA,cA]
  rw [s] at bx2
  refine aD (yS bx2) ?_
  refine ⟨⟨b12.cells _ rfl,bx2.cells _ (by rw [s]; rfl),b12.cells _ rfl,bx2.cells _ (by rw [s]; rfl),b12.cells _ rfl,bx2.cells _ rfl,trivial⟩,?_⟩
  exact ⟨rfl,e1.trans e2⟩
end Go.Sx.Ob
