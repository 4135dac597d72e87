/- A framework of our own, part K: maps whose keys are structs of plain cells. Asked: what a key's type does when it is checked and compared. -/
import Derived.Test.YtmdncdaladplkaaGreatDoorSxG
set_option linter.unusedVariables false
set_option linter.unusedSimpArgs false
set_option linter.deprecated false
set_option linter.unusedSectionVars false
namespace Go.Sx
open Go.MapKept
section
variable {α β : Type} [DecidableEq α] {P : Program}
/-- What is asked of a type of keys: keys are checked in silence, and compared as they are. -/
structure KeyT (P : Program) (kt : TypeId) (kv : α → Value) : Prop where
  check : ∀ (b : Bool) (a : α) (h : Hp) (K : Unit → Hp → Prop), K () h → semW P (Instr.checkKey b 10000 kt (kv a)) h K
  kind : ∃ d, P.underlying kt = some d ∧ ∀ a b, Instr.sameNow d (kv a) (kv b) = none
  eqv : ∀ (a b : α) (h : Hp) (K : Bool → Hp → Prop), K (decide (a = b)) h → semW P (Op.equal kt (kv a) (kv b)) h K
  bits : ∀ a, Instr.sameBits 10000 (kv a) (kv a) = true
  inj : ∀ a b, kv a = kv b → a = b
def MapK (kv : α → Value) (h : Hp) (g : Nat) (D : List (α × Value)) : Prop :=
  ∃ (es : Array MapEntry) (clock : Nat), h[g]? = some (.map es clock) ∧ es.toList.map (fun e => (e.key, e.val)) = D.map (fun p => (kv p.1, p.2)) ∧ Stamped es clock
def lookK (D : List (α × β)) (s : α) : Option β := (D.find? fun p => decide (s = p.1)).map (·.2)
def updK (D : List (α × β)) (s : α) (v : β) : List (α × β) :=
  if (lookK D s).isSome then D.map fun p => if s = p.1 then (p.1, v) else p else D ++ [(s, v)]
variable {h : Hp} {kt : TypeId} {kv : α → Value}
theorem MapK.lt {g : Nat} {D : List (α × Value)} (m : MapK kv h g D) : g < h.size := by
  obtain ⟨_, _, hg, _⟩ := m
  exact lt_of_get hg
theorem MapK.keep {ws : List Nat} {h' : Hp} {g : Nat} {D : List (α × Value)} (m : MapK kv h g D) (k : Ch ws h h') (hw : g ∉ ws) : MapK kv h' g D := by
  obtain ⟨es, clock, hg, r⟩ := m
  exact ⟨es, clock, k.get hg hw, r⟩
theorem MapK.nodup (kt_ : KeyT P kt kv) {g : Nat} {D : List (α × Value)} (m : MapK kv h g D) : (D.map (·.1)).Nodup := by
  obtain ⟨es, clock, hg, he, hs⟩ := m
  have h1 : es.toList.map (·.key) = D.map (fun p => kv p.1) := by
    have := congrArg (List.map (·.1)) he
    simpa [List.map_map, Function.comp_def] using this
  have h2 := hs.2.2
  rw [h1] at h2
  rw [show D.map (fun p => kv p.1) = (D.map (·.1)).map kv by simp [List.map_map, Function.comp_def]] at h2
  exact (List.pairwise_map.1 h2).imp (fun h e => h (by rw [e]))
theorem findAsk_k (q : KeyT P kt kv) (s : α) : ∀ (es : List MapEntry) (D : List (α × Value)) (i : Nat) (K : Option (Nat × Value) → Hp → Prop), es.map (fun e => (e.key, e.val)) = D.map (fun p => (kv p.1, p.2)) →
    (lookK D s = none → K none h) → (∀ j v, j < es.length → lookK D s = some v → (es[j]?).map (·.key) = some (kv s) → K (some (i + j, v)) h) → semW P (Instr.findAsking kt (kv s) es i) h K
  | [], D, i, K, he, h0, h1 => by
    cases D with
    | nil => exact h0 rfl
    | cons p D => simp at he
  | e :: es, D, i, K, he, h0, h1 => by
    cases D with
    | nil => simp at he
    | cons p D =>
      simp only [List.map_cons, List.cons.injEq, Prod.mk.injEq] at he
      obtain ⟨⟨k1, k2⟩, k3⟩ := he
      unfold Instr.findAsking
      rw [semW_bind', k1]
      refine q.eqv s p.1 h _ ?_
      by_cases hh : s = p.1
      · rw [decide_eq_true hh]
        simp only [if_true]
        have := h1 0 p.2 (by simp) (by simp [lookK, hh]) (by simp [k1, hh])
        rw [k2]
        exact this
      · rw [decide_eq_false hh]
        simp only [Bool.false_eq_true, if_false]
        have hl : lookK (p :: D) s = lookK D s := by simp [lookK, hh]
        rw [hl] at h0
        refine findAsk_k q s es D (i + 1) K k3 h0 (fun j v hj hl2 hk => ?_)
        have := h1 (j + 1) v (by simp; omega) (by rw [hl]; exact hl2) (by simpa using hk)
        rw [show i + 1 + j = i + (j + 1) by omega]
        exact this
theorem findKey_k (q : KeyT P kt kv) (s : α) {es : List MapEntry} {D : List (α × Value)} (he : es.map (fun e => (e.key, e.val)) = D.map (fun p => (kv p.1, p.2))) (K : Option (Nat × Value) → Hp → Prop)
    (h0 : lookK D s = none → K none h) (h1 : ∀ j v, j < es.length → lookK D s = some v → (es[j]?).map (·.key) = some (kv s) → K (some (j, v)) h) : semW P (Instr.findKey kt (kv s) es) h K := by
  obtain ⟨d, hd, hs⟩ := q.kind
  unfold Instr.findKey
  rw [semW_bind', semW_underlying hd]
  cases es with
  | nil =>
    cases D with
    | nil => exact h0 rfl
    | cons p D => simp at he
  | cons e es =>
    have hn : Instr.findNow d (kv s) (e :: es) 0 = none := by
      cases D with
      | nil => simp at he
      | cons p D =>
        simp only [List.map_cons, List.cons.injEq, Prod.mk.injEq] at he
        unfold Instr.findNow
        rw [he.1.1, hs]
    rw [hn]
    refine findAsk_k q s (e :: es) D 0 K he h0 (fun j v hj hl hk => ?_)
    rw [Nat.zero_add]
    exact h1 j v hj hl hk
theorem makeMap_k {t : TypeId} (K : Value → Hp → Prop) (hk : ∀ h', MapK kv h' h.size [] → Ext h h' → h'.size = h.size + 1 → K (.map (some h.size)) h') : semW P (Instr.makeMap t none) h K := by
  unfold Instr.makeMap
  refine hk (h.push (.map #[] 0)) ⟨#[], 0, by rw [Array.getElem?_push_size], rfl, ⟨by simp, by simp, by simp⟩⟩ (Ext.push h _) (by simp)
theorem lookup_k (q : KeyT P kt kv) {t e : TypeId} (ht : P.underlying t = some (.map kt e)) {z : Value} (hz : (P.info? e).bind (·.zero) = some z) {g : Nat} {D : List (α × Value)} (m : MapK kv h g D) (s : α) (c : Bool)
    (K : Value → Hp → Prop) (hK : K (if c then .tuple #[(lookK D s).getD z, .bool (lookK D s).isSome] else (lookK D s).getD z) h) : semW P (Instr.lookup t (.map (some g)) (kv s) c) h K := by
  obtain ⟨es, clock, hg, he, hs⟩ := m
  unfold Instr.lookup
  rw [semW_bind', semW_underlying ht]
  simp only
  rw [semW_bind']
  refine semW_getObj hg (by simp) _ ?_
  simp only [pure_bind]
  rw [semW_bind']
  refine q.check _ s h _ ?_
  rw [semW_bind']
  refine findKey_k q s he _ (fun hl => ?_) (fun j v hj hl hv => ?_)
  · rw [hl] at hK
    simp only
    rw [semW_bind', semW_zeroValue hz]
    try simp only [pure_bind]
    cases c <;> exact hK
  · rw [hl] at hK
    simp only [pure_bind]
    cases c <;> exact hK
theorem keyThatStays_k (q : KeyT P kt kv) (s : α) (K : Value → Hp → Prop) (hK : K (kv s) h) : semW P (Instr.keyThatStays (kv s) (kv s)) h K := by
  unfold Instr.keyThatStays
  rw [if_pos (q.bits s)]
  exact hK
theorem mapUpdate_k (q : KeyT P kt kv) {t e : TypeId} (ht : P.underlying t = some (.map kt e)) {g : Nat} {D : List (α × Value)} (m : MapK kv h g D) (s : α) (v : Value)
    (K : Unit → Hp → Prop) (hK : ∀ h', MapK kv h' g (updK D s v) → Ch [g] h h' → h'.size = h.size → K () h') : semW P (Instr.mapUpdate t (.map (some g)) (kv s) v) h K := by
  have hnd := MapK.nodup q m
  obtain ⟨es, clock, hg, he, hst⟩ := m
  have hlt := lt_of_get hg
  have hset : ∀ o : Obj, Ch [g] h (h.setIfInBounds g o) ∧ (h.setIfInBounds g o).size = h.size ∧ (h.setIfInBounds g o)[g]? = some o := by
    intro o
    refine ⟨⟨by simp, fun i hi hw => ?_⟩, by simp, ?_⟩
    · rw [Array.getElem?_setIfInBounds, if_neg (by simp at hw; exact fun e => hw e.symm)]
    · rw [Array.getElem?_setIfInBounds, if_pos rfl, if_pos hlt]
  unfold Instr.mapUpdate
  rw [semW_bind', semW_underlying ht]
  simp only
  rw [semW_bind']
  refine semW_getObj hg (by simp) _ ?_
  show semW P _ h _
  rw [semW_bind']
  refine q.check _ s h _ ?_
  rw [semW_bind']
  refine findKey_k q s he _ (fun hl => ?_) (fun j v' hj hl hv => ?_)
  · refine semW_setObj hg (by simp) _ ?_
    obtain ⟨c1, c2, c3⟩ := hset (.map (es.push { key := kv s, val := v, born := clock }) (clock + 1))
    refine hK _ ⟨_, _, c3, ?_, ?_⟩ c1 c2
    · rw [updK, hl]
      simp [he]
    · have hnew : (kv s) ∉ es.toList.map (·.key) := by
        intro hm
        have h1 : es.toList.map (·.key) = D.map (fun p => kv p.1) := by
          have := congrArg (List.map (·.1)) he
          simpa [List.map_map, Function.comp_def] using this
        rw [h1] at hm
        obtain ⟨p, hp, hps⟩ := List.mem_map.1 hm
        have hps := q.inj _ _ hps
        simp only [lookK, Option.map_eq_none_iff, List.find?_eq_none, decide_eq_true_eq] at hl
        exact hl p hp hps.symm
      obtain ⟨s1, s2, s3⟩ := hst
      refine ⟨?_, ?_, ?_⟩
      · intro x hx
        simp only [Array.toList_push, List.mem_append, List.mem_singleton] at hx
        rcases hx with hx | rfl
        · have := s1 x hx; omega
        · simp
      · rw [Array.toList_push, List.map_append]
        refine List.nodup_append.2 ⟨s2, by simp, ?_⟩
        intro a ha b hb
        have hb : b = clock := by simpa using hb
        obtain ⟨x, hx, rfl⟩ := List.mem_map.1 ha
        have := s1 x hx
        omega
      · rw [Array.toList_push, List.map_append]
        refine List.nodup_append.2 ⟨s3, by simp, ?_⟩
        intro a ha b hb
        have hb : b = kv s := by simpa using hb
        rw [hb]
        exact fun hab => hnew (hab ▸ ha)
  · have hje : es[j]? = some es[j] := Array.getElem?_eq_getElem (by simpa using hj)
    have hkey : es[j].key = kv s := by
      have h1 : es.toList[j]? = some es[j] := by rw [Array.getElem?_toList]; exact hje
      rw [h1] at hv
      simpa using hv
    show semW P _ h _
    rw [semW_bind']
    have hk2 : ((es[j]?).map (·.key)).getD (kv s) = kv s := by rw [hje]; simp [hkey]
    rw [hk2]
    refine keyThatStays_k q s _ ?_
    refine semW_setObj hg (by simp) _ ?_
    obtain ⟨c1, c2, c3⟩ := hset (.map (es.modify j fun e => { e with key := kv s, val := v }) clock)
    have hkeys : (es.modify j fun e => { e with key := kv s, val := v }).toList.map (·.key) = es.toList.map (·.key) := by
      apply List.ext_getElem?
      intro i
      simp only [List.getElem?_map, Array.getElem?_toList, Array.getElem?_modify]
      by_cases hij : j = i
      · subst hij
        rw [if_pos rfl, hje]
        simp [hkey]
      · rw [if_neg hij]
    have hborn : (es.modify j fun e => { e with key := kv s, val := v }).toList.map (·.born) = es.toList.map (·.born) := by
      apply List.ext_getElem?
      intro i
      simp only [List.getElem?_map, Array.getElem?_toList, Array.getElem?_modify]
      by_cases hij : j = i
      · subst hij
        rw [if_pos rfl, hje]
        simp
      · rw [if_neg hij]
    have hDl : D.length = es.size := by
      have := congrArg List.length he
      simpa using this.symm
    have hDk : ∀ i, (hi : i < D.length) → (es[i]'(by omega)).key = kv D[i].1 ∧ (es[i]'(by omega)).val = D[i].2 := by
      intro i hi
      have h1 : (es.toList.map (fun e => (e.key, e.val)))[i]? = (D.map (fun p => (kv p.1, p.2)))[i]? := by rw [he]
      simp only [List.getElem?_map, Array.getElem?_toList, List.getElem?_eq_getElem hi, Array.getElem?_eq_getElem (show i < es.size by omega), Option.map_some, Option.some.injEq, Prod.mk.injEq] at h1
      exact h1
    refine hK _ ⟨_, _, c3, ?_, ?_⟩ c1 c2
    · rw [updK, hl]
      simp only [Option.isSome_some, if_true]
      apply List.ext_getElem?
      intro i
      simp only [List.getElem?_map, Array.getElem?_toList, Array.getElem?_modify]
      rcases Nat.lt_or_ge i D.length with hi | hi
      · obtain ⟨q1, q2⟩ := hDk i hi
        rw [List.getElem?_eq_getElem hi, Array.getElem?_eq_getElem (show i < es.size by omega)]
        by_cases hij : j = i
        · subst hij
          have hs1 : s = D[j].1 := q.inj _ _ (by rw [← q1, hkey])
          simp [← hs1]
        · have hs1 : s ≠ D[i].1 := by
            intro hh
            have hj' : j < D.length := by simp at hj; omega
            have q3 := (hDk j hj').1
            rw [hkey] at q3
            have q3 : s = D[j].1 := q.inj _ _ q3
            have := List.pairwise_iff_getElem.1 hnd
            rcases Nat.lt_or_ge i j with hl' | hl'
            · exact this i j (by simpa using hi) (by simpa using hj') hl' (by simp [← hh, ← q3])
            · exact this j i (by simpa using hj') (by simpa using hi) (by omega) (by simp [← hh, ← q3])
          rw [if_neg hij]
          simp [hs1, q1, q2]
      · rw [List.getElem?_eq_none hi, Array.getElem?_eq_none (show es.size ≤ i by omega)]
        simp
    · obtain ⟨s1, s2, s3⟩ := hst
      refine ⟨?_, by rw [hborn]; exact s2, by rw [hkeys]; exact s3⟩
      intro x hx
      have : x.born ∈ es.toList.map (·.born) := by rw [← hborn]; exact List.mem_map.2 ⟨x, hx, rfl⟩
      obtain ⟨y, hy, hyb⟩ := List.mem_map.1 this
      rw [← hyb]; exact s1 y hy
def setK (f : α → Option β) (s : α) (v : β) : α → Option β := fun t => if t = s then some v else f t
def MapKF (kv : α → Value) (en : β → Value) (h : Hp) (g : Nat) (f : α → Option β) (n : Nat) : Prop := ∃ D : List (α × β), MapK kv h g (D.map fun p => (p.1, en p.2)) ∧ (∀ s, lookK D s = f s) ∧ D.length = n
variable {en : β → Value}
theorem MapKF.keep {ws : List Nat} {h' : Hp} {g : Nat} {f : α → Option β} {n : Nat} (m : MapKF kv en h g f n) (k : Ch ws h h') (hw : g ∉ ws) : MapKF kv en h' g f n := by
  obtain ⟨D, a, b, c⟩ := m
  exact ⟨D, a.keep k hw, b, c⟩
theorem MapKF.lt {g : Nat} {f : α → Option β} {n : Nat} (m : MapKF kv en h g f n) : g < h.size := by
  obtain ⟨D, a, b, c⟩ := m
  exact a.lt
theorem lookK_map (D : List (α × β)) (s : α) : lookK (D.map fun p => (p.1, en p.2)) s = (lookK D s).map en := by
  unfold lookK
  rw [List.find?_map]
  simp only [Option.map_map]
  rfl
theorem updK_map (D : List (α × β)) (s : α) (v : β) : updK (D.map fun p => (p.1, en p.2)) s (en v) = (updK D s v).map fun p => (p.1, en p.2) := by
  unfold updK
  rw [lookK_map, Option.isSome_map]
  split
  · rw [List.map_map, List.map_map]
    apply List.map_congr_left
    intro p _
    simp only [Function.comp_apply]
    split <;> rfl
  · simp
theorem lookK_app (D : List (α × β)) (s : α) (v : β) (t : α) : lookK (D ++ [(s, v)]) t = (lookK D t).or (if t = s then some v else none) := by
  unfold lookK
  rw [List.find?_append]
  cases hD : D.find? (fun p => decide (t = p.1)) with
  | none =>
    by_cases ht : t = s
    · simp [ht]
    · simp [ht]
  | some p => simp
theorem lookK_mapOther {s t : α} (v : β) (e : ¬ t = s) (l : List (α × β)) : (List.find? (fun p => decide (t = p.1)) (List.map (fun p => if s = p.1 then (p.1, v) else p) l)).map (·.2) = (List.find? (fun p => decide (t = p.1)) l).map (·.2) := by
  induction l with
  | nil => rfl
  | cons q l ihl =>
    by_cases hq : s = q.1
    · have : ¬ t = q.1 := fun k => e (k.trans hq.symm)
      simp only [List.map_cons, List.find?_cons, if_pos hq, decide_eq_false this]
      exact ihl
    · simp only [List.map_cons, List.find?_cons, if_neg hq]
      by_cases ht : t = q.1
      · simp [ht]
      · simp only [decide_eq_false ht]
        exact ihl
theorem lookK_mapSame {s : α} (v : β) (D : List (α × β)) (hs : (lookK D s).isSome) : lookK (D.map fun p => if s = p.1 then (p.1, v) else p) s = some v := by
  unfold lookK at *
  induction D with
  | nil => simp at hs
  | cons p D ih =>
    by_cases h : s = p.1
    · simp [h]
    · have hs2 : (Option.map (fun x => x.2) (List.find? (fun p => decide (s = p.1)) D)).isSome := by
        simpa [List.find?_cons, decide_eq_false h] using hs
      simp only [List.map_cons, List.find?_cons, if_neg h, decide_eq_false h]
      exact ih hs2
theorem lookK_upd (D : List (α × β)) (s : α) (v : β) (t : α) : lookK (updK D s v) t = setK (lookK D) s v t := by
  unfold updK setK
  split
  · rename_i hs
    by_cases e : t = s
    · rw [if_pos e, e]; exact lookK_mapSame v D hs
    · rw [if_neg e]; exact lookK_mapOther v e D
  · rename_i hs
    rw [lookK_app]
    by_cases e : t = s
    · subst e
      have : lookK D t = none := by simpa using hs
      rw [this]; simp
    · simp [e]
theorem updK_len (D : List (α × β)) (s : α) (v : β) : (updK D s v).length = if (lookK D s).isSome then D.length else D.length + 1 := by
  unfold updK
  split <;> simp
section rules
variable {L : Lp} {K : Value → Hp → Prop}
theorem makeKF {t : TypeId} {k : Option Nat → T} (hk : ∀ h', MapKF kv en h' h.size (fun _ => none) 0 → Ext h h' → h'.size = h.size + 1 → k (some h.size) L K h') : T.sem P (Instr.makeMap t none) false [(false, [.map 0 0])] k L K h := by
  show semW P _ h _
  refine makeMap_k (kv := kv) _ ?_
  intro h' m e z
  exact ⟨(some h.size, ()), rfl, hk h' ⟨[], m, fun s => rfl, rfl⟩ e z⟩
theorem putKF (q : KeyT P kt kv) {t e : TypeId} (ht : P.underlying t = some (.map kt e)) {g n : Nat} {f : α → Option β} (m : MapKF kv en h g f n) (s : α) (v : β) {k : T}
    (hk : ∀ h', MapKF kv en h' g (setK f s v) (if (f s).isSome then n else n + 1) → Ch [g] h h' → h'.size = h.size → k L K h') : T.semU P (Instr.mapUpdate t (.map (some g)) (kv s) (en v)) k L K h := by
  obtain ⟨D, m, hD, hn⟩ := m
  show semW P _ h _
  refine mapUpdate_k q ht m s _ _ ?_
  intro h' m' c z
  rw [updK_map] at m'
  refine hk h' ⟨_, m', fun t => ?_, ?_⟩ c z
  · rw [lookK_upd]
    unfold setK
    split
    · rfl
    · exact hD t
  · rw [updK_len, hD, hn]
end rules
end
end Go.Sx
