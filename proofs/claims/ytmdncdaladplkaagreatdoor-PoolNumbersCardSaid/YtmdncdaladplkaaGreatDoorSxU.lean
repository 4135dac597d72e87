/- A framework of our own, part U: strings and rows of bytes: make, copy, unsafe.String, conversions. No condition. -/
import Derived.Test.YtmdncdaladplkaaGreatDoorSxH
import Derived.Lib.UnsafeStr
set_option linter.unusedVariables false
set_option linter.unusedSimpArgs false
set_option linter.deprecated false
namespace Go.Sx
def byteV (c : UInt8) : Value := .int .u8 (c.toNat : Nat)
section
variable {P : Program} {h : Hp} {K : Value → Hp → Prop}
theorem hfreeze_box {h : Hp} {g off n : Nat} {c : Array Value} {e : TypeId} {f : Nat × Nat} (hg : h[g]? = some (.cells c e f)) : (∃ f', (hfreeze h ⟨g, off, none⟩ n)[g]? = some (.cells c e f')) ∧ Ch [g] h (hfreeze h ⟨g, off, none⟩ n) ∧ (hfreeze h ⟨g, off, none⟩ n).size = h.size := by
  unfold hfreeze
  split
  · exact ⟨⟨_, hg⟩, Ch.refl _ _, rfl⟩
  · refine ⟨?_, ⟨by simp, fun i hi hw => ?_⟩, by simp⟩
    · rw [Array.getElem?_modify, if_pos rfl, hg]
      exact ⟨_, rfl⟩
    · rw [Array.getElem?_modify, if_neg (by simp at hw; exact fun e => hw e.symm)]
theorem semW_asInt {k : IntKind} {n : Int} (K : Int → Hp → Prop) : semW P (asInt (.int k n)) h K = K n h := rfl
theorem makeSlice_of {t e : TypeId} {i : TypeInfo} {z : Value} (ht : P.underlying t = some (.slice e)) (hi : P.info? e = some i) (hz : i.zero = some z) {k k' : IntKind} {l c : Nat} (hl : l ≤ c) (hb : c * i.bytes ≤ 2 ^ 48) (hc : c ≤ 2 ^ 48)
    (hk : ∀ h', Box h' h.size e ((List.range (c * i.size)).map (z.cells[· % z.cells.size]!)) → Ext h h' → h'.size = h.size + 1 → K (.slice (some ⟨h.size, 0, none⟩) l c) h') :
    semW P (Instr.makeSlice t (.int k l) (.int k' c)) h K := by
  have hz' : (P.info? e).bind (·.zero) = some z := by rw [hi]; exact hz
  have w1 : IntKind.i64.wrap (l : Int) = l := wrap_i64 (by omega) (by omega)
  have w2 : IntKind.i64.wrap (c : Int) = c := wrap_i64 (by omega) (by omega)
  have hbc : ¬ (281474976710656 < (i.bytes : Int) * (c : Int)) := by
    have : (2:Nat) ^ 48 = 281474976710656 := rfl
    rw [Nat.mul_comm] at hb
    have : i.bytes * c ≤ 281474976710656 := by omega
    have : ((i.bytes * c : Nat) : Int) ≤ 281474976710656 := by omega
    rw [Int.natCast_mul] at this; omega
  have hasked : ∀ (n : Nat) (K' : Unit → Hp → Prop), K' () h → semW P (askRoom n) h K' := by
    intro n K' hk'
    unfold askRoom
    split <;> exact hk'
  have hneg : ¬ ((c : Int) < (l : Int)) := by omega
  have hl0 : ¬ ((l : Int) < 0) := by omega
  have hc0 : ¬ ((c : Int) < 0) := by omega
  simp [Instr.makeSlice, semW_bind', semW_underlying ht, semW_asInt, semW_typeInfo hi, w1, w2, hbc, hneg, hl0, hc0, semW_sizeOf hi, cellsOf_info hi]
  refine hasked _ _ ?_
  by_cases hn : c * i.size = 0
  · rw [if_pos hn, semW_map, hn]
    rw [hn] at hk
    have e0 : (Array.map (fun x : Nat => (default : Value)) (Array.range 0)) = #[] := by simp
    rw [e0]
    exact hk _ (Box.new h e []) (Ext.push h _) (by simp)
  · rw [if_neg hn, semW_bind', semW_zeroValue hz', semW_map]
    refine hk _ ?_ (Ext.push h _) (by simp)
    have := Box.new h e ((List.range (c * i.size)).map (z.cells[· % z.cells.size]!))
    rw [show ((List.range (c * i.size)).map (z.cells[· % z.cells.size]!)).toArray = (Array.range (c * i.size)).map (z.cells[· % z.cells.size]!) from by
      apply Array.toList_inj.1; simp] at this
    exact this
theorem copyStr_of {t u ty e : TypeId} {i : TypeInfo} (ht : P.underlying t = some (.slice e)) (hi : P.info? e = some i) {g off l c : Nat} {xs : List Value} (b : Box h g e xs) {s : ByteArray} (hl : s.size = l) (hx : off + s.size ≤ xs.length)
    (hk : ∀ h', Box h' g e (setL xs off (s.data.toList.map byteV)) → Ch [g] h h' → h'.size = h.size → K (goInt (s.size : Int)) h') :
    semW P (Builtin.copy_ #[t, u] ty #[.slice (some ⟨g, off, none⟩) l c, .string s]) h K := by
  subst hl
  simp [Builtin.copy_, semW_bind', semW_underlying ht, semW_sizeOf hi, Builtin.lenOf, Builtin.firstCells]
  have e1 : (Array.map (fun b : UInt8 => Value.int IntKind.u8 ↑b.toNat) s.data).toList = s.data.toList.map byteV := by
    simp [byteV]
  obtain ⟨k1, k2, k3, k4⟩ := stores_box (off := off) (s.data.toList.map byteV) h 0 xs b (by rw [List.all_map]; exact List.all_eq_true.2 fun _ _ => rfl) (by simp; exact hx)
  rw [semW_map]
  refine semW_storeCells _ _ _ _ _ ?_ ?_
  all_goals
    rw [show List.take s.size (List.map (fun b : UInt8 => Value.int IntKind.u8 ↑b.toNat) s.data.toList) = s.data.toList.map byteV from List.take_of_length_le (by simp)]
  · exact k1
  · exact hk _ k2 k3 k4
theorem loadBytes_of {g : Nat} : ∀ (l : List UInt8) (off : Nat) (acc : ByteArray) (K : ByteArray → Hp → Prop), (∀ i, (hi : i < l.length) → hcell h ⟨g, off + i, none⟩ = some (byteV l[i])) → K ⟨acc.data ++ l.toArray⟩ h → semW P (loadBytes ⟨g, off, none⟩ acc l.length) h K
  | [], off, acc, K, _, hk => by
    have : (⟨acc.data ++ ([] : List UInt8).toArray⟩ : ByteArray) = acc := by simp
    rw [this] at hk
    exact hk
  | c :: l, off, acc, K, hc, hk => by
    rw [List.length_cons]
    unfold loadBytes
    rw [semW_bind']
    refine ⟨byteV c, hc 0 (by simp), ?_⟩
    show semW P (loadBytes ((⟨g, off, none⟩ : Addr).add 1) (acc.push ((c.toNat : Nat) : Int).toNat.toUInt8) l.length) h K
    rw [add_box]
    have e1 : ((c.toNat : Nat) : Int).toNat.toUInt8 = c := by simp
    rw [e1]
    refine loadBytes_of l (off + 1) (acc.push c) K (fun i hi => ?_) ?_
    · have := hc (i + 1) (by simpa using hi)
      rw [show off + 1 + i = off + (i + 1) by omega]
      simpa using this
    · have : (⟨(acc.push c).data ++ l.toArray⟩ : ByteArray) = ⟨acc.data ++ (c :: l).toArray⟩ := by
        congr 1
        apply Array.toList_inj.1
        simp
      rw [this]; exact hk
theorem toBytes_of {src dst e : TypeId} (hs : P.underlying src = some .string) (hd : P.underlying dst = some (.slice e)) (he : P.underlying e = some (.int .u8)) (s : ByteArray)
    (hk : ∀ cap h', s.size ≤ cap → Ext h h' → (∀ i, i < s.size → hcell h' ⟨h.size, i, none⟩ = some (byteV (s.data.toList.getD i 0))) → K (.slice (some ⟨h.size, 0, none⟩) s.size cap) h') :
    semW P (convert src dst (.string s)) h K := by
  simp [convert, Conv.stringToBytes, semW_bind', semW_underlying hs, semW_underlying hd, semW_underlying he]
  intro tt
  have hge := cut_cap s.size 0 e tt
  generalize (Question.appendCap s.size 0 e).cut tt = nc at hge
  obtain ⟨C, hC⟩ : ∃ C, C = Array.map (fun b : UInt8 => Value.int IntKind.u8 ↑b.toNat) s.data ++ Array.replicate (nc - s.size) (Value.int IntKind.u8 0) := ⟨_, rfl⟩
  have hget : ∀ i, i < s.size → C[i]? = some (byteV (s.data.toList.getD i 0)) := by
    intro i hi
    have hi' : i < s.data.size := hi
    rw [hC, Array.getElem?_append_left (by simpa using hi'), Array.getElem?_map, Array.getElem?_eq_getElem hi']
    simp only [Option.map_some, Option.some.injEq, Value.int.injEq, true_and, byteV, List.getD, Array.getElem?_toList]
    rw [Array.getElem?_eq_getElem hi']; rfl
  rw [show ∀ K' : Nat → Hp → Prop, semW P (Sem.pure nc) h K' = K' nc h from fun _ => rfl, ← hC]
  clear hC
  show semW P ((fun a_2 => Value.slice (some ⟨h.size, 0, none⟩) s.size nc) <$> markStringish ⟨h.size, 0, none⟩) (h.push (.cells C e (0, 0))) K
  rw [semW_map]
  have hsh : hshape (h.push (.cells C e (0, 0))) h.size = some (e, C.size) := by
    unfold hshape; rw [Array.getElem?_push_size]
  unfold markStringish
  rw [semW_bind']
  show semW P (match hshape (h.push (.cells C e (0, 0))) h.size with
    | some (_, n) => freeze { block := h.size, off := n } 1
    | _ => pure ()) (h.push (.cells C e (0, 0))) _
  rw [hsh]
  show K (.slice (some ⟨h.size, 0, none⟩) s.size nc) (hfreeze (h.push (.cells C e (0, 0))) ⟨h.size, C.size, none⟩ 1)
  have hat : (hfreeze (h.push (.cells C e (0, 0))) ⟨h.size, C.size, none⟩ 1)[h.size]? = some (.cells C e (C.size, C.size + 1)) := by
    unfold hfreeze
    rw [if_neg (by omega), Array.getElem?_modify, if_pos rfl, Array.getElem?_push_size]
    rfl
  refine hk nc _ hge.1 ⟨?_, ?_⟩ ?_
  · unfold hfreeze; rw [if_neg (by omega)]; simp
  · intro i hi _
    unfold hfreeze
    rw [if_neg (by omega), Array.getElem?_modify, if_neg (by simp; omega), Array.getElem?_push, if_neg (by omega)]
  · intro i hi
    rw [hcell_of hat]
    exact hget i hi
theorem unsafeString_of {pt it ty e : TypeId} (hp : P.underlying pt = some (.pointer e)) (hc : P.cellsOf e = 1) {g : Nat} {c : Array Value} {f : Nat × Nat} (hg : h[g]? = some (.cells c e f)) (l : List UInt8) (h0 : l ≠ []) (hn : l.length ≤ c.size) (h63 : l.length ≤ 9223372036854775807)
    (hcell : ∀ i, (hi : i < l.length) → hcell h ⟨g, i, none⟩ = some (byteV l[i]))
    (hk : ∀ h' f', h'[g]? = some (.cells c e f') → Ch [g] h h' → h'.size = h.size → K (.string ⟨l.toArray⟩) h') :
    semW P (Builtin.unsafeString_ #[pt, it] ty #[.pointer (some ⟨g, 0, none⟩), .int .i64 l.length]) h K := by
  have hl : l.length ≠ 0 := by simpa using h0
  have hlies := Lib.liesAt_bytes (P := P) hc (c.size / P.cellsOf e) l.length (by rw [hc]; simpa using hn)
  have h63' : ¬ (9223372036854775807 : Int) < (l.length : Int) := by omega
  have hmax : IntKind.i64.max = 9223372036854775807 := rfl
  have hneg : ¬ (l.length : Int) < 0 := by omega
  have hdef : Builtin.unsafeString_ #[pt, it] ty #[.pointer (some ⟨g, 0, none⟩), .int .i64 l.length] =
      (do
        let n ← asInt (.int .i64 l.length)
        if n < 0 then runtimePanic (.error "unsafe.String: len out of range")
        if n > IntKind.i64.max then unsupported (.unsafePointer "String: a length above the largest int")
        if n = 0 then pure (.string .empty)
        else if ← variablesAt ⟨g, 0, none⟩ (← elemOf pt) n.toNat then do
          let s ← loadBytes ⟨g, 0, none⟩ .empty n.toNat
          freeze ⟨g, 0, none⟩ n.toNat
          pure (.string s)
        else unsupported (.unsafePointer "String: not so many bytes at ptr")) := rfl
  rw [hdef]
  obtain ⟨⟨f', h1⟩, h2, h3⟩ := hfreeze_box (off := 0) (n := l.length) hg
  have hsh : hshape h g = some (e, c.size) := by unfold hshape; simp only [hg]
  have hv : ∀ K' : Bool → Hp → Prop, K' true h → semW P (variablesAt ⟨g, 0, none⟩ e l.length) h K' := by
    intro K' hk'
    unfold variablesAt
    rw [semW_program]
    show semW P (match hshape h g with
      | some (e', cells) => pure (liesAt P P.depth e' (cells / P.cellsOf e') 0 e l.length)
      | none => pure false) h K'
    rw [hsh]
    show K' (liesAt P P.depth e (c.size / P.cellsOf e) 0 e l.length) h
    rw [hlies]; exact hk'
  simp [semW_bind', semW_asInt, hmax, h63', hneg, hl, elemOf, semW_underlying hp]
  refine hv _ ?_
  simp only [if_true]
  rw [semW_bind']
  refine loadBytes_of l 0 _ _ (fun i hi => by rw [Nat.zero_add]; exact hcell i hi) ?_
  have e1 : (⟨ByteArray.empty.data ++ l.toArray⟩ : ByteArray) = ⟨l.toArray⟩ := by
    congr 1
    apply Array.toList_inj.1; simp
  rw [e1]
  exact hk _ f' h1 h2 h3
end
end Go.Sx
