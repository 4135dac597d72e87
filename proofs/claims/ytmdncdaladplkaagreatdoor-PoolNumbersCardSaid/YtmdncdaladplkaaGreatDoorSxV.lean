/- Closed runs, part V: values that differ by places alone; a run's store and the heap that it stands for. No condition. -/
import Derived.Test.YtmdncdaladplkaaGreatDoorSxK
import Derived.Test.YtmdncdaladplkaaGreatDoorSxE
set_option linter.unusedVariables false
set_option linter.unusedSimpArgs false
set_option linter.deprecated false
namespace Go.Sx.Cr

/-- Where a block of the store lies in the heap: which block, how far in, how many elements an open one may take. -/
structure Pl where
  blk : Nat
  sh : Nat
  cap : Nat
abbrev Rho := Nat → Option Pl
def big : Nat := 1208925819614629174706176
def half : Nat := 604462909807314587353088
/-- A slice's capacity: as it is; or, in an open block, what is left behind a place. -/
def CapR (pl : Pl) (c c' : Nat) : Prop := (c < half ∧ c' = c) ∨ (half ≤ c ∧ c' + big = pl.cap + c)

mutual
inductive VR (ρ : Rho) : Value → Value → Prop
  | bool (b : Bool) : VR ρ (.bool b) (.bool b)
  | int (k : IntKind) (n : Int) : VR ρ (.int k n) (.int k n)
  | string (s : ByteArray) : VR ρ (.string s) (.string s)
  | ptr0 : VR ρ (.pointer none) (.pointer none)
  | ptr {b : Nat} {pl : Pl} (off : Nat) (h : ρ b = some pl) : VR ρ (.pointer (some ⟨b, off, none⟩)) (.pointer (some ⟨pl.blk, pl.sh + off, none⟩))
  | sl0 {l c : Nat} (hl : l ≤ c) : VR ρ (.slice none l c) (.slice none l c)
  | sl {b : Nat} {pl : Pl} (off l : Nat) {c c' : Nat} (h : ρ b = some pl) (hc : CapR pl c c') (hl : l ≤ c') : VR ρ (.slice (some ⟨b, off, none⟩) l c) (.slice (some ⟨pl.blk, pl.sh + off, none⟩) l c')
  | map0 : VR ρ (.map none) (.map none)
  | map {b : Nat} {pl : Pl} (h : ρ b = some pl) : VR ρ (.map (some b)) (.map (some pl.blk))
  | func (f : FuncId) {a a' c c' : List Value} (h1 : VRs ρ a a') (h2 : VRs ρ c c') : VR ρ (.func (.func f) ⟨a⟩ ⟨c⟩) (.func (.func f) ⟨a'⟩ ⟨c'⟩)
  | nilFunc : VR ρ .nilFunc .nilFunc
  | nilIface : VR ρ .nilIface .nilIface
  | iface (t : TypeId) {v v' : Value} (h : VR ρ v v') : VR ρ (.iface t v) (.iface t v')
  | agg {l l' : List Value} (h : VRs ρ l l') : VR ρ (.agg ⟨l⟩) (.agg ⟨l'⟩)
  | tuple {l l' : List Value} (h : VRs ρ l l') : VR ρ (.tuple ⟨l⟩) (.tuple ⟨l'⟩)
inductive VRs (ρ : Rho) : List Value → List Value → Prop
  | nil : VRs ρ [] []
  | cons {v v' : Value} {l l' : List Value} (h : VR ρ v v') (t : VRs ρ l l') : VRs ρ (v :: l) (v' :: l')
end
def Le (ρ ρ' : Rho) : Prop := ∀ b pl, ρ b = some pl → ρ' b = some pl
theorem Le.refl (ρ : Rho) : Le ρ ρ := fun _ _ h => h
theorem Le.trans {a b c : Rho} (h : Le a b) (k : Le b c) : Le a c := fun x pl hx => k x pl (h x pl hx)
mutual
theorem VR.mono {ρ ρ' : Rho} (le : Le ρ ρ') : ∀ {v v' : Value}, VR ρ v v' → VR ρ' v v'
  | _, _, .bool b => .bool b
  | _, _, .int k n => .int k n
  | _, _, .string s => .string s
  | _, _, .ptr0 => .ptr0
  | _, _, .ptr off h => .ptr off (le _ _ h)
  | _, _, .sl0 hl => .sl0 hl
  | _, _, .sl off l h hc hl => .sl off l (le _ _ h) hc hl
  | _, _, .map0 => .map0
  | _, _, .map h => .map (le _ _ h)
  | _, _, .func f h1 h2 => .func f (VRs.mono le h1) (VRs.mono le h2)
  | _, _, .nilFunc => .nilFunc
  | _, _, .nilIface => .nilIface
  | _, _, .iface t h => .iface t (VR.mono le h)
  | _, _, .agg h => .agg (VRs.mono le h)
  | _, _, .tuple h => .tuple (VRs.mono le h)
theorem VRs.mono {ρ ρ' : Rho} (le : Le ρ ρ') : ∀ {l l' : List Value}, VRs ρ l l' → VRs ρ' l l'
  | _, _, .nil => .nil
  | _, _, .cons h t => .cons (VR.mono le h) (VRs.mono le t)
end
theorem VRs.length {ρ : Rho} : ∀ {l l' : List Value}, VRs ρ l l' → l.length = l'.length
  | _, _, .nil => rfl
  | _, _, .cons h t => by simp [VRs.length t]
theorem VRs.append {ρ : Rho} : ∀ {l l' k k' : List Value}, VRs ρ l l' → VRs ρ k k' → VRs ρ (l ++ k) (l' ++ k')
  | _, _, _, _, .nil, h => h
  | _, _, _, _, .cons h t, k => .cons h (VRs.append t k)
theorem VRs.get {ρ : Rho} : ∀ {l l' : List Value} {i : Nat} {v : Value}, VRs ρ l l' → l[i]? = some v → ∃ v', l'[i]? = some v' ∧ VR ρ v v'
  | _, _, i, v, .nil, h => by simp at h
  | _, _, 0, v, .cons (v' := v') h t, hi => by
    simp only [List.getElem?_cons_zero, Option.some.injEq] at hi
    subst hi; exact ⟨v', by simp, h⟩
  | _, _, i + 1, v, .cons h t, hi => by
    simp only [List.getElem?_cons_succ] at hi ⊢
    exact VRs.get t hi
theorem VRs.none {ρ : Rho} {l l' : List Value} {i : Nat} (h : VRs ρ l l') (hi : l[i]? = none) : l'[i]? = none := by
  rw [List.getElem?_eq_none_iff] at hi ⊢
  rw [← h.length]; exact hi
theorem VRs.take {ρ : Rho} : ∀ {l l' : List Value} (n : Nat), VRs ρ l l' → VRs ρ (l.take n) (l'.take n)
  | _, _, 0, _ => .nil
  | _, _, n + 1, .nil => .nil
  | _, _, n + 1, .cons h t => .cons h (VRs.take n t)
theorem VRs.drop {ρ : Rho} : ∀ {l l' : List Value} (n : Nat), VRs ρ l l' → VRs ρ (l.drop n) (l'.drop n)
  | _, _, 0, h => h
  | _, _, n + 1, .nil => .nil
  | _, _, n + 1, .cons h t => VRs.drop n t
theorem VRs.set {ρ : Rho} : ∀ {l l' : List Value} {v v' : Value} (i : Nat), VRs ρ l l' → VR ρ v v' → VRs ρ (l.set i v) (l'.set i v')
  | _, _, _, _, _, .nil, _ => .nil
  | _, _, _, _, 0, .cons h t, hv => .cons hv t
  | _, _, _, _, i + 1, .cons h t, hv => .cons h (VRs.set i t hv)
theorem VRs.setL {ρ : Rho} : ∀ {vs vs' l l' : List Value} (i : Nat), VRs ρ l l' → VRs ρ vs vs' → VRs ρ (setL l i vs) (setL l' i vs')
  | _, _, _, _, _, h, .nil => h
  | _, _, _, _, i, h, .cons hv t => VRs.setL (i + 1) (h.set i hv) t
/-- Out of the cells one by one. -/
theorem VRs.of_get {ρ : Rho} : ∀ {l l' : List Value}, l.length = l'.length → (∀ (i : Nat) (v : Value), l[i]? = some v → ∃ v', l'[i]? = some v' ∧ VR ρ v v') → VRs ρ l l'
  | [], [], _, _ => .nil
  | [], v :: l, hl, _ => by simp at hl
  | v :: l, [], hl, _ => by simp at hl
  | v :: l, v' :: l', hl, h => by
    obtain ⟨u, h1, h2⟩ := h 0 v (by simp)
    simp only [List.getElem?_cons_zero, Option.some.injEq] at h1
    subst h1
    refine .cons h2 (VRs.of_get (by simpa using hl) fun i w hw => ?_)
    have := h (i + 1) w (by simpa using hw)
    simpa using this
/-- A value that bears no place. -/
def flatV : Nat → Value → Bool
  | _, .bool _ => true
  | _, .int _ _ => true
  | _, .string _ => true
  | _, .pointer none => true
  | _, .slice none l c => Nat.ble l c
  | _, .map none => true
  | _, .nilFunc => true
  | _, .nilIface => true
  | n + 1, .iface _ v => flatV n v
  | n + 1, .agg ⟨l⟩ => l.all (flatV n)
  | n + 1, .tuple ⟨l⟩ => l.all (flatV n)
  | _, .func (.func _) ⟨[]⟩ ⟨[]⟩ => true
  | _, _ => false
theorem flat_all {ρ : Rho} {p : Value → Bool} (hp : ∀ v, p v = true → VR ρ v v) : ∀ l : List Value, l.all p = true → VRs ρ l l
  | [], _ => .nil
  | v :: l, h => by
    simp only [List.all_cons, Bool.and_eq_true] at h
    exact .cons (hp v h.1) (flat_all hp l h.2)
theorem flat_vr {ρ : Rho} : ∀ (n : Nat) (v : Value), flatV n v = true → VR ρ v v := by
  have h0 : ∀ (n : Nat) (v : Value), (∀ k, n = k + 1 → ∀ v, flatV k v = true → VR ρ v v) → flatV n v = true → VR ρ v v := by
    intro n v ih h
    cases v with
    | bool b => exact .bool _
    | int k n => exact .int _ _
    | string s => exact .string _
    | pointer p => cases p with
      | none => exact .ptr0
      | some a => cases n <;> simp [flatV] at h
    | slice p l c => cases p with
      | none => cases n <;> exact .sl0 (Nat.le_of_ble_eq_true h)
      | some a => cases n <;> simp [flatV] at h
    | map p => cases p with
      | none => exact .map0
      | some a => cases n <;> simp [flatV] at h
    | nilFunc => exact .nilFunc
    | nilIface => exact .nilIface
    | iface t v => cases n with
      | zero => simp [flatV] at h
      | succ n => exact .iface _ (ih n rfl v h)
    | agg c => obtain ⟨l⟩ := c; cases n with
      | zero => simp [flatV] at h
      | succ n => exact .agg (flat_all (ih n rfl) l h)
    | tuple c => obtain ⟨l⟩ := c; cases n with
      | zero => simp [flatV] at h
      | succ n => exact .tuple (flat_all (ih n rfl) l h)
    | func f a c =>
      obtain ⟨a⟩ := a; obtain ⟨c⟩ := c
      cases f <;> cases a <;> cases c <;> cases n <;> first
        | exact .func _ .nil .nil
        | simp [flatV] at h
    | float k b => cases n <;> simp [flatV] at h
    | complex k b c => cases n <;> simp [flatV] at h
    | chan r => cases n <;> simp [flatV] at h
  intro n
  induction n with
  | zero => exact fun v => h0 0 v fun k hk => by omega
  | succ n ih => exact fun v => h0 (n + 1) v fun k hk => by cases hk; exact ih
theorem undef_vr {ρ : Rho} : VR ρ undef undef := .tuple .nil

/-- What the store knows of a block: its first cells ('m' 0: made so; 1: open behind them; 2: not to be written); or nothing any more. -/
inductive AO where
  | row (c : List Value) (e : TypeId) (m : Nat)
  | smap (d : List (ByteArray × Value))
  | kmap (d : List ((Nat × ByteArray) × Value))
  | imap (d : List ((Nat × Nat) × Value))
  | gone
inductive Tri (α : Type) where
  | nil
  | node (o : Option α) (l r : Tri α)
noncomputable def Tri.get {α : Type} (t : Tri α) : Nat → Option α :=
  Tri.rec (fun _ => none) (fun o _ _ l r n => Nat.rec o (fun m _ => Nat.rec (l (m / 2)) (fun _ _ => r (m / 2)) (m % 2)) n) t
noncomputable def Tri.set {α : Type} (fu : Nat) : Tri α → Nat → α → Tri α :=
  Nat.rec (fun t _ _ => t) (fun _ ih t n a => Tri.rec
    (Nat.rec (.node (some a) .nil .nil) (fun m _ => Nat.rec (.node none (ih .nil (m / 2) a) .nil) (fun _ _ => .node none .nil (ih .nil (m / 2) a)) (m % 2)) n)
    (fun o l r _ _ => Nat.rec (.node (some a) l r) (fun m _ => Nat.rec (.node o (ih l (m / 2) a) r) (fun _ _ => .node o l (ih r (m / 2) a)) (m % 2)) n) t) fu
theorem nrec {β : Type} (a b : β) (n : Nat) : Nat.rec (motive := fun _ => β) a (fun _ _ => b) n = match n with
    | 0 => a
    | _ + 1 => b := by cases n <;> rfl
theorem Tri.get_node {α : Type} (o : Option α) (l r : Tri α) (n : Nat) : (Tri.node o l r).get n = match n with
    | 0 => o
    | m + 1 => match m % 2 with
      | 0 => l.get (m / 2)
      | _ + 1 => r.get (m / 2) := by
  cases n with
  | zero => rfl
  | succ m =>
    exact nrec _ _ _
theorem Tri.set_zero {α : Type} (t : Tri α) (n : Nat) (a : α) : Tri.set 0 t n a = t := rfl
theorem Tri.set_nil {α : Type} (fu : Nat) (n : Nat) (a : α) : Tri.set (fu + 1) (.nil : Tri α) n a = match n with
      | 0 => .node (some a) .nil .nil
      | m + 1 => match m % 2 with
        | 0 => .node none (Tri.set fu .nil (m / 2) a) .nil
        | _ + 1 => .node none .nil (Tri.set fu .nil (m / 2) a) := by
  cases n with
  | zero => rfl
  | succ m =>
    exact nrec _ _ _
theorem Tri.set_node {α : Type} (fu : Nat) (o : Option α) (l r : Tri α) (n : Nat) (a : α) : Tri.set (fu + 1) (.node o l r) n a = match n with
      | 0 => .node (some a) l r
      | m + 1 => match m % 2 with
        | 0 => .node o (Tri.set fu l (m / 2) a) r
        | _ + 1 => .node o l (Tri.set fu r (m / 2) a) := by
  cases n with
  | zero => rfl
  | succ m =>
    exact nrec _ _ _
theorem Tri.get_nil {α : Type} (n : Nat) : (Tri.nil : Tri α).get n = none := rfl
theorem Tri.get_set {α : Type} : ∀ (fu : Nat) (t : Tri α) (n m : Nat) (a : α), n < fu → (Tri.set fu t n a).get m = if m = n then some a else t.get m
  | 0, t, n, m, a, h => by omega
  | fu + 1, t, n, m, a, h => by
    have key : ∀ (o : Option α) (l r : Tri α), (Tri.set (fu + 1) (.node o l r) n a).get m = if m = n then some a else (Tri.node o l r).get m := by
      intro o l r
      rw [Tri.set_node]
      cases n with
      | zero =>
        simp only [Tri.get_node]
        cases m with
        | zero => simp
        | succ m => simp
      | succ n =>
        have e2 : n % 2 = 0 ∨ n % 2 = 1 := by omega
        cases m with
        | zero => rcases e2 with e | e <;> simp [e, Tri.get_node]
        | succ m =>
          have e3 : m % 2 = 0 ∨ m % 2 = 1 := by omega
          rcases e2 with e | e <;> rcases e3 with e' | e' <;> simp only [e, e', Tri.get_node]
          · rw [Tri.get_set fu l (n / 2) (m / 2) a (by omega)]
            by_cases hh : m = n
            · subst hh; simp
            · rw [if_neg (by omega), if_neg (by omega)]
          · rw [if_neg (by intro hh; omega)]
          · rw [if_neg (by intro hh; omega)]
          · rw [Tri.get_set fu r (n / 2) (m / 2) a (by omega)]
            by_cases hh : m = n
            · subst hh; simp
            · rw [if_neg (by omega), if_neg (by omega)]
    cases t with
    | node o l r => exact key o l r
    | nil =>
      have := key none .nil .nil
      have e0 : (Tri.node none .nil .nil : Tri α).get m = (Tri.nil : Tri α).get m := by
        rw [Tri.get_node]
        cases m with
        | zero => rfl
        | succ m => rcases Nat.mod_two_eq_zero_or_one m with e | e <;> simp only [e] <;> rfl
      rw [e0] at this
      rw [← this, Tri.set_nil, Tri.set_node]
/-- A key of two cells. -/
def keyV (k : Nat × ByteArray) : Value := .agg #[.int .i64 (k.1 : Int), .string k.2]
def keyI (k : Nat × Nat) : Value := .agg #[.int .i64 (k.1 : Int), .int .i64 (k.2 : Int)]
/-- Maps with the same keys. -/
def DR {α : Type} (ρ : Rho) (d d' : List (α × Value)) : Prop := d.map (·.1) = d'.map (·.1) ∧ VRs ρ (d.map (·.2)) (d'.map (·.2))
theorem DR.mono {α : Type} {ρ ρ' : Rho} (le : Le ρ ρ') {d d' : List (α × Value)} (h : DR ρ d d') : DR ρ' d d' := ⟨h.1, h.2.mono le⟩
def AO.live : AO → Bool
  | .gone => false
  | _ => true
/-- What a block of the store says of the heap. -/
def ObjR (P : Program) (ρ : Rho) (h0 h : Hp) (pl : Pl) : AO → Prop
  | .row c e m => ∃ cs f, h[pl.blk]? = some (.cells cs e f) ∧ (∀ i v, c[i]? = some v → ∃ v', cs[pl.sh + i]? = some v' ∧ VR ρ v v') ∧
      (m ≠ 2 → f = (0, 0) ∧ h0.size ≤ pl.blk) ∧ (m = 1 → pl.sh + pl.cap * P.cellsOf e = cs.size ∧ pl.cap < 9223372036854775808) ∧ (m = 0 → pl.sh = 0)
  | .smap d => h0.size ≤ pl.blk ∧ ∃ d', MapB h pl.blk d' ∧ DR ρ d d'
  | .kmap d => h0.size ≤ pl.blk ∧ ∃ d', MapK keyV h pl.blk d' ∧ DR ρ d d'
  | .imap d => h0.size ≤ pl.blk ∧ ∃ d', MapK keyI h pl.blk d' ∧ DR ρ d d'
  | .gone => True
/-- A program; its keys of two cells; slices.Sorted and what maps.Keys hands out. -/
structure Cx where
  P : Program
  kt : TypeId
  ku : TypeId
  ki : TypeId
  srt : FuncId
  seq : FuncId
  idx : FuncId
  ng : Nat
  ro : Nat → Option (List Value)
noncomputable def takeF (n : Nat) : List Value → Option (List Value) :=
  Nat.rec (fun _ => some []) (fun _ ih l => List.rec none (fun v l _ => (ih l).bind fun r => some (v :: r)) l) n
noncomputable def takeX (o n : Nat) : List Value → Option (List Value) :=
  Nat.rec (takeF n) (fun _ ih l => List.rec none (fun _ l _ => ih l) l) o
theorem takeF_spec : ∀ (n : Nat) (l r : List Value), takeF n l = some r → r.length = n ∧ ∀ (j : Nat) (v : Value), r[j]? = some v → l[j]? = some v
  | 0, _, r, h => by
    have h : some [] = some r := h
    simp only [Option.some.injEq] at h
    subst h; exact ⟨rfl, fun j v hv => by simp at hv⟩
  | n + 1, [], r, h => by cases (show none = some r from h)
  | n + 1, v :: l, r, h => by
    have h : (takeF n l).bind (fun r => some (v :: r)) = some r := h
    obtain ⟨k, ht, h⟩ := Option.bind_eq_some_iff.1 h
    simp only [Option.some.injEq] at h
    subst h
    obtain ⟨h1, h2⟩ := takeF_spec n l k ht
    refine ⟨by simp [h1], fun j u hu => ?_⟩
    cases j with
    | zero => simpa using hu
    | succ j => simpa using h2 j u (by simpa using hu)
theorem takeX_spec : ∀ (o n : Nat) (l r : List Value), takeX o n l = some r → r.length = n ∧ ∀ (j : Nat) (v : Value), r[j]? = some v → l[o + j]? = some v
  | 0, n, l, r, h => by
    have := takeF_spec n l r h
    simpa using this
  | o + 1, n, [], r, h => by cases (show none = some r from h)
  | o + 1, n, v :: l, r, h => by
    obtain ⟨h1, h2⟩ := takeX_spec o n l r h
    refine ⟨h1, fun j u hu => ?_⟩
    rw [show o + 1 + j = (o + j) + 1 by omega, List.getElem?_cons_succ]
    exact h2 j u hu
/-- A store stands for a heap, over an older heap whose blocks stay. -/
structure Rel (C : Cx) (h0 : Hp) (ρ : Rho) (σ : Tri AO) (h : Hp) : Prop where
  glob : ∀ g, g < C.ng → ρ g = some ⟨g, 0, 0⟩
  ro : ∀ b c, C.ro b = some c → b < C.ng ∧ ∃ cs e f, h0[b]? = some (.cells cs e f) ∧ ∀ (i : Nat) (v : Value), c[i]? = some v → cs[i]? = some v ∧ flatV 9 v = true
  size : h0.size ≤ h.size
  base : ∀ i, i < h0.size → h[i]? = h0[i]?
  obj : ∀ b o, σ.get b = some o → ∃ pl, ρ b = some pl ∧ ObjR C.P ρ h0 h pl o
  apart : ∀ b b' o o' pl pl', σ.get b = some o → σ.get b' = some o' → o.live = true → o'.live = true → ρ b = some pl → ρ b' = some pl' → pl.blk = pl'.blk → b = b'
  dom : ∀ b, σ.get b = none → ρ b = none

def upd (ρ : Rho) (n : Nat) (pl : Pl) : Rho := fun b => if b = n then some pl else ρ b
theorem upd_self (ρ : Rho) (n : Nat) (pl : Pl) : upd ρ n pl n = some pl := by simp [upd]
theorem upd_ne {ρ : Rho} {n b : Nat} {pl : Pl} (h : b ≠ n) : upd ρ n pl b = ρ b := by simp [upd, h]
theorem Le.upd {ρ : Rho} {n : Nat} {pl : Pl} (h : ρ n = none) : Le ρ (upd ρ n pl) := fun b p hb => by
  rw [upd_ne (fun hh => by subst hh; rw [h] at hb; cases hb)]; exact hb
theorem ObjR.keep {P : Program} {ρ ρ' : Rho} {h0 h h' : Hp} {pl : Pl} {a : AO} (le : Le ρ ρ') (o : ObjR P ρ h0 h pl a) (hk : a.live = true → h'[pl.blk]? = h[pl.blk]?) : ObjR P ρ' h0 h' pl a := by
  cases a with
  | gone => trivial
  | row c e m =>
    obtain ⟨cs, f, h1, h2, h3, h4⟩ := o
    refine ⟨cs, f, (hk rfl).trans h1, fun i v hv => ?_, h3, h4⟩
    obtain ⟨v', e1, e2⟩ := h2 i v hv
    exact ⟨v', e1, e2.mono le⟩
  | smap d =>
    obtain ⟨h1, d', h2, h3⟩ := o
    refine ⟨h1, d', ?_, h3.mono le⟩
    unfold MapB at h2 ⊢
    rw [hk rfl]; exact h2
  | kmap d =>
    obtain ⟨h1, d', h2, h3⟩ := o
    refine ⟨h1, d', ?_, h3.mono le⟩
    unfold MapK at h2 ⊢
    rw [hk rfl]; exact h2
  | imap d =>
    obtain ⟨h1, d', h2, h3⟩ := o
    refine ⟨h1, d', ?_, h3.mono le⟩
    unfold MapK at h2 ⊢
    rw [hk rfl]; exact h2
theorem ObjR.lt {P : Program} {ρ : Rho} {h0 h : Hp} {pl : Pl} {a : AO} (o : ObjR P ρ h0 h pl a) (hl : a.live = true) : pl.blk < h.size := by
  cases a with
  | gone => cases hl
  | row c e m => obtain ⟨cs, f, h1, _⟩ := o; exact lt_of_get h1
  | smap d => obtain ⟨_, d', h2, _⟩ := o; exact h2.lt
  | kmap d => obtain ⟨_, d', h2, _⟩ := o; exact h2.lt
  | imap d => obtain ⟨_, d', h2, _⟩ := o; exact h2.lt
noncomputable def Tri.put {α : Type} (t : Tri α) (n : Nat) (a : α) : Tri α := Tri.set (n + 1) t n a
theorem Tri.get_put {α : Type} (t : Tri α) (n m : Nat) (a : α) : (t.put n a).get m = if m = n then some a else t.get m := Tri.get_set _ _ _ _ _ (Nat.lt_succ_self n)
theorem Tri.put_self {α : Type} (t : Tri α) (n : Nat) (a : α) : (t.put n a).get n = some a := by rw [Tri.get_put, if_pos rfl]
theorem Tri.put_ne {α : Type} (t : Tri α) {n m : Nat} (a : α) (h : m ≠ n) : (t.put n a).get m = t.get m := by rw [Tri.get_put, if_neg h]
section rel
variable {C : Cx} {h0 : Hp} {ρ : Rho} {σ : Tri AO} {h : Hp}
theorem Rel.row (R : Rel C h0 ρ σ h) {b : Nat} {o : AO} (hb : σ.get b = some o) {pl : Pl} (hp : ρ b = some pl) : ObjR C.P ρ h0 h pl o := by
  obtain ⟨pl', h1, h2⟩ := R.obj b _ hb
  rw [hp] at h1; cases h1; exact h2
/-- One block is new or turned; another may be given up. -/
theorem Rel.turn (R : Rel C h0 ρ σ h) {g b : Nat} {h' : Hp} {σ' : Tri AO} {ρ' : Rho} {o : AO} {pl : Pl} (k : Ch [g] h h') (hg : h0.size ≤ g) (le : Le ρ ρ')
    (hb : σ'.get b = some o) (hp : ρ' b = some pl) (hblk : pl.blk = g) (ho : ObjR C.P ρ' h0 h' pl o)
    (hold : ∀ x a, x ≠ b → σ'.get x = some a → σ.get x = some a ∨ a = .gone ∧ σ.get x ≠ none)
    (hap : ∀ x a p, x ≠ b → σ'.get x = some a → a.live = true → ρ x = some p → p.blk ≠ g)
    (hdom : ∀ x, σ'.get x = none → ρ' x = none) : Rel C h0 ρ' σ' h' := by
  have hlive : ∀ x a, x ≠ b → σ'.get x = some a → a.live = true → σ.get x = some a := by
    intro x a hx ha hl
    rcases hold x a hx ha with h1 | ⟨rfl, _⟩
    · exact h1
    · cases hl
  refine ⟨fun i hi => le _ _ (R.glob i hi), R.ro, by have := R.size; have := k.size; omega, fun i hi => ?_, fun x a hx => ?_, fun x y a a' p p' hx hy hl hl' hpx hpy he => ?_, hdom⟩
  · have := R.size
    rw [k.same i (by omega) (by simp; omega)]; exact R.base i hi
  · by_cases hxb : x = b
    · subst hxb; rw [hb] at hx; cases hx; exact ⟨pl, hp, ho⟩
    · rcases hold x a hxb hx with h1 | ⟨rfl, h1⟩
      · obtain ⟨p, e1, e2⟩ := R.obj x a h1
        refine ⟨p, le _ _ e1, e2.keep le fun hl => ?_⟩
        exact k.same _ (e2.lt hl) (by simpa using hap x a p hxb hx hl e1)
      · cases hs : σ.get x with
        | none => exact (h1 hs).elim
        | some a' =>
          obtain ⟨p, e1, _⟩ := R.obj x a' hs
          exact ⟨p, le _ _ e1, trivial⟩
  · have far : ∀ x a p, x ≠ b → σ'.get x = some a → a.live = true → ρ' x = some p → p.blk ≠ g := by
      intro x a p hxb hx hl hpx
      have h1 := hlive x a hxb hx hl
      obtain ⟨q, e1, _⟩ := R.obj x a h1
      have := le _ _ e1
      rw [hpx] at this; cases this
      exact hap x a _ hxb hx hl e1
    by_cases hxb : x = b
    · by_cases hyb : y = b
      · rw [hxb, hyb]
      · subst hxb; rw [hp] at hpx; cases hpx
        exact (far y a' p' hyb hy hl' hpy (by rw [← he, hblk])).elim
    · by_cases hyb : y = b
      · subst hyb; rw [hp] at hpy; cases hpy
        exact (far x a p hxb hx hl hpx (by rw [he, hblk])).elim
      · have h1 := hlive x a hxb hx hl
        have h2 := hlive y a' hyb hy hl'
        obtain ⟨q, e1, _⟩ := R.obj x a h1
        obtain ⟨q', e2, _⟩ := R.obj y a' h2
        have e3 := le _ _ e1
        have e4 := le _ _ e2
        rw [hpx] at e3; rw [hpy] at e4; cases e3; cases e4
        exact R.apart x y a a' _ _ h1 h2 hl hl' e1 e2 he
/-- Where blocks are only added. -/
theorem Rel.ext (R : Rel C h0 ρ σ h) {h' : Hp} (k : Ext h h') : Rel C h0 ρ σ h' := by
  refine ⟨R.glob, R.ro, Nat.le_trans R.size k.size, fun i hi => ?_, fun b o hb => ?_, R.apart, R.dom⟩
  · have := R.size
    rw [k.same i (by omega) (by simp)]; exact R.base i hi
  · obtain ⟨p, e1, e2⟩ := R.obj b o hb
    exact ⟨p, e1, e2.keep (Le.refl _) fun hl => k.same _ (e2.lt hl) (by simp)⟩
/-- A new block. -/
theorem Rel.new (R : Rel C h0 ρ σ h) {n : Nat} (hn : σ.get n = none) {o : AO} {pl : Pl} {h' : Hp} (hb : h.size ≤ pl.blk) (k : Ext h h') (ho : ObjR C.P (upd ρ n pl) h0 h' pl o) :
    Rel C h0 (upd ρ n pl) (σ.put n o) h' ∧ Le ρ (upd ρ n pl) := by
  have hρ := R.dom n hn
  have le : Le ρ (upd ρ n pl) := Le.upd hρ
  refine ⟨R.turn (k.mono (by simp)) (g := pl.blk) (b := n) (Nat.le_trans R.size hb) le (Tri.put_self _ _ _) (upd_self _ _ _) rfl ho (fun x a hx ha => ?_) (fun x a p hx ha hl hp => ?_) (fun x hx => ?_), le⟩
  · rw [Tri.put_ne _ _ hx] at ha; exact .inl ha
  · rw [Tri.put_ne _ _ hx] at ha
    have := (R.row ha hp).lt hl
    omega
  · by_cases hxn : x = n
    · subst hxn; rw [Tri.put_self] at hx; cases hx
    · rw [Tri.put_ne _ _ hxn] at hx
      rw [upd_ne hxn]; exact R.dom x hx
/-- Cells of a new block. -/
theorem row_of {P : Program} {ρ ρ' : Rho} {h0 h' : Hp} {c c' rest : List Value} {e : TypeId} {m cap g : Nat} (hs : h0.size ≤ g) (hc : VRs ρ c c') (le : Le ρ ρ') (hb : Box h' g e (c' ++ rest))
    (hm : m = 1 → cap * P.cellsOf e = c'.length + rest.length ∧ cap < 9223372036854775808) : ObjR P ρ' h0 h' ⟨g, 0, cap⟩ (.row c e m) := by
  refine ⟨(c' ++ rest).toArray, (0, 0), hb, fun i v hv => ?_, fun _ => ⟨rfl, hs⟩, fun h1 => ?_, fun _ => rfl⟩
  · obtain ⟨v', e1, e2⟩ := hc.get hv
    refine ⟨v', ?_, e2.mono le⟩
    have : i < c'.length := by
      rcases Nat.lt_or_ge i c'.length with h | h
      · exact h
      · rw [List.getElem?_eq_none h] at e1; cases e1
    rw [Nat.zero_add, List.getElem?_toArray, List.getElem?_append_left this]
    exact e1
  · have := hm h1
    simp [this]
theorem Rel.newRow (R : Rel C h0 ρ σ h) {n : Nat} (hn : σ.get n = none) {c c' rest : List Value} {e : TypeId} {m cap : Nat} {h' : Hp} (hc : VRs ρ c c') (hb : Box h' h.size e (c' ++ rest)) (k : Ext h h')
    (hm : m = 1 → cap * C.P.cellsOf e = c'.length + rest.length ∧ cap < 9223372036854775808) :
    Rel C h0 (upd ρ n ⟨h.size, 0, cap⟩) (σ.put n (.row c e m)) h' ∧ Le ρ (upd ρ n ⟨h.size, 0, cap⟩) :=
  R.new hn (Nat.le_refl _) k (row_of R.size hc (Le.upd (R.dom n hn)) hb hm)
/-- A block that is turned. -/
theorem Rel.put (R : Rel C h0 ρ σ h) {b : Nat} {o o' : AO} {pl : Pl} {h' : Hp} (hb : σ.get b = some o) (hl : o.live = true) (hp : ρ b = some pl) (hg : h0.size ≤ pl.blk) (k : Ch [pl.blk] h h') (ho : ObjR C.P ρ h0 h' pl o') :
    Rel C h0 ρ (σ.put b o') h' := by
  refine R.turn k hg (Le.refl _) (Tri.put_self _ _ _) hp rfl ho (fun x a hx ha => ?_) (fun x a p hx ha hl' hp' he => ?_) (fun x hx => ?_)
  · rw [Tri.put_ne _ _ hx] at ha; exact .inl ha
  · rw [Tri.put_ne _ _ hx] at ha
    exact hx (R.apart x b a o p pl ha hb hl' hl hp' hp he)
  · by_cases hxn : x = b
    · subst hxn; rw [Tri.put_self] at hx; cases hx
    · rw [Tri.put_ne _ _ hxn] at hx; exact R.dom x hx
/-- A block is given up; its cells go on under another number, in the same block or in a new one. -/
theorem Rel.move (R : Rel C h0 ρ σ h) {b n : Nat} {o o' : AO} {pl pl' : Pl} {h' : Hp} (hn : σ.get n = none) (hb : σ.get b = some o) (hl : o.live = true) (hp : ρ b = some pl) (k : Ch [pl'.blk] h h')
    (hblk : pl'.blk = pl.blk ∨ pl'.blk = h.size) (hg : h0.size ≤ pl'.blk) (ho : ObjR C.P (upd ρ n pl') h0 h' pl' o') :
    Rel C h0 (upd ρ n pl') ((σ.put b .gone).put n o') h' ∧ Le ρ (upd ρ n pl') := by
  have hρ := R.dom n hn
  have le : Le ρ (upd ρ n pl') := Le.upd hρ
  have hbn : b ≠ n := fun hh => by subst hh; rw [hn] at hb; cases hb
  refine ⟨R.turn k hg le (Tri.put_self _ _ _) (upd_self _ _ _) rfl ho (fun x a hx ha => ?_) (fun x a p hx ha hl' hp' he => ?_) (fun x hx => ?_), le⟩
  · rw [Tri.put_ne _ _ hx] at ha
    by_cases hxb : x = b
    · subst hxb; rw [Tri.put_self] at ha; cases ha
      exact .inr ⟨rfl, by rw [hb]; simp⟩
    · rw [Tri.put_ne _ _ hxb] at ha; exact .inl ha
  · rw [Tri.put_ne _ _ hx] at ha
    by_cases hxb : x = b
    · subst hxb; rw [Tri.put_self] at ha; cases ha; cases hl'
    · rw [Tri.put_ne _ _ hxb] at ha
      rcases hblk with e | e
      · exact hxb (R.apart x b a o p pl ha hb hl' hl hp' hp (by rw [he, e]))
      · have := (R.row ha hp').lt hl'
        omega
  · by_cases hxn : x = n
    · subst hxn; rw [Tri.put_self] at hx; cases hx
    · rw [Tri.put_ne _ _ hxn] at hx
      rw [upd_ne hxn]
      by_cases hxb : x = b
      · subst hxb; rw [Tri.put_self] at hx; cases hx
      · rw [Tri.put_ne _ _ hxb] at hx; exact R.dom x hx
theorem cellsAt_of {pl : Pl} {cs : Array Value} {e : TypeId} {f : Nat × Nat} (hg : h[pl.blk]? = some (.cells cs e f)) {off : Nat} : ∀ (k : List Value) (i : Nat), (∀ j v, k[j]? = some v → ∃ v', cs[pl.sh + (off + i + j)]? = some v' ∧ VR ρ v v') →
    ∃ k', VRs ρ k k' ∧ cellsAt h ⟨pl.blk, pl.sh + off, none⟩ i k'
  | [], i, _ => ⟨[], .nil, trivial⟩
  | v :: k, i, hk => by
    obtain ⟨v', e1, e2⟩ := hk 0 v (by simp)
    obtain ⟨k', e3, e4⟩ := cellsAt_of hg k (i + 1) fun j w hw => by
      have := hk (j + 1) w (by simpa using hw)
      rw [show off + (i + 1) + j = off + i + (j + 1) by omega]; exact this
    refine ⟨v' :: k', .cons e2 e3, ?_, e4⟩
    rw [add_box, hcell_of hg, ← e1]; congr 1; omega
/-- A store's cells that were written. -/
theorem Rel.store (R : Rel C h0 ρ σ h) {b : Nat} {c : List Value} {e : TypeId} {m : Nat} (hb : σ.get b = some (.row c e m)) (hm : m ≠ 2) {pl : Pl} (hp : ρ b = some pl) {off : Nat} {vs vs' : List Value}
    (hv : VRs ρ vs vs') (hpl : vs'.all plainV = true) (h1 : 1 ≤ vs.length) (hl : off + vs.length ≤ c.length) :
    canSt h ⟨pl.blk, pl.sh + off, none⟩ 0 vs' ∧ Rel C h0 ρ (σ.put b (.row (setL c off vs) e m)) (hsets h ⟨pl.blk, pl.sh + off, none⟩ 0 vs') := by
  obtain ⟨cs, f, hg, h2, h3, h4⟩ := R.row hb hp
  obtain ⟨rfl, hgs⟩ := h3 hm
  have bx : Box h pl.blk e cs.toList := by unfold Box; simpa using hg
  have hlen : pl.sh + off + vs'.length ≤ cs.toList.length := by
    rw [← hv.length]
    obtain ⟨v', e1, _⟩ := h2 (off + vs.length - 1) (c[off + vs.length - 1]'(by omega)) (by rw [List.getElem?_eq_getElem])
    have : pl.sh + (off + vs.length - 1) < cs.size := by
      rcases Nat.lt_or_ge (pl.sh + (off + vs.length - 1)) cs.size with h | h
      · exact h
      · rw [Array.getElem?_eq_none h] at e1; cases e1
    simp; omega
  obtain ⟨k1, k2, k3, k4⟩ := stores_box (off := pl.sh + off) vs' h 0 _ bx hpl (by simpa using hlen)
  refine ⟨k1, R.put hb rfl hp hgs k3 ⟨_, _, k2, fun i v hi => ?_, fun _ => ⟨rfl, hgs⟩, fun h1 => ?_, h4.2⟩⟩
  · rw [setL_eq _ _ _ hl] at hi
    rw [List.getElem?_toArray, setL_eq _ _ _ (by simpa using hlen), Nat.add_zero]
    have hlen' : pl.sh + off ≤ cs.toList.length := by omega
    rcases Nat.lt_or_ge i off with hi1 | hi1
    · rw [List.append_assoc, List.getElem?_append_left (by simp; omega), List.getElem?_take, if_pos hi1] at hi
      rw [List.append_assoc, List.getElem?_append_left (by rw [List.length_take]; omega), List.getElem?_take, if_pos (by omega)]
      rw [Array.getElem?_toList]
      exact h2 i v hi
    · rcases Nat.lt_or_ge i (off + vs.length) with hi2 | hi2
      · have e1 : (c.take off).length = off := by rw [List.length_take]; omega
        have e2 : (cs.toList.take (pl.sh + off)).length = pl.sh + off := by rw [List.length_take]; omega
        rw [List.append_assoc, List.getElem?_append_right (by omega), e1, List.getElem?_append_left (by omega)] at hi
        rw [List.append_assoc, List.getElem?_append_right (by omega), e2, List.getElem?_append_left (by rw [← hv.length]; omega), show pl.sh + i - (pl.sh + off) = i - off by omega]
        exact hv.get hi
      · have e1 : (c.take off ++ vs).length = off + vs.length := by rw [List.length_append, List.length_take]; omega
        have e2 : (cs.toList.take (pl.sh + off) ++ vs').length = pl.sh + off + vs.length := by rw [List.length_append, List.length_take, ← hv.length]; omega
        rw [List.getElem?_append_right (by omega), e1, List.getElem?_drop, show off + vs.length + (i - (off + vs.length)) = i by omega] at hi
        rw [List.getElem?_append_right (by omega), e2, List.getElem?_drop, ← hv.length, show pl.sh + off + vs.length + (pl.sh + i - (pl.sh + off + vs.length)) = pl.sh + i by omega, Array.getElem?_toList]
        exact h2 i v hi
  · have := h4.1 h1
    simpa [setL_length] using this
end rel
end Go.Sx.Cr
