/- Contracts over heaps, and plain laws, for the functions that the laws of chapter 9 call, part 3: A factor, read over heaps: the closure of Parse that reads one does what the pla Condition: as each statement says. -/
import Derived.Test.YtfkjiiapldkoeaaGreatDoorP2
import Derived.Test.YtfkjiiapldkoeaaGreatDoorAExprX
import Derived.Test.YtfkjiiapldkoeaaGreatDoorAobjT
set_option linter.unusedVariables false
set_option linter.unusedSimpArgs false
set_option maxRecDepth 100000
namespace Go.Sx
open Go.Proofs
variable {a3 a6 A a5 a4:Nat}
def Am (n:Nat) (d:Int) (x:ey) (ts':List Tok) (d':Int) (e':Nat):cP→Prop
 | .error e=>e'=e∧e≠0∧x.au.length≤n
 | .ok (y,r)=>e'=0∧x=y∧ts'=r∧d'=d
def Ie (h:Hp) (A:Nat) (n:Nat) (d:Int) (res:cP) (v:Value) (h':Hp):Prop :=
 Ch [A] h h'∧∃ x p l c ts' d' e',v=qQ p l c x∧SL h' h.size 109 2 p l c (x.au.map cV)∧Good x∧PB h' A ts' d' e'∧Am n d x ts' d' e' res
theorem L5:fO Tryz.prog 158=true:=by kernel_rfl
def Ku (h:Hp) (A A1 A21:Nat) (n:Nat) (d:Int) (res:cP) (h':Hp):Prop :=
 Ch [A] h h'∧aO h' A1 94 [.slice none 0 0,.int .u32 0]∧∃ x p l c ts' d' e',aO h' A21 94 [.slice p l c,.int .u32 (x.num:Int)]∧SL h' h.size 109 2 p l c (x.au.map cV)∧Good x∧PB h' A ts' d' e'∧Am n d x ts' d' e' res
theorem Cl.G2 {ws:List Nat} {h h':Hp} (c:Cl h A a3 a4 a5 a6) (k:Ch ws h h') (hw:∀ i,i∈ws→i=A∨(a3<i∧a4<i∧a5<i∧a6<i)):Cl h' A a3 a4 a5 a6:=by
 have:=c.n3
 have:=c.n4
 have:=c.n5
 have:=c.n6
 exact ⟨c.b3.ai k (fun hm=>by have:=hw _ hm; omega),c.b4.ai k (fun hm=>by have:=hw _ hm; omega),c.b5.ai k (fun hm=>by have:=hw _ hm; omega),c.b6.ai k (fun hm=>by have:=hw _ hm; omega),by omega,by omega,by omega,by omega⟩
def vJ (b:Bool):Nat:=if b=true then 4294967295 else 1
theorem Fg (b:Bool):IntKind.wrap .u32 (0-((vJ b:Nat):Int))=((vJ (!b):Nat):Int):=by cases b <;> decide
theorem AE {x:ey} (g:Good x) (b:Bool):fg x (vJ b)=CR b x:=by
 rw [kh g.nf];unfold vJ CR;cases b
 ·exact G1 g
 ·rfl
theorem SL.JF {h:Hp} {b:Nat} {e:TypeId} {p:Option Addr} {l c:Nat} {us:dp} (s:SL h b e 2 p l c (us.map cV)):∀ i,i∈aC p→i<h.size:=fun i hi=>(s.bW hi).2
theorem wrap_small {d:Int} (h:-1000≤d) (k:d≤1000):IntKind.wrap .i64 d=d:=wrap_i64 (by omega) (by omega)
theorem Hr {o : Option (List Tok → cP)} {d : Nat} (hd : d ≤ 32)
    (ho : match o with
      | none => d = 32
      | some f => d < 32 ∧ ∀ h ts, Cl h A a3 a4 a5 a6 → PB h A ts (d + 1 : Nat) 0 → Wf ts → ts.length ≤ 2 ^ 40 → HC Tryz.prog 158 #[ptr a6, ptr a3] h (Ie h A ts.length (d + 1 : Nat) (f ts)))
    (hfine : ∀ f, o = some f → ∀ ts, Wf ts → j4 ts (f ts))
    {h : Hp} {ts : List Tok} (cl : Cl h A a3 a4 a5 a6) (pb : PB h A ts d 0) (w : Wf ts) (hts : ts.length ≤ 2 ^ 40) :
    HC Tryz.prog 152 #[ptr a3, ptr a4] h (Ie h A ts.length d (Bh o ts)) := by
  refine aK (args := [ptr a3, ptr a4]) mixed Tryz.func152 (by kernel_rfl) (ko ⟨a3, 0, none⟩ ⟨a4, 0, none⟩) ?_;unfold gw;have hA := pb.lt;have hcl := cl.lt;refine aX ?_;intro h1 b1 e1 z1
  refine bh (cs := [(false, [.int .u32])]) (fun y m h' => ∃ (b : Bool) (us : List Tok), y.1 = ((vJ b : Nat) : Int) ∧ Bh o ts = wv o b us ∧ Ch [A] h1 h' ∧ PB h' A us d 0 ∧ us <:+ ts ∧ m = us.length) ((1 : Int), ()) ts.length rfl
    ⟨false, ts, rfl, rfl, Ch.refl _ _, pb.ai e1 (by simp), List.suffix_refl _, rfl⟩ ?_
  rintro ⟨n2, ⟨⟩⟩ m h2 ⟨b, us, hn, hg, k2, pb2, hsuf, rfl⟩;simp only at hn;subst hn;dsimp only [flat, az, ah, nA, cA];have hz2 := k2.size;have cl1 := cl.ai e1 (by simp);have cl2 := cl1.ai k2 (by simp);have b12 := b1.ai k2 (by simp; omega);have k02 : Ch [A] h h2 := Ch.trans (e1.mono (by simp)) k2 (fun j hj _ => hj);have hus := hsuf.length_le;have wus := w.suffix hsuf;refine ad cl2.b3 (some ⟨A, 0, none⟩, ()) rfl ?_;dsimp only [flat, az, ah, nA, cA];refine aB (jh pb2 45) ?_;rintro _ h3 ⟨rfl, k3, z3, pb3⟩;refine ⟨(eN 0 us 45, ()), rfl, ?_⟩;dsimp only [flat, az, ah, nA, cA];have k03 : Ch [A] h h3 := Ch.trans k02 k3 (fun j hj _ => hj);have cl3 := cl2.ai k3 (by simp);have b13 := b12.ai k3 (by simp; omega);refine af (fun g1 => ?_) (fun g1 => ?_)
  · rw [if_pos g1] at pb3
    cases us with
    | nil => cases g1
    | cons t r =>
      have g1 : fC t 45 = true := g1;refine aI (cs := [(false, [.int .u32])]) (((vJ (!b) : Nat) : Int), ()) r.length rfl (by simp) (congrArg (fun z => [Value.int .u32 z]) (Fg b)) ⟨!b, r, rfl, ?_, Ch.trans k2 k3 (fun j hj _ => hj), pb3, (List.suffix_cons _ _).trans hsuf, rfl⟩;rw [hg];show (if fC t 45 = true then wv o (!b) r else xH o b (t :: r)) = _;rw [if_pos g1]
  · rw [if_neg (by rw [g1]; simp)] at pb3
    have hfs : Bh o ts = xH o b us := by
      rw [hg];cases us with
      | nil => rfl
      | cons t r =>
        have g1 : fC t 45 = false := g1;show (if fC t 45 = true then wv o (!b) r else xH o b (t :: r)) = _;rw [if_neg (by rw [g1]; simp)]
    refine cD (cs := [(false, [.bool])]) (fun y h' => y.1 = decide (us = []) ∧ h3 = h') ?_ ?_
    · refine ad cl3.b3 (some ⟨A, 0, none⟩, ()) rfl ?_
      dsimp only [flat, az, ah, nA, cA];obtain ⟨p, l, c, bA, v, hp⟩ := pb3;refine aj rfl ?_
      try rw [ao]
      refine ad bA ((0 : Int), ()) rfl ?_;dsimp only [flat, az, ah, nA, cA];refine aU rfl ?_;refine ad cl3.b3 (some ⟨A, 0, none⟩, ()) rfl ?_;dsimp only [flat, az, ah, nA, cA];refine aj rfl ?_;refine ad bA ((p, l, c), ()) rfl ?_;dsimp only [flat, az, ah, nA, cA];refine aY (cs := [(false, [.bool])]) (((l : Int) == 0), ()) rfl rfl ⟨?_, rfl⟩;have := v.len;cases us with
      | nil => simp only [List.length_nil] at this; subst this; rfl
      | cons t r =>
        simp only [List.length_cons] at this;rw [decide_eq_false (by simp)];show ((l : Int) == 0) = false;exact beq_eq_false_iff_ne.2 (by omega)
    · rintro ⟨b5, ⟨⟩⟩ h3' ⟨hb5, rfl⟩
      simp only at hb5;subst hb5;dsimp only [flat, az, ah, nA, cA];refine af (fun g2 => ?_) (fun g2 => ?_)
      · have g2 : us = [] := of_decide_eq_true g2
        subst g2;refine ad cl3.b3 (some ⟨A, 0, none⟩, ()) rfl ?_;dsimp only [flat, az, ah, nA, cA];refine aB (kg pb3 20) ?_;rintro _ h4 ⟨rfl, k4, z4, pb4⟩;refine ⟨(), rfl, ?_⟩;dsimp only [flat, az, ah, nA, cA];refine an (b13.ai k4 (by simp; omega)) rfl (by simp) ?_;intro h5 b5 k5 z5;have b5 : aO h5 h.size 94 [.slice none 0 0, .int .u32 0] := b5;refine ad b5 ((none, 0, 0), (0 : Int), ()) rfl ?_;rw [hfs];exact ⟨Ch.trans (Ch.trans k03 k4 (fun j hj _ => hj)) k5 (fun j hj hl => by simp at hj; omega), xa, none, 0, 0, [], d, 20, rfl, SL.nil _ _ _ _, Good.z, pb4.ai k5 (by simp; omega), rfl, by simp, by simp [xa]⟩
      · have g2 : us ≠ [] := of_decide_eq_false g2
        obtain ⟨t, r, rfl⟩ := List.exists_cons_of_ne_nil g2;have wt := wus t (List.mem_cons_self ..);simp only [List.length_cons] at hus;refine ad cl3.b3 (some ⟨A, 0, none⟩, ()) rfl ?_;dsimp only [flat, az, ah, nA, cA];obtain ⟨p, l, c, bA, v, hp⟩ := pb3;have hlen := v.len;have hcap := v.cap;simp only [List.length_cons] at hlen;obtain ⟨a, rfl, hc⟩ := v.cells 0 (by simp);obtain ⟨c1, c2, c3⟩ := jg (t := t) hc;refine aj rfl (ad bA ((some a, l, c), ()) rfl ?_);dsimp only [flat, az, ah, nA, cA];refine ay ⟨by omega, by omega⟩ (aj rfl (aE ((t.kind : Int), t.text, (t.num : Int), (t.at_ : Int), ()) c3 ?_));dsimp only [flat, az, ah, nA, cA];refine aX ?_;intro h4 b4 e4 z4;refine an b4 rfl (by simp) ?_;intro h5 b5 k5 z5;have b5 : aO h5 h3.size 178 (ec t) := b5;have hz3 := k03.size;have k35 : Ext h3 h5 := Ch.trans e4 k5 (fun j hj hl => by simp at hj; omega)
        try rw [ao]
        refine ad b5 (t.text, ()) rfl ?_;dsimp only [flat, az, ah, nA, cA];refine rR (nX t.text h5) ?_;refine aX ?_;intro h6 b6 e6 z6;have k36 := k35.trans e6;have k06 : Ch [A] h h6 := Ch.trans k03 k36 (by simp);have cl6 := cl3.ai k36 (by simp);have b16 := b13.ai k36 (by simp);have bt6 := b5.ai e6 (by simp);have pb6 : PB h6 A (t :: r) d 0 := PB.ai ⟨some a, l, c, bA, v, hp⟩ k36 (by simp);have hh1 : h.size < h3.size := by omega
        have hh6 : h5.size < h6.size := by omega
        refine cD (cs := []) (fun y h' => Ku h A h.size h5.size ts.length d (qP o (t :: r)) h') ?_ ?_
        · refine cD (cs := [(false, [.bool])]) (fun y h' => y.1 = (decide (t.kind = 1) && (fI t.text.data.toList).2.2) ∧ h6 = h') ?_ ?_
          · refine ad bt6 ((t.kind : Int), ()) rfl ?_
            dsimp only [flat, az, ah, nA, cA];refine af (fun g3 => ?_) (fun g3 => ?_)
            · have g3 : (t.kind : Int) = 1 := by simpa using g3
              refine aY (cs := [(false, [.bool])]) ((fI t.text.data.toList).2.2, ()) rfl rfl ⟨?_, rfl⟩;rw [decide_eq_true (by omega)];rfl
            · have g3 : ¬ (t.kind : Int) = 1 := by simpa using g3
              refine aY (cs := [(false, [.bool])]) (false, ()) rfl rfl ⟨?_, rfl⟩;rw [decide_eq_false (by omega)];rfl
          · rintro ⟨b7, ⟨⟩⟩ h6' ⟨hb7, rfl⟩
            simp only at hb7;subst hb7;dsimp only [flat, az, ah, nA, cA]
            have refuse : ∀ (e : Nat), qP o (t :: r) = .error e → e ≠ 0 → ∀ (hx : Hp) (ts' : List Tok) (d' : Int) (e0 : Nat) (x : ey) (p' : Option Addr) (l' c' : Nat) (kk : Nat), Ch [A] h hx → Cl hx A a3 a4 a5 a6 → aO hx h.size 94 [.slice none 0 0, .int .u32 0] →
                aO hx h5.size 94 [.slice p' l' c', .int .u32 (x.num : Int)] → SL hx h.size 109 2 p' l' c' (x.au.map cV) → Good x → x.au.length ≤ ts.length → PB hx A ts' d' e0 → (if e0 = 0 then kk else e0) = e → ∀ (L : Lp) (K : Value → Hp → Prop), L[1]? = some (fun vs h' => ∃ y : qh (flat []), vs = parts [] (fp _ y) ∧ Ku h A h.size h5.size ts.length d (qP o (t :: r)) h') →
                (T.ae ⟨a3, 0, none⟩ [.pointer 261] fun (p23 : Option Addr) => T.call Tryz.prog 154 [.pointer p23, .int .i64 (kk : Int)] true [] (T.again 1 [])) L K hx := by
              intro e he he0 hx ts' d' e0 x p' l' c' kk kx clx b1x b21x sx gx lx pbx hkk L K hL;refine ad clx.b3 (some ⟨A, 0, none⟩, ()) rfl ?_;dsimp only [flat, az, ah, nA, cA];refine aB (kg pbx kk) ?_;rintro _ h7 ⟨rfl, k7, z7, pb7⟩;refine ⟨(), rfl, ?_⟩;dsimp only [flat, az, ah, nA, cA];refine aY (cs := []) () hL rfl ⟨Ch.trans kx k7 (fun j hj _ => hj), b1x.ai k7 (by simp; omega), x, p', l', c', ts', d', _, b21x.ai k7 (by simp; omega), sx.bf k7 (fun j hj => by have := (sx.bW hj).1; simp; omega), gx, pb7, ?_⟩;rw [he];exact ⟨hkk, he0, lx⟩
            have next : ∀ (x : ey), qP o (t :: r) = .ok (x, r) → Good x → ∀ (hx : Hp) (p' : Option Addr) (l' c' : Nat), Ch [A] h hx → Cl hx A a3 a4 a5 a6 → aO hx h.size 94 [.slice none 0 0, .int .u32 0] → aO hx h5.size 94 [.slice p' l' c', .int .u32 (x.num : Int)] →
                SL hx h.size 109 2 p' l' c' (x.au.map cV) → PB hx A (t :: r) d 0 → ∀ (L : Lp) (K : Value → Hp → Prop), L[1]? = some (fun vs h' => ∃ y : qh (flat []), vs = parts [] (fp _ y) ∧ Ku h A h.size h5.size ts.length d (qP o (t :: r)) h') →
                (T.ae ⟨a3, 0, none⟩ [.pointer 261] fun (p31 : Option Addr) => T.ae ⟨a3, 0, none⟩ [.pointer 261] fun (p32 : Option Addr) => T.av p32 fun (a33 : Addr) => T.ae a33 [.slice 178] fun (p34 : Option Addr) (l35 : Nat) (l36 : Nat) =>
                  T.aJ (((0 : Int) ≤ (1 : Int)) ∧ (((1 : Int) ≤ (l35 : Int)) ∧ ((l35 : Int) ≤ (l36 : Int)))) <| T.av p31 fun (a37 : Addr) => T.ap a37 [.slice (if (l36 = 1) then p34 else (Option.map (fun a => Addr.add a 4) p34)) ((Int.toNat (l35 : Int)) - 1) (l36 - 1)] <| T.again 1 []) L K hx := by
              intro x he gx hx p' l' c' kx clx b1x b21x sx pbx L K hL;obtain ⟨q, m, cq, bQ, vq, hq⟩ := pbx;have hm := vq.len;have hmc := vq.cap;simp only [List.length_cons] at hm;refine ad clx.b3 (some ⟨A, 0, none⟩, ()) rfl ?_;dsimp only [flat, az, ah, nA, cA];refine ad clx.b3 (some ⟨A, 0, none⟩, ()) rfl ?_;dsimp only [flat, az, ah, nA, cA];refine aj rfl (ad bQ ((q, m, cq), ()) rfl ?_);dsimp only [flat, az, ah, nA, cA];refine ay ⟨by omega, by omega, by omega⟩ (aj rfl ?_);refine an bQ rfl (by simp) ?_;intro h7 b7 k7 z7;refine aY (cs := []) () hL rfl ⟨Ch.trans kx k7 (fun j hj _ => hj), b1x.ai k7 (by simp; omega), x, p', l', c', r, d, 0, b21x.ai k7 (by simp; omega), sx.bf k7 (fun j hj => by have := (sx.bW hj).1; simp; omega), gx, ?_, ?_⟩
              · refine ⟨_, _, _, b7, ((vq.drop (k := 1) (by omega)).ai k7 ?_), ?_⟩
                · intro i hi hm
                  rw [lL] at hi;rw [List.mem_singleton] at hm;have := hq _ hi;omega
                · intro i hi
                  exact hq _ (by have := lL q cq 1 4; rw [← this]; exact hi)
              · rw [he]
                exact ⟨rfl, rfl, rfl, rfl⟩
            have fH : ∀ q, (if t.kind = 1 then if (fI t.text.data.toList).2.2 = true then (.error 20 : cP) else .ok (⟨[(t.text, 1)], 0⟩, r)
                else if t.kind = 2 then .ok (⟨[], t.num⟩, r)
                else if fC t 40 = true then match o with
                  | none => .error 21
                  | some f => match f r with
                    | .error e => .error e
                    | .ok (x, r') => match r' with
                      | [] => .error 20
                      | t' :: r'' => if fC t' 41 = true then .ok (x, r'') else .error 20
                else .error 20) = q → qP o (t :: r) = q := fun q hq => hq
            refine af (fun g3 => ?_) (fun g3 => ?_)
            · simp only [Bool.and_eq_true, decide_eq_true_eq] at g3
              exact refuse 20 (fH _ (by rw [if_pos g3.1, if_pos g3.2])) (by omega) h6 (t :: r) d 0 xa none 0 0 20 k06 cl6 b16 b6 (SL.nil _ _ _ _) Good.z (by simp [xa]) pb6 rfl _ _ rfl
            · simp only [Bool.and_eq_false_iff, decide_eq_false_iff_not] at g3
              refine ad bt6 ((t.kind : Int), ()) rfl ?_;dsimp only [flat, az, ah, nA, cA];refine af (fun g4 => ?_) (fun g4 => ?_)
              · have g4 : t.kind = 1 := by have : (t.kind : Int) = 1 := by simpa using g4
                                           omega
                have g5 : (fI t.text.data.toList).2.2 = false := by
                  rcases g3 with g3 | g3
                  · exact absurd g4 g3
                  · exact g3
                obtain ⟨hn0, hlg⟩ := wt.name g4;rw [g5] at hlg
                try rw [ao]
                refine ad bt6 (t.text, ()) rfl ?_;dsimp only [flat, az, ah, nA, cA];refine aB (Fv t.text h6) ?_;rintro _ h7 ⟨e7, p', l', c', rfl, s7⟩;refine ⟨((p', l', c'), (0 : Int), ()), rfl, ?_⟩;dsimp only [flat, az, ah, nA, cA];refine an (b6.ai e7 (by simp)) rfl (by simp) ?_;intro h8 b8 k8 z8;have b8 : aO h8 h5.size 94 [.slice p' l' c', .int .u32 0] := b8
                try rw [ao]
                refine ad b8 ((0 : Int), ()) rfl ?_;dsimp only [flat, az, ah, nA, cA]
                try rw [ao]
                refine ad ((bt6.ai e7 (by simp)).ai k8 (by simp; omega)) ((t.num : Int), ()) rfl ?_;dsimp only [flat, az, ah, nA, cA];refine an b8 rfl (by simp) ?_;intro h9 b9 k9 z9;have b9 : aO h9 h5.size 94 [.slice p' l' c', .int .u32 (IntKind.wrap .u32 (0 + (t.num : Int)))] := b9;rw [hn0] at b9;have k69 : Ch [h5.size] h6 h9 := Ch.trans (Ch.trans (e7.mono (by simp)) k8 (fun j hj _ => hj)) k9 (fun j hj _ => hj);have k79 : Ch [h5.size] h7 h9 := Ch.trans k8 k9 (fun j hj _ => hj);refine next ⟨[(t.text, 1)], 0⟩ (fH _ (by rw [if_pos g4, if_neg (by rw [g5]; simp)])) (vH hlg) h9 p' l' c' (Ch.trans k06 k69 (fun j hj hl => by simp at hj; omega)) (cl6.G2 k69 (by simp; omega)) (b16.ai k69 (by simp; omega)) b9 ?_ (pb6.ai k69 (by simp; omega)) _ _ rfl
                exact (s7.bf k79 (fun j hj => by have := (s7.bW hj).1; simp; omega)).mono (by omega)
              · have g4 : ¬ t.kind = 1 := by have : ¬ (t.kind : Int) = 1 := by simpa using g4
                                             omega
                refine ad bt6 ((t.kind : Int), ()) rfl ?_;dsimp only [flat, az, ah, nA, cA];refine af (fun g5 => ?_) (fun g5 => ?_)
                · have g5 : t.kind = 2 := by have : (t.kind : Int) = 2 := by simpa using g5
                                             omega
                  try rw [ao]
                  refine ad b6 ((0 : Int), ()) rfl ?_;dsimp only [flat, az, ah, nA, cA]
                  try rw [ao]
                  refine ad bt6 ((t.num : Int), ()) rfl ?_;dsimp only [flat, az, ah, nA, cA];refine an b6 rfl (by simp) ?_;intro h9 b9 k9 z9;have b9 : aO h9 h5.size 94 [.slice none 0 0, .int .u32 (IntKind.wrap .u32 (0 + (t.num : Int)))] := b9;rw [Int.zero_add, wrap_u32 (by omega) (by have := wt.num; omega)] at b9;exact next ⟨[], t.num⟩ (fH _ (by rw [if_neg g4, if_pos g5])) ⟨Nf.nil, by simp, wt.num⟩ h9 none 0 0 (Ch.trans k06 k9 (fun j hj hl => by simp at hj; omega)) (cl6.G2 k9 (by simp; omega)) (b16.ai k9 (by simp; omega)) b9 (SL.nil _ _ _ _) (pb6.ai k9 (by simp; omega)) _ _ rfl
                · have g5 : ¬ t.kind = 2 := by have : ¬ (t.kind : Int) = 2 := by simpa using g5
                                               omega
                  refine ad cl6.b3 (some ⟨A, 0, none⟩, ()) rfl ?_;dsimp only [flat, az, ah, nA, cA];refine aB (jh pb6 40) ?_;rintro _ h7 ⟨rfl, k7, z7, pb7⟩;refine ⟨(eN 0 (t :: r) 40, ()), rfl, ?_⟩;dsimp only [flat, az, ah, nA, cA];have k07 : Ch [A] h h7 := Ch.trans k06 k7 (fun j hj _ => hj);have cl7 := cl6.ai k7 (by simp);have b17 := b16.ai k7 (by simp; omega);have b217 := b6.ai k7 (by simp; omega);refine af (fun g6 => ?_) (fun g6 => ?_)
                  · rw [if_pos g6] at pb7
                    have g6 : fC t 40 = true := g6;have pb7 : PB h7 A r d 0 := pb7;obtain ⟨q, m, cq, bQ, vq, hq⟩ := pb7;refine ad cl7.b3 (some ⟨A, 0, none⟩, ()) rfl ?_;dsimp only [flat, az, ah, nA, cA];refine aj rfl ?_
                    try rw [ao]
                    refine ad bQ ((d : Int), ()) rfl ?_;dsimp only [flat, az, ah, nA, cA];refine aj rfl ?_
                    try rw [ao]
                    refine an bQ rfl (by simp) ?_;intro h8 b8 k8 z8;have b8 : aO h8 A 261 [.slice q m cq, .int .i64 (IntKind.wrap .i64 ((d : Int) + 1)), .int .i64 (0 : Int)] := b8;rw [wrap_small (by omega) (by omega)] at b8;have cl8 := cl7.ai k8 (by simp);have b18 := b17.ai k8 (by simp; omega);have b218 := b217.ai k8 (by simp; omega);have k08 : Ch [A] h h8 := Ch.trans k07 k8 (fun j hj _ => hj);have pb8 : PB h8 A r (d + 1 : Nat) 0 := ⟨q, m, cq, b8, vq.ai k8 (fun i hi hm => by rw [List.mem_singleton] at hm; have := hq _ hi; omega), hq⟩
                    refine ad cl8.b3 (some ⟨A, 0, none⟩, ()) rfl ?_;dsimp only [flat, az, ah, nA, cA];refine aj rfl ?_
                    try rw [ao]
                    refine ad b8 (((d : Int) + 1), ()) rfl ?_;dsimp only [flat, az, ah, nA, cA];refine af (fun g7 => ?_) (fun g7 => ?_)
                    · have g7 := of_decide_eq_true g7
                      cases o with
                      | some f => simp only at ho; omega
                      | none =>
                        exact refuse 21 (fH _ (by rw [if_neg g4, if_neg g5, if_pos g6])) (by omega) h8 r (d + 1 : Nat) 0 xa none 0 0 21 k08 cl8 b18 b218 (SL.nil _ _ _ _) Good.z (by simp [xa]) pb8 rfl _ _ rfl
                    · have g7 := of_decide_eq_false g7
                      cases o with
                      | none => simp only at ho; omega
                      | some f =>
                        simp only at ho;obtain ⟨hd', hs⟩ := ho;refine ad cl8.b4 (.func (.func 158) #[] #[ptr a6, ptr a3], ()) rfl ?_;dsimp only [flat, az, ah, nA, cA];have wr : Wf r := wus.tail;have hff := hfine f rfl r wr;have hrl : r.length + 1 ≤ ts.length := hus;refine jJ (cap := [ptr a6, ptr a3]) L5 rfl (hs h8 r cl8 pb8 wr (by omega)) ?_;rintro _ h9 ⟨k9, x, p', l', c', ts', d', e', rfl, s9, gx, pb9, post⟩;refine ⟨((p', l', c'), (x.num : Int), ()), rfl, ?_⟩;dsimp only [flat, az, ah, nA, cA];have cl9 := cl8.ai k9 (by simp);have b19 := b18.ai k9 (by simp; omega);have hz8 := k08.size;have hb218 := b218.lt;refine an (b218.ai k9 (by simp; omega)) rfl (by simp) ?_;intro h10 b10 k10 z10;have b10 : aO h10 h5.size 94 [.slice p' l' c', .int .u32 (x.num : Int)] := b10;have cl10 := cl9.G2 k10 (by simp; omega);have b110 := b19.ai k10 (by simp; omega);have pb10 := pb9.ai k10 (by simp; omega);have s10 : SL h10 h.size 109 2 p' l' c' (x.au.map cV) := (s9.bf k10 (fun j hj => by have := (s9.bW hj).1; simp; omega)).mono hz8;have k010 : Ch [A] h h10 := Ch.trans (Ch.trans k08 k9 (fun j hj _ => hj)) k10 (fun j hj hl => by simp at hj; omega);refine ad cl10.b3 (some ⟨A, 0, none⟩, ()) rfl ?_;dsimp only [flat, az, ah, nA, cA];obtain ⟨q2, m2, cq2, bQ2, vq2, hq2⟩ := pb10;refine aj rfl ?_
                        try rw [ao]
                        refine ad bQ2 (d', ()) rfl ?_;dsimp only [flat, az, ah, nA, cA];refine aj rfl ?_
                        try rw [ao]
                        refine an bQ2 rfl (by simp) ?_;intro h11 b11 k11 z11;have b11 : aO h11 A 261 [.slice q2 m2 cq2, .int .i64 (IntKind.wrap .i64 (d' - 1)), .int .i64 (e' : Int)] := b11;have pb11 : PB h11 A ts' (IntKind.wrap .i64 (d' - 1)) e' := ⟨q2, m2, cq2, b11, vq2.ai k11 (fun i hi hm => by rw [List.mem_singleton] at hm; have := hq2 _ hi; omega), hq2⟩
                        have cl11 := cl10.ai k11 (by simp);refine ad cl11.b3 (some ⟨A, 0, none⟩, ()) rfl ?_;dsimp only [flat, az, ah, nA, cA];refine aB (jh pb11 41) ?_;rintro _ h12 ⟨rfl, k12, z12, pb12⟩;refine ⟨(eN e' ts' 41, ()), rfl, ?_⟩;dsimp only [flat, az, ah, nA, cA];have k1012 : Ch [A] h10 h12 := Ch.trans k11 k12 (fun j hj _ => hj);have k012 : Ch [A] h h12 := Ch.trans k010 k1012 (fun j hj _ => hj);have cl12 := cl11.ai k12 (by simp);have b112 := b110.ai k1012 (by simp; omega);have b12' := b10.ai k1012 (by simp; omega);have s12 := s10.bf k1012 (fun j hj => by have := (s10.bW hj).1; simp; omega);refine af (fun g8 => ?_) (fun g8 => ?_)
                        · have g8 : eN e' ts' 41 = false := by simpa using g8
                          rw [if_neg (by rw [g8]; simp)] at pb12;revert post hff;cases hfr : f r with
                          | error e =>
                            rintro hff ⟨rfl, he0, hxl⟩;exact refuse e' (fH _ (by rw [if_neg g4, if_neg g5, if_pos g6]; simp only [hfr])) he0 h12 ts' _ e' x p' l' c' 20 k012 cl12 b112 b12' s12 gx (by omega) pb12 (by rw [if_neg he0]) _ _ rfl
                          | ok z =>
                            obtain ⟨y, r'⟩ := z;rintro ⟨_, _, _, hxl⟩ ⟨rfl, rfl, rfl, rfl⟩;refine refuse 20 (fH _ ?_) (by omega) h12 ts' _ 0 x p' l' c' 20 k012 cl12 b112 b12' s12 gx (by omega) pb12 rfl _ _ rfl;rw [if_neg g4, if_neg g5, if_pos g6];simp only [hfr];cases ts' with
                            | nil => rfl
                            | cons t' r'' =>
                              have g8 : fC t' 41 = false := g8;simp only;rw [if_neg (by rw [g8]; simp)]
                        · have g8 : eN e' ts' 41 = true := by simpa using g8
                          rw [if_pos g8] at pb12
                          have he0 : e' = 0 := by
                            unfold eN at g8;simp only [Bool.and_eq_true, decide_eq_true_eq] at g8;exact g8.1
                          revert post hff;cases hfr : f r with
                          | error e =>
                            rintro hff ⟨rfl, he, hxl⟩;exact absurd he0 he
                          | ok z =>
                            obtain ⟨y, r'⟩ := z;rintro ⟨_, _, _, hxl⟩ ⟨_, rfl, rfl, rfl⟩;subst he0;cases ts' with
                            | nil => cases g8
                            | cons t' r'' =>
                              have g8 : fC t' 41 = true := g8;refine aY (cs := []) () rfl rfl ⟨k012, b112, x, p', l', c', r'', _, 0, b12', s12, gx, pb12, ?_⟩;rw [fH (.ok (x, r'')) (by rw [if_neg g4, if_neg g5, if_pos g6]; simp only [hfr]; rw [if_pos g8])];refine ⟨rfl, rfl, rfl, ?_⟩;rw [wrap_small (by omega) (by omega)];omega
                  · rw [if_neg (by rw [g6]; simp)] at pb7
                    have g6 : fC t 40 = false := g6;exact refuse 20 (fH _ (by rw [if_neg g4, if_neg g5, if_neg (by rw [g6]; simp)])) (by omega) h7 (t :: r) d 0 xa none 0 0 20 k07 cl7 b17 b217 (SL.nil _ _ _ _) Good.z (by simp [xa]) pb7 rfl _ _ rfl
        · rintro ⟨⟩ h7 ⟨k7, b17, x, p', l', c', ts', d', e', b217, s7, gx, pb7, post⟩
          dsimp only [flat, az, ah, nA, cA]
          have hxl : x.au.length ≤ ts.length := by
            have hf := xQ hfine wus;revert post hf;cases qP o (t :: r) with
            | error e => exact fun hp hf => hp.2.2
            | ok q =>
              obtain ⟨y, r'⟩ := q;rintro ⟨_, rfl, _, _⟩ ⟨_, _, _, hl⟩;simp only [List.length_cons] at hl;omega
          refine ad b217 ((p', l', c'), (x.num : Int), ()) rfl ?_;dsimp only [flat, az, ah, nA, cA];refine aB (rb s7.H9 (by omega) gx.size (vJ b)) ?_;rintro _ h8 ⟨e8, q, m, cq, rfl, s8⟩;refine ⟨((q, m, cq), ((fg x (vJ b)).num : Int), ()), rfl, ?_⟩;dsimp only [flat, az, ah, nA, cA];refine an (b17.ai e8 (by simp)) rfl (by simp) ?_;intro h9 b9 k9 z9;have b9 : aO h9 h.size 94 [.slice q m cq, .int .u32 ((fg x (vJ b)).num : Int)] := b9;refine ad b9 ((q, m, cq), ((fg x (vJ b)).num : Int), ()) rfl ?_;have hz7 := k7.size;refine ⟨Ch.trans (Ch.trans k7 e8 (by simp)) k9 (fun j hj hl => by simp at hj; omega), fg x (vJ b), q, m, cq, ts', d', e', rfl, ?_, ?_, ?_, ?_⟩
          · exact (s8.bf k9 (fun j hj => by have := (s8.bW hj).1; have := b17.lt; simp; omega)).mono hz7
          · rw [AE gx]; exact gx.neg b
          · exact (pb7.ai e8 (by simp)).ai k9 (by simp; omega)
          · rw [hfs, AE gx]
            unfold xH;revert post;cases qP o (t :: r) with
            | error e => exact fun ⟨p1, p2, p3⟩ => ⟨p1, p2, Nat.le_trans (tE b x) p3⟩
            | ok q =>
              obtain ⟨y, r'⟩ := q;rintro ⟨p1, rfl, p3, p4⟩;exact ⟨p1, rfl, p3, p4⟩
def yG (h:Hp) (A A1 A7:Nat) (d:Int) (ts:List Tok) (q:cP) (rest:Nat→ey→List Tok→cP) (m:Nat) (h':Hp):Prop :=
 Ch [A] h h'∧aO h' A1 94 [.slice none 0 0,.int .u32 0]∧∃ x p l c ts' d' e',aO h' A7 94 [.slice p l c,.int .u32 (x.num:Int)]∧SL h' (A1+1) 109 2 p l c (x.au.map cV)∧Good x∧PB h' A ts' d' e' ∧
  ((e'=0∧d'=d∧∃ n,q=rest n x ts'∧ts'.length≤n∧ts' <:+ ts∧x.au.length+ts'.length≤ts.length∧m=n+1)∨(e'≠0∧q=.error e'∧x.au.length≤ts.length∧m=0))
theorem CT {fac:List Tok→cP} {n:Nat} {x:ey} {ts:List Tok} (h:eN 0 ts 42=false):ik fac n x ts=.ok (x,ts):=by
 cases n with
 | zero=>rfl
 | succ n =>
  cases ts with
  | nil=>rfl
  | cons t r =>
   have h:fC t 42=false:=h;unfold ik;simp only;rw [if_neg (by rw [h]; simp)]
def Gj (P:Program) (f:FuncId) (cap:List Value) (A a3 a4 a5 a6 d:Nat) (g:List Tok→cP):Prop :=
 ∀ h ts,Cl h A a3 a4 a5 a6→PB h A ts d 0→Wf ts→ts.length≤2^40→HC P f cap.toArray h (Ie h A ts.length d (g ts))
theorem K4:fO Tryz.prog 152=true:=by kernel_rfl
theorem Ko:fO Tryz.prog 157=true:=by kernel_rfl
theorem DT {d:Nat} {fac:List Tok→cP} (hfac:Gj Tryz.prog 152 [ptr a3,ptr a4] A a3 a4 a5 a6 d fac) (hfine:∀ ts,Wf ts→j4 ts (fac ts)) :
  Gj Tryz.prog 157 [ptr a5,ptr a3] A a3 a4 a5 a6 d (oI fac):=by
 intro h ts cl pb w hts;refine aK (args:=[ptr a5,ptr a3]) mixed Tryz.func157 (by kernel_rfl) (lZ ⟨a5,0,none⟩ ⟨a3,0,none⟩) ?_;unfold iM;have hA:=pb.lt;have hcl:=cl.lt;refine aX ?_;intro h1 b1 e1 z1;have cl1:=cl.ai e1 (by simp);refine ad cl1.b5 (.func (.func 152) #[] #[ptr a3,ptr a4],()) rfl ?_;dsimp only [flat,az,ah,nA,cA];refine jJ (cap:=[ptr a3,ptr a4]) K4 rfl (hfac h1 ts cl1 (pb.ai e1 (by simp)) w hts) ?_;rintro _ h2 ⟨k2,x,p,l,c,ts',d',e',rfl,s2,gx,pb2,post⟩;refine ⟨((p,l,c),(x.num:Int),()),rfl,?_⟩;dsimp only [flat,az,ah,nA,cA];refine aX ?_;intro h3 b3 e3 z3;refine an b3 rfl (by simp) ?_;intro h4 b4 k4 z4;have b4:aO h4 h2.size 94 [.slice p l c,.int .u32 (x.num:Int)]:=b4;have hz2:=k2.size;have e24:Ext h2 h4:=Ch.trans e3 k4 (fun j hj hl=>by simp at hj; omega);have k04:Ch [A] h h4:=Ch.trans (Ch.trans (e1.mono (by simp)) k2 (fun j hj _=>hj)) e24 (by simp);have b14:=(b1.ai k2 (by simp; omega)).ai e24 (by simp);have hrest:∀ h',Ch [A] h h'→Cl h' A a3 a4 a5 a6:=fun h' k=>cl.ai k (by simp)
 have hmid:∀ e0,e0∈[(0:Nat)]→True:=fun _ _=>trivial
 have start:∃ m,yG h A h.size h2.size d ts (oI fac ts) (ik fac) m h4:=by
  have hf:=hfine ts w;revert post hf;unfold oI;cases hfr:fac ts with
  | error e =>
   rintro ⟨he,he0,hxl⟩ _;exact ⟨0,k04,b14,x,p,l,c,ts',d',e',b4,(s2.bf e24 (by simp)).mono (by omega),gx,pb2.ai e24 (by simp),.inr ⟨by omega,by rw [he],hxl,rfl⟩⟩
  | ok z =>
   obtain ⟨y,r⟩:=z;rintro ⟨rfl,rfl,rfl,rfl⟩ ⟨_,hs,hl,hn⟩;exact ⟨_,k04,b14,x,p,l,c,ts',_,0,b4,(s2.bf e24 (by simp)).mono (by omega),gx,pb2.ai e24 (by simp),.inl ⟨rfl,rfl,ts'.length,rfl,Nat.le_refl _,hs,hn,rfl⟩⟩
 obtain ⟨m0,start⟩:=start;refine bh (cs:=[]) (fun y m h'=>yG h A h.size h2.size d ts (oI fac ts) (ik fac) m h') () m0 rfl start ?_;rintro ⟨⟩ m h5 ⟨k5,b15,x,p,l,c,ts',d',e',b5,s5,gx,pb5,cas⟩;dsimp only [flat,az,ah,nA,cA];have cl5:=hrest h5 k5;have hh2:h2.size<h5.size:=b5.lt;have hz5:=k5.size;refine ad cl5.b3 (some ⟨A,0,none⟩,()) rfl ?_;dsimp only [flat,az,ah,nA,cA];refine aB (jh pb5 42) ?_;rintro _ h6 ⟨rfl,k6,z6,pb6⟩;refine ⟨(eN e' ts' 42,()),rfl,?_⟩;dsimp only [flat,az,ah,nA,cA];have k06:Ch [A] h h6:=Ch.trans k5 k6 (fun j hj _=>hj);have cl6:=hrest h6 k06;have b16:=b15.ai k6 (by simp; omega);have b6:=b5.ai k6 (by simp; omega);have s6:=s5.bf k6 (fun j hj=>by have:=(s5.bW hj).1; simp; omega);refine af (fun g1=>?_) (fun g1=>?_)
 ·rw [if_pos g1] at pb6;have he0:e'=0:=by
   unfold eN at g1;simp only [Bool.and_eq_true,decide_eq_true_eq] at g1;exact g1.1
  rcases cas with ⟨_,rfl,n,hq,hn,hsuf,hxn,rfl⟩ | ⟨h0,_⟩
  case inr=>exact absurd he0 h0
  subst he0;cases ts' with
  | nil=>cases g1
  | cons t r =>
   have g1:fC t 42=true:=g1;simp only [List.length_cons] at hn hxn;obtain ⟨n',rfl⟩:∃ n',n=n'+1:=⟨n-1,by omega⟩
   have pb6:PB h6 A r d 0:=pb6;have wr:Wf r:=(w.suffix hsuf).tail;have hpl:oI fac ts=match fac r with
    | .error e=>.error e
    | .ok (y,r'')=>if x.au≠[]∧y.au≠[] then .error 21 else if y.au≠[] then ik fac n' (gI y x.num) r'' else ik fac n' (gI x y.num) r'':=by
    rw [hq];show (if fC t 42=true then _ else _)=_;rw [if_pos g1]
    all_goals (cases fac r <;> rfl)
   refine ad cl6.b5 (.func (.func 152) #[] #[ptr a3,ptr a4],()) rfl ?_;dsimp only [flat,az,ah,nA,cA];refine jJ (cap:=[ptr a3,ptr a4]) K4 rfl (hfac h6 r cl6 pb6 wr (by omega)) ?_;rintro _ h7 ⟨k7,y,p',l',c',ts',d',e',rfl,s7,gy,pb7,post⟩;refine ⟨((p',l',c'),(y.num:Int),()),rfl,?_⟩;dsimp only [flat,az,ah,nA,cA];have hz7:=k7.size;refine aX ?_;intro h8 b8 e8 z8;refine an b8 rfl (by simp) ?_;intro h9 b9 k9 z9;have b9:aO h9 h7.size 94 [.slice p' l' c',.int .u32 (y.num:Int)]:=b9;have e79:Ext h7 h9:=Ch.trans e8 k9 (fun j hj hl=>by simp at hj; omega);have k69:Ch [A] h6 h9:=Ch.trans k7 e79 (by simp);have k09:Ch [A] h h9:=Ch.trans k06 k69 (fun j hj _=>hj);have cl9:=hrest h9 k09;have pb9:=pb7.ai e79 (by simp);have b19:=b16.ai k69 (by simp; omega);have bx9:=b6.ai k69 (by simp; omega);have sx9:=s6.bf k69 (fun j hj=>by have:=(s6.bW hj).1; simp; omega);have sy9:=(s7.bf e79 (by simp)).mono (b':=h.size+1) (by omega);refine ad cl9.b3 (some ⟨A,0,none⟩,()) rfl ?_;dsimp only [flat,az,ah,nA,cA];obtain ⟨q,mq,cq,bQ,vq,hqq⟩:=pb9;have pb9:PB h9 A ts' d' e':=⟨q,mq,cq,bQ,vq,hqq⟩
   refine aj rfl ?_;rw [ao];refine ad bQ ((e':Int),()) rfl ?_;dsimp only [flat,az,ah,nA,cA];refine af (fun g2=>?_) (fun g2=>?_)
   ·have g2:¬ e'=0:=by simpa using g2
    refine aI (cs:=[]) () 0 rfl (by omega) rfl ⟨k09,b19,x,p,l,c,ts',d',e',bx9,sx9,gx,pb9,.inr ⟨g2,?_,by omega,rfl⟩⟩;rw [hpl];revert post;cases fac r with
    | error e=>rintro ⟨he,_,_⟩; rw [he]
    | ok z=>obtain ⟨_,_⟩:=z; rintro ⟨he,_,_,_⟩; exact absurd he g2
   ·have g2:e'=0:=by simpa using g2
    subst g2;have hff:=hfine r wr;revert post hff;cases hfr:fac r with
    | error e=>rintro ⟨rfl,he,_⟩ _; exact absurd rfl he
    | ok z =>
     obtain ⟨y',r''⟩:=z;rintro ⟨_,rfl,rfl,rfl⟩ ⟨_,hs2,hl2,hn2⟩;rw [hfr] at hpl;simp only at hpl;have hlx:l=x.au.length:=by rw [sx9.1,List.length_map]
     have hly:l'=y.au.length:=by rw [sy9.1,List.length_map]
     have hsuf2:ts' <:+ ts:=(hs2.trans (List.suffix_cons _ _)).trans hsuf;refine cD (cs:=[(false,[.bool])]) (fun z h'=>z.1=(decide (x.au≠[]) && decide (y.au≠[]))∧h9=h') ?_ ?_
     ·refine ad bx9 ((p,l,c),()) rfl ?_;dsimp only [flat,az,ah,nA,cA];refine af (fun g3=>?_) (fun g3=>?_)
      ·have g3:=of_decide_eq_true g3;refine ad b9 ((p',l',c'),()) rfl ?_;dsimp only [flat,az,ah,nA,cA];refine aY (cs:=[(false,[.bool])]) (decide ((l':Int)>0),()) rfl rfl ⟨?_,rfl⟩;have hx0:x.au≠[]:=fun hh=>by rw [hh] at hlx; simp at hlx; omega
       rw [decide_eq_true hx0,Bool.true_and];cases hy0:y.au with
       | nil=>rw [hy0] at hly; simp at hly; subst hly; rfl
       | cons a b =>
        rw [hy0] at hly;simp only [List.length_cons] at hly;show decide ((l':Int)>0)=decide (a::b≠[]);rw [decide_eq_true (by omega),decide_eq_true (by simp)]
      ·have g3:=of_decide_eq_false g3;refine aY (cs:=[(false,[.bool])]) (false,()) rfl rfl ⟨?_,rfl⟩;have hx0:x.au=[]:=List.length_eq_zero_iff.1 (by omega);rw [hx0];rfl
     ·rintro ⟨b10,⟨⟩⟩ h9' ⟨hb10,rfl⟩;simp only at hb10;subst hb10;dsimp only [flat,az,ah,nA,cA];refine af (fun g3=>?_) (fun g3=>?_)
      ·simp only [Bool.and_eq_true,decide_eq_true_eq] at g3;rw [if_pos g3] at hpl;refine ad cl9.b3 (some ⟨A,0,none⟩,()) rfl ?_;dsimp only [flat,az,ah,nA,cA];refine aB (kg pb9 21) ?_;rintro _ h10 ⟨rfl,k10,z10,pb10⟩;refine ⟨(),rfl,?_⟩;dsimp only [flat,az,ah,nA,cA];refine aI (cs:=[]) () 0 rfl (by omega) rfl ⟨Ch.trans k09 k10 (fun j hj _=>hj),b19.ai k10 (by simp; omega),x,p,l,c,ts',_,21,bx9.ai k10 (by simp; omega),sx9.bf k10 (fun j hj=>by have:=(sx9.bW hj).1; simp; omega),gx,pb10,.inr ⟨by omega,hpl,by omega,rfl⟩⟩
      ·rw [if_neg (by intro hh; rw [decide_eq_true hh.1,decide_eq_true hh.2] at g3; cases g3)] at hpl;refine ad b9 ((p',l',c'),()) rfl ?_;dsimp only [flat,az,ah,nA,cA];have hh9:=b9.lt;refine af (fun g4=>?_) (fun g4=>?_)
       ·have g4:=of_decide_eq_true g4;rw [if_pos (by intro hh; rw [hh] at hly; simp at hly; omega)] at hpl;refine ad b9 ((p',l',c'),(y.num:Int),()) rfl ?_;dsimp only [flat,az,ah,nA,cA];rw [ao];refine ad bx9 ((x.num:Int),()) rfl ?_;dsimp only [flat,az,ah,nA,cA];refine aB (rb sy9.H9 (by omega) gy.size x.num) ?_;rintro _ h10 ⟨e10,q',m',cq',rfl,s10⟩;rw [kh gy.nf] at s10 ⊢;refine ⟨((q',m',cq'),((gI y x.num).num:Int),()),rfl,?_⟩;dsimp only [flat,az,ah,nA,cA];refine an (bx9.ai e10 (by simp)) rfl (by simp) ?_;intro h11 b11 k11 z11;have b11:aO h11 h2.size 94 [.slice q' m' cq',.int .u32 ((gI y x.num).num:Int)]:=b11;have hz9:=k09.size;have hz69:=k69.size;have k911:Ch [h2.size] h9 h11:=Ch.trans (e10.mono (by simp)) k11 (fun j hj _=>hj);have htl:=dF x.num y.au;refine aI (cs:=[]) () (n'+1) rfl (by omega) rfl ⟨Ch.trans k09 k911 (fun j hj hl=>by simp at hj; omega),b19.ai k911 (by simp; omega),gI y x.num,q',m',cq',ts',_,0,b11,(s10.bf k11 (fun j hj=>by have:=(s10.bW hj).1; simp; omega)).mono (by omega),gy.T _,pb9.ai k911 (by simp; omega),
         .inl ⟨rfl,rfl,n',hpl,by omega,hsuf2,?_,rfl⟩⟩
        show (eD x.num y.au).length+ts'.length≤ts.length;omega
       ·have g4:=of_decide_eq_false g4;rw [if_neg (by intro hh; exact hh (List.length_eq_zero_iff.1 (by omega)))] at hpl;refine ad bx9 ((p,l,c),(x.num:Int),()) rfl ?_;dsimp only [flat,az,ah,nA,cA];rw [ao];refine ad b9 ((y.num:Int),()) rfl ?_;dsimp only [flat,az,ah,nA,cA];refine aB (rb sx9.H9 (by omega) gx.size y.num) ?_;rintro _ h10 ⟨e10,q',m',cq',rfl,s10⟩;rw [kh gx.nf] at s10 ⊢;refine ⟨((q',m',cq'),((gI x y.num).num:Int),()),rfl,?_⟩;dsimp only [flat,az,ah,nA,cA];refine an (bx9.ai e10 (by simp)) rfl (by simp) ?_;intro h11 b11 k11 z11;have b11:aO h11 h2.size 94 [.slice q' m' cq',.int .u32 ((gI x y.num).num:Int)]:=b11;have hz9:=k09.size;have hz69:=k69.size;have k911:Ch [h2.size] h9 h11:=Ch.trans (e10.mono (by simp)) k11 (fun j hj _=>hj);have htl:=dF y.num x.au;refine aI (cs:=[]) () (n'+1) rfl (by omega) rfl ⟨Ch.trans k09 k911 (fun j hj hl=>by simp at hj; omega),b19.ai k911 (by simp; omega),gI x y.num,q',m',cq',ts',_,0,b11,(s10.bf k11 (fun j hj=>by have:=(s10.bW hj).1; simp; omega)).mono (by omega),gx.T _,pb9.ai k911 (by simp; omega),
         .inl ⟨rfl,rfl,n',hpl,by omega,hsuf2,?_,rfl⟩⟩
        show (eD y.num x.au).length+ts'.length≤ts.length;omega
 ·rw [if_neg (by rw [g1]; simp)] at pb6;refine ad b6 ((p,l,c),(x.num:Int),()) rfl ?_;dsimp only [flat,az,ah,nA,cA];refine an b16 rfl (by simp) ?_;intro h7 b7 k7 z7;have b7:aO h7 h.size 94 [.slice p l c,.int .u32 (x.num:Int)]:=b7;refine ad b7 ((p,l,c),(x.num:Int),()) rfl ?_;refine ⟨Ch.trans k06 k7 (fun j hj hl=>by simp at hj; omega),x,p,l,c,ts',d',e',rfl,?_,gx,pb6.ai k7 (by simp; omega),?_⟩
  ·exact (s6.bf k7 (fun j hj=>by have:=(s6.bW hj).1; simp; omega)).mono (by omega)
  ·rcases cas with ⟨rfl,rfl,n,hq,hn,hsuf,hxn,rfl⟩ | ⟨h0,hq,hxl,rfl⟩
   ·rw [hq,CT g1];exact ⟨rfl,rfl,rfl,rfl⟩
   ·rw [hq];exact ⟨rfl,h0,hxl⟩
theorem Ep {part:List Tok→cP} {n:Nat} {x:ey} {ts:List Tok} (h:eN 0 ts 43=false) (k:eN 0 ts 45=false):kC part n x ts=.ok (x,ts):=by
 cases n with
 | zero=>rfl
 | succ n =>
  cases ts with
  | nil=>rfl
  | cons t r =>
   have h:fC t 43=false:=h;have k:fC t 45=false:=k;unfold kC;simp only;rw [if_neg (by rw [h]; simp),if_neg (by rw [k]; simp)]
theorem F9 {d:Nat} {part:List Tok→cP} (hpart:Gj Tryz.prog 157 [ptr a5,ptr a3] A a3 a4 a5 a6 d part) (hfine:∀ ts,Wf ts→j4 ts (part ts)) :
  Gj Tryz.prog 158 [ptr a6,ptr a3] A a3 a4 a5 a6 d (kF part):=by
 intro h ts cl pb w hts;refine aK (args:=[ptr a6,ptr a3]) mixed Tryz.func158 (by kernel_rfl) (mV ⟨a6,0,none⟩ ⟨a3,0,none⟩) ?_;unfold jl;have hA:=pb.lt;have hcl:=cl.lt;refine aX ?_;intro h1 b1 e1 z1;have cl1:=cl.ai e1 (by simp);refine ad cl1.b6 (.func (.func 157) #[] #[ptr a5,ptr a3],()) rfl ?_;dsimp only [flat,az,ah,nA,cA];refine jJ (cap:=[ptr a5,ptr a3]) Ko rfl (hpart h1 ts cl1 (pb.ai e1 (by simp)) w hts) ?_;rintro _ h2 ⟨k2,x,p,l,c,ts',d',e',rfl,s2,gx,pb2,post⟩;refine ⟨((p,l,c),(x.num:Int),()),rfl,?_⟩;dsimp only [flat,az,ah,nA,cA];refine aX ?_;intro h3 b3 e3 z3;refine an b3 rfl (by simp) ?_;intro h4 b4 k4 z4;have b4:aO h4 h2.size 94 [.slice p l c,.int .u32 (x.num:Int)]:=b4;have hz2:=k2.size;have e24:Ext h2 h4:=Ch.trans e3 k4 (fun j hj hl=>by simp at hj; omega);have k04:Ch [A] h h4:=Ch.trans (Ch.trans (e1.mono (by simp)) k2 (fun j hj _=>hj)) e24 (by simp);have b14:=(b1.ai k2 (by simp; omega)).ai e24 (by simp);have hrest:∀ h',Ch [A] h h'→Cl h' A a3 a4 a5 a6:=fun h' k=>cl.ai k (by simp)
 have start:∃ m,yG h A h.size h2.size d ts (kF part ts) (kC part) m h4:=by
  have hf:=hfine ts w;revert post hf;unfold kF;cases hfr:part ts with
  | error e =>
   rintro ⟨he,he0,hxl⟩ _;exact ⟨0,k04,b14,x,p,l,c,ts',d',e',b4,(s2.bf e24 (by simp)).mono (by omega),gx,pb2.ai e24 (by simp),.inr ⟨by omega,by rw [he],hxl,rfl⟩⟩
  | ok z =>
   obtain ⟨y,r⟩:=z;rintro ⟨rfl,rfl,rfl,rfl⟩ ⟨_,hs,hl,hn⟩;exact ⟨_,k04,b14,x,p,l,c,ts',_,0,b4,(s2.bf e24 (by simp)).mono (by omega),gx,pb2.ai e24 (by simp),.inl ⟨rfl,rfl,ts'.length,rfl,Nat.le_refl _,hs,hn,rfl⟩⟩
 obtain ⟨m0,start⟩:=start;refine bh (cs:=[]) (fun y m h'=>yG h A h.size h2.size d ts (kF part ts) (kC part) m h') () m0 rfl start ?_;rintro ⟨⟩ m h5 ⟨k5,b15,x,p,l,c,ts',d',e',b5,s5,gx,pb5,cas⟩;dsimp only [flat,az,ah,nA,cA];have cl5:=hrest h5 k5;have hh2:h2.size<h5.size:=b5.lt;have hz5:=k5.size
 have out:∀ hx,Ch [A] h5 hx→PB hx A ts' d' e'→Am ts.length d x ts' d' e' (kF part ts)→∀ L,(T.ae ⟨h2.size,0,none⟩ [.slice 109,.int .u32] fun (p15:Option Addr) (l16:Nat) (l17:Nat) (n18:Int) =>
   T.ap ⟨h.size,0,none⟩ [.slice p15 l16 l17,.int .u32 n18] <| T.ae ⟨h.size,0,none⟩ [.slice 109,.int .u32] <| fun (p19:Option Addr) (l20:Nat) (l21:Nat) (n22:Int)=>T.ret (.agg #[.slice p19 l20 l21,.int .u32 n22])) L (Ie h A ts.length d (kF part ts)) hx:=by
  intro hx kx pbx post L;have hzx:=kx.size;refine ad (b5.ai kx (by simp; omega)) ((p,l,c),(x.num:Int),()) rfl ?_;dsimp only [flat,az,ah,nA,cA];refine an (b15.ai kx (by simp; omega)) rfl (by simp) ?_;intro h7 b7 k7 z7;have b7:aO h7 h.size 94 [.slice p l c,.int .u32 (x.num:Int)]:=b7;refine ad b7 ((p,l,c),(x.num:Int),()) rfl ?_;have sx:=s5.bf kx (fun j hj=>by have:=(s5.bW hj).1; simp; omega);refine ⟨Ch.trans (Ch.trans k5 kx (fun j hj _=>hj)) k7 (fun j hj hl=>by simp at hj; omega),x,p,l,c,ts',d',e',rfl,(sx.bf k7 (fun j hj=>by have:=(sx.bW hj).1; simp; omega)).mono (by omega),gx,pbx.ai k7 (by simp; omega),post⟩
 refine ad cl5.b3 (some ⟨A,0,none⟩,()) rfl ?_;dsimp only [flat,az,ah,nA,cA];obtain ⟨q,mq,cq,bQ,vq,hqq⟩:=pb5;have pb5:PB h5 A ts' d' e':=⟨q,mq,cq,bQ,vq,hqq⟩
 refine aj rfl ?_;rw [ao];refine ad bQ ((e':Int),()) rfl ?_;dsimp only [flat,az,ah,nA,cA];refine af (fun g0=>?_) (fun g0=>?_)
 case refine_2 =>
  have g0:¬ e'=0:=by simpa using g0
  rcases cas with ⟨h0,_⟩ | ⟨_,hq,hxl,rfl⟩
  ·exact absurd h0 g0
  ·exact out h5 (Ch.refl _ _) pb5 (by rw [hq]; exact ⟨rfl,g0,hxl⟩) _
 have g0:e'=0:=by simpa using g0
 rcases cas with ⟨_,rfl,n,hq,hn,hsuf,hxn,rfl⟩ | ⟨h0,_⟩
 case inr=>exact absurd g0 h0
 subst g0;refine ad cl5.b3 (some ⟨A,0,none⟩,()) rfl ?_;dsimp only [flat,az,ah,nA,cA];refine aB (jh pb5 43) ?_;rintro _ h6 ⟨rfl,k6,z6,pb6⟩;refine ⟨(eN 0 ts' 43,()),rfl,?_⟩;dsimp only [flat,az,ah,nA,cA];refine af (fun g1=>?_) (fun g1=>?_)
 ·rw [if_pos g1] at pb6;have k06:Ch [A] h h6:=Ch.trans k5 k6 (fun j hj _=>hj);have cl6:=hrest h6 k06;have b16:=b15.ai k6 (by simp; omega);have b6:=b5.ai k6 (by simp; omega);have s6:=s5.bf k6 (fun j hj=>by have:=(s5.bW hj).1; simp; omega);cases ts' with
  | nil=>cases g1
  | cons t r =>
   have g1:fC t 43=true:=g1;simp only [List.length_cons] at hn hxn;obtain ⟨n',rfl⟩:∃ n',n=n'+1:=⟨n-1,by omega⟩
   have pb6:PB h6 A r d 0:=pb6;have wr:Wf r:=(w.suffix hsuf).tail;have hpl:kF part ts=match part r with
    | .error e=>.error e
    | .ok (y,r'')=>kC part n' (iE x y) r'':=by
    rw [hq];show (if fC t 43=true then _ else _)=_;rw [if_pos g1]
    all_goals (cases part r <;> rfl)
   refine ad b6 ((p,l,c),(x.num:Int),()) rfl ?_;dsimp only [flat,az,ah,nA,cA];refine ad cl6.b6 (.func (.func 157) #[] #[ptr a5,ptr a3],()) rfl ?_;dsimp only [flat,az,ah,nA,cA];refine jJ (cap:=[ptr a5,ptr a3]) Ko rfl (hpart h6 r cl6 pb6 wr (by omega)) ?_;rintro _ h7 ⟨k7,y,p',l',c',ts',d',e',rfl,s7,gy,pb7,post⟩;refine ⟨((p',l',c'),(y.num:Int),()),rfl,?_⟩;dsimp only [flat,az,ah,nA,cA];have hz7:=k7.size;have k07:Ch [A] h h7:=Ch.trans k06 k7 (fun j hj _=>hj);have cl7:=hrest h7 k07;have b17:=b16.ai k7 (by simp; omega);have bx7:=b6.ai k7 (by simp; omega);have sx7:=s6.bf k7 (fun j hj=>by have:=(s6.bW hj).1; simp; omega);have hyl:y.au.length≤r.length:=by
    have hff:=hfine r wr;revert post hff;cases part r with
    | error e=>rintro ⟨_,_,hl⟩ _; exact hl
    | ok z =>
     obtain ⟨y',r''⟩:=z;rintro ⟨_,rfl,_,_⟩ ⟨_,_,_,hl⟩;omega
   refine ⟨⟨bx7.cells _ rfl,trivial⟩,?_⟩;refine aB (GJ sx7.H9 s7.H9 sx7.JF s7.JF (by omega) gx.size gy.size) ?_;rintro _ h10 ⟨e10,q',m',cq',rfl,s10⟩;rw [xN gx.nf gy.nf] at s10 ⊢;refine ⟨((q',m',cq'),((iE x y).num:Int),()),rfl,?_⟩;dsimp only [flat,az,ah,nA,cA];refine ⟨⟨(cl7.ai e10 (by simp)).b6.cells _ rfl,trivial⟩,?_⟩;have hb7:=bx7.lt;have hz07:=k07.size;refine an (bx7.ai e10 (by simp)) rfl (by simp) ?_;intro h11 b11 k11 z11;have b11:aO h11 h2.size 94 [.slice q' m' cq',.int .u32 ((iE x y).num:Int)]:=b11;have k711:Ch [h2.size] h7 h11:=Ch.trans (e10.mono (by simp)) k11 (fun j hj _=>hj);have hal:=kb x.au y.au;have hall:(iE x y).au.length≤x.au.length+y.au.length:=hal
   have mk:∀ m,((e'=0∧d'=d∧∃ n,kF part ts=kC part n (iE x y) ts'∧ts'.length≤n∧ts' <:+ ts∧(iE x y).au.length+ts'.length≤ts.length∧m=n+1)∨(e'≠0∧kF part ts=.error e'∧(iE x y).au.length≤ts.length∧m=0)) →
     yG h A h.size h2.size d ts (kF part ts) (kC part) m h11:=fun m hc =>
    ⟨Ch.trans k07 k711 (fun j hj hl=>by simp at hj; omega),b17.ai k711 (by simp; omega),iE x y,q',m',cq',ts',d',e',b11,(s10.bf k11 (fun j hj=>by have:=(s10.bW hj).1; simp; omega)).mono (by omega),gx.A gy,pb7.ai k711 (by simp; omega),hc⟩
   have hff:=hfine r wr;revert post hff;cases hfr:part r with
   | error e =>
    rintro ⟨he,he0,_⟩ _;refine aI (cs:=[]) () 0 rfl (by omega) rfl (mk 0 (.inr ⟨by omega,?_,by omega,rfl⟩));rw [hpl,hfr,he]
   | ok z =>
    obtain ⟨y',r''⟩:=z;rintro ⟨he,rfl,rfl,hd'⟩ ⟨_,hs2,hl2,hn2⟩;rw [hfr] at hpl;exact aI (cs:=[]) () (n'+1) rfl (by omega) rfl (mk _ (.inl ⟨he,hd',n',hpl,by omega,(hs2.trans (List.suffix_cons _ _)).trans hsuf,by omega,rfl⟩))
 ·rw [if_neg (by rw [g1]; simp)] at pb6;have k06:Ch [A] h h6:=Ch.trans k5 k6 (fun j hj _=>hj);have cl6:=hrest h6 k06;refine ad cl6.b3 (some ⟨A,0,none⟩,()) rfl ?_;dsimp only [flat,az,ah,nA,cA];refine aB (jh pb6 45) ?_;rintro _ h6' ⟨rfl,k6',z6',pb6'⟩;refine ⟨(eN 0 ts' 45,()),rfl,?_⟩;dsimp only [flat,az,ah,nA,cA];have k56:Ch [A] h5 h6':=Ch.trans k6 k6' (fun j hj _=>hj);refine af (fun g2=>?_) (fun g2=>?_)
  ·rw [if_pos g2] at pb6';have k06':Ch [A] h h6':=Ch.trans k5 k56 (fun j hj _=>hj);have cl6':=hrest h6' k06';have b16:=b15.ai k56 (by simp; omega);have b6:=b5.ai k56 (by simp; omega);have s6:=s5.bf k56 (fun j hj=>by have:=(s5.bW hj).1; simp; omega);cases ts' with
   | nil=>cases g2
   | cons t r =>
    have g1:fC t 43=false:=g1;have g2:fC t 45=true:=g2;simp only [List.length_cons] at hn hxn;obtain ⟨n',rfl⟩:∃ n',n=n'+1:=⟨n-1,by omega⟩
    have pb6':PB h6' A r d 0:=pb6';have wr:Wf r:=(w.suffix hsuf).tail;have hpl:kF part ts=match part r with
     | .error e=>.error e
     | .ok (y,r'')=>kC part n' (iE x (gI y 4294967295)) r'':=by
     rw [hq];show (if fC t 43=true then _ else if fC t 45=true then _ else _)=_;rw [if_neg (by rw [g1]; simp),if_pos g2]
     all_goals (cases part r <;> rfl)
    refine ad b6 ((p,l,c),(x.num:Int),()) rfl ?_;dsimp only [flat,az,ah,nA,cA];refine ad cl6'.b6 (.func (.func 157) #[] #[ptr a5,ptr a3],()) rfl ?_;dsimp only [flat,az,ah,nA,cA];refine jJ (cap:=[ptr a5,ptr a3]) Ko rfl (hpart h6' r cl6' pb6' wr (by omega)) ?_;rintro _ h7 ⟨k7,y,p',l',c',ts',d',e',rfl,s7,gy,pb7,post⟩;refine ⟨((p',l',c'),(y.num:Int),()),rfl,?_⟩;dsimp only [flat,az,ah,nA,cA];have hz7:=k7.size;have k07:Ch [A] h h7:=Ch.trans k06' k7 (fun j hj _=>hj);have cl7:=hrest h7 k07;have b17:=b16.ai k7 (by simp; omega);have bx7:=b6.ai k7 (by simp; omega);have sx7:=s6.bf k7 (fun j hj=>by have:=(s6.bW hj).1; simp; omega);have hyl:y.au.length≤r.length:=by
     have hff:=hfine r wr;revert post hff;cases part r with
     | error e=>rintro ⟨_,_,hl⟩ _; exact hl
     | ok z =>
      obtain ⟨y',r''⟩:=z;rintro ⟨_,rfl,_,_⟩ ⟨_,_,_,hl⟩;omega
    refine ⟨⟨bx7.cells _ rfl,trivial⟩,?_⟩;refine aB (rb s7.H9 (by omega) gy.size 4294967295) ?_;rintro _ h8 ⟨e8,q8,m8,c8,rfl,s8⟩;rw [kh gy.nf] at s8 ⊢;refine ⟨((q8,m8,c8),((gI y 4294967295).num:Int),()),rfl,?_⟩;dsimp only [flat,az,ah,nA,cA];have gt:=gy.T 4294967295;have htl:(gI y 4294967295).au.length≤y.au.length:=dF _ _;generalize hy2:gI y 4294967295=y2 at s8 gt htl ⊢;have hz8:=e8.size;have bx8:=bx7.ai e8 (by simp);have sx8:=sx7.bf e8 (by simp);refine ⟨⟨(cl7.ai e8 (by simp)).b6.cells _ rfl,bx8.cells _ rfl,trivial⟩,?_⟩;refine aB (GJ sx8.H9 s8.H9 sx8.JF s8.JF (by omega) gx.size gt.size) ?_;rintro _ h10 ⟨e10,q',m',cq',rfl,s10⟩;rw [xN gx.nf gt.nf] at s10 ⊢;refine ⟨((q',m',cq'),((iE x y2).num:Int),()),rfl,?_⟩;dsimp only [flat,az,ah,nA,cA];refine ⟨⟨((cl7.ai e8 (by simp)).ai e10 (by simp)).b6.cells _ rfl,trivial⟩,?_⟩;have hb7:=bx7.lt;have hz07:=k07.size;refine an (bx8.ai e10 (by simp)) rfl (by simp) ?_;intro h11 b11 k11 z11;have b11:aO h11 h2.size 94 [.slice q' m' cq',.int .u32 ((iE x y2).num:Int)]:=b11;have k711:Ch [h2.size] h7 h11:=Ch.trans ((e8.trans e10).mono (by simp)) k11 (fun j hj _=>hj);have hall:(iE x y2).au.length≤x.au.length+y2.au.length:=kb x.au y2.au
    have mk:∀ m,((e'=0∧d'=d∧∃ n,kF part ts=kC part n (iE x y2) ts'∧ts'.length≤n∧ts' <:+ ts∧(iE x y2).au.length+ts'.length≤ts.length∧m=n+1)∨(e'≠0∧kF part ts=.error e'∧(iE x y2).au.length≤ts.length∧m=0)) →
      yG h A h.size h2.size d ts (kF part ts) (kC part) m h11:=fun m hc =>
     ⟨Ch.trans k07 k711 (fun j hj hl=>by simp at hj; omega),b17.ai k711 (by simp; omega),iE x y2,q',m',cq',ts',d',e',b11,(s10.bf k11 (fun j hj=>by have:=(s10.bW hj).1; simp; omega)).mono (by omega),gx.A gt,pb7.ai k711 (by simp; omega),hc⟩
    have hff:=hfine r wr;revert post hff;cases hfr:part r with
    | error e =>
     rintro ⟨he,he0,_⟩ _;refine aI (cs:=[]) () 0 rfl (by omega) rfl (mk 0 (.inr ⟨by omega,?_,by omega,rfl⟩));rw [hpl,hfr,he]
    | ok z =>
     obtain ⟨y',r''⟩:=z;rintro ⟨he,rfl,rfl,hd'⟩ ⟨_,hs2,hl2,hn2⟩;rw [hfr] at hpl;simp only at hpl;rw [hy2] at hpl;exact aI (cs:=[]) () (n'+1) rfl (by omega) rfl (mk _ (.inl ⟨he,hd',n',hpl,by omega,(hs2.trans (List.suffix_cons _ _)).trans hsuf,by omega,rfl⟩))
  ·rw [if_neg (by rw [g2]; simp)] at pb6';refine out h6' k56 pb6' ?_ _;rw [hq,Ep g1 g2];exact ⟨rfl,rfl,rfl,rfl⟩
theorem IH (A a3 a4 a5 a6:Nat):∀ k d:Nat,d+k=32→Gj Tryz.prog 158 [ptr a6,ptr a3] A a3 a4 a5 a6 d (oQ k):=by
 intro k
 induction k with
 | zero =>
  intro d hd;refine F9 (DT (fac:=Bh none) ?_ (jf (by intro f hf; cases hf))) (lQ (jf (by intro f hf; cases hf)));intro h ts cl pb w hts;exact Hr (o:=none) (by omega) (by show d=32; omega) (by intro f hf; cases hf) cl pb w hts
 | succ k ih =>
  intro d hd;have hfine:∀ f,some (oQ k)=some f→∀ ts,Wf ts→j4 ts (f ts):=by
   intro f hf;cases hf;exact lM k
  refine F9 (DT (fac:=Bh (some (oQ k))) ?_ (jf hfine)) (lQ (jf hfine));intro h ts cl pb w hts;exact Hr (o:=some (oQ k)) (by omega) ⟨by omega,fun h ts c p w l=>ih (d+1) (by omega) h ts c p w l⟩ hfine cl pb w hts
def Cn (h:Hp) (res:Except Nat ey) (v:Value) (h':Hp):Prop :=
 Ext h h'∧match res with
 | .error e=>v=.tuple #[.agg #[.slice none 0 0,.int .u32 0],.int .i64 (e:Int)]
 | .ok x=>∃ p l c,v=.tuple #[qQ p l c x,.int .i64 0]∧SL h' h.size 109 2 p l c (x.au.map cV)∧Good x
theorem jq {h:Hp} {p:Option Addr} {l c:Nat} {ts:List Tok} (v:Vw h p l c ts) (hp:∀ i,i∈aC p→i<h.size) (w:Wf ts) (hts:ts.length≤2^40) :
  HC Tryz.prog 130 #[.slice p l c] h (Cn h (bV ts)):=by
 refine aK (args:=[.slice p l c]) mixed Tryz.func130 (by kernel_rfl) (uD p l c) ?_;unfold rM;refine aX ?_;intro h1 b1 e1 z1;refine aX ?_;intro h2 b2 e2 z2;refine aX ?_;intro h3 b3 e3 z3;refine an b3 rfl (by simp) ?_;intro h4 b4 k4 z4;have b4:aO h4 h2.size 259 [ptr h1.size]:=b4;refine aX ?_;intro h5 b5 e5 z5;refine aX ?_;intro h6 b6 e6 z6;refine an b6 rfl (by simp) ?_;intro h7 b7 k7 z7;have b7:aO h7 h5.size 262 [.func (.func 152) #[] #[ptr h2.size,ptr h4.size]]:=b7;refine aX ?_;intro h8 b8 e8 z8;refine an b8 rfl (by simp) ?_;intro h9 b9 k9 z9;have b9:aO h9 h7.size 262 [.func (.func 157) #[] #[ptr h5.size,ptr h2.size]]:=b9;have e23:Ext h2 h4:=Ch.trans e3 k4 (fun j hj hl=>by simp at hj; omega);have e57:Ext h4 h7:=Ch.trans (e5.trans e6) k7 (fun j hj hl=>by simp at hj; omega);have e79:Ext h7 h9:=Ch.trans e8 k9 (fun j hj hl=>by simp at hj; omega);have b5':aO h7 h4.size 262 [.nilFunc]:=(b5.ai e6 (by simp)).ai k7 (by simp; omega);refine an (b5'.ai e79 (by simp)) rfl (by simp) ?_;intro h10 b10 k10 z10;have b10:aO h10 h4.size 262 [.func (.func 158) #[] #[ptr h7.size,ptr h2.size]]:=b10;have e49:Ext h4 h9:=e57.trans e79;have k210:Ch [] h2 h10:=Ch.trans (e23.trans e49) k10 (fun j hj hl=>by simp at hj; omega);have e010:Ext h h10:=(e1.trans e2).trans k210;have cl:Cl h10 h1.size h2.size h4.size h5.size h7.size:=⟨(b4.ai e49 (by simp)).ai k10 (by simp; omega),b10,((b7.ai e79 (by simp))).ai k10 (by simp; omega),b9.ai k10 (by simp; omega),by omega,by omega,by omega,by omega⟩
 have pb:PB h10 h1.size ts ((0:Nat):Int) 0:=⟨p,l,c,b2.ai k210 (by simp),v.ai e010 (by simp),fun i hi=>by have:=hp i hi; omega⟩
 have br:=(b1.ai e2 (by simp)).ai k210 (by simp);refine ad cl.b4 (.func (.func 158) #[] #[ptr h7.size,ptr h2.size],()) rfl ?_;dsimp only [flat,az,ah,nA,cA];refine jJ (cap:=[ptr h7.size,ptr h2.size]) L5 rfl (IH h1.size h2.size h4.size h5.size h7.size 32 0 rfl h10 ts cl pb w hts) ?_;rintro _ h11 ⟨k11,x,p',l',c',ts',d',e',rfl,s11,gx,pb11,post⟩;refine ⟨((p',l',c'),(x.num:Int),()),rfl,?_⟩;dsimp only [flat,az,ah,nA,cA];have hz11:=k11.size;have hz10:=e010.size;refine aX ?_;intro h12 b12 e12 z12;refine an b12 rfl (by simp) ?_;intro h13 b13 k13 z13;have b13:aO h13 h11.size 94 [.slice p' l' c',.int .u32 (x.num:Int)]:=b13;have e1113:Ext h11 h13:=Ch.trans e12 k13 (fun j hj hl=>by simp at hj; omega);have k1013:Ch [h1.size] h10 h13:=Ch.trans k11 e1113 (by simp);have cl13:=cl.ai k1013 (by simp);have pb13:=pb11.ai e1113 (by simp);have br13:=br.ai k1013 (by simp; omega);have e013:Ext h h13:=Ch.trans e010 k1013 (fun j hj hl=>by simp at hj; omega);have s13:=s11.bf e1113 (by simp);refine ad cl13.b3 (some ⟨h1.size,0,none⟩,()) rfl ?_;dsimp only [flat,az,ah,nA,cA]
 have tail:∀ (hx:Hp) (e0:Nat) (ts'':List Tok),Ch [h1.size] h13 hx→PB hx h1.size ts'' d' e0→(e0≠0→bV ts=.error e0)→(e0=0→bV ts=.ok x)→∀ L,(T.ae ⟨h2.size,0,none⟩ [.pointer 261] fun (p18:Option Addr) =>
   T.av p18 <| fun (a19:Addr) =>
   T.ae (a19.add 2) [.int .i64] <| fun (n20:Int) =>
   cond (n20 != (0:Int))
    (T.ae ⟨h2.size,0,none⟩ [.pointer 261] <| fun (p21:Option Addr) =>
    T.av p21 <| fun (a22:Addr) =>
    T.ae (a22.add 2) [.int .i64] <| fun (n23:Int) =>
    T.ap ⟨h.size,0,none⟩ [.slice none 0 0,.int .u32 (0:Int)] <|
    T.aM [((a22.add 2),[.int .i64 n23]),(⟨h2.size,0,none⟩,[.pointer p21])] <|
    T.ae ⟨h.size,0,none⟩ [.slice 109,.int .u32] <| fun (p24:Option Addr) (l25:Nat) (l26:Nat) (n27:Int) =>
    T.ret (.tuple #[.agg #[.slice p24 l25 l26,.int .u32 n27],.int .i64 n23]))
    (T.ae ⟨h11.size,0,none⟩ [.slice 109,.int .u32] <| fun (p21:Option Addr) (l22:Nat) (l23:Nat) (n24:Int) =>
    T.ap ⟨h.size,0,none⟩ [.slice p21 l22 l23,.int .u32 n24] <|
    T.ae ⟨h.size,0,none⟩ [.slice 109,.int .u32] <| fun (p25:Option Addr) (l26:Nat) (l27:Nat) (n28:Int) =>
    T.ret (.tuple #[.agg #[.slice p25 l26 l27,.int .u32 n28],.int .i64 (0:Int)]))) L (Cn h (bV ts)) hx:=by
  intro hx e0 ts'' kx pbx hp1 hp2 L;have clx:=cl13.ai kx (by simp);have brx:=br13.ai kx (by simp; omega);have hzx:=kx.size;have e0x:Ext h hx:=Ch.trans e013 kx (fun j hj hl=>by simp at hj; omega);obtain ⟨q,m,cq,bQ,vq,hq⟩:=pbx;refine ad clx.b3 (some ⟨h1.size,0,none⟩,()) rfl ?_;dsimp only [flat,az,ah,nA,cA];refine aj rfl ?_;rw [ao];refine ad bQ ((e0:Int),()) rfl ?_;dsimp only [flat,az,ah,nA,cA];refine af (fun g=>?_) (fun g=>?_)
  ·have g:¬ e0=0:=by simpa using g
   refine ad clx.b3 (some ⟨h1.size,0,none⟩,()) rfl ?_;dsimp only [flat,az,ah,nA,cA];refine aj rfl ?_;rw [ao];refine ad bQ ((e0:Int),()) rfl ?_;dsimp only [flat,az,ah,nA,cA];refine an brx rfl (by simp) ?_;intro hy by' ky zy
   have by':aO hy h.size 94 [.slice none 0 0,.int .u32 0]:=by'
   refine ⟨⟨(bQ.ai ky (by simp; omega)).cells _ rfl,(clx.b3.ai ky (by simp; omega)).cells _ rfl,trivial⟩,?_⟩;refine ad by' ((none,0,0),(0:Int),()) rfl ?_
   refine ⟨Ch.trans e0x ky (fun j hj hl=>by simp at hj; omega),?_⟩;rw [hp1 g]
  ·have g:e0=0:=by simpa using g
   refine ad (b13.ai kx (by simp; omega)) ((p',l',c'),(x.num:Int),()) rfl ?_;dsimp only [flat,az,ah,nA,cA];refine an brx rfl (by simp) ?_;intro hy by' ky zy
   have by':aO hy h.size 94 [.slice p' l' c',.int .u32 (x.num:Int)]:=by'
   refine ad by' ((p',l',c'),(x.num:Int),()) rfl ?_
   refine ⟨Ch.trans e0x ky (fun j hj hl=>by simp at hj; omega),?_⟩;rw [hp2 g];have sx:=s13.bf kx (fun j hj=>by have:=(s13.bW hj).1; simp; omega);exact ⟨p',l',c',rfl,(sx.bf ky (fun j hj=>by have:=(sx.bW hj).1; simp; omega)).mono (by omega),gx⟩
 obtain ⟨q,m,cq,bQ,vq,hq⟩:=pb13;have pb13:PB h13 h1.size ts' d' e':=⟨q,m,cq,bQ,vq,hq⟩
 refine aj rfl ?_;refine ad bQ ((q,m,cq),()) rfl ?_;dsimp only [flat,az,ah,nA,cA];have hm:=vq.len;have hpx:bV ts=match oQ 32 ts with
  | .error e=>.error e
  | .ok (x,r)=>if r=[] then .ok x else .error 20:=rfl
 refine af (fun g=>?_) (fun g=>?_)
 ·have g:=of_decide_eq_true g;refine ad cl13.b3 (some ⟨h1.size,0,none⟩,()) rfl ?_;dsimp only [flat,az,ah,nA,cA];refine aB (kg pb13 20) ?_;rintro _ h14 ⟨rfl,k14,z14,pb14⟩;refine ⟨(),rfl,?_⟩;dsimp only [flat,az,ah,nA,cA];refine tail h14 _ ts' k14 pb14 ?_ ?_ _
  ·intro hne;revert post hpx;cases oQ 32 ts with
   | error e =>
    rintro ⟨he,he0,_⟩ hpx;rw [hpx,he,if_neg he0]
   | ok z =>
    obtain ⟨y,r⟩:=z;rintro ⟨he,_,hr,_⟩ hpx;rw [hpx,he];simp only;rw [if_neg (by rw [← hr]; intro hh; rw [hh] at hm; simp at hm; omega)];rfl
  ·intro h0;exfalso;split at h0 <;> omega
 ·have g:=of_decide_eq_false g;have hts':ts'=[]:=List.length_eq_zero_iff.1 (by omega);refine tail h13 e' ts' (Ch.refl _ _) pb13 ?_ ?_ _
  ·intro hne;revert post hpx;cases oQ 32 ts with
   | error e =>
    rintro ⟨he,he0,_⟩ hpx;rw [hpx,he]
   | ok z =>
    obtain ⟨y,r⟩:=z;rintro ⟨he,_,hr,_⟩ hpx;exact absurd he hne
  ·intro h0;revert post hpx;cases oQ 32 ts with
   | error e =>
    rintro ⟨he,he0,_⟩ hpx;exact absurd (he.symm.trans h0) he0
   | ok z =>
    obtain ⟨y,r⟩:=z;rintro ⟨he,hx,hr,_⟩ hpx;rw [hpx,← hr,hts',hx];rfl
theorem jU {h:Hp} {b:Addr} {t:ByteArray × Nat} (hc:aG h b 0 (cV t)):aG h b 0 [.string t.1]∧aG h (b.add 1) 0 [.int .u32 (t.2:Int)]:=by
 obtain ⟨h1,h2,h3⟩:=hc;exact ⟨⟨h1,trivial⟩,⟨by rw [add_add]; exact h2,trivial⟩⟩
def RB (h:Hp) (A:Nat) (us:List Tok) (k:Nat) (d:Int) (e:Nat):Prop :=
 ∃ p l c,aO h A 292 [.slice p l c,.int .i64 (k:Int),.int .i64 d,.int .i64 (e:Int)]∧Vw h p l c us∧(∀ i,i∈aC p→i<A)∧k≤us.length∧us.length≤2^40
theorem RB.ai {ws:List Nat} {h h':Hp} {k:Nat} {us:List Tok} {d:Int} {e:Nat} (b:RB h A us k d e) (c:Ch ws h h') (hw:∀ i,i∈ws→A<i):RB h' A us k d e:=by
 obtain ⟨p,l,cc,b,v,hp,hk⟩:=b;exact ⟨p,l,cc,b.ai c (fun hm=>by have:=hw _ hm; omega),v.ai c (fun i hi hm=>by have:=hw _ hm; have:=hp _ hi; omega),hp,hk⟩
theorem RB.lt {h:Hp} {k:Nat} {us:List Tok} {d:Int} {e:Nat} (b:RB h A us k d e):A<h.size:=by
 obtain ⟨p,l,cc,b,v,hp,hk⟩:=b;exact b.lt
theorem leB (a b:ByteArray):(Op.bytesLess (ByteArray.toList a) (ByteArray.toList b) || (ByteArray.toList a==ByteArray.toList b))=!decide (fE b a):=by
 rw [ByteArray.toList_eq,ByteArray.toList_eq,Proofs.bytesLess_eq]
 by_cases h:fE b a
 ·rw [decide_eq_true h];have h1:¬ a.data.toList<b.data.toList:=sW h;have h2:¬ a.data.toList=b.data.toList:=fun e=>nF h (mg e).symm
  have h3:¬ a.data=b.data:=fun e=>h2 (by rw [e])
  simp [h1,h3]
 ·rw [decide_eq_false h]
  by_cases h1:fE a b
  ·have h1:a.data.toList<b.data.toList:=h1;simp [h1]
  ·have:=oS a b h1 h
   subst this
   simp
def kO:Option ByteArray→dp→Bool
 | _,[]=>true
 | o,t::r=>bd t.1.data.toList && decide (t.2≠0) && (match o with
  | none=>true
  | some s=>decide (fE s t.1)) && kO (some t.1) r
def DX (l:dp) (i:Nat):Option ByteArray:=if i=0 then none else (l[i-1]?).map (·.1)
theorem KF {o:Option ByteArray} {l:dp} (h1:∀ t,t∈l→bd t.1.data.toList=true∧t.2≠0) (h2:l.Pairwise fun p q=>fE p.1 q.1) (h3:∀ s,o=some s→∀ t,t∈l→fE s t.1):kO o l=true:=by
 induction l generalizing o with
 | nil=>rfl
 | cons t r ih =>
  obtain ⟨a,b⟩:=h1 t (List.mem_cons_self ..);obtain ⟨c,d⟩:=List.pairwise_cons.1 h2;unfold kO;rw [a,decide_eq_true b,ih (o:=some t.1) (fun u hu=>h1 u (List.mem_cons_of_mem _ hu)) d (by rintro s ⟨⟩ u hu; exact c u hu)];cases o with
  | none=>rfl
  | some s =>
   show (true && true && decide (fE s t.1) && true)=true;rw [decide_eq_true (h3 s rfl t (List.mem_cons_self ..))];rfl
theorem DE {x:ey} (h:Good x):kO none x.au=true:=KF (fun t ht=>⟨h.yb t ht,(h.nf.2 t ht).1⟩) h.nf.1 (by simp)
theorem qu {h : Hp} {p : Option Addr} {l c : Nat} {x : ey} (v : pI h p l x.au) (hl : x.au.length ≤ 9223372036854775807) (hs : ∀ t, t ∈ x.au → t.1.size ≤ maxLen) :
    HC Tryz.prog 46 #[qQ p l c x] h fun w h' => w = .bool (kO none x.au) ∧ Ext h h' := by
  refine aK (args := [.agg #[.slice p l c, .int .u32 x.num]]) mixed Tryz.func46 (by kernel_rfl) (uz p l c x.num) ?_;unfold rh;have hll := v.len;refine aX ?_;intro h1 b1 e1 z1;refine ad b1 ((p, l, c), ()) rfl ?_;dsimp only [flat, az, ah, nA, cA]
  refine bh (cs := [(false, [.bool]), (false, [.int .i64])]) (fun y w h' => ∃ (i : Nat), y.2.1 = (i : Int) ∧ i ≤ x.au.length ∧ w = x.au.length - i ∧ Ext h1 h' ∧ kO none x.au = kO (DX x.au i) (x.au.drop i)) (false, (0 : Int), ()) x.au.length rfl
    ⟨0, rfl, by omega, by omega, Ch.refl _ _, rfl⟩ ?_
  rintro ⟨b8, n8, ⟨⟩⟩ w h2 ⟨i, hi, hile, rfl, e2, hq⟩;simp only at hi;subst hi;dsimp only [flat, az, ah, nA, cA];have e02 := e1.trans e2;refine af (fun g1 => ?_) (fun g1 => ?_)
  · have g1 := of_decide_eq_true g1
    have hilt : i < x.au.length := by omega
    have v2 := v.ai e02 (by simp);obtain ⟨a, rfl, hc⟩ := v2.cells i hilt;have hdr : x.au.drop i = x.au[i] :: x.au.drop (i + 1) := List.drop_eq_getElem_cons hilt
    have hpv : DX x.au (i + 1) = some x.au[i].1 := by
      unfold DX;rw [if_neg (by omega), Nat.add_sub_cancel, List.getElem?_eq_getElem hilt];rfl
    have hsz := hs x.au[i] (List.getElem_mem hilt);rw [hdr] at hq;generalize x.au[i] = t at hc hq hpv hsz;refine ay ⟨by omega, by omega⟩ (aj rfl ?_);rw [show Int.toNat (i : Int) = i by omega];refine aE (t.1, (t.2 : Int), ()) hc ?_;dsimp only [flat, az, ah, nA, cA];refine aX ?_;intro h3 b3 e3 z3;refine an b3 rfl (by simp) ?_;intro h4 b4 k4 z4;have b4 : aO h4 h2.size 109 [.string t.1, .int .u32 t.2] := b4;have e24 : Ext h2 h4 := Ch.trans e3 k4 (fun j hj hl => by simp at hj; omega);have e04 := e02.trans e24;rw [ao];refine ad b4 ((t.2 : Int), ()) rfl ?_;dsimp only [flat, az, ah, nA, cA];refine af (fun g2 => ?_) (fun g2 => ?_)
    · have g2 : t.2 = 0 := by have : (t.2 : Int) = 0 := by simpa using g2
                              omega
      refine ⟨?_, e04⟩;rw [hq];unfold kO;rw [decide_eq_false (by omega)]
      simp
    · have g2 : t.2 ≠ 0 := by have : ¬ (t.2 : Int) = 0 := by simpa using g2
                              omega
      refine ad b4 (t.1, ()) rfl ?_;dsimp only [flat, az, ah, nA, cA];refine aD (kE t.1 h4 (by have : maxLen = 9223372036854775807 := rfl; omega)) ?_;refine ⟨⟨b4.cells _ rfl, trivial⟩, ?_⟩;refine af (fun g3 => ?_) (fun g3 => ?_)
      · have g3 : bd t.1.data.toList = false := by simpa using g3
        refine ⟨?_, e04⟩;rw [hq];unfold kO;rw [g3]
        simp
      · have g3 : bd t.1.data.toList = true := by simpa using g3
        have hw : IntKind.wrap .i64 ((i : Int) + 1) = ((i + 1 : Nat) : Int) := by rw [wrap_i64 (by omega) (by omega)]; omega
        have hgo : (match DX x.au i with
            | none => true
            | some s => decide (fE s t.1)) = true → kO none x.au = kO (DX x.au (i + 1)) (x.au.drop (i + 1)) := by
          intro hm;rw [hq, hpv]
          conv => lhs; unfold kO
          rw [g3, decide_eq_true g2, hm];rfl
        refine af (fun g4 => ?_) (fun g4 => ?_)
        · have g4 := of_decide_eq_true g4
          have hw1 : IntKind.wrap .i64 ((i : Int) - 1) = ((i - 1 : Nat) : Int) := by rw [wrap_i64 (by omega) (by omega)]; omega
          have hi1 : i - 1 < x.au.length := by omega
          obtain ⟨a', ha', hc'⟩ := (v.ai e04 (by simp)).cells (i - 1) hi1;cases ha'
          have hpi : DX x.au i = some x.au[i - 1].1 := by
            unfold DX;rw [if_neg (by omega), List.getElem?_eq_getElem hi1];rfl
          rw [hpi] at hgo hq;generalize x.au[i - 1] = u at hc' hpi hgo hq;refine ad b4 (t.1, ()) rfl ?_;dsimp only [flat, az, ah, nA, cA];refine ad ((b1.ai e2 (by simp)).ai e24 (by simp)) ((some a, l, c), ()) rfl ?_;dsimp only [flat, az, ah, nA, cA];rw [hw1];refine ay ⟨by omega, by omega⟩ (aj rfl ?_);rw [show Int.toNat ((i - 1 : Nat) : Int) = i - 1 by omega];refine aE (u.1, ()) (jU hc').1 ?_;dsimp only [flat, az, ah, nA, cA];rw [leB];refine af (fun g5 => ?_) (fun g5 => ?_)
          · have g5 : ¬ fE u.1 t.1 := by simpa using g5
            refine ⟨?_, e04⟩;rw [hq];unfold kO;dsimp only;rw [decide_eq_false g5]
            simp
          · have g5 : fE u.1 t.1 := by simpa using g5
            exact aI (cs := [(false, [.bool]), (false, [.int .i64])]) (b8, ((i + 1 : Nat) : Int), ()) (x.au.length - (i + 1)) rfl (by omega) (congrArg (fun z => [Value.bool b8, Value.int .i64 z]) hw) ⟨i + 1, rfl, by omega, rfl, e2.trans e24, hgo (decide_eq_true g5)⟩
        · have g4 := of_decide_eq_false g4
          have hi0 : i = 0 := by omega
          subst hi0;exact aI (cs := [(false, [.bool]), (false, [.int .i64])]) (b8, ((0 + 1 : Nat) : Int), ()) (x.au.length - (0 + 1)) rfl (by omega) (congrArg (fun z => [Value.bool b8, Value.int .i64 z]) hw) ⟨0 + 1, rfl, by omega, rfl, e2.trans e24, hgo rfl⟩
  · have g1 := of_decide_eq_false g1
    have hi : i = x.au.length := by omega
    subst hi;refine ⟨?_, e02⟩;rw [hq, List.drop_length];rfl
theorem qL {h : Hp} {p : Option Addr} {l c : Nat} {x : ey} (v : pI h p l x.au) (hl : x.au.length ≤ 9223372036854775807) (hs : ∀ t, t ∈ x.au → t.1.size ≤ maxLen) :
    HC Tryz.prog 49 #[qQ p l c x] h fun w h' => w = .bool (kO none x.au) ∧ Ext h h' := by
  refine aK (args := [.agg #[.slice p l c, .int .u32 x.num]]) mixed Tryz.func49 (by kernel_rfl) (kU p l c x.num) ?_;unfold ij;have hll := v.len;refine aX ?_;intro h1 b1 e1 z1;have v := v.ai e1 (by simp)
  refine bh (cs := [(false, [.bool]), (false, [.int .i64])]) (fun y w h' => ∃ (i : Nat), y.2.1 = (i : Int) ∧ i ≤ x.au.length ∧ w = x.au.length - i ∧ h1 = h' ∧ kO none x.au = kO (DX x.au i) (x.au.drop i)) (false, (0 : Int), ()) x.au.length rfl
    ⟨0, rfl, by omega, by omega, rfl, rfl⟩ ?_
  rintro ⟨b8, n8, ⟨⟩⟩ w h2 ⟨i, hi, hile, rfl, rfl, hq⟩;simp only at hi;subst hi;dsimp only [flat, az, ah, nA, cA];refine ad b1 ((p, l, c), ()) rfl ?_;dsimp only [flat, az, ah, nA, cA];refine af (fun g1 => ?_) (fun g1 => ?_)
  · have g1 := of_decide_eq_true g1
    have hilt : i < x.au.length := by omega
    obtain ⟨a, rfl, hc⟩ := v.cells i hilt;have hdr : x.au.drop i = x.au[i] :: x.au.drop (i + 1) := List.drop_eq_getElem_cons hilt
    have hpv : DX x.au (i + 1) = some x.au[i].1 := by
      unfold DX;rw [if_neg (by omega), Nat.add_sub_cancel, List.getElem?_eq_getElem hilt];rfl
    have hsz := hs x.au[i] (List.getElem_mem hilt);rw [hdr] at hq;generalize x.au[i] = t at hc hq hpv hsz;refine ad b1 ((some a, l, c), ()) rfl ?_;dsimp only [flat, az, ah, nA, cA];refine ay ⟨by omega, by omega⟩ (aj rfl ?_);rw [show Int.toNat (i : Int) = i by omega];refine aE (t.1, ()) (jU hc).1 ?_;dsimp only [flat, az, ah, nA, cA];refine aD (oW t.1 h1 (by have : maxLen = 9223372036854775807 := rfl; omega)) ?_;refine ⟨⟨b1.cells _ rfl, trivial⟩, ?_⟩;refine af (fun g3 => ?_) (fun g3 => ?_)
    · have g3 : bd t.1.data.toList = false := by simpa using g3
      refine ⟨?_, e1⟩;rw [hq];unfold kO;rw [g3]
      simp
    · have g3 : bd t.1.data.toList = true := by simpa using g3
      refine ad b1 ((some a, l, c), ()) rfl ?_;dsimp only [flat, az, ah, nA, cA];refine ay ⟨by omega, by omega⟩ (aj rfl ?_);refine aE ((t.2 : Int), ()) (jU hc).2 ?_;dsimp only [flat, az, ah, nA, cA];refine af (fun g2 => ?_) (fun g2 => ?_)
      · have g2 : t.2 = 0 := by have : (t.2 : Int) = 0 := by simpa using g2
                                omega
        refine ⟨?_, e1⟩;rw [hq];unfold kO;rw [decide_eq_false (by omega)]
        simp
      · have g2 : t.2 ≠ 0 := by have : ¬ (t.2 : Int) = 0 := by simpa using g2
                                omega
        have hw : IntKind.wrap .i64 ((i : Int) + 1) = ((i + 1 : Nat) : Int) := by rw [wrap_i64 (by omega) (by omega)]; omega
        have hgo : (match DX x.au i with
            | none => true
            | some s => decide (fE s t.1)) = true → kO none x.au = kO (DX x.au (i + 1)) (x.au.drop (i + 1)) := by
          intro hm;rw [hq, hpv]
          conv => lhs; unfold kO
          rw [g3, decide_eq_true g2, hm];rfl
        refine af (fun g4 => ?_) (fun g4 => ?_)
        · have g4 := of_decide_eq_true g4
          have hw1 : IntKind.wrap .i64 ((i : Int) - 1) = ((i - 1 : Nat) : Int) := by rw [wrap_i64 (by omega) (by omega)]; omega
          have hi1 : i - 1 < x.au.length := by omega
          obtain ⟨a', ha', hc'⟩ := v.cells (i - 1) hi1;cases ha'
          have hpi : DX x.au i = some x.au[i - 1].1 := by
            unfold DX;rw [if_neg (by omega), List.getElem?_eq_getElem hi1];rfl
          rw [hpi] at hgo hq;generalize x.au[i - 1] = u at hc' hpi hgo hq;refine ad b1 ((some a, l, c), ()) rfl ?_;dsimp only [flat, az, ah, nA, cA];refine ay ⟨by omega, by omega⟩ (aj rfl ?_);refine aE (t.1, ()) (jU hc).1 ?_;dsimp only [flat, az, ah, nA, cA];refine ad b1 ((some a, l, c), ()) rfl ?_;dsimp only [flat, az, ah, nA, cA];rw [hw1];refine ay ⟨by omega, by omega⟩ (aj rfl ?_);rw [show Int.toNat ((i - 1 : Nat) : Int) = i - 1 by omega];refine aE (u.1, ()) (jU hc').1 ?_;dsimp only [flat, az, ah, nA, cA];rw [leB];refine af (fun g5 => ?_) (fun g5 => ?_)
          · have g5 : ¬ fE u.1 t.1 := by simpa using g5
            refine ⟨?_, e1⟩;rw [hq];unfold kO;dsimp only;rw [decide_eq_false g5]
            simp
          · have g5 : fE u.1 t.1 := by simpa using g5
            exact aI (cs := [(false, [.bool]), (false, [.int .i64])]) (b8, ((i + 1 : Nat) : Int), ()) (x.au.length - (i + 1)) rfl (by omega) (congrArg (fun z => [Value.bool b8, Value.int .i64 z]) hw) ⟨i + 1, rfl, by omega, rfl, rfl, hgo (decide_eq_true g5)⟩
        · have g4 := of_decide_eq_false g4
          have hi0 : i = 0 := by omega
          subst hi0;exact aI (cs := [(false, [.bool]), (false, [.int .i64])]) (b8, ((0 + 1 : Nat) : Int), ()) (x.au.length - (0 + 1)) rfl (by omega) (congrArg (fun z => [Value.bool b8, Value.int .i64 z]) hw) ⟨0 + 1, rfl, by omega, rfl, rfl, hgo rfl⟩
  · have g1 := of_decide_eq_false g1
    have hi : i = x.au.length := by omega
    subst hi;refine ⟨?_, e1⟩;rw [hq, List.drop_length];rfl
end Go.Sx
set_option linter.unusedVariables false
set_option maxRecDepth 100000
namespace Go.Sx.Ob
abbrev Bt:=List UInt8
def wo:Nat→Nat→Bt
 | _,0=>[]
 | n,w+1=>UInt8.ofNat n::wo (n / 256) w
def LN:Bt→Nat
 | []=>0
 | b::l=>b.toNat+256*LN l
theorem du:∀ (w n:Nat),(wo n w).length=w
 | 0,_=>rfl
 | w+1,n=>by rw [wo,List.length_cons,du w]
/-! Readers: what is read,and what is behind it; or a refusal: how many bytes are behind its place,and why. -/
abbrev Rd (α:Type):=Except (Nat × Nat) (α × Bt)
def Az {α β:Type} (a:Rd α) (f:α→Bt→Rd β):Rd β :=
 match a with
 | .ok p=>f p.1 p.2
 | .error e=>.error e
@[simp] theorem Hd {α β:Type} (x:α) (r:Bt) (f:α→Bt→Rd β):Az (.ok (x,r)) f=f x r:=rfl
def Aq (w:Nat) (r:Bt):Rd Nat:=if w≤r.length then .ok (LN (r.take w),r.drop w) else .error (0,10)
def Ga (r:Bt):Rd ByteArray:=Az (Aq 2 r) fun n r=>if n≤r.length then .ok (⟨(r.take n).toArray⟩,r.drop n) else .error (0,10)
def zS:Nat→Bt→Rd dp
 | 0,r=>.ok ([],r)
 | n+1,r=>Az (Ga r) fun s r=>Az (Aq 4 r) fun c r=>Az (zS n r) fun ts r=>.ok ((s,c)::ts,r)
/-! Writers. -/
def mN (s:ByteArray):Bt:=wo s.size 2++s.data.toList
def BM (t:ByteArray × Nat):Bt:=mN t.1++wo t.2 4
def H0 (x:ey):Bt:=wo x.au.length 2++(x.au.flatMap BM++wo x.num 4)
structure Ins where
 op:Int
 a:Int
 b:Int
 n:Int
 form:Int
deriving DecidableEq
structure bD where
 kind:Int
 name:ByteArray
 inst:Ins
 e:ey
 n:Int
def iG:Ins:=⟨0,0,0,0,0⟩
def dT:ey:=⟨[],0⟩
def bI:ByteArray:=⟨#[]⟩
def cY (k:Int):bD:=⟨k,bI,iG,dT,0⟩
def bS:List Nat:=[1,1,1,2,2,2,2,2,2,2,3,3,4,4,4,4,4,4,4,4,4,4,4,4,4,4,4,4,5,5,5,5,6,6,7,8,9,10,11,12,12,13,13]
def bG (op:Int):Nat:=if op<1 then 0 else bS.getD (op-1).toNat 0
def oo (n m:Int):Bool:=decide (0≤n) && decide (n<m)
def bw (s:Nat) (a b n:Int):Bool :=
 if s=1∨s=9∨s=12 then decide (a=0) && decide (b=0)
 else if s=2∨s=8∨s=10∨s=11∨s=13 then oo a 8 && decide (b=0)
 else if s=3 then oo a 4 && decide (b=0)
 else if s=4 then oo a 8 && oo b 8
 else if s=5 then oo a 4 && oo b 4
 else if s=6 then oo a 8 && oo b 4
 else oo a 4 && oo b 8 && oo n 8
def gQ (n form:Int):Bool :=
 if form=1 then decide (-128≤n) && decide (n≤127)
 else if form=2 then decide (-32768≤n) && decide (n≤32767)
 else decide (form=4)
def nR (s:Nat) (n form:Int):Bool :=
 if s=8 then gQ n 1
 else if s=9 then decide (0≤n) && decide (n≤255)
 else if s=10∨s=7 then true
 else if s=11 then decide (0≤n) && decide (n≤4095)
 else if s=12∨s=13 then gQ n form
 else decide (n=0)
def nt (op:Int):Bool:=decide (12≤bG op)
def yK (op:Int):Bool:=decide (10≤bG op)
def eG (i:Ins):Int :=
 if bG i.op=0 then 11
 else if bw (bG i.op) i.a i.b i.n=false then 12
 else if (!nt i.op && decide (i.form≠0) || !nR (bG i.op) i.n i.form)=true then 13
 else 0
def I7 (x:ey):Bool:=decide (x.au=[]) && decide (x.num=0)
def uP (i:Ins) (e:ey):Bool :=
 decide (bG i.op≠0) && decide (i.form=0) && (if yK i.op then decide (i.n=0) && decide (eG { i with form:=if nt i.op then 1 else 0 }=0) && kO none e.au
  else decide (eG i=0) && I7 e)
def lR (n:Int):Bool:=decide (n=1) || decide (n=2) || decide (n=4) || decide (n=8) || decide (n=16) || decide (n=32) || decide (n=64) || decide (n=128) || decide (n=256)
def z1 (x:bD):Bool:=decide (x.name=bI)
def z2 (x:bD):Bool:=decide (x.inst=iG)
def z3 (x:bD):Bool:=I7 x.e
def z4 (x:bD):Bool:=decide (x.n=0)
def bm (x:bD) (sec:Nat):Bool :=
 if x.kind=1 then bd x.name.data.toList && z2 x && z3 x && z4 x
 else if x.kind=2 then decide (sec=0) && uP x.inst x.e && z1 x && z4 x
 else if x.kind=3 then lR x.n && z1 x && z2 x && z3 x
 else if x.kind=4 then decide (sec=0) && z1 x && z2 x && z3 x && z4 x
 else if x.kind=5 then decide (sec=1) && decide (-128≤x.n) && decide (x.n≤255) && z1 x && z2 x && z3 x
 else if x.kind=6 then decide (sec=1) && kO none x.e.au && z1 x && z2 x && z4 x
 else if x.kind=7 then decide (sec=1) && decide (0≤x.n) && decide (x.n≤1048576) && z1 x && z2 x && z3 x
 else false
/-! Bytes. -/
def u32 (n:Int):Nat:=(n % 4294967296).toNat
def Bf (n:Nat):Int:=if n<2147483648 then (n:Int) else (n:Int)-4294967296
def Nu (n:Nat):Int:=if n<32768 then (n:Int) else (n:Int)-65536
def zB (n:Int) (w:Nat):Bt:=wo (u32 n) w
def CY (x:bD):Bt:=zB x.kind 1 ++
 (if x.kind=1 then mN x.name
 else if x.kind=2 then zB x.inst.op 1++(zB x.inst.a 1++(zB x.inst.b 1++(zB x.inst.n 4++if yK x.inst.op then H0 x.e else [])))
 else if x.kind=3∨x.kind=5 then zB x.n 2
 else if x.kind=6 then H0 x.e
 else if x.kind=7 then zB x.n 4
 else [])
def at_ {α:Type} (r:Bt) (why:Nat) (ok:α→Bool) (a:Rd α):Rd α:=Az a fun x r'=>if ok x then .ok (x,r') else .error (r.length,why)
def eb (D:List ByteArray) (s:ByteArray):Bool:=D.any fun t=>decide (t=s)
def yW (sec:Nat) (D:List ByteArray) (x:bD):Bool:=bm x sec && !(decide (x.kind=1) && eb D x.name)
def ri (D:List ByteArray) (x:bD):List ByteArray:=if x.kind=1 then x.name::D else D
theorem E8:I7 dT=true:=rfl
theorem CH (op:Int) (h:bG op≠0):1≤op∧op≤43:=by
 unfold bG at h;split at h
 ·exact absurd rfl h
 ·refine ⟨by omega,?_⟩
  by_cases g:op≤43
  ·exact g
  ·exfalso;apply h;rw [List.getD_eq_getElem?_getD,List.getElem?_eq_none (by simp [bS]; omega)];rfl
theorem Bp {i:Ins} (h:eG i=0):bG i.op≠0∧bw (bG i.op) i.a i.b i.n=true:=by
 unfold eG at h;split at h
 ·cases h
 ·split at h
  ·cases h
  ·rename_i h1 h2;exact ⟨h1,by simpa using h2⟩
theorem fB (op:Int):bG op=0∨(1≤bG op∧bG op≤13):=by
 by_cases h:bG op=0
 ·exact .inl h
 ·right
  have h1:=CH op h;unfold bG;rw [if_neg (by omega)];have h2:(op-1).toNat<43:=by omega
  generalize (op-1).toNat=k at h2
  have:∀ k:Fin 43,1≤bS.getD k.1 0∧bS.getD k.1 0≤13:=by decide
  exact this ⟨k,h2⟩
abbrev lP:=ByteArray × ey
structure fS where
 text:List bD
 data:List bD
 aQ:List lP
 aF:List ByteArray
def tq:fS:=⟨[],[],[],[]⟩
def AL (D:List ByteArray) (p:lP):Bool:=!(eb D p.1) && bd p.1.data.toList && kO none p.2.au
def KZ (D:List ByteArray) (last g:ByteArray):Bool:=eb D g && decide (fE last g)
def FR:Bt:=[83,80,65,78,1]
def over:Option Nat→Nat→Bool
 | none,_=>false
 | some m,n=>decide (m<n)
def Ld {α:Type} (most:Option Nat) (f:Nat→Bt→Rd α) (r:Bt):Rd α:=Az (Aq 2 r) fun n r1=>if over most n then .error (r.length,4) else f n r1
def bM (D:List ByteArray) (l:List bD):List ByteArray:=l.foldl ri D
def fL (D:List ByteArray) (l:List lP):List ByteArray:=l.foldl (fun D p=>p.1::D) D
/-! Right units. -/
def ek (sec:Nat):List ByteArray→List bD→Bool
 | _,[]=>true
 | D,x::l=>yW sec D x && ek sec (ri D x) l
def fW:List ByteArray→List lP→Bool
 | _,[]=>true
 | D,x::l=>AL D x && fW (x.1::D) l
def cw (D:List ByteArray):ByteArray→List ByteArray→Bool
 | _,[]=>true
 | last,x::l=>KZ D last x && cw D x l
def fS.names (u:fS):List ByteArray:=fL (bM (bM [] u.text) u.data) u.aQ
def yX (u:fS):Bool:=ek 0 [] u.text && ek 1 (bM [] u.text) u.data && fW (bM (bM [] u.text) u.data) u.aQ && cw u.names bI u.aF
def rG (u:fS):Bool:=decide (8192<u.text.length+u.data.length) || decide (8192<u.aQ.length)
def j0 (u:fS):Nat:=if rG u then 4 else if yX u then 0 else 31
def GX (p:lP):Bt:=mN p.1++H0 p.2
def zQ {α:Type} (w:α→Bt) (l:List α):Bt:=wo l.length 2++l.flatMap w
def MA (u:fS):Bt:=FR++(zQ CY u.text++(zQ CY u.data++(zQ GX u.aQ++zQ mN u.aF)))
end Go.Sx.Ob
set_option linter.unusedVariables false
set_option linter.unusedSimpArgs false
set_option maxRecDepth 100000
namespace Go.Sx
open Go.Proofs
theorem Lo:Tryz.prog.underlying 109=some (.struct (GC Tryz.prog 109)):=by kernel_rfl
theorem KM (x y:Operand) (a:ByteArray) (b:Int) (a':ByteArray) (b':Int) (h:Hp) (K:Value→Hp→Prop) (hk:K (.bool !(a==a' && b==b')) h) :
  aH Tryz.prog (Sx.bX (BinOp.neq) 109 x y (.agg #[.string a,.int .u32 b]) (.agg #[.string a',.int .u32 b'])) h K:=by
 refine zY Lo (by kernel_rfl) (by kernel_rfl) (by kernel_rfl) K ?_;have he:(GC Tryz.prog 109).all (HM #[.string a,.int .u32 b] #[.string a',.int .u32 b'])=(a==a' && (b==b' && true)):=by
  rw [← Array.all_toList]
  kernel_rfl
 rw [he,Bool.and_true];exact hk
theorem KK (t u:ByteArray × Nat):(!(t.1==u.1 && (t.2:Int)==(u.2:Int)))=decide (t≠u):=by
 obtain ⟨a,b⟩:=t;obtain ⟨a',b'⟩:=u
 by_cases h1:a=a'
 ·subst h1;rw [bytes_beq]
  by_cases h2:b=b'
  ·subst h2
   simp
  ·have h3:¬ ((b:Int)=(b':Int)):=by omega
   have h4:((b:Int)==(b':Int))=false:=by simpa using h3
   simp [h2,h4]
 ·have h3:(a==a')=false:=by
   obtain ⟨d⟩:=a;obtain ⟨d'⟩:=a';show (d==d')=false;have h4:¬ d=d':=fun e=>h1 (by rw [e])
   simpa using h4
  simp [h1,h3]
theorem Ci {α:Type} {l m:List α} {i:Nat} (hi:i<l.length) (hj:i<m.length) (h:l[i]≠m[i]):l≠m:=by
 rintro rfl;exact h rfl
theorem zh {α:Type} {l m:List α} {i:Nat} (hi:i<l.length) (hj:i<m.length) (h:l[i]=m[i]):(l.drop i=m.drop i)↔(l.drop (i+1)=m.drop (i+1)):=by
 rw [List.drop_eq_getElem_cons hi,List.drop_eq_getElem_cons hj,h];exact ⟨fun e=>(List.cons.inj e).2,fun e=>by rw [e]⟩
instance:DecidableEq dp:=inferInstance
theorem Cf {h:Hp} {p q:Option Addr} {l m c d:Nat} {us vs:dp} (v:pI h p l us) (w:pI h q m vs) (hl:us.length≤2^60):pQ Tryz.prog 117 [.slice p l c,.slice q m d] h (.bool (decide (us=vs))):=by
 refine cK mixed Tryz.func117 (by kernel_rfl) (eF p l c q m d) ?_;unfold cX;have h1:=v.len;have h2:=w.len;refine af (fun g1=>?_) (fun g1=>?_)
 ·have g1:¬ (l:Int)=(m:Int):=by simpa using g1
  exact ⟨by rw [decide_eq_false (fun e=>by rw [e] at h1; omega)],rfl⟩
 ·have g1:(l:Int)=(m:Int):=by simpa using g1
  refine bh (cs:=[(false,[.bool]),(false,[.int .i64])]) (fun y n h'=>∃ (i:Nat),y.2.1=(i:Int)∧i≤us.length∧n=us.length-i∧h=h'∧(us=vs↔us.drop i=vs.drop i)) (false,(0:Int),()) us.length rfl
   ⟨0,rfl,by omega,by omega,rfl,Iff.rfl⟩ ?_
  rintro ⟨b8,n8,⟨⟩⟩ n h2 ⟨i,hi,hile,rfl,rfl,hq⟩;simp only at hi;subst hi;dsimp only [flat,az,ah,nA,cA];refine af (fun g2=>?_) (fun g2=>?_)
  ·have g2:=of_decide_eq_true g2;have hi1:i<us.length:=by omega
   have hi2:i<vs.length:=by omega
   obtain ⟨a,rfl,hc⟩:=v.cells i hi1;obtain ⟨a',rfl,hc'⟩:=w.cells i hi2;have hst:=zh hi1 hi2;have hno:=Ci hi1 hi2;generalize us[i]=t at hc hst hno;generalize vs[i]=u at hc' hst hno;refine ay ⟨by omega,by omega⟩ (aj rfl ?_);rw [show Int.toNat (i:Int)=i by omega];refine aE (t.1,(t.2:Int),()) hc ?_;dsimp only [flat,az,ah,nA,cA];refine ay ⟨by omega,by omega⟩ (aj rfl ?_);refine aE (u.1,(u.2:Int),()) hc' ?_;dsimp only [flat,az,ah,nA,cA];refine bR (b:=decide (t≠u)) (fun K' hk=>KM _ _ _ _ _ _ _ _ (by rw [KK]; exact hk)) ?_;refine af (fun g3=>?_) (fun g3=>?_)
   ·exact ⟨by rw [decide_eq_false (hno (of_decide_eq_true g3))],rfl⟩
   ·have g3:t=u:=by simpa using g3
    have hw:IntKind.wrap .i64 ((i:Int)+1)=((i+1:Nat):Int):=by rw [wrap_i64 (by omega) (by omega)]; omega
    exact aI (cs:=[(false,[.bool]),(false,[.int .i64])]) (b8,((i+1:Nat):Int),()) (us.length-(i+1)) rfl (by omega) (congrArg (fun z=>[Value.bool b8,Value.int .i64 z]) hw) ⟨i+1,rfl,by omega,rfl,rfl,hq.trans (hst g3)⟩
  ·have g2:=of_decide_eq_false g2;refine ⟨?_,rfl⟩;rw [decide_eq_true (hq.2 (by rw [List.drop_eq_nil_of_le (by omega),List.drop_eq_nil_of_le (by omega)]))]
def tk (x y:ey):Bool:=decide (x.num=y.num) && decide (x.au=y.au)
theorem Et (x:ey):tk x x=true:=by unfold tk; simp
theorem x7 {h : Hp} {p q : Option Addr} {l m c d : Nat} {x y : ey} (v : pI h p l x.au) (w : pI h q m y.au) (hl : x.au.length ≤ 2 ^ 60) :
    HC Tryz.prog 80 #[qQ p l c x, qQ q m d y] h fun r h' => r = .bool (tk x y) ∧ Ext h h' := by
  refine aK (args := [.agg #[.slice p l c, .int .u32 x.num], .agg #[.slice q m d, .int .u32 y.num]]) mixed Tryz.func80 (by kernel_rfl) (wA p l c x.num q m d y.num) ?_;unfold tR;refine aX ?_;intro h1 b1 e1 z1;refine aX ?_;intro h2 b2 e2 z2;have b1 := b1.ai e2 (by simp);have e02 := e1.trans e2;rw [ao, ao];refine ad b1 ((x.num : Int), ()) rfl ?_;dsimp only [flat, az, ah, nA, cA];refine ad b2 ((y.num : Int), ()) rfl ?_;dsimp only [flat, az, ah, nA, cA];refine af (fun g1 => ?_) (fun g1 => ?_)
  · have g1 : x.num = y.num := by have : (x.num : Int) = y.num := by simpa using g1
                                  omega
    refine ad b1 ((p, l, c), ()) rfl ?_;dsimp only [flat, az, ah, nA, cA];refine ad b2 ((q, m, d), ()) rfl ?_;dsimp only [flat, az, ah, nA, cA];refine aD (Cf (v.ai e02 (by simp)) (w.ai e02 (by simp)) hl) ?_;refine ⟨?_, e02⟩;unfold tk;rw [decide_eq_true g1];rfl
  · have g1 : ¬ x.num = y.num := by have : ¬ (x.num : Int) = y.num := by simpa using g1
                                    omega
    refine ⟨?_, e02⟩;unfold tk;rw [decide_eq_false g1];rfl
theorem sC {h:Hp} {a:Addr}:∀ (us:dp) (k:Nat),(∀ i,(hi:i<us.length)→aG h (a.add ((k+i)*2)) 0 (cV us[i]))→aG h a (k*2) (us.map cV).flatten
 | [],_,_=>trivial
 | t::us,k,hc=>by
  have h0:=hc 0 (by simp);obtain ⟨h1,h2,_⟩:=h0;rw [add_add] at h1 h2;have ih:=sC us (k+1) (fun i hi=>by
   have:=hc (i+1) (by simpa using hi)
   rw [show k+(i+1)=k+1+i by omega] at this;exact this)
  rw [show (k+1)*2=k*2+1+1 by omega] at ih;exact ⟨h1,by simpa using h2,ih⟩
theorem pI.flat {h:Hp} {a:Addr} {l:Nat} {us:dp} (v:pI h (some a) l us):aG h a 0 (us.map cV).flatten:=by
 have:=sC (h:=h) (a:=a) us 0 (fun i hi=>by
  obtain ⟨a',e,hc⟩:=v.cells i hi;cases e;rw [Nat.zero_add];exact hc)
 simpa using this
end Go.Sx
set_option linter.unusedVariables false
set_option linter.unusedSimpArgs false
set_option maxRecDepth 100000
namespace Go.Sx.Ob
open Go.Proofs
theorem _root_.Go.Sx.Ch.st {h a b:Hp} {g:Nat} (e:Ext h a) (k:Ch [g] a b) (hg:h.size≤g):Ext h b:=Ch.trans e k (fun i hi hl=>by simp at hi; omega)
def hO (nm:Nat→ByteArray) (uL:Nat→Int):List Value:=(List.range 43).flatMap fun k=>[.string (nm k),.int .u8 (uL k),.int .i64 (bS.getD k 0:Nat)]
def y7 (h:Hp):Prop:=∃ nm uL e f,h[1]?=some (.cells (hO nm uL).toArray e f)
theorem y7.ai {ws:List Nat} {h h':Hp} (t:y7 h) (k:Ch ws h h') (hw:1∉ws):y7 h':=by
 obtain ⟨nm,uL,e,f,ht⟩:=t;exact ⟨nm,uL,e,f,k.get ht hw⟩
theorem su {α β:Type} (f:α→List β) (m:Nat) (hf:∀ x,(f x).length=m):∀ (l:List α) (i j:Nat),j<m→(l.flatMap f)[i*m+j]?=(l[i]?).bind fun x=>(f x)[j]?
 | [],i,j,hj=>by simp
 | x::l,0,j,hj=>by
  rw [List.flatMap_cons,List.getElem?_append_left (by rw [hf]; omega)]
  simp
 | x::l,i+1,j,hj=>by
  rw [List.flatMap_cons,List.getElem?_append_right (by rw [hf,Nat.add_mul]; omega),hf,show (i+1)*m+j-m=i*m+j by rw [Nat.add_mul]; omega,su f m hf l i j hj]
  simp
theorem y7.cells {h:Hp} (t:y7 h) {k:Nat} (hk:k<43):∃ (s:ByteArray) (b:Int),aG h ((⟨1,0,none⟩:Addr).add (k*3)) 0 [.string s,.int .u8 b,.int .i64 (bS.getD k 0:Nat)]:=by
 obtain ⟨nm,uL,e,f,ht⟩:=t;refine ⟨nm k,uL k,?_⟩;have hg:∀ j,j<3→(hO nm uL)[k*3+j]?=([.string (nm k),.int .u8 (uL k),.int .i64 (bS.getD k 0:Nat)]:List Value)[j]?:=by
  intro j hj;unfold hO;rw [su _ 3 (by simp) _ _ _ hj];simp [hk]
 rw [ao];refine ⟨?_,?_,?_,trivial⟩
 ·rw [ao,kH ht]
  have:=hg 0 (by omega)
  simpa using this
 ·rw [ao,kH ht]
  have:=hg 1 (by omega)
  simpa using this
 ·rw [ao,kH ht]
  have:=hg 2 (by omega)
  simpa using this
theorem DV {h:Hp} (t:y7 h) (op:Int) (h1:-9223372036854775808≤op) (h2:op≤9223372036854775807) :
  HC Tryz.prog 90 #[.int .i64 op] h fun w h'=>∃ (s:ByteArray) (b:Int),w=.tuple #[.agg #[.string s,.int .u8 b,.int .i64 (bG op:Nat)],.bool (decide (bG op≠0))]∧Ext h h':=by
 refine aK (args:=[.int .i64 op]) mixed Tryz.func90 (by kernel_rfl) (BX op) ?_;unfold Bb;refine aX ?_;intro g1 b1 e1 z1;have hz:∀ (hh:bG op=0),(∃ (s:ByteArray) (b:Int),(Value.tuple #[.agg #[.string ⟨#[]⟩,.int .u8 0,.int .i64 0],.bool false])=.tuple #[.agg #[.string s,.int .u8 b,.int .i64 (bG op:Nat)],.bool (decide (bG op≠0))]) :=
  fun hh=>⟨⟨#[]⟩,0,by rw [hh]; rfl⟩
 refine af (fun q=>?_) (fun q=>?_)
 ·have q:=of_decide_eq_true q;refine an b1 rfl (by simp) ?_;intro g2 b2 k2 z2;refine ad b2 ((⟨#[]⟩:ByteArray),(0:Int),(0:Int),()) rfl ?_;obtain ⟨s,b,e⟩:=hz (by unfold bG; rw [if_pos q]);exact ⟨s,b,e,Ch.trans e1 k2 (fun i hi hl=>by simp at hi; omega)⟩
 refine af (fun r=>?_) (fun r=>?_)
 ·have r:=of_decide_eq_true r;refine an b1 rfl (by simp) ?_;intro g2 b2 k2 z2;refine ad b2 ((⟨#[]⟩:ByteArray),(0:Int),(0:Int),()) rfl ?_;obtain ⟨s,b,e⟩:=hz (by
   by_cases g:bG op=0
   ·exact g
   ·have:=CH op g
    omega)
  exact ⟨s,b,e,Ch.trans e1 k2 (fun i hi hl=>by simp at hi; omega)⟩
 ·have q:=of_decide_eq_false q;have r:=of_decide_eq_false r;rw [wrap_i64 (by omega) (by omega)];refine ay ⟨by omega,by omega⟩ ?_;obtain ⟨s,b,hc⟩:=(t.ai e1 (by simp)).cells (k:=(op-1).toNat) (by omega);refine aE (s,b,((bS.getD (op-1).toNat 0:Nat):Int),()) hc ?_;dsimp only [flat,az,ah,nA,cA];refine an b1 rfl (by simp) ?_;intro g2 b2 k2 z2;refine ad b2 (s,b,((bS.getD (op-1).toNat 0:Nat):Int),()) rfl ?_;refine ⟨s,b,?_,Ch.trans e1 k2 (fun i hi hl=>by simp at hi; omega)⟩;have h3:bG op=bS.getD (op-1).toNat 0:=by unfold bG; rw [if_neg (by omega)]
  have h4:bG op≠0:=by
   rw [h3]
   have:∀ k:Fin 43,bS.getD k.1 0≠0:=by decide
   exact this ⟨(op-1).toNat,by omega⟩
  rw [decide_eq_true h4,h3]
theorem AY {h:Hp} (t:y7 h) (op:Int) (h1:-9223372036854775808≤op) (h2:op≤9223372036854775807) :
  HC Tryz.prog 51 #[.int .i64 op] h fun w h'=>w=.bool (nt op)∧Ext h h':=by
 refine aK (args:=[.int .i64 op]) mixed Tryz.func51 (by kernel_rfl) (xd op) ?_;unfold tz;refine aB (DV t op h1 h2) ?_;rintro _ g1 ⟨s,b,rfl,e1⟩;refine ⟨(s,b,((bG op:Nat):Int),decide (bG op≠0),()),rfl,?_⟩;dsimp only [flat,az,ah,nA,cA];refine aX ?_;intro g2 b2 e2 z2;refine an b2 rfl (by simp) ?_;intro g3 b3 k3 z3;have e3:=(e1.trans e2).st k3 (by have:=e1.size; omega);have b3:aO g3 g1.size 158 [.string s,.int .u8 b,.int .i64 (bG op:Nat)]:=b3;rw [ao];refine ad b3 (((bG op:Nat):Int),()) rfl ?_;dsimp only [flat,az,ah,nA,cA];have hc:=fB op;refine af (fun q=>?_) (fun q=>?_)
 ·have q:((bG op:Nat):Int)=12:=by simpa using q
  refine ⟨?_,e3⟩;unfold nt;rw [decide_eq_true (by omega)]
 ·have q:¬ ((bG op:Nat):Int)=12:=by simpa using q
  refine ad b3 (((bG op:Nat):Int),()) rfl ?_;refine ⟨?_,e3⟩;unfold nt
  by_cases r:bG op=13
  ·rw [r]; rfl
  ·rw [decide_eq_false (by omega)]
   congr 1
   simp
   omega
end Go.Sx.Ob
