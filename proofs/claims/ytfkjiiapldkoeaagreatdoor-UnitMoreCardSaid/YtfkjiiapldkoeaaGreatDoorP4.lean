/- Contracts over heaps, and plain laws, for the functions that the laws of chapter 9 call, part 4: What a line says, in plain Lean: registers, constants, names, instructions, dire Condition: as each statement says. -/
import Derived.Test.YtfkjiiapldkoeaaGreatDoorP3
import Derived.Test.YtfkjiiapldkoeaaGreatDoorAtA
import Derived.Test.YtfkjiiapldkoeaaGreatDoorArY
import Derived.Test.YtfkjiiapldkoeaaGreatDoorAtC
import Derived.Test.YtfkjiiapldkoeaaGreatDoorAtB
import Derived.Test.YtfkjiiapldkoeaaGreatDoorAtD
import Derived.Test.YtfkjiiapldkoeaaGreatDoorAtH
import Derived.Test.YtfkjiiapldkoeaaGreatDoorAtI
import Derived.Test.YtfkjiiapldkoeaaGreatDoorAtJ
set_option linter.unusedVariables false
set_option linter.unusedSimpArgs false
set_option maxRecDepth 100000
namespace Go.Sx.Ob
open Go.Proofs
structure jW where
 kind:Nat
 items:List bw
 name:ByteArray
 e:eJ
 sec:Nat
def bE:jW:=⟨0,[],bK,dJ,0⟩
def mM (z:Bool):List Tok→Except Nat Int
 | [t]=>if t.kind=1∧(iv t.text.data.toList).2.2=true∧(iv t.text.data.toList).2.1=z then .ok (iv t.text.data.toList).1 else .error 20
 | _=>.error 20
def gT (lo hi:Int) (ts:List Tok):Except Nat Int :=
 match bP ts with
 | .error e=>.error e
 | .ok x=>if x.aw≠[]∨yY x.num<lo∨hi<yY x.num then .error 21 else .ok (yY x.num)
def mZ:List Tok→Except Nat ByteArray
 | [t]=>if t.kind=1∧bf t.text.data.toList=true then .ok t.text else .error 20
 | _=>.error 20
inductive CD where
 | tA (z second third:Bool)
 | HV (lo hi:Int)
 | val (pool:Bool)
def cP (s:Nat):List CD :=
 if s=1 then []
 else if s=2 then [.tA false false false]
 else if s=3 then [.tA true false false]
 else if s=4 then [.tA false false false,.tA false true false]
 else if s=5 then [.tA true false false,.tA true true false]
 else if s=6 then [.tA false false false,.tA true true false]
 else if s=7 then [.tA true false false,.tA false true false,.tA false false true]
 else if s=8 then [.tA false false false,.HV (-128) 127]
 else if s=9 then [.HV 0 255]
 else if s=11 then [.tA false false false,.val true]
 else if s=12 then [.val false]
 else [.tA false false false,.val false]
def ez (x:bw) (n:Int):bw:={ x with inst:={ x.inst with n:=n } }
def nj (x:bw) (n:Int):bw:={ x with inst:={ x.inst with a:=n } }
def ni (x:bw) (n:Int):bw:={ x with inst:={ x.inst with b:=n } }
def yq (x:bw) (e:eJ):bw:={ x with e:=e }
def qf (pool:Bool) (ts:List Tok):Except Nat eJ :=
 match pool with
 | false=>bP ts
 | true=>match ts with
  | []=>.error 20
  | t::r=>if fh t 61=true then bP r else .error 20
def dE (x:bw) (r:CD) (ts:List Tok):Except Nat bw :=
 match r with
 | .tA z second third=>match mM z ts with
  | .error e=>.error e
  | .ok n=>.ok (if third then ez x n else if second then ni x n else nj x n)
 | .HV lo hi=>match gT lo hi ts with
  | .error e=>.error e
  | .ok n=>.ok (ez x n)
 | .val pool=>match qf pool ts with
  | .error e=>.error e
  | .ok y=>.ok (yq x y)
def dO:bw→List CD→List (List Tok)→Except Nat bw
 | x,r::rs,t::ts=>match dE x r t with
  | .error e=>.error e
  | .ok y=>dO y rs ts
 | x,_,_=>.ok x
def dR (op:Int):bw:={ cK 2 with inst:={ iI with op:=op } }
def ey (op:Int) (args:List (List Tok)):Except Nat bw :=
 if (cP (cH op)).length≠args.length then .error 20 else dO (dR op) (cP (cH op)) args
def iN (k:Nat) (ts:List Tok):Except Nat bw :=
 if k=5 then match gT (-128) 255 ts with
  | .error e=>.error e
  | .ok n=>.ok { cK 5 with n:=n }
 else match bP ts with
  | .error e=>.error e
  | .ok x=>.ok { cK k with e:=x }
def cC (k:Nat):List (List Tok)→Except Nat (List bw)
 | []=>.ok []
 | t::ts=>match iN k t with
  | .error e=>.error e
  | .ok x=>match cC k ts with
   | .error e=>.error e
   | .ok l=>.ok (x::l)
def cU (op:ByteArray):Int :=
 let o:=op.data.toList
 if o=[112,111,111,108] then 0
 else if o=[97,108,105,103,110]∨o=[115,112,97,99,101]∨o=[103,108,111,98,97,108]∨o=[115,101,99,116,105,111,110] then 1
 else if o=[101,113,117] then 2
 else if o=[98,121,116,101]∨o=[119,111,114,100] then -1
 else -2
def eW (x:bw):jW:={ bE with kind:=1,items:=[x] }
def ag (args:List (List Tok)) (i:Nat):List Tok:=args.getD i []
def fO (op:ByteArray) (args:List (List Tok)):Except Nat (jW × Nat) :=
 let o:=op.data.toList
 if cU op=-2∨(0≤cU op∧(args.length:Int)≠cU op) then .error 20
 else if o=[112,111,111,108] then .ok (eW (cK 4),0)
 else if o=[97,108,105,103,110] then match gT 1 256 (ag args 0) with
  | .error e=>.error e
  | .ok n=>if pF n then .ok (eW { cK 3 with n:=n },2) else .error 21
 else if o=[115,112,97,99,101] then match gT 0 1048576 (ag args 0) with
  | .error e=>.error e
  | .ok n=>.ok (eW { cK 7 with n:=n },1)
 else if o=[98,121,116,101] then if args=[] then .error 20 else match cC 5 args with
  | .error e=>.error e
  | .ok l=>.ok ({ bE with kind:=2,items:=l },1)
 else if o=[119,111,114,100] then if args=[] then .error 20 else match cC 6 args with
  | .error e=>.error e
  | .ok l=>.ok ({ bE with kind:=2,items:=l },1)
 else if o=[101,113,117] then match mZ (ag args 0) with
  | .error e=>.error e
  | .ok s=>match bP (ag args 1) with
   | .error e=>.error e
   | .ok x=>.ok ({ bE with kind:=3,name:=s,e:=x },2)
 else if o=[103,108,111,98,97,108] then match mZ (ag args 0) with
  | .error e=>.error e
  | .ok s=>.ok ({ bE with kind:=4,name:=s },2)
 else match ag args 0 with
  | [t]=>if t.kind=1∧t.text.data.toList=[116,101,120,116] then .ok ({ bE with kind:=5 },2) else if t.kind=1∧t.text.data.toList=[100,97,116,97] then .ok ({ bE with kind:=5,sec:=1 },2) else .error 20
  | _=>.error 20
def jA (nm:Nat→List UInt8) (s:List UInt8):Nat→Nat
 | 0=>0
 | k+1=>match jA nm s k with
  | 0=>if nm k=s then k+1 else 0
  | n=>n
def D9 (k:Nat):List UInt8:=(bX k).data.toList
def j8 (op:ByteArray):Nat:=jA D9 op.data.toList 43
def dy (l:Ln) (data:Bool):Except Nat jW :=
 if l.op=bK then .ok bE
 else if j8 l.op≠0 then match ey (j8 l.op) l.args with
  | .error e=>.error e
  | .ok x=>if data then .error 21 else .ok (eW x)
 else match fO l.op l.args with
  | .error e=>.error e
  | .ok (t,w)=>if w=2∨w=(if data then 1 else 0) then .ok t else .error 21
/-! What is read is right. -/
theorem kC {z:Bool} {ts:List Tok} {n:Int} (h:mM z ts=.ok n):0≤n∧n<(if z then 4 else 8):=by
 unfold mM at h;split at h
 ·rename_i t;split at h
  ·rename_i hh;injection h with h
   subst h;obtain ⟨_,h2,h3⟩:=hh;generalize t.text.data.toList=s at h2 h3;unfold iv at h2 h3 ⊢;split
   ·rename_i a b;simp only at h2 h3;split at h2
    ·rename_i g;rw [if_pos g] at h3 ⊢;simp only at h3 ⊢;rw [← h3]
     simp
     omega
    ·rename_i g;rw [if_neg g] at h3 ⊢;split at h2
     ·rename_i g2;rw [if_pos g2] at h3 ⊢;simp only at h3 ⊢;rw [← h3]
      simp
      omega
     ·cases h2
   ·rename_i hno;exfalso;split at h2
    ·rename_i a b;exact hno a b rfl
    ·cases h2
  ·cases h
 ·cases h
theorem qa {lo hi n:Int} {ts:List Tok} (h:gT lo hi ts=.ok n):lo≤n∧n≤hi:=by
 unfold gT at h;split at h
 ·cases h
 ·split at h
  ·cases h
  ·injection h with h
   omega
theorem gM {ts:List Tok} {x:eJ} (hw:Wf ts) (h:bP ts=.ok x):Good x:=by
 unfold bP at h
 have:=j7 32 ts hw
 cases hs:ml 32 ts with
 | error e=>rw [hs] at h; cases h
 | ok q =>
  rw [hs] at h this;simp only at h;split at h
  ·injection h with h
   subst h;exact this.1
  ·cases h
theorem xj {pool:Bool} {ts:List Tok} {x:eJ} (hw:Wf ts) (h:qf pool ts=.ok x):Good x:=by
 unfold qf at h;split at h
 ·exact gM hw h
 ·split at h
  ·cases h
  ·split at h
   ·exact gM hw.tail h
   ·cases h
theorem JP {α:Type} {l:List α} (h:0=l.length):l=[]:=List.eq_nil_of_length_eq_zero h.symm
theorem KP {α:Type} {l:List α} (h:0+1=l.length):∃ a,l=[a]:=by
 match l,h with
 | [a],_=>exact ⟨a,rfl⟩
theorem K5 {α:Type} {l:List α} (h:0+1+1=l.length):∃ a b,l=[a,b]:=by
 match l,h with
 | [a,b],_=>exact ⟨a,b,rfl⟩
theorem Lb {α:Type} {l:List α} (h:0+1+1+1=l.length):∃ a b c,l=[a,b,c]:=by
 match l,h with
 | [a,b,c],_=>exact ⟨a,b,c,rfl⟩
theorem As {op : Nat} {args : List (List Tok)} {x : bw} (h1 : 1 ≤ op) (h2 : op ≤ 43) (hw : ∀ a, a ∈ args → Wf a) (h : ey (op : Int) args = .ok x) : cS x 0 = true ∧ Good x.e := by
  have hs : ∀ k : Fin 44, 1 ≤ k.1 → 1 ≤ cH (k.1 : Int) ∧ cH (k.1 : Int) ≤ 13 := by decide
  have hs' := hs ⟨op, by omega⟩ h1;simp only at hs';have gz : Good dJ := Good.z
  have key : ∀ (y : bw), y.kind = 2 → y.name = bK → y.n = 0 → y.inst.op = op → y.inst.form = 0 → Good y.e → bo (cH op) y.inst.a y.inst.b y.inst.n = true →
      (if GR op then y.inst.n = 0 else nR (cH op) y.inst.n 0 = true ∧ y.e = dJ) → cS y 0 = true := by
    intro y k1 k2 k3 k4 k5 k6 k7 k8;have hz : cH (op : Int) ≠ 0 := by omega
    unfold cS;rw [if_neg (by rw [k1]; decide), if_pos k1];unfold yc z1 z4;rw [k4, k2, k3, k5];simp only [decide_true, Bool.true_and, Bool.and_true, decide_eq_true hz]
    by_cases hwn : GR (op : Int) = true
    · rw [if_pos hwn] at k8 ⊢
      rw [Ce k6, k8];simp only [decide_true, Bool.true_and, Bool.and_true];refine decide_eq_true ?_;unfold nZ;simp only [k4];rw [k8] at k7;rw [if_neg hz, if_neg (by rw [k7]; decide), if_neg];unfold B4 GR at *;unfold nR mF;have hw' := of_decide_eq_true hwn
      by_cases g : 12 ≤ cH (op : Int)
      · rw [decide_eq_true g]
        have : cH (op : Int) = 12 ∨ cH (op : Int) = 13 := by omega
        rcases this with e | e <;> rw [e] <;> simp
      · rw [decide_eq_false g]
        have : cH (op : Int) = 10 ∨ cH (op : Int) = 11 := by omega
        rcases this with e | e <;> rw [e] <;> simp
    · rw [if_neg hwn] at k8 ⊢
      rw [k8.2, CZ, Bool.and_true];refine decide_eq_true ?_;unfold nZ;rw [k4, if_neg hz, if_neg (by rw [k7]; decide), k5, k8.1]
      simp
  unfold ey at h;split at h
  · cases h
  rename_i hlen0;have hlen : (cP (cH op)).length = args.length := by omega
  clear hlen0;have hc0 : ∀ a b n : Int, ({ (dR (op : Int)) with inst := ⟨op, a, b, n, 0⟩ } : bw).kind = 2 := fun _ _ _ => rfl
  have hw' : GR (op : Int) = decide (10 ≤ cH (op : Int)) := rfl;generalize cH (op : Int) = s at *;have : s = 1 ∨ s = 9 ∨ s = 2 ∨ s = 3 ∨ s = 4 ∨ s = 5 ∨ s = 6 ∨ s = 7 ∨ s = 8 ∨ s = 10 ∨ s = 11 ∨ s = 12 ∨ s = 13 := by omega
  rcases this with rfl | rfl | this
  · obtain rfl := JP hlen
    have h : Except.ok (dR (op : Int)) = (Except.ok x : Except Nat bw) := h;injection h with h
    subst h;refine ⟨key _ rfl rfl rfl rfl rfl gz (by simp [bo, dR, cK, iI]) ?_, gz⟩;rw [if_neg (by rw [hw']; decide)];exact ⟨by simp [nR, dR, cK, iI], rfl⟩
  · obtain ⟨a, rfl⟩ := KP hlen
    cases hn : gT 0 255 a with
    | error e =>
      simp [dO, cP, dE, hn] at h
    | ok n =>
      simp [dO, cP, dE, hn] at h;subst h;have hn := qa hn;refine ⟨key _ rfl rfl rfl rfl rfl gz (by simp [bo, ez, dR, cK, iI]) ?_, gz⟩;rw [if_neg (by rw [hw']; decide)];refine ⟨?_, rfl⟩;simp [nR, ez, dR, cK, iI];exact ⟨decide_eq_true hn.1, decide_eq_true hn.2⟩
  rcases this with rfl | rfl | rfl | rfl | rfl | rfl | rfl | rfl | rfl | rfl | rfl
  all_goals
    simp only [cP, Nat.reduceEqDiff, if_true, if_false, List.length_cons, List.length_nil] at h hlen;simp only [hw'] at key
    first
    | (obtain rfl := JP hlen
       · simp only [dO] at h
         injection h with h
         subst h;exact ⟨key _ rfl rfl rfl rfl rfl gz (by decide) (by rw [if_neg (by decide)]; exact ⟨by decide, rfl⟩), gz⟩)
    | (obtain ⟨a, rfl⟩ := KP hlen
       ·
        simp only [dO, dE] at h;split at h
        · cases h
        rename_i y hy;split at hy
        · cases hy
        rename_i n hn;injection hy with hy
        injection h with h
        subst hy;subst h
        first
        | (have hn := kC hn
           simp at hn;refine ⟨key _ rfl rfl rfl rfl rfl gz (by simp [bo, nN, nj, ni, ez, dR, cK, iI, dJ] <;> omega) (by simp [nR, nj, ni, ez, dR, cK, iI, dJ] <;> omega), gz⟩)
        | (have hn := qa hn
           refine ⟨key _ rfl rfl rfl rfl rfl gz (by simp [bo, nN, nj, ni, ez, dR, cK, iI, dJ] <;> omega) (by simp [nR, nj, ni, ez, dR, cK, iI, dJ] <;> omega), gz⟩)
        | (have hg := xj (hw a (by simp)) hn
           exact ⟨key _ rfl rfl rfl rfl rfl hg (by simp [bo, nN, nj, ni, ez, yq, dR, cK, iI, dJ] <;> omega) (by simp [nj, ni, ez, yq, dR, cK, iI, dJ] <;> omega), hg⟩))
    | (obtain ⟨a, b, rfl⟩ := K5 hlen
       ·
        simp only [dO, dE] at h;split at h
        · cases h
        rename_i y hy;split at hy
        · cases hy
        rename_i n hn;injection hy with hy
        subst hy;split at h
        · cases h
        rename_i y2 hy2;split at hy2
        · cases hy2
        rename_i m hm;injection hy2 with hy2
        subst hy2;injection h with h
        subst h;have hn := kC hn;simp at hn
        first
        | (have hm := kC hm
           simp at hm;refine ⟨key _ rfl rfl rfl rfl rfl gz (by simp [bo, nN, nj, ni, ez, dR, cK, iI, dJ] <;> omega) (by simp [nR, nj, ni, ez, dR, cK, iI, dJ] <;> omega), gz⟩)
        | (have hm := qa hm
           refine ⟨key _ rfl rfl rfl rfl rfl gz (by simp [bo, nN, nj, ni, ez, dR, cK, iI, dJ] <;> omega) (by simp [nR, mF, nj, ni, ez, dR, cK, iI, dJ] <;> omega), gz⟩)
        | (have hg := xj (hw b (by simp)) hm
           exact ⟨key _ rfl rfl rfl rfl rfl hg (by simp [bo, nN, nj, ni, ez, yq, dR, cK, iI, dJ] <;> omega) (by simp [nj, ni, ez, yq, dR, cK, iI, dJ] <;> omega), hg⟩))
    | (obtain ⟨a, b, c, rfl⟩ := Lb hlen
       ·
        simp only [dO, dE] at h;split at h
        · cases h
        rename_i y hy;split at hy
        · cases hy
        rename_i n hn;injection hy with hy
        subst hy;split at h
        · cases h
        rename_i y2 hy2;split at hy2
        · cases hy2
        rename_i m hm;injection hy2 with hy2
        subst hy2;split at h
        · cases h
        rename_i y3 hy3;split at hy3
        · cases hy3
        rename_i k hk;injection hy3 with hy3
        subst hy3;injection h with h
        subst h;have hn := kC hn;have hm := kC hm;have hk := kC hk;simp at hn hm hk;refine ⟨key _ rfl rfl rfl rfl rfl gz (by simp [bo, nN, nj, ni, ez, dR, cK, iI, dJ] <;> omega) (by simp [nR, nj, ni, ez, dR, cK, iI, dJ] <;> omega), gz⟩)
theorem zG {k:Nat} (hk:k=5∨k=6) {ts:List Tok} {x:bw} (hw:Wf ts) (h:iN k ts=.ok x):cS x 1=true∧Good x.e:=by
 unfold iN at h;rcases hk with rfl | rfl
 ·rw [if_pos rfl] at h;split at h
  ·cases h
  rename_i n hn;injection h with h
  subst h;have hn:=qa hn;refine ⟨?_,Good.z⟩;simp [cS,cK,z1,z2,z3,CZ];omega
 ·rw [if_neg (by decide)] at h;split at h
  ·cases h
  rename_i y hy;injection h with h
  subst h;have hg:=gM hw hy;refine ⟨?_,hg⟩;simp [cS,cK,z1,z2,z4,Ce hg]
theorem kD {k:Nat} (hk:k=5∨k=6):∀ {args:List (List Tok)} {l:List bw},(∀ a,a∈args→Wf a)→cC k args=.ok l→∀ x,x∈l→cS x 1=true∧Good x.e
 | [],l,_,h,x,hx=>by
  simp only [cC] at h;injection h with h
  subst h;simp at hx
 | t::ts,l,hw,h,x,hx=>by
  simp only [cC] at h;split at h
  ·cases h
  rename_i y hy;split at h
  ·cases h
  rename_i r hr;injection h with h
  subst h;rcases List.mem_cons.1 hx with rfl | hx
  ·exact zG hk (hw t (by simp)) hy
  ·exact kD hk (fun a ha=>hw a (by simp [ha])) hr x hx
structure ke (t:jW) (data:Bool):Prop where
 items:∀ x,x∈t.items→cS x (if data then 1 else 0)=true∧Good x.e
 kind:t.kind≤5
 single:t.kind=1↔(t.items.length=1∧t.kind≠2)
 name:t.kind=3∨t.kind=4→bf t.name.data.toList=true
 e:Good t.e
 sec:t.sec≤1
theorem ke.z (data:Bool):ke bE data:=⟨by simp [bE],by simp [bE],by simp [bE],by simp [bE],Good.z,by simp [bE]⟩
theorem ke.Il {x:bw} {data:Bool} (h:cS x (if data then 1 else 0)=true) (g:Good x.e):ke (eW x) data :=
 ⟨by simpa [eW] using ⟨h,g⟩,by simp [eW],by simp [eW],by simp [eW],Good.z,by simp [eW,bE]⟩
theorem vr {ts:List Tok} {s:ByteArray} (h:mZ ts=.ok s):bf s.data.toList=true:=by
 unfold mZ at h;split at h
 ·split at h
  ·rename_i hh;injection h with h
   subst h;exact hh.2
  ·cases h
 ·cases h
theorem Bw {op:ByteArray} {args:List (List Tok)} {t:jW} {w:Nat} {data:Bool} (hw:∀ a,a∈args→Wf a) (h:fO op args=.ok (t,w)) (hd:w=2∨w=(if data then 1 else 0)):ke t data:=by
 have hag:∀ i,Wf (ag args i):=by
  intro i;unfold ag;rw [List.getD_eq_getElem?_getD];cases hh:args[i]? with
  | none=>exact fun t ht=>by simp at ht
  | some a=>exact hw a (List.mem_of_getElem? hh)
 unfold fO at h;simp only at h;split at h
 ·cases h
 split at h
 ·injection h with h
  injection h with h1 h2
  subst h1 h2;have hd:data=false:=by cases data <;> simp_all
  subst hd;exact ke.Il (by simp [cS,cK,z1,z2,z3,z4,CZ]) Good.z
 split at h
 ·split at h
  ·cases h
  rename_i n hn;split at h
  ·rename_i hp;injection h with h
   injection h with h1 h2
   subst h1 h2;exact ke.Il (by simp [cS,cK,z1,z2,z3,z4,CZ,hp]) Good.z
  ·cases h
 split at h
 ·split at h
  ·cases h
  rename_i n hn;injection h with h
  injection h with h1 h2
  subst h1 h2;have hd:data=true:=by cases data <;> simp_all
  subst hd;have hn:=qa hn;exact ke.Il (by simp [cS,cK,z1,z2,z3,z4,CZ]; omega) Good.z
 split at h
 ·split at h
  ·cases h
  split at h
  ·cases h
  rename_i l hl;injection h with h
  injection h with h1 h2
  subst h1 h2;have hd:data=true:=by cases data <;> simp_all
  subst hd;exact ⟨fun x hx=>kD (.inl rfl) hw hl x hx,by simp,by simp,by simp,Good.z,by simp [bE]⟩
 split at h
 ·split at h
  ·cases h
  split at h
  ·cases h
  rename_i l hl;injection h with h
  injection h with h1 h2
  subst h1 h2;have hd:data=true:=by cases data <;> simp_all
  subst hd;exact ⟨fun x hx=>kD (.inr rfl) hw hl x hx,by simp,by simp,by simp,Good.z,by simp [bE]⟩
 split at h
 ·split at h
  ·cases h
  rename_i s hs;split at h
  ·cases h
  rename_i x hx;injection h with h
  injection h with h1 h2
  subst h1 h2;exact ⟨by simp [bE],by simp,by simp [bE],fun _=>vr hs,gM (hag 1) hx,by simp [bE]⟩
 split at h
 ·split at h
  ·cases h
  rename_i s hs;injection h with h
  injection h with h1 h2
  subst h1 h2;exact ⟨by simp [bE],by simp,by simp [bE],fun _=>vr hs,Good.z,by simp [bE]⟩
 split at h
 ·split at h
  ·injection h with h
   injection h with h1 h2
   subst h1 h2;exact ⟨by simp [bE],by simp,by simp [bE],by simp,Good.z,by simp [bE]⟩
  ·split at h
   ·injection h with h
    injection h with h1 h2
    subst h1 h2;exact ⟨by simp [bE],by simp,by simp [bE],by simp,Good.z,by simp⟩
   ·cases h
 ·cases h
theorem uI (nm:Nat→List UInt8) (s:List UInt8):∀ k,jA nm s k≤k
 | 0=>Nat.le_refl _
 | k+1=>by
  unfold jA
  have:=uI nm s k
  split
  ·split <;> omega
  ·omega
theorem sj {l:Ln} {data:Bool} {t:jW} (hw:∀ a,a∈l.args→Wf a) (h:dy l data=.ok t):ke t data:=by
 unfold dy at h;split at h
 ·injection h with h
  subst h;exact ke.z data
 split at h
 ·rename_i hf;split at h
  ·cases h
  rename_i x hx;cases data with
  | true=>cases h
  | false =>
   injection h with h
   subst h
   have:=As (op:=j8 l.op) (by omega) (uI _ _ _) hw hx
   exact ke.Il this.1 this.2
 ·split at h
  ·cases h
  rename_i t' w hd
  by_cases hh:w=2∨w=(if data=true then 1 else 0)
  ·rw [if_pos hh] at h;injection h with h
   subst h;exact Bw hw hd hh
  ·rw [if_neg hh] at h;cases h
def Ho (r:Except Nat Int):Value :=
 match r with
 | .ok n=>.tuple #[.int .i64 n,.int .i64 0]
 | .error e=>.tuple #[.int .i64 0,.int .i64 (e:Int)]
def LB (r:Except Nat ByteArray):Value :=
 match r with
 | .ok s=>.tuple #[.string s,.int .i64 0]
 | .error e=>.tuple #[.string ⟨#[]⟩,.int .i64 (e:Int)]
theorem BO {ts:List Tok} (h:ts.length=1):∃ t,ts=[t]:=by
 match ts,h with
 | [t],_=>exact ⟨t,rfl⟩
theorem KE {ts:List Tok} {α:Type} {f:Tok→Except Nat α} (h:¬ ts.length=1):(match ts with | [t]=>f t | _=>.error 20)=.error 20:=by
 match ts,h with
 | [],_=>rfl
 | [t],h=>exact absurd rfl h
 | _::_::_,_=>rfl
theorem GC {h:Hp} {p:Option Addr} {l c:Nat} {ts:List Tok} (v:Vw h p l c ts) (z:Bool):tp Tryz.prog 151 [.slice p l c,.bool z] h (Ho (mM z ts)):=by
 refine dU mixed Tryz.func151 (by kernel_rfl) (wH p l c z) ?_;unfold vj;have hl:=v.len;refine af (fun g=>?_) (fun g=>?_)
 ·have g:(l:Int)≠1:=by simpa using g
  refine ⟨?_,rfl⟩
  have:mM z ts=.error 20:=KE (by omega)
  rw [this] <;> rfl
 have g:(l:Int)=1:=by simpa using g
 obtain ⟨t,rfl⟩:=BO (show ts.length=1 by omega);obtain ⟨a,rfl,c0⟩:=v.cells 0 (by simp);have c0:aG h (a.add (0*4)) 0 (enc t):=c0;obtain ⟨q1,q2,_⟩:=iy c0;refine aB ⟨by omega,by omega⟩ (an rfl (aH ((t.kind:Int),()) q1 ?_));dsimp only [flat,aA,ai,nA,cA];refine af (fun r=>?_) (fun r=>?_)
 ·have r:¬ t.kind=1:=by
   have:¬ (t.kind:Int)=1:=by simpa using r
   omega
  refine ⟨?_,rfl⟩
  have:mM z [t]=.error 20:=if_neg (fun hh=>r hh.1)
  rw [this] <;> rfl
 have r:t.kind=1:=by
  have:(t.kind:Int)=1:=by simpa using r
  omega
 refine aB ⟨by omega,by omega⟩ (an rfl (aH (t.text,()) q2 ?_));dsimp only [flat,aA,ai,nA,cA];refine uK (mW t.text h) ?_;refine af (fun s=>?_) (fun s=>?_)
 ·have s:(iv t.text.data.toList).2.2=false:=by simpa using s
  refine ⟨?_,rfl⟩
  have:mM z [t]=.error 20:=if_neg (fun hh=>by rw [s] at hh; simp at hh)
  rw [this] <;> rfl
 have s:(iv t.text.data.toList).2.2=true:=by simpa using s
 refine af (fun u=>?_) (fun u=>?_)
 ·have u:¬ (iv t.text.data.toList).2.1=z:=by simpa using u
  refine ⟨?_,rfl⟩
  have:mM z [t]=.error 20:=if_neg (fun hh=>u hh.2.2)
  rw [this] <;> rfl
 have u:(iv t.text.data.toList).2.1=z:=by simpa using u
 refine ⟨?_,rfl⟩
 have:mM z [t]=.ok (iv t.text.data.toList).1:=if_pos ⟨r,s,u⟩
 rw [this] <;> rfl
theorem tF {h:Hp} {p:Option Addr} {l c:Nat} {ts:List Tok} (v:Vw h p l c ts) (hs:∀ t,t∈ts→t.text.size≤9223372036854775807):tp Tryz.prog 129 [.slice p l c] h (LB (mZ ts)):=by
 refine dU mixed Tryz.func129 (by kernel_rfl) (tI p l c) ?_;unfold sf;have hl:=v.len;refine af (fun g=>?_) (fun g=>?_)
 ·have g:(l:Int)≠1:=by simpa using g
  refine ⟨?_,rfl⟩
  have:mZ ts=.error 20:=KE (by omega)
  rw [this] <;> rfl
 have g:(l:Int)=1:=by simpa using g
 obtain ⟨t,rfl⟩:=BO (show ts.length=1 by omega);obtain ⟨a,rfl,c0⟩:=v.cells 0 (by simp);have c0:aG h (a.add (0*4)) 0 (enc t):=c0;obtain ⟨q1,q2,_⟩:=iy c0;refine aB ⟨by omega,by omega⟩ (an rfl (aH ((t.kind:Int),()) q1 ?_));dsimp only [flat,aA,ai,nA,cA];refine af (fun r=>?_) (fun r=>?_)
 ·have r:¬ t.kind=1:=by
   have:¬ (t.kind:Int)=1:=by simpa using r
   omega
  refine ⟨?_,rfl⟩
  have:mZ [t]=.error 20:=if_neg (fun hh=>r hh.1)
  rw [this] <;> rfl
 have r:t.kind=1:=by
  have:(t.kind:Int)=1:=by simpa using r
  omega
 refine aB ⟨by omega,by omega⟩ (an rfl (aH (t.text,()) q2 ?_));dsimp only [flat,aA,ai,nA,cA];refine aD (j2 t.text h (hs t (by simp))) ?_;refine af (fun s=>?_) (fun s=>?_)
 ·have s:bf t.text.data.toList=false:=by simpa using s
  refine ⟨?_,rfl⟩
  have:mZ [t]=.error 20:=if_neg (fun hh=>by rw [s] at hh; simp at hh)
  rw [this] <;> rfl
 have s:bf t.text.data.toList=true:=by simpa using s
 refine aB ⟨by omega,by omega⟩ (an rfl (aH (t.text,()) q2 ?_));dsimp only [flat,aA,ai,nA,cA];refine ⟨?_,rfl⟩
 have:mZ [t]=.ok t.text:=if_pos ⟨r,s⟩
 rw [this] <;> rfl
theorem dM {ts:List Tok} {e:Nat} (hw:Wf ts) (h:bP ts=.error e):e=20∨e=21:=by
 unfold bP at h
 have:=j7 32 ts hw
 cases hs:ml 32 ts with
 | error e' =>
  rw [hs] at h this;injection h with h
  subst h;exact this
 | ok q =>
  rw [hs] at h;simp only at h;split at h
  ·cases h
  ·injection h with h
   exact .inl h.symm
theorem wrap32 {n:Nat} (hn:n<4294967296):IntKind.wrap .i64 (IntKind.wrap .i32 (n:Int))=yY n:=by
 have h1:IntKind.wrap .i32 (n:Int)=yY n:=by
  unfold yY
  by_cases g:n<2147483648
  ·rw [if_pos g];simp only [IntKind.wrap,IntKind.bits,IntKind.signed,Bool.true_and];split <;> rename_i hh
   ·have:=of_decide_eq_true hh; omega
   ·have:¬ _:=fun h=>hh (decide_eq_true h); omega
  ·rw [if_neg g];simp only [IntKind.wrap,IntKind.bits,IntKind.signed,Bool.true_and];split <;> rename_i hh
   ·have:=of_decide_eq_true hh; omega
   ·have:¬ _:=fun h=>hh (decide_eq_true h); omega
 rw [h1];unfold yY;split <;> exact wrap_i64 (by omega) (by omega)
theorem nL {h:Hp} {p:Option Addr} {l c:Nat} {ts:List Tok} (v:Vw h p l c ts) (hp:∀ i,i∈ay p→i<h.size) (w:Wf ts) (hts:ts.length≤2^40) (lo hi:Int) :
  HC Tryz.prog 127 #[.slice p l c,.int .i64 lo,.int .i64 hi] h fun r h'=>r=Ho (gT lo hi ts)∧Ext h h':=by
 refine aI (args:=[.slice p l c,.int .i64 lo,.int .i64 hi]) mixed Tryz.func127 (by kernel_rfl) (rK p l c lo hi) ?_;unfold oI;refine aC (iC v hp w hts) ?_;rintro r h1 ⟨e1,hr⟩;unfold gT;cases hx:bP ts with
 | error e =>
  rw [hx] at hr;have hr:r=.tuple #[.agg #[.slice none 0 0,.int .u32 0],.int .i64 (e:Int)]:=hr;subst hr;have he:=dM w hx;refine ⟨((none,0,0),(0:Int),(e:Int),()),rfl,?_⟩;dsimp only [flat,aA,ai,nA,cA];refine aT ?_;intro h2 b2 e2 z2;refine ak b2 rfl (by simp) ?_;intro h3 b3 k3 z3;refine aX (by simp; omega) ?_;exact ⟨rfl,e1.trans (Ch.trans e2 k3 (fun i hi hl=>by simp at hi; omega))⟩
 | ok x =>
  rw [hx] at hr;obtain ⟨p1,l1,c1,rfl,sl,gd⟩:=hr;refine ⟨((p1,l1,c1),(x.num:Int),(0:Int),()),rfl,?_⟩;dsimp only [flat,aA,ai,nA,cA];refine aT ?_;intro h2 b2 e2 z2;refine ak b2 rfl (by simp) ?_;intro h3 b3 k3 z3;have b3:aN h3 h1.size 94 [.slice p1 l1 c1,.int .u32 (x.num:Int)]:=b3;have e3:Ext h h3:=e1.trans (Ch.trans e2 k3 (fun i hi hl=>by simp at hi; omega));refine bm rfl ?_;rw [ao];refine ad b3 ((x.num:Int),()) rfl ?_;dsimp only [flat,aA,ai,nA,cA];refine ad b3 ((p1,l1,c1),()) rfl ?_;dsimp only [flat,aA,ai,nA,cA];rw [wrap32 gd.num];have hl1:l1=x.aw.length:=by rw [sl.1,List.length_map]
  refine af (fun g=>?_) (fun g=>?_)
  ·have g:=of_decide_eq_true g;refine ⟨?_,e3⟩;rw [if_pos (.inl (fun hh=>by rw [hh] at hl1; simp at hl1; omega))] <;> rfl
  have g:=of_decide_eq_false g;have hz:x.aw=[]:=List.eq_nil_of_length_eq_zero (by omega);refine af (fun g=>?_) (fun g=>?_)
  ·have g:=of_decide_eq_true g;refine ⟨?_,e3⟩;rw [if_pos (.inr (.inl g))] <;> rfl
  have g:=of_decide_eq_false g;refine af (fun g=>?_) (fun g=>?_)
  ·have g:=of_decide_eq_true g;refine ⟨?_,e3⟩;rw [if_pos (.inr (.inr g))] <;> rfl
  have g':=of_decide_eq_false g;refine ⟨?_,e3⟩;rw [if_neg (by rintro (q | q | q) <;> first | exact q hz | omega)] <;> rfl
def kg:CD→Value
 | .tA z s t=>.iface 253 (.agg #[.bool z,.bool s,.bool t])
 | .HV lo hi=>.iface 255 (.agg #[.int .i64 lo,.int .i64 hi])
 | .val pool=>.iface 257 (.agg #[.bool pool])
theorem je:Tryz.prog.underlying 221=some (.slice 20):=by kernel_rfl
theorem vU:(Tryz.prog.info? 20).map (fun i=>(i.zero,i.size,i.bytes))=some (some .nilIface,1,16):=by kernel_rfl
theorem SL.lit {h:Hp} {b g:Nat} {e:TypeId} {xs:List Value} (bx:aN h g e xs) (hb:b≤g) (hn:xs.length<9223372036854775808):SL h b e 1 (some ⟨g,0,none⟩) xs.length xs.length (xs.map fun x=>[x]):=by
 refine ⟨by simp,by simp,g,[],[],rfl,hb,⟨Nat.le_refl _,hn⟩,?_,by simp⟩
 have:∀ l:List Value,(l.map fun x=>[x]).flatten=l:=by
  intro l
  induction l with
  | nil=>rfl
  | cons a l ih=>simp [ih]
 rw [this];simpa using bx
theorem BU (s:Nat) (h:Hp):HC Tryz.prog 124 #[.int .i64 (s:Int)] h fun w h'=>∃ p c,w=.slice p (cP s).length c∧SL h' h.size 20 1 p (cP s).length c ((cP s).map fun r=>[kg r])∧Ext h h':=by
 refine aI (args:=[.int .i64 (s:Int)]) mixed Tryz.func124 (by kernel_rfl) (qV s) ?_;unfold mS;refine aT ?_;intro h1 b1 e1 z1;refine aT ?_;intro h2 b2 e2 z2;refine ak (b1.ah e2 (by simp)) rfl (by simp) ?_;intro h3 b3 k3 z3;have b3:aN h3 h.size 253 [.bool false,.bool false,.bool false]:=b3;refine ak (b2.ah k3 (by simp; omega)) rfl (by simp) ?_;intro h4 b4 k4 z4;have b4:aN h4 h1.size 253 [.bool false,.bool true,.bool false]:=b4;have b5:=b3.ah k4 (by simp; omega);have e04:Ext h h4:=Ch.trans (Ch.trans (e1.trans e2) k3 (fun i hi hl=>by simp at hi; omega)) k4 (fun i hi hl=>by simp at hi; omega);have fin:∀ {rs:List CD} {h':Hp},aN h' h4.size 20 (rs.map kg)→Ext h4 h'→rs.length<100→∃ p c,(Value.slice (some ⟨h4.size,0,none⟩) rs.length rs.length)=.slice p rs.length c∧SL h' h.size 20 1 p rs.length c (rs.map fun r=>[kg r])∧Ext h h':=by
  intro rs h' b e hl;refine ⟨_,_,rfl,?_,e04.trans e⟩
  have:=SL.lit (b:=h.size) b (by omega) (by rw [List.length_map]; omega)
  rw [List.length_map,List.map_map] at this;exact this
 clear k4 k3 e2 e1 b1 b2 b3;refine af (fun q=>?_) (fun q=>?_)
 ·obtain rfl:s=1:=eQ q;exact ⟨none,0,rfl,SL.nil _ _ _ _,e04⟩
 have r1:¬ s=1:=fx q;refine af (fun q=>?_) (fun q=>?_)
 ·obtain rfl:s=2:=eQ q;refine ad b5 (false,false,false,()) rfl ?_;dsimp only [flat,aA,ai,nA,cA];refine ek (cells:=(cP 2).map kg) je vU (by decide) (by decide) (by kernel_rfl) ?_;intro h' b e z;exact fin (rs:=cP 2) b e (by decide)
 have r2:¬ s=2:=fx q;refine af (fun q=>?_) (fun q=>?_)
 ·obtain rfl:s=3:=eQ q;refine ek (cells:=(cP 3).map kg) je vU (by decide) (by decide) (by kernel_rfl) ?_;intro h' b e z;exact fin (rs:=cP 3) b e (by decide)
 have r3:¬ s=3:=fx q;refine af (fun q=>?_) (fun q=>?_)
 ·obtain rfl:s=4:=eQ q;refine ad b5 (false,false,false,()) rfl ?_;dsimp only [flat,aA,ai,nA,cA];refine ad b4 (false,true,false,()) rfl ?_;dsimp only [flat,aA,ai,nA,cA];refine ek (cells:=(cP 4).map kg) je vU (by decide) (by decide) (by kernel_rfl) ?_;intro h' b e z;exact fin (rs:=cP 4) b e (by decide)
 have r4:¬ s=4:=fx q;refine af (fun q=>?_) (fun q=>?_)
 ·obtain rfl:s=5:=eQ q;refine ek (cells:=(cP 5).map kg) je vU (by decide) (by decide) (by kernel_rfl) ?_;intro h' b e z;exact fin (rs:=cP 5) b e (by decide)
 have r5:¬ s=5:=fx q;refine af (fun q=>?_) (fun q=>?_)
 ·obtain rfl:s=6:=eQ q;refine ad b5 (false,false,false,()) rfl ?_;dsimp only [flat,aA,ai,nA,cA];refine ek (cells:=(cP 6).map kg) je vU (by decide) (by decide) (by kernel_rfl) ?_;intro h' b e z;exact fin (rs:=cP 6) b e (by decide)
 have r6:¬ s=6:=fx q;refine af (fun q=>?_) (fun q=>?_)
 ·obtain rfl:s=7:=eQ q;refine ad b4 (false,true,false,()) rfl ?_;dsimp only [flat,aA,ai,nA,cA];refine ek (cells:=(cP 7).map kg) je vU (by decide) (by decide) (by kernel_rfl) ?_;intro h' b e z;exact fin (rs:=cP 7) b e (by decide)
 have r7:¬ s=7:=fx q;refine af (fun q=>?_) (fun q=>?_)
 ·obtain rfl:s=8:=eQ q;refine ad b5 (false,false,false,()) rfl ?_;dsimp only [flat,aA,ai,nA,cA];refine ek (cells:=(cP 8).map kg) je vU (by decide) (by decide) (by kernel_rfl) ?_;intro h' b e z;exact fin (rs:=cP 8) b e (by decide)
 have r8:¬ s=8:=fx q;refine af (fun q=>?_) (fun q=>?_)
 ·obtain rfl:s=9:=eQ q;refine ek (cells:=(cP 9).map kg) je vU (by decide) (by decide) (by kernel_rfl) ?_;intro h' b e z;exact fin (rs:=cP 9) b e (by decide)
 have r9:¬ s=9:=fx q;refine af (fun q=>?_) (fun q=>?_)
 ·obtain rfl:s=11:=eQ q;refine ad b5 (false,false,false,()) rfl ?_;dsimp only [flat,aA,ai,nA,cA];refine ek (cells:=(cP 11).map kg) je vU (by decide) (by decide) (by kernel_rfl) ?_;intro h' b e z;exact fin (rs:=cP 11) b e (by decide)
 have r11:¬ s=11:=fx q;refine af (fun q=>?_) (fun q=>?_)
 ·obtain rfl:s=12:=eQ q;refine ek (cells:=(cP 12).map kg) je vU (by decide) (by decide) (by kernel_rfl) ?_;intro h' b e z;exact fin (rs:=cP 12) b e (by decide)
 have r12:¬ s=12:=fx q;have hr:cP s=cP 13:=by
  unfold cP;simp [r1,r2,r3,r4,r5,r6,r7,r8,r9,r11,r12]
 rw [hr];refine ad b5 (false,false,false,()) rfl ?_;dsimp only [flat,aA,ai,nA,cA];refine ek (cells:=(cP 13).map kg) je vU (by decide) (by decide) (by kernel_rfl) ?_;intro h' b e z;exact fin (rs:=cP 13) b e (by decide)
def bB (s:Nat):Nat:=if s=4∨s=7 then 8 else if s=5∨s=6 then 4 else 0
def lZ (h:Hp):Prop:=∃ e f,h[1]?=some (.cells (lu bX bZ).toArray e f)
theorem lZ.ah {ws:List Nat} {h h':Hp} (t:lZ h) (k:Ch ws h h') (hw:1∉ws):lZ h':=by
 obtain ⟨e,f,ht⟩:=t;exact ⟨e,f,k.get ht hw⟩
theorem lZ.K6 {h:Hp} (t:lZ h):yJ h:=by
 obtain ⟨e,f,ht⟩:=t;exact ⟨_,_,e,f,ht⟩
theorem xw {h:Hp} {g:Nat} {c:Array Value} {e:TypeId} {f:Nat × Nat} (hg:h[g]?=some (.cells c e f)):∀ (vs:List Value) (i:Nat),(∀ j,j<vs.length→c[i+j]?=vs[j]?)→aG h ⟨g,0,none⟩ i vs
 | [],_,_=>trivial
 | v::vs,i,hv=>by
  refine ⟨?_,xw hg vs (i+1) fun j hj=>?_⟩
  ·rw [ao,kj hg]
   have:=hv 0 (by simp)
   simpa using this
  ·have:=hv (j+1) (by simpa using hj)
   rw [List.getElem?_cons_succ] at this;rw [← this]; congr 1; omega
theorem lZ.all {h:Hp} (t:lZ h):aG h ⟨1,0,none⟩ 0 (lu bX bZ):=by
 obtain ⟨e,f,ht⟩:=t;exact xw ht _ 0 (fun j hj=>by simp)
def KH:Value:=.agg (lu bX bZ).toArray
theorem Ih (h:Hp) (K:Value→Hp→Prop):∀ k:Nat,k<43→aE Tryz.prog (Instr.index 215 KH (.int .i64 (k:Int))) h K=K (.agg #[.string (bX k),.int .u8 (bZ k),.int .i64 (bO.getD k 0:Nat)]) h
 | 0,_=>by kernel_rfl
 | 1,_=>by kernel_rfl
 | 2,_=>by kernel_rfl
 | 3,_=>by kernel_rfl
 | 4,_=>by kernel_rfl
 | 5,_=>by kernel_rfl
 | 6,_=>by kernel_rfl
 | 7,_=>by kernel_rfl
 | 8,_=>by kernel_rfl
 | 9,_=>by kernel_rfl
 | 10,_=>by kernel_rfl
 | 11,_=>by kernel_rfl
 | 12,_=>by kernel_rfl
 | 13,_=>by kernel_rfl
 | 14,_=>by kernel_rfl
 | 15,_=>by kernel_rfl
 | 16,_=>by kernel_rfl
 | 17,_=>by kernel_rfl
 | 18,_=>by kernel_rfl
 | 19,_=>by kernel_rfl
 | 20,_=>by kernel_rfl
 | 21,_=>by kernel_rfl
 | 22,_=>by kernel_rfl
 | 23,_=>by kernel_rfl
 | 24,_=>by kernel_rfl
 | 25,_=>by kernel_rfl
 | 26,_=>by kernel_rfl
 | 27,_=>by kernel_rfl
 | 28,_=>by kernel_rfl
 | 29,_=>by kernel_rfl
 | 30,_=>by kernel_rfl
 | 31,_=>by kernel_rfl
 | 32,_=>by kernel_rfl
 | 33,_=>by kernel_rfl
 | 34,_=>by kernel_rfl
 | 35,_=>by kernel_rfl
 | 36,_=>by kernel_rfl
 | 37,_=>by kernel_rfl
 | 38,_=>by kernel_rfl
 | 39,_=>by kernel_rfl
 | 40,_=>by kernel_rfl
 | 41,_=>by kernel_rfl
 | 42,_=>by kernel_rfl
 | k+43,hk=>by omega
def It (s0:ByteArray):T :=
 T.loop [(false,[.int .i64]),(false,[.bool]),(false,[.int .i64])] [.int .i64 (0:Int),.bool false,.int .i64 (0:Int)] <| fun (n130:Int) (b131:Bool) (n132:Int) =>
 cond (decide (n132<(43:Int)))
 (T.aV Tryz.prog (Instr.index 215 KH (.int .i64 n132)) false [(true,[.string,.int .u8,.int .i64])] <| fun (s133:ByteArray) (n134:Int) (n135:Int) =>
 T.new [.string ⟨#[]⟩,.int .u8 (0:Int),.int .i64 (0:Int)] 158 <| fun (a136:Addr) =>
 T.ap a136 [.string s133,.int .u8 n134,.int .i64 n135] <|
 T.ae a136 [.string] <| fun (s137:ByteArray) =>
 cond ((ByteArray.toList s137)==(ByteArray.toList s0))
  (T.ret (.tuple #[.int .i64 (IntKind.wrap .i64 (n132+(1:Int))),.bool true]))
  (T.again 0 [.int .i64 n130,.bool b131,.int .i64 (IntKind.wrap .i64 (n132+(1:Int)))]))
 (T.ret (.tuple #[.int .i64 (0:Int),.bool false]))
def J4:qB [.string,.int .u8,.int .i64,.string,.int .u8,.int .i64,.string,.int .u8,.int .i64,.string,.int .u8,.int .i64,.string,.int .u8,.int .i64,.string,.int .u8,.int .i64,.string,.int .u8,.int .i64,.string,.int .u8,.int .i64,.string,.int .u8,.int .i64,.string,.int .u8,.int .i64,.string,.int .u8,.int .i64,.string,.int .u8,.int .i64,.string,.int .u8,.int .i64,.string,.int .u8,.int .i64,.string,.int .u8,.int .i64,.string,.int .u8,.int .i64,.string,.int .u8,.int .i64,.string,.int .u8,.int .i64,.string,.int .u8,.int .i64,.string,.int .u8,.int .i64,.string,.int .u8,.int .i64,.string,.int .u8,.int .i64,.string,.int .u8,.int .i64,.string,.int .u8,.int .i64,.string,.int .u8,.int .i64,.string,.int .u8,.int .i64,.string,.int .u8,.int .i64,.string,.int .u8,.int .i64,.string,.int .u8,.int .i64,.string,.int .u8,.int .i64,.string,.int .u8,.int .i64,.string,.int .u8,.int .i64,.string,.int .u8,.int .i64,.string,.int .u8,.int .i64,.string,.int .u8,.int .i64,.string,.int .u8,.int .i64,.string,.int .u8,.int .i64,.string,.int .u8,.int .i64,.string,.int .u8,.int .i64,.string,.int .u8,.int .i64,.string,.int .u8,.int .i64,.string,.int .u8,.int .i64,.string,.int .u8,.int .i64]:=(bX 0,bZ 0,((bO.getD 0 0:Nat):Int),bX 1,bZ 1,((bO.getD 1 0:Nat):Int),bX 2,bZ 2,((bO.getD 2 0:Nat):Int),bX 3,bZ 3,((bO.getD 3 0:Nat):Int),bX 4,bZ 4,((bO.getD 4 0:Nat):Int),bX 5,bZ 5,((bO.getD 5 0:Nat):Int),bX 6,bZ 6,((bO.getD 6 0:Nat):Int),bX 7,bZ 7,((bO.getD 7 0:Nat):Int),bX 8,bZ 8,((bO.getD 8 0:Nat):Int),bX 9,bZ 9,((bO.getD 9 0:Nat):Int),bX 10,bZ 10,((bO.getD 10 0:Nat):Int),bX 11,bZ 11,((bO.getD 11 0:Nat):Int),bX 12,bZ 12,((bO.getD 12 0:Nat):Int),bX 13,bZ 13,((bO.getD 13 0:Nat):Int),bX 14,bZ 14,((bO.getD 14 0:Nat):Int),bX 15,bZ 15,((bO.getD 15 0:Nat):Int),bX 16,bZ 16,((bO.getD 16 0:Nat):Int),bX 17,bZ 17,((bO.getD 17 0:Nat):Int),bX 18,bZ 18,((bO.getD 18 0:Nat):Int),bX 19,bZ 19,((bO.getD 19 0:Nat):Int),bX 20,bZ 20,((bO.getD 20 0:Nat):Int),bX 21,bZ 21,((bO.getD 21 0:Nat):Int),bX 22,bZ 22,((bO.getD 22 0:Nat):Int),bX 23,bZ 23,((bO.getD 23 0:Nat):Int),bX 24,bZ 24,((bO.getD 24 0:Nat):Int),bX 25,bZ 25,((bO.getD 25 0:Nat):Int),bX 26,bZ 26,((bO.getD 26 0:Nat):Int),bX 27,bZ 27,((bO.getD 27 0:Nat):Int),bX 28,bZ 28,((bO.getD 28 0:Nat):Int),bX 29,bZ 29,((bO.getD 29 0:Nat):Int),bX 30,bZ 30,((bO.getD 30 0:Nat):Int),bX 31,bZ 31,((bO.getD 31 0:Nat):Int),bX 32,bZ 32,((bO.getD 32 0:Nat):Int),bX 33,bZ 33,((bO.getD 33 0:Nat):Int),bX 34,bZ 34,((bO.getD 34 0:Nat):Int),bX 35,bZ 35,((bO.getD 35 0:Nat):Int),bX 36,bZ 36,((bO.getD 36 0:Nat):Int),bX 37,bZ 37,((bO.getD 37 0:Nat):Int),bX 38,bZ 38,((bO.getD 38 0:Nat):Int),bX 39,bZ 39,((bO.getD 39 0:Nat):Int),bX 40,bZ 40,((bO.getD 40 0:Nat):Int),bX 41,bZ 41,((bO.getD 41 0:Nat):Int),bX 42,bZ 42,((bO.getD 42 0:Nat):Int),())
theorem H2:fk _ J4=lu bX bZ:=by kernel_rfl
theorem DP {L:Lp} {K:Value→Hp→Prop} {h:Hp} (t:lZ h) {s:ByteArray} (hk:It s L K h):vy s L K h :=
 ⟨J4,by rw [H2]; exact t.all,hk⟩
theorem zD (nm:Nat→List UInt8) (s:List UInt8):∀ (m k:Nat),k≤m→jA nm s k≠0→jA nm s m=jA nm s k
 | 0,k,h,_=>by
  have:k=0:=by omega
  rw [this]
 | m+1,k,h,hk=>by
  by_cases e:k=m+1
  ·rw [e]
  ·have ih:=zD nm s m k (by omega) hk;show (match jA nm s m with | 0=>if nm m=s then m+1 else 0 | n=>n)=jA nm s k;rw [ih];cases hh:jA nm s k with
   | zero=>exact absurd hh hk
   | succ n=>rfl
theorem Bg (nm:Nat→List UInt8) (s:List UInt8) (k:Nat) (h:jA nm s k=0):jA nm s (k+1)=if nm k=s then k+1 else 0:=by
 show (match jA nm s k with | 0=>if nm k=s then k+1 else 0 | n=>n)=_;rw [h] <;> rfl
theorem G0 {h:Hp} (t:lZ h) (s:ByteArray):HC Tryz.prog 98 #[.string s] h fun u h'=>u=.tuple #[.int .i64 (j8 s:Nat),.bool (decide (j8 s≠0))]∧Ext h h':=by
 refine aI (args:=[.string s]) mixed Tryz.func98 (by kernel_rfl) (wj s) ?_;refine DP t ?_;unfold It;refine bC (cs:=[(false,[.int .i64]),(false,[.bool]),(false,[.int .i64])]) (fun x n h'=>∃ k:Nat,x.2.2.1=(k:Int)∧k≤43∧n=43-k∧Ext h h'∧jA D9 s.data.toList k=0) ((0:Int),false,(0:Int),()) 43 rfl ⟨0,rfl,by omega,by omega,Ch.refl _ _,rfl⟩ ?_;rintro ⟨n130,b131,n132,⟨⟩⟩ n h1 ⟨k,hk,hk43,rfl,e1,h0⟩;simp only at hk;subst hk;dsimp only [flat,aA,ai,nA,cA];refine af (fun q=>?_) (fun q=>?_)
 ·have q:=of_decide_eq_true q;have hlt:k<43:=by omega
  show aE _ _ _ _;rw [Ih _ _ k hlt];refine ⟨(bX k,bZ k,((bO.getD k 0:Nat):Int),()),rfl,?_⟩;dsimp only [flat,aA,ai,nA,cA];refine aT ?_;intro h2 b2 e2 z2;refine ak b2 rfl (by simp) ?_;intro h3 b3 k3 z3;have b3:aN h3 h1.size 158 [.string (bX k),.int .u8 (bZ k),.int .i64 ((bO.getD k 0:Nat):Int)]:=b3;have e3:Ext h h3:=e1.trans (Ch.trans e2 k3 (fun i hi hl=>by simp at hi; omega));refine ad b3 (bX k,()) rfl ?_;dsimp only [flat,aA,ai,nA,cA];have hn:=Bg D9 s.data.toList k h0;have hw:IntKind.wrap .i64 ((k:Int)+1)=((k+1:Nat):Int):=by rw [wrap_i64 (by omega) (by omega)]; omega
  rw [ByteArray.toList_eq,ByteArray.toList_eq,hw];refine af (fun r=>?_) (fun r=>?_)
  ·have r:D9 k=s.data.toList:=eq_of_beq r;rw [if_pos r] at hn;have hf:j8 s=k+1:=by
    unfold j8;rw [zD _ _ 43 (k+1) (by omega) (by omega),hn]
   refine ⟨?_,e3⟩;rw [hf]
   simp
  ·have r:¬ D9 k=s.data.toList:=ne_of_beq_false r;rw [if_neg r] at hn;exact aL (cs:=[(false,[.int .i64]),(false,[.bool]),(false,[.int .i64])]) (n130,b131,((k+1:Nat):Int),()) (43-(k+1)) rfl (by omega) rfl ⟨k+1,rfl,by omega,rfl,e3,hn⟩
 ·have q:=of_decide_eq_false q
  have:k=43:=by omega
  subst this;refine ⟨?_,e1⟩;unfold j8;rw [h0]
  simp
end Go.Sx.Ob
set_option linter.unusedVariables false
set_option linter.unusedSimpArgs false
set_option maxRecDepth 100000
namespace Go.Sx
open Go.Proofs
def RQ (h:Hp) (A:Nat) (us ts:List Tok) (d:Int) (e:Nat):Prop:=∃ k,RB h A us k d e∧ts=us.drop k
theorem RQ.ah {ws:List Nat} {h h':Hp} {A:Nat} {us ts:List Tok} {d:Int} {e:Nat} (b:RQ h A us ts d e) (c:Ch ws h h') (hw:∀ i,i∈ws→A<i):RQ h' A us ts d e:=by
 obtain ⟨k,b,ht⟩:=b;exact ⟨k,b.ah c hw,ht⟩
theorem RQ.lt {h:Hp} {A:Nat} {us ts:List Tok} {d:Int} {e:Nat} (b:RQ h A us ts d e):A<h.size:=by
 obtain ⟨k,b,ht⟩:=b;exact b.lt
def Lt (h:Hp) (A:Nat) (us:List Tok) (n:Nat) (d:Int) (res:cD) (v:Value) (h':Hp):Prop :=
 Ch [A] h h'∧∃ x p l c ts' d' e',v=nU p l c x∧SL h' h.size 109 2 p l c (x.aw.map cJ)∧Good x∧RQ h' A us ts' d' e'∧yN n d x ts' d' e' res
section rules
variable {L:Lp} {K:Value→Hp→Prop} {h:Hp}
theorem rj {h hx:Hp} {A:Nat} {us ts':List Tok} {n:Nat} {d d':Int} {res:cD} {g1 g4 b:Nat} {x:eJ} {p:Option Addr} {l c e':Nat} {L:Lp} (kx:Ch [A] h hx) (hg1:h.size≤g1) (hAg:A<g1) (b1:aN hx g1 94 [.slice none 0 0,.int .u32 0]) (b4:aN hx g4 94 [.slice p l c,.int .u32 (x.num:Int)])
  (s:SL hx b 109 2 p l c (x.aw.map cJ)) (hb:g1<b) (gx:Good x) (rq:RQ hx A us ts' d' e') (post:yN n d x ts' d' e' res) :
  (T.ae ⟨g4,0,none⟩ [.slice 109,.int .u32] fun (p:Option Addr) (l c:Nat) (n:Int)=>T.ap ⟨g1,0,none⟩ [.slice p l c,.int .u32 n] <| T.ae ⟨g1,0,none⟩ [.slice 109,.int .u32] fun (p:Option Addr) (l c:Nat) (n:Int)=>T.ret (.agg #[.slice p l c,.int .u32 n])) L (Lt h A us n d res) hx:=by
 refine ad b4 ((p,l,c),(x.num:Int),()) rfl ?_;dsimp only [flat,aA,ai,nA,cA];refine ak b1 rfl (by simp) ?_;intro h7 b7 k7 z7;have b7:aN h7 g1 94 [.slice p l c,.int .u32 (x.num:Int)]:=b7;refine ad b7 ((p,l,c),(x.num:Int),()) rfl ?_;exact ⟨Ch.trans kx k7 (fun j hj hl=>by simp at hj; omega),x,p,l,c,ts',d',e',rfl,(s.aS k7 (fun j hj=>by have:=(s.bN hj).1; simp; omega)).mono (by omega),gx,rq.ah k7 (by simp; omega),post⟩
end rules
theorem tC {α:Type} {l r:List α} {p:α} {i:Nat} (h:l.drop i=p::r):i<l.length:=by
 rcases Nat.lt_or_ge i l.length with h1 | h1
 ·exact h1
 ·rw [List.drop_eq_nil_of_le h1] at h; cases h
end Go.Sx
set_option linter.unusedVariables false
set_option linter.unusedSimpArgs false
set_option maxRecDepth 100000
namespace Go.Sx.Ob
open Go.Proofs
variable {h':Hp}
structure CC (h:Hp) (p:Option Addr) (l:Nat) (al:List In):Prop where
 len:l=al.length
 cells:∀ k,(hk:k<al.length)→∃ a,p=some a∧aG h (a.add (k*1)) 0 al[k].val
 sQ:∀ a,a∈al→Vw h a.p a.l a.c a.ts
 bN:∀ a,a∈al→∀ i,i∈ay a.p→i<h.size
 wf:∀ a,a∈al→Wf a.ts
 many:∀ a,a∈al→a.ts.length≤2^40
 ne:∀ a,a∈al→a.ts≠[]
 text:∀ a,a∈al→∀ t,t∈a.ts→t.text.size≤9223372036854775807
theorem CC.ah {h:Hp} {p:Option Addr} {l:Nat} {al:List In} (v:CC h p l al) (e:Ext h h'):CC h' p l al :=
 ⟨v.len,fun k hk=>by
  obtain ⟨a,ha,hc⟩:=v.cells k hk;exact ⟨a,ha,bk e (by simp) _ _ hc⟩,fun a ha=>(v.sQ a ha).ah e (by simp),fun a ha i hi=>Nat.lt_of_lt_of_le (v.bN a ha i hi) e.size,v.wf,v.many,v.ne,v.text⟩
theorem CC.of {h:Hp} {b:Nat} {te es:TypeId} {p:Option Addr} {c:Nat} {al:List In} (A:fM h b te es p c al) (w:∀ a,a∈al→Wf a.ts∧a.ts.length≤2^40∧a.ts≠[]∧∀ t,t∈a.ts→t.text.size≤9223372036854775807):CC h p al.length al:=by
 refine ⟨rfl,fun k hk=>?_,fun a ha=>(A.sQ a ha).vw,fun a ha i hi=>((A.sQ a ha).bN hi).2,fun a ha=>(w a ha).1,fun a ha=>(w a ha).2.1,fun a ha=>(w a ha).2.2.1,fun a ha=>(w a ha).2.2.2⟩;obtain ⟨a,ha,hc⟩:=A.out.cells (i:=k) (by rw [List.length_map]; exact hk);rw [List.getElem_map] at hc;exact ⟨a,ha,hc⟩
theorem LI (z s t:Bool) (h:Hp) (K:Value→Hp→Prop):aE Tryz.prog (Instr.typeAssert (.iface 253 (.agg #[.bool z,.bool s,.bool t])) 20 253 true) h K=K (.tuple #[.agg #[.bool z,.bool s,.bool t],.bool true]) h:=by kernel_rfl
theorem Lc (lo hi:Int) (h:Hp) (K:Value→Hp→Prop):aE Tryz.prog (Instr.typeAssert (.iface 255 (.agg #[.int .i64 lo,.int .i64 hi])) 20 253 true) h K=K (.tuple #[.agg #[.bool false,.bool false,.bool false],.bool false]) h:=by kernel_rfl
theorem Lg (lo hi:Int) (h:Hp) (K:Value→Hp→Prop):aE Tryz.prog (Instr.typeAssert (.iface 255 (.agg #[.int .i64 lo,.int .i64 hi])) 20 255 true) h K=K (.tuple #[.agg #[.int .i64 lo,.int .i64 hi],.bool true]) h:=by kernel_rfl
theorem LG (p:Bool) (h:Hp) (K:Value→Hp→Prop):aE Tryz.prog (Instr.typeAssert (.iface 257 (.agg #[.bool p])) 20 253 true) h K=K (.tuple #[.agg #[.bool false,.bool false,.bool false],.bool false]) h:=by kernel_rfl
theorem LK (p:Bool) (h:Hp) (K:Value→Hp→Prop):aE Tryz.prog (Instr.typeAssert (.iface 257 (.agg #[.bool p])) 20 255 true) h K=K (.tuple #[.agg #[.int .i64 0,.int .i64 0],.bool false]) h:=by kernel_rfl
theorem LF (p:Bool) (h:Hp) (K:Value→Hp→Prop):aE Tryz.prog (Instr.typeAssert (.iface 257 (.agg #[.bool p])) 20 257 true) h K=K (.tuple #[.agg #[.bool p],.bool true]) h:=by kernel_rfl
theorem wrap_i32 {n:Int} (h1:-2147483648≤n) (h2:n<2147483648):IntKind.wrap .i32 n=n:=by
 simp only [IntKind.wrap,IntKind.bits,IntKind.signed,Bool.true_and];split <;> rename_i hh
 ·have:=of_decide_eq_true hh; omega
 ·have:¬ _:=fun h=>hh (decide_eq_true h); omega
theorem IV (n:Nat) (h:n<4294967296):-2147483648≤yY n∧yY n<2147483648:=by
 unfold yY;split <;> omega
theorem HI {lo hi n:Int} {ts:List Tok} (w:Wf ts) (h:gT lo hi ts=.ok n):-2147483648≤n∧n<2147483648:=by
 unfold gT at h;cases hx:bP ts with
 | error e=>rw [hx] at h; cases h
 | ok x =>
  rw [hx] at h;simp only at h;split at h
  ·cases h
  ·injection h with h
   rw [← h];exact IV _ (gM w hx).num
theorem gO {lo hi:Int} {ts:List Tok} {e:Nat} (w:Wf ts) (h:gT lo hi ts=.error e):e=20∨e=21:=by
 unfold gT at h;cases hx:bP ts with
 | error e' =>
  rw [hx] at h;injection h with h
  subst h;exact dM w hx
 | ok x =>
  rw [hx] at h;simp only at h;split at h
  ·injection h with h
   exact .inr h.symm
  ·cases h
theorem Ax {z:Bool} {ts:List Tok} {e:Nat} (h:mM z ts=.error e):e=20:=by
 unfold mM at h;split at h
 ·split at h
  ·cases h
  ·injection h with h
   exact h.symm
 ·injection h with h
  exact h.symm
def Dz (h:Hp) (b0 B:Nat) (r:Except Nat bw) (u:Value) (h':Hp):Prop:=Ch [B] h h'∧match r with
 | .error e=>u=.int .i64 (e:Int)∧(e=20∨e=21)∧∃ xs,aN h' B 96 xs∧xs.length=10
 | .ok y=>u=.int .i64 0∧∃ p l c,aN h' B 96 (encI p l c y)∧SL h' b0 109 2 p l c (y.e.aw.map cJ)
theorem y7 {h:Hp} {b0 B:Nat} {x:bw} {p:Option Addr} {l c:Nat} (b:aN h B 96 (encI p l c x)) (s:SL h b0 109 2 p l c (x.e.aw.map cJ)) (hb0:b0≤h.size) (hB:B<b0) (r:CD)
  {q:Option Addr} {m d:Nat} {ts:List Tok} (v:Vw h q m d ts) (hq:∀ i,i∈ay q→i<h.size) (w:Wf ts) (hts:ts.length≤2^40) :
  HC Tryz.prog 125 #[.pointer (some ⟨B,0,none⟩),kg r,.slice q m d] h (Dz h b0 B (dE x r ts)):=by
 have hBs:=b.lt;refine aI (args:=[.pointer (some ⟨B,0,none⟩),kg r,.slice q m d]) mixed Tryz.func125 (by kernel_rfl) (oX _ _ q m d) ?_;unfold lz;have hS:∀ {h1 h2:Hp},Ext h h1→Ch [B] h1 h2→SL h2 b0 109 2 p l c (x.e.aw.map cJ):=fun e k=>(Sx.SL.aS s e (by simp)).aS k (fun i hi hm=>by have:=(Sx.SL.bN s hi).1; simp at hm; omega)
 have hC:∀ {h1 h2:Hp},Ext h h1→Ch [B] h1 h2→Ch [B] h h2:=fun e k=>Ch.trans (e.mono (by simp)) k (fun i hi _=>hi)
 cases r with
 | tA z s2 s3 =>
  show aE _ _ _ _;unfold kg;rw [LI];refine ⟨(z,s2,s3,true,()),rfl,?_⟩;dsimp only [flat,aA,ai,nA,cA];refine aX rfl ?_;refine aT ?_;intro h1 b1 e1 z1;refine ak b1 rfl (by simp) ?_;intro h2 b2 k2 z2;have b2:aN h2 h.size 253 [.bool z,.bool s2,.bool s3]:=b2;have e2:Ext h h2:=Ch.trans e1 k2 (fun i hi hl=>by simp at hi; omega);refine ad b2 (z,()) rfl ?_;dsimp only [flat,aA,ai,nA,cA];have bB:=b.ah e2 (by simp)
  have st:∀ {L:Lp} (n e:Int) (y:bw) (o:Nat) (val:Value),dW val=true→o<10→(encI p l c x).set o val=encI p l c y→y.e=x.e→(∀ h',aN h' B 96 (encI p l c y)→Ch [B] h h'→SL h' b0 109 2 p l c (y.e.aw.map cJ)→Dz h b0 B (dE x (.tA z s2 s3) ts) (.int .i64 e) h') →
    (T.ap ⟨B,o,none⟩ [val] <| T.ret (.int .i64 e)) L (Dz h b0 B (dE x (.tA z s2 s3) ts)) h2:=by
   intro L n e y o val hpv ho ij hy hk;refine ak bB (by simp [hpv]) (by simp [encI]; omega) ?_;intro h3 b3 k3 z3;rw [show ir (encI p l c x) o [val]=(encI p l c x).set o val from rfl,ij] at b3;exact hk h3 b3 (hC e2 k3) (by rw [hy]; exact hS e2 k3)
  cases hr:mM z ts with
  | error e =>
   have he:=Ax hr;have hA:dE x (.tA z s2 s3) ts=.error e:=by unfold dE; simp only [hr]
   refine iS (v:=Ho (mM z ts)) (GC (v.ah e2 (by simp)) z) ((0:Int),(e:Int),()) (by rw [hr]; rfl) ?_;dsimp only [flat,aA,ai,nA,cA];rw [ao];refine ad b2 (s3,()) rfl ?_;dsimp only [flat,aA,ai,nA,cA];have out:∀ {L:Lp} (o:Nat) (val:Value),dW val=true→o<10→(T.ap ⟨B,o,none⟩ [val] <| T.ret (.int .i64 (e:Int))) L (Dz h b0 B (dE x (.tA z s2 s3) ts)) h2:=by
    intro L o val hpv ho;refine ak bB (by simp [hpv]) (by simp [encI]; omega) ?_;intro h3 b3 k3 z3;refine ⟨hC e2 k3,?_⟩;rw [hA];exact ⟨rfl,.inl he,_,b3,by rw [jC]; rfl⟩
   refine af (fun g=>?_) (fun g=>?_)
   ·refine an rfl ?_;rw [ao,ao];exact out 5 _ rfl (by omega)
   ·rw [ao];refine ad b2 (s2,()) rfl ?_;dsimp only [flat,aA,ai,nA,cA];refine af (fun g=>?_) (fun g=>?_)
    ·refine an rfl ?_;rw [ao,ao];exact out 4 _ rfl (by omega)
    ·refine an rfl ?_;rw [ao,ao];exact out 3 _ rfl (by omega)
  | ok n =>
   have hn:=kC hr;have hn8:0≤n∧n<8:=by
    refine ⟨hn.1,?_⟩
    have:=hn.2
    split at this <;> omega
   refine iS (v:=Ho (mM z ts)) (GC (v.ah e2 (by simp)) z) (n,(0:Int),()) (by rw [hr]; rfl) ?_;dsimp only [flat,aA,ai,nA,cA];rw [ao];refine ad b2 (s3,()) rfl ?_;dsimp only [flat,aA,ai,nA,cA];have hA:dE x (.tA z s2 s3) ts=.ok (if s3 then ez x n else if s2 then ni x n else nj x n):=by unfold dE; simp only [hr]
   refine af (fun g=>?_) (fun g=>?_)
   ·refine an rfl ?_;rw [ao,ao,wrap_i32 (by omega) (by omega)];refine st n 0 (ez x n) 5 _ rfl (by omega) rfl rfl ?_;intro h' b' k' s';refine ⟨k',?_⟩;rw [hA,if_pos g];exact ⟨rfl,p,l,c,b',s'⟩
   ·rw [ao];refine ad b2 (s2,()) rfl ?_;dsimp only [flat,aA,ai,nA,cA];refine af (fun g'=>?_) (fun g'=>?_)
    ·refine an rfl ?_;rw [ao,ao];refine st n 0 (ni x n) 4 _ rfl (by omega) rfl rfl ?_;intro h' b' k' s';refine ⟨k',?_⟩;rw [hA,if_neg (by rw [g]; simp),if_pos g'];exact ⟨rfl,p,l,c,b',s'⟩
    ·refine an rfl ?_;rw [ao,ao];refine st n 0 (nj x n) 3 _ rfl (by omega) rfl rfl ?_;intro h' b' k' s';refine ⟨k',?_⟩;rw [hA,if_neg (by rw [g]; simp),if_neg (by rw [g']; simp)];exact ⟨rfl,p,l,c,b',s'⟩
 | HV lo hi =>
  show aE _ _ _ _;unfold kg;rw [Lc];refine ⟨(false,false,false,false,()),rfl,?_⟩;dsimp only [flat,aA,ai,nA,cA];refine bm rfl ?_;show aE _ _ _ _;rw [Lg];refine ⟨(lo,hi,true,()),rfl,?_⟩;dsimp only [flat,aA,ai,nA,cA];refine aX rfl ?_;refine aT ?_;intro h1 b1 e1 z1;refine ak b1 rfl (by simp) ?_;intro h2 b2 k2 z2;have b2:aN h2 h.size 255 [.int .i64 lo,.int .i64 hi]:=b2;have e2:Ext h h2:=Ch.trans e1 k2 (fun i hi hl=>by simp at hi; omega);refine ad b2 (lo,()) rfl ?_;dsimp only [flat,aA,ai,nA,cA];rw [ao];refine ad b2 (hi,()) rfl ?_;dsimp only [flat,aA,ai,nA,cA];refine aC (nL (v.ah e2 (by simp)) (fun i hi=>Nat.lt_of_lt_of_le (hq i hi) e2.size) w hts lo hi) ?_;rintro _ h3 ⟨rfl,e3⟩;have e3:=e2.trans e3;have bB:=b.ah e3 (by simp);cases hr:gT lo hi ts with
  | error e =>
   have he:=gO w hr;refine ⟨((0:Int),(e:Int),()),rfl,?_⟩;dsimp only [flat,aA,ai,nA,cA];refine an rfl ?_;rw [ao,ao];refine ak bB rfl (by simp [encI]) ?_;intro h4 b4 k4 z4;refine ⟨hC e3 k4,?_⟩;rw [show dE x (.HV lo hi) ts=.error e by unfold dE; simp only [hr]];exact ⟨rfl,he,_,b4,by rw [jC]; rfl⟩
  | ok n =>
   have hn:=HI w hr;refine ⟨(n,(0:Int),()),rfl,?_⟩;dsimp only [flat,aA,ai,nA,cA];refine an rfl ?_;rw [ao,ao,wrap_i32 hn.1 hn.2];refine ak bB rfl (by simp [encI]) ?_;intro h4 b4 k4 z4;refine ⟨hC e3 k4,?_⟩;rw [show dE x (.HV lo hi) ts=.ok (ez x n) by unfold dE; simp only [hr]];exact ⟨rfl,p,l,c,b4,hS e3 k4⟩
 | val pool =>
  show aE _ _ _ _;unfold kg;rw [LG];refine ⟨(false,false,false,false,()),rfl,?_⟩;dsimp only [flat,aA,ai,nA,cA];refine bm rfl ?_;show aE _ _ _ _;rw [LK];refine ⟨((0:Int),(0:Int),false,()),rfl,?_⟩;dsimp only [flat,aA,ai,nA,cA];refine bm rfl ?_;show aE _ _ _ _;rw [LF];refine ⟨(pool,true,()),rfl,?_⟩;dsimp only [flat,aA,ai,nA,cA];refine aX rfl ?_;refine aT ?_;intro h1 b1 e1 z1;refine ak b1 rfl (by simp) ?_;intro h2 b2 k2 z2;have b2:aN h2 h.size 257 [.bool pool]:=b2;have e2:Ext h h2:=Ch.trans e1 k2 (fun i hi hl=>by simp at hi; omega);refine ad b2 (pool,()) rfl ?_;dsimp only [flat,aA,ai,nA,cA];have bB:=b.ah e2 (by simp)
  have put:∀ {L:Lp} {us:List Tok} {h3:Hp} {u:Value},Wf us→dE x (.val pool) ts=(match bP us with | .error e=>.error e | .ok y=>.ok (yq x y))→BJ h2 (bP us) u h3 →
    ∃ y:qB (flat [(true,[.slice 109,.int .u32]),(false,[.int .i64])]),u=rv true [(true,[.slice 109,.int .u32]),(false,[.int .i64])] (fk _ y)∧@aA (flat [(true,[.slice 109,.int .u32]),(false,[.int .i64])]) T (fun (p18:Option Addr) (l19:Nat) (l20:Nat) (n21:Int) (n22:Int) =>
    T.au (some (⟨B,0,none⟩:Addr)) <| fun (a23:Addr) =>
    T.ap (a23.add 7) [.slice p18 l19 l20,.int .u32 n21] <|
    T.ret (.int .i64 n22)) y L (Dz h b0 B (dE x (.val pool) ts)) h3:=by
   rintro L us h3 u hw hA ⟨e3,hu⟩;have e3:=e2.trans e3;cases hx:bP us with
   | error e =>
    rw [hx] at hu hA;have he:=dM hw hx;have hu:u=.tuple #[.agg #[.slice none 0 0,.int .u32 0],.int .i64 (e:Int)]:=hu;subst hu;refine ⟨((none,0,0),(0:Int),(e:Int),()),rfl,?_⟩;dsimp only [flat,aA,ai,nA,cA];refine an rfl ?_;rw [ao];refine ak (b.ah e3 (by simp)) rfl (by simp [encI]) ?_;intro h4 b4 k4 z4;refine ⟨hC e3 k4,?_⟩;rw [hA];exact ⟨rfl,he,_,b4,by rw [jC]; rfl⟩
   | ok y =>
    rw [hx] at hu hA;obtain ⟨p5,l5,c5,rfl,sl,gd⟩:=hu;refine ⟨((p5,l5,c5),(y.num:Int),(0:Int),()),rfl,?_⟩;dsimp only [flat,aA,ai,nA,cA];refine an rfl ?_;rw [ao];refine ak (b.ah e3 (by simp)) rfl (by simp [encI]) ?_;intro h4 b4 k4 z4;refine ⟨hC e3 k4,?_⟩;rw [hA];have hz:=e2.size;exact ⟨rfl,p5,l5,c5,b4,((Sx.SL.mono sl (by omega)).aS k4 (fun i hi hm=>by have:=(Sx.SL.bN sl hi).1; simp at hm; omega))⟩
  have v2:=v.ah e2 (by simp);have hq2:∀ i,i∈ay q→i<h2.size:=fun i hi=>Nat.lt_of_lt_of_le (hq i hi) e2.size
  cases pool with
  | false =>
   refine bm rfl ?_;refine aC (iC v2 hq2 w hts) ?_;intro u h3 hu;refine put w ?_ hu;unfold dE qf;rfl
  | true =>
   refine aX rfl ?_;have hl:=v.len;have bad:dE x (.val true) ts=.error 20→Dz h b0 B (dE x (.val true) ts) (.int .i64 20) h2:=by
    intro hA;refine ⟨e2.mono (by simp),?_⟩;rw [hA];exact ⟨rfl,.inl rfl,_,bB,rfl⟩
   refine af (fun g=>?_) (fun g=>?_)
   ·have g:m=0:=eQ g;refine bad ?_
    have:ts=[]:=List.eq_nil_of_length_eq_zero (by omega)
    subst this;rfl
   have g:¬ m=0:=fx g;cases ts with
   | nil=>simp at hl; omega
   | cons t r =>
    obtain ⟨a,rfl,c0⟩:=v2.cells 0 (by simp);have c0:aG h2 (a.add (0*4)) 0 (enc t):=c0;obtain ⟨q1,q2,_⟩:=iy c0;refine aB ⟨by omega,by omega⟩ (an rfl (aH ((t.kind:Int),()) q1 ?_));dsimp only [flat,aA,ai,nA,cA];refine af (fun g3=>?_) (fun g3=>?_)
    ·have g3:¬ t.kind=3:=by
      have:¬ (t.kind:Int)=3:=by simpa using g3
      omega
     refine bad ?_
     have:fh t 61=false:=by unfold fh; rw [beq_false_of_ne g3]; rfl
     unfold dE qf;simp [this]
    have g3:t.kind=3:=by
     have:(t.kind:Int)=3:=by simpa using g3
     omega
    refine aB ⟨by omega,by omega⟩ (an rfl (aH (t.text,()) q2 ?_));dsimp only [flat,aA,ai,nA,cA];have hs:(ByteArray.toList t.text==[({ toBitVec:=61#8 }:UInt8)])=fh t 61:=by
     unfold fh;rw [g3,ByteArray.toList_eq] <;> rfl
    rw [hs];refine af (fun g4=>?_) (fun g4=>?_)
    ·have g4:fh t 61=false:=by simpa using g4
     refine bad ?_;unfold dE qf;simp [g4]
    have g4:fh t 61=true:=by simpa using g4
    refine aB ⟨by omega,by simp at hl; omega,by have:=v.cap; omega⟩ ?_;have vd:=v2.drop (k:=1) (by simp at hl; omega);refine aC (args:=[.slice _ _ _]) (iC (ts:=r) (p:=if d=1 then some a else Option.map (fun a=>Addr.add a 4) (some a)) (l:=m-1) (c:=d-1) vd ?_ w.tail (by simp at hts; omega)) ?_
    ·intro i hi;rw [show ay (if d=1 then some a else Option.map (fun a=>Addr.add a 4) (some a))=ay (some a) from j3 _ _ _ _] at hi;exact hq2 i hi
    ·intro u h3 hu;refine put w.tail ?_ hu;unfold dE qf;simp only [g4,if_true]
     all_goals (cases bP r <;> rfl)
theorem FZ {x:bw} {r:CD} {ts:List Tok} {e:Nat} (w:Wf ts) (h:dE x r ts=.error e):e=20∨e=21:=by
 unfold dE at h;cases r with
 | tA z s t =>
  simp only at h;cases hr:mM z ts with
  | error e' =>
   rw [hr] at h;injection h with h
   subst h;exact .inl (Ax hr)
  | ok n=>rw [hr] at h; cases h
 | HV lo hi =>
  simp only at h;cases hr:gT lo hi ts with
  | error e' =>
   rw [hr] at h;injection h with h
   subst h;exact gO w hr
  | ok n=>rw [hr] at h; cases h
 | val p =>
  simp only at h;cases hr:qf p ts with
  | error e' =>
   rw [hr] at h;injection h with h
   subst h;unfold qf at hr;split at hr
   ·exact dM w hr
   ·split at hr
    ·injection hr with hr
     exact .inl hr.symm
    ·split at hr
     ·exact dM w.tail hr
     ·injection hr with hr
      exact .inl hr.symm
  | ok n=>rw [hr] at h; cases h
def Ky (h:Hp) (r:Except Nat bw) (u:Value) (h':Hp):Prop:=Ext h h'∧match r with
 | .error e=>u=.tuple #[pV none 0 0 (cK 0),.int .i64 (e:Int)]
 | .ok y=>∃ p l c,u=.tuple #[pV p l c y,.int .i64 0]∧SL h' h.size 109 2 p l c (y.e.aw.map cJ)
def zI:List Value:=[.int .i64 (0:Int),.string ⟨#[]⟩,.int .i64 (0:Int),.int .i64 (0:Int),.int .i64 (0:Int),.int .i32 (0:Int),.int .i64 (0:Int),.slice none 0 0,.int .u32 (0:Int),.int .i64 (0:Int)]
theorem Ig {h:Hp} (t:yJ h) {op:Nat} (h1:1≤op) (h2:op≤43) {p:Option Addr} {l c:Nat} {al:List In} (v:CC h p l al) (hal:al.length≤2^40) :
  HC Tryz.prog 99 #[.int .i64 (op:Int),.slice p l c] h (Ky h (ey (op:Int) (al.map In.ts))):=by
 refine aI (args:=[.int .i64 (op:Int),.slice p l c]) mixed Tryz.func99 (by kernel_rfl) (uP op p l c) ?_;unfold rZ;refine aT ?_;intro g1 b1 e1 z1;refine aC (Cj (t.ah e1 (by simp)) (op:Int) (by omega) (by omega)) ?_;rintro _ g2 ⟨s,b,rfl,e2⟩;refine ⟨(s,b,(cH (op:Int):Int),decide (cH (op:Int)≠0),()),rfl,?_⟩;dsimp only [flat,aA,ai,nA,cA];refine aT ?_;intro g3 b3 e3 z3;refine ak b3 rfl (by simp) ?_;intro g4 b4 k4 z4;have b4:aN g4 g2.size 158 [.string s,.int .u8 b,.int .i64 (cH (op:Int):Int)]:=b4;have e24:Ext g2 g4:=Ch.trans e3 k4 (fun i hi hl=>by simp at hi; omega);have e04:Ext h g4:=(e1.trans e2).trans e24;rw [ao];refine ad b4 ((cH (op:Int):Int),()) rfl ?_;dsimp only [flat,aA,ai,nA,cA];refine aC (BU (cH (op:Int)) g4) ?_;rintro _ g5 ⟨pr,cr,rfl,sr,e5⟩;refine ⟨((pr,(cP (cH (op:Int))).length,cr),()),rfl,?_⟩;dsimp only [flat,aA,ai,nA,cA];have e05:=e04.trans e5;have b1:aN g5 h.size 96 zI:=((b1.ah e2 (by simp)).ah e24 (by simp)).ah e5 (by simp);have hl:=v.len
 have out:∀ {L:Lp} {gg:Hp} {e:Nat},Ext h gg→(∃ xs,aN gg h.size 96 xs∧xs.length=10)→ey (op:Int) (al.map In.ts)=.error e →
   (T.ap ⟨h.size,0,none⟩ zI <|
   T.ae ⟨h.size,0,none⟩ [.int .i64,.string,.int .i64,.int .i64,.int .i64,.int .i32,.int .i64,.slice 109,.int .u32,.int .i64] <| fun (n12:Int) (s13:ByteArray) (n14:Int) (n15:Int) (n16:Int) (n17:Int) (n18:Int) (p19:Option Addr) (l20:Nat) (l21:Nat) (n22:Int) (n23:Int) =>
   T.ret (.tuple #[.agg #[.int .i64 n12,.string s13,.int .i64 n14,.int .i64 n15,.int .i64 n16,.int .i32 n17,.int .i64 n18,.slice p19 l20 l21,.int .u32 n22,.int .i64 n23],.int .i64 (e:Int)])) L (Ky h (ey (op:Int) (al.map In.ts))) gg:=by
  rintro L gg e eg ⟨xs,bx,hx⟩ hA;refine ak bx rfl (by rw [hx]; simp [zI]) ?_;intro g' b' k' z';rw [nH _ _ _ (by rw [hx]; simp [zI])] at b';have hd:xs.drop 10=[]:=List.drop_of_length_le (by omega);have b':aN g' h.size 96 zI:=by simpa [zI,hx,hd] using b'
  refine ad b' ((0:Int),(⟨#[]⟩:ByteArray),(0:Int),(0:Int),(0:Int),(0:Int),(0:Int),(none,0,0),(0:Int),(0:Int),()) rfl ?_;refine ⟨Ch.trans eg k' (fun i hi hl=>by simp at hi; omega),?_⟩;rw [hA] <;> rfl
 refine af (fun q=>?_) (fun q=>?_)
 ·have q:¬ (cP (cH (op:Int))).length=l:=by
   have:¬ ((cP (cH (op:Int))).length:Int)=l:=by simpa using q
   omega
  exact out e05 ⟨_,b1,rfl⟩ (by unfold ey; rw [if_pos (by rw [List.length_map]; omega)])
 have q:(cP (cH (op:Int))).length=l:=by
  have:((cP (cH (op:Int))).length:Int)=l:=by simpa using q
  omega
 have hcode:ey (op:Int) (al.map In.ts)=dO (dR (op:Int)) (cP (cH (op:Int))) (al.map In.ts):=by
  unfold ey;rw [if_neg (by rw [List.length_map]; omega)]
 refine aT ?_;intro g6 b6 e6 z6;refine ak b6 rfl (by simp) ?_;intro g7 b7 k7 z7;have b7:aN g7 g5.size 96 (encI none 0 0 (dR (op:Int))):=b7;have e57:Ext g5 g7:=Ch.trans e6 k7 (fun i hi hl=>by simp at hi; omega);have e07:=e05.trans e57;have b17:=b1.ah e57 (by simp);have sr7:=sr.aS e57 (by simp);have hz5:=e05.size;have hlt1:=b1.lt
 refine bC (cs:=[(false,[.int .i64]),(false,[.int .i64])]) (fun x n h'=>∃ (k:Nat) (y:bw),x.2.1=(k:Int)∧k≤l∧n=l-k∧Ext g7 h'=Ext g7 h'∧Ch [g5.size] g7 h'∧dO (dR (op:Int)) (cP (cH (op:Int))) (al.map In.ts)=dO y ((cP (cH (op:Int))).drop k) ((al.map In.ts).drop k) ∧
   ∃ p' l' c',aN h' g5.size 96 (encI p' l' c' y)∧SL h' (g5.size+1) 109 2 p' l' c' (y.e.aw.map cJ)) ((0:Int),(0:Int),()) l rfl ⟨0,_,rfl,by omega,by omega,rfl,Ch.refl _ _,rfl,none,0,0,b7,SL.nil _ _ _ _⟩ ?_
 rintro ⟨n13,n14,⟨⟩⟩ n g8 ⟨k,y,hk,hkl,rfl,_,k8,hcl,p',l',c',b8,s8⟩;simp only at hk;subst hk;dsimp only [flat,aA,ai,nA,cA];have e58:Ext g5 g8:=Ch.trans e57 k8 (fun i hi hl=>by simp at hi; omega);have e08:=e05.trans e58;have hz7:g7.size=g5.size+1:=by rw [z7,z6]
 refine af (fun r=>?_) (fun r=>?_)
 ·have r:=of_decide_eq_true r;have hkr:k<(cP (cH (op:Int))).length:=by omega
  have hka:k<al.length:=by omega
  obtain ⟨ar,har,hcr⟩:=(sr.aS e58 (by simp)).cells (i:=k) (by rw [List.length_map]; exact hkr);rw [List.getElem_map] at hcr;obtain ⟨aa,haa,hca⟩:=(v.ah e08).cells k hka;refine aB ⟨by omega,by omega⟩ (an har ?_);rw [show Int.toNat (k:Int)=k by omega];refine aH (kg ((cP (cH (op:Int)))[k]),()) hcr ?_;dsimp only [flat,aA,ai,nA,cA];refine aB ⟨by omega,by omega⟩ (an haa ?_);have hmem:al[k]∈al:=List.getElem_mem hka;have hdr:(cP (cH (op:Int))).drop k=(cP (cH (op:Int)))[k]::(cP (cH (op:Int))).drop (k+1):=List.drop_eq_getElem_cons hkr;have hda:(al.map In.ts).drop k=al[k].ts::(al.map In.ts).drop (k+1):=by
   rw [List.drop_eq_getElem_cons (by rw [List.length_map]; exact hka),List.getElem_map]
  rw [hdr,hda] at hcl;simp only [dO] at hcl;generalize (cP (cH (op:Int)))[k]=rr at hcl ⊢;generalize al[k]=a at hcl hca hmem ⊢;refine aH ((a.p,a.l,a.c),()) hca ?_;dsimp only [flat,aA,ai,nA,cA];have hz8:g7.size≤g8.size:=k8.size;refine aC (y7 b8 s8 (by omega) (by omega) rr ((v.ah e08).sQ a hmem) ((v.ah e08).bN a hmem) (v.wf a hmem) (v.many a hmem)) ?_;rintro u g9 ⟨k9,hu⟩;have e59:Ext g5 g9:=Ch.trans e58 k9 (fun i hi hl=>by simp at hi; omega);cases hA:dE y rr a.ts with
  | error e =>
   rw [hA] at hu hcl;obtain ⟨rfl,he,xs,bx,hx⟩:=hu;refine ⟨((e:Int),()),rfl,?_⟩;dsimp only [flat,aA,ai,nA,cA];refine aX (by simp; omega) ?_;exact out (e05.trans e59) ⟨_,b1.ah e59 (by simp),rfl⟩ (by rw [hcode,hcl])
  | ok y' =>
   rw [hA] at hu hcl;obtain ⟨rfl,p2,l2,c2,b9,s9⟩:=hu;refine ⟨((0:Int),()),rfl,?_⟩;dsimp only [flat,aA,ai,nA,cA];refine bm rfl ?_;have hw:IntKind.wrap .i64 ((k:Int)+1)=((k+1:Nat):Int):=by rw [wrap_i64 (by omega) (by omega)]; omega
   refine aL (cs:=[(false,[.int .i64]),(false,[.int .i64])]) (n13,((k+1:Nat):Int),()) (l-(k+1)) rfl (by omega) (by rw [hw]; rfl) ⟨k+1,y',rfl,by omega,rfl,rfl,Ch.trans k8 k9 (fun i hi _=>hi),hcl,p2,l2,c2,b9,s9⟩
 ·have r:=of_decide_eq_false r;have hkl2:k=l:=by omega
  have hcl2:ey (op:Int) (al.map In.ts)=.ok y:=by
   rw [hcode,hcl,List.drop_of_length_le (by omega)] <;> rfl
  refine ad b8 (y.kind,y.name,y.inst.op,y.inst.a,y.inst.b,y.inst.n,y.inst.form,(p',l',c'),(y.e.num:Int),y.n,()) rfl ?_;dsimp only [flat,aA,ai,nA,cA];refine ak (b1.ah e58 (by simp)) rfl (by simp [zI]) ?_;intro g9 b9 k9 z9;have b9:aN g9 h.size 96 (encI p' l' c' y):=b9;refine ad b9 (y.kind,y.name,y.inst.op,y.inst.a,y.inst.b,y.inst.n,y.inst.form,(p',l',c'),(y.e.num:Int),y.n,()) rfl ?_;refine ⟨Ch.trans e08 k9 (fun i hi hl=>by simp at hi; omega),?_⟩;rw [hcl2];refine ⟨p',l',c',rfl,(Sx.SL.mono s8 (by omega)).aS k9 (fun i hi hm=>by have:=(Sx.SL.bN s8 hi).1; simp at hm; omega)⟩
def wC (u:bI × bw):List Value:=encI u.1.p u.1.l u.1.c u.2
structure dF (h:Hp) (b:Nat) (p:Option Addr) (l c:Nat) (us:List (bI × bw)):Prop where
 out:SL h b 96 10 p l c (us.map wC)
 own:∀ u,u∈us→SL h b 109 2 u.1.p u.1.l u.1.c (u.2.e.aw.map cJ)
 po:∀ u,u∈us→∀ i,i∈ay u.1.p→i∉ay p
 pp:us.Pairwise fun u v=>∀ i,i∈ay u.1.p→i∉ay v.1.p
theorem dF.len {h:Hp} {b:Nat} {p:Option Addr} {l c:Nat} {us:List (bI × bw)} (A:dF h b p l c us):l=us.length:=by rw [A.out.1,List.length_map]
theorem dF.ah {ws:List Nat} {h:Hp} {b:Nat} {p:Option Addr} {l c:Nat} {us:List (bI × bw)} (A:dF h b p l c us) (k:Ch ws h h') (hw:∀ i,i∈ws→i<h.size→i<b):dF h' b p l c us :=
 ⟨SL.ur A.out k hw,fun u hu=>SL.ur (A.own u hu) k hw,A.po,A.pp⟩
theorem dF.mono {h:Hp} {b b':Nat} {p:Option Addr} {l c:Nat} {us:List (bI × bw)} (A:dF h b p l c us) (hb:b'≤b):dF h b' p l c us :=
 ⟨Sx.SL.mono A.out hb,fun u hu=>Sx.SL.mono (A.own u hu) hb,A.po,A.pp⟩
theorem dF.nil (h:Hp) (b:Nat):dF h b none 0 0 []:=⟨SL.nil _ _ _ _,by simp,by simp,List.Pairwise.nil⟩
theorem dF.snoc {h:Hp} {b:Nat} {p p':Option Addr} {l c c':Nat} {us:List (bI × bw)} (A:dF h b p l c us) {u:bI × bw} (o:SL h' b 96 10 p' (l+1) c' (us.map wC++[wC u])) (k:Ch (ay p) h h') (hp:p'=p∨∃ x,p'=some x∧h.size≤x.block)
  (ha:SL h b 109 2 u.1.p u.1.l u.1.c (u.2.e.aw.map cJ)) (h1:∀ i,i∈ay u.1.p→i∉ay p) (h2:∀ x,x∈us→∀ i,i∈ay x.1.p→i∉ay u.1.p):dF h' b p' (l+1) c' (us++[u]):=by
 have hp':∀ i,i∈ay p'→i∈ay p∨h.size≤i:=by
  intro i hi;rcases hp with rfl | ⟨x,rfl,hx⟩
  ·exact .inl hi
  ·simp [ay] at hi; right; omega
 refine ⟨by rw [List.map_append]; exact o,fun x hx=>?_,fun x hx i hi hh=>?_,List.pairwise_append.2 ⟨A.pp,by simp,fun x hx y hy i hi=>?_⟩⟩
 ·rcases List.mem_append.1 hx with hx | hx
  ·exact Sx.SL.aS (A.own x hx) k fun i hi=>A.po x hx i hi
  ·have hx:x=u:=by simpa using hx
   subst hx;exact Sx.SL.aS ha k h1
 ·rcases List.mem_append.1 hx with hx | hx
  ·rcases hp' i hh with h' | h'
   ·exact A.po x hx i hi h'
   ·have:=(Sx.SL.bN (A.own x hx) hi).2; omega
  ·have hx:x=u:=by simpa using hx
   subst hx;rcases hp' i hh with h' | h'
   ·exact h1 i hi h'
   ·have:=(Sx.SL.bN ha hi).2; omega
 ·have hy:y=u:=by simpa using hy
  subst hy;exact h2 x hx i hi
theorem G6:Tryz.prog.underlying 23=some (.slice 96):=by kernel_rfl
theorem CI:(Tryz.prog.info? 96).map (fun i=>(i.zero,i.size,i.bytes))=some (some (.agg zI.toArray),10,104):=by kernel_rfl
theorem Is (p:Option Addr) (l c:Nat) (x:bw):Instr.fill (fun j=>some (j*10,10)) ((Array.range (1*10)).map ((Value.agg zI.toArray).cells[· % (Value.agg zI.toArray).cells.size]!)) [(0,.agg (encI p l c x).toArray)]=some (encI p l c x).toArray:=by kernel_rfl
theorem SL.Kw {h:Hp} {b g:Nat} {xs:List Value} (bx:aN h g 96 xs) (hb:b≤g) (hn:xs.length=10):SL h b 96 10 (some ⟨g,0,none⟩) 1 1 [xs]:=by
 refine ⟨rfl,by simpa using hn,g,[],[],rfl,hb,⟨Nat.le_refl _,by omega⟩,?_,by simp⟩;simpa using bx
section
variable {L:Lp} {K:Value→Hp→Prop} {h:Hp}
theorem jE {k:Option Addr→Nat→Nat→T} {p:Option Addr} {l c:Nat} {x:bw} (hk:∀ h',SL h' h.size 96 10 (some ⟨h.size,0,none⟩) 1 1 [encI p l c x]→Ext h h'→h'.size=h.size+1→k (some ⟨h.size,0,none⟩) 1 1 L K h') :
  T.aV Tryz.prog (Instr.buildSlice 23 1 #[(0,.agg (encI p l c x).toArray)]) false [(false,[.slice 0])] k L K h:=by
 refine ek G6 CI (by omega) (by omega) (Is p l c x) ?_;intro h' b e z;exact hk h' (SL.Kw b (Nat.le_refl _) rfl) e z
end
def I1 (k:Int) (a:bI) (s:ByteArray) (b:bI) (n sec:Int):Value:=.agg #[.int .i64 k,a.v,.string s,b.v,.int .u32 n,.int .i64 sec]
structure gV (h:Hp) (b:Nat) (t:jW) (sl:bI) (us:List (bI × bw)) (se:bI):Prop where
 rf:dF h b sl.p sl.l sl.c us
 eq:us.map (·.2)=t.items
 e:SL h b 109 2 se.p se.l se.c (t.e.aw.map cJ)
 LY:us=[]∨se.p=none
theorem gV.ah {ws:List Nat} {h h':Hp} {b:Nat} {t:jW} {sl:bI} {us:List (bI × bw)} {se:bI} (A:gV h b t sl us se) (k:Ch ws h h') (hw:∀ i,i∈ws→i<h.size→i<b):gV h' b t sl us se :=
 ⟨A.rf.ah k hw,A.eq,SL.ur A.e k hw,A.LY⟩
theorem gV.mono {h:Hp} {b b':Nat} {t:jW} {sl:bI} {us:List (bI × bw)} {se:bI} (A:gV h b t sl us se) (hb:b'≤b):gV h b' t sl us se:=⟨A.rf.mono hb,A.eq,Sx.SL.mono A.e hb,A.LY⟩
def wg (k:Nat) (args:List (List Tok)):Except Nat (List bw):=if args=[] then .error 20 else cC k args
def Lz (h:Hp) (r:Except Nat (List bw)) (u:Value) (h':Hp):Prop:=Ext h h'∧match r with
 | .error e=>u=.tuple #[.slice none 0 0,.int .i64 (e:Int)]∧(e=20∨e=21)
 | .ok l=>∃ p n c us,u=.tuple #[.slice p n c,.int .i64 0]∧dF h' h.size p n c us∧us.map (·.2)=l
theorem GU (ts:List Tok):iN 5 ts=match gT (-128) 255 ts with | .error e=>.error e | .ok n=>.ok { cK 5 with n:=n }:=by
 unfold iN;rw [if_pos rfl]
 all_goals (cases gT (-128) 255 ts <;> rfl)
theorem HO (ts:List Tok):iN 6 ts=match bP ts with | .error e=>.error e | .ok x=>.ok { cK 6 with e:=x }:=by
 unfold iN;rw [if_neg (by decide)]
 all_goals (cases bP ts <;> rfl)
theorem zK {h:Hp} {k:Nat} (hk56:k=5∨k=6) {p:Option Addr} {l c:Nat} {al:List In} (v:CC h p l al) (hal:al.length≤2^32) :
  HC Tryz.prog 128 #[.int .i64 (k:Int),.slice p l c] h (Lz h (wg k (al.map In.ts))):=by
 refine aI (args:=[.int .i64 (k:Int),.slice p l c]) mixed Tryz.func128 (by kernel_rfl) (sX k p l c) ?_;unfold pZ;have hl:=v.len;refine af (fun q=>?_) (fun q=>?_)
 ·have q:l=0:=eQ q;refine ⟨Ch.refl _ _,?_⟩
  have:wg k (al.map In.ts)=.error 20:=by
   unfold wg;rw [if_pos (by rw [List.eq_nil_of_length_eq_zero (show al.length=0 by omega)]; rfl)]
  rw [this];exact ⟨rfl,.inl rfl⟩
 have q:¬ l=0:=fx q;have hR:wg k (al.map In.ts)=cC k (al.map In.ts):=by
  unfold wg;rw [if_neg (fun hh=>by have:=congrArg List.length hh; simp at this; rw [this] at hl; simp at hl; omega)]
 rw [hR]
 refine bC (cs:=[(false,[.slice 0]),(false,[.int .i64]),(false,[.slice 0]),(false,[.int .i64])]) (fun x n h'=>∃ (i:Nat) (us:List (bI × bw)),x.2.2.2.1=(i:Int)∧i≤l∧n=l-i∧Ext h h'∧dF h' h.size x.2.2.1.1 x.2.2.1.2.1 x.2.2.1.2.2 us∧us.length=i ∧
   cC k (al.map In.ts)=(match cC k ((al.map In.ts).drop i) with | .error e=>.error e | .ok r=>.ok (us.map (·.2)++r))) ((none,0,0),(0:Int),(none,0,0),(0:Int),()) l rfl
  ⟨0,[],rfl,by omega,by omega,Ch.refl _ _,dF.nil _ _,rfl,by rw [List.drop_zero]; cases cC k (al.map In.ts) <;> rfl⟩ ?_
 rintro ⟨⟨p2,l3,l4⟩,n5,⟨p6,l7,l8⟩,n9,⟨⟩⟩ n h1 ⟨i,us,hi,hil,rfl,e1,A,hus,hit⟩;simp only at hi A;subst hi;dsimp only [flat,aA,ai,nA,cA];refine af (fun r=>?_) (fun r=>?_)
 ·have r:=of_decide_eq_true r;have hia:i<al.length:=by omega
  obtain ⟨aa,haa,hca⟩:=(v.ah e1).cells i hia;refine aB ⟨by omega,by omega⟩ (an haa ?_);rw [show Int.toNat (i:Int)=i by omega];have hmem:al[i]∈al:=List.getElem_mem hia;have hda:(al.map In.ts).drop i=al[i].ts::(al.map In.ts).drop (i+1):=by
   rw [List.drop_eq_getElem_cons (by rw [List.length_map]; exact hia),List.getElem_map]
  rw [hda] at hit;simp only [cC] at hit;generalize al[i]=a at hit hca hmem;refine aH ((a.p,a.l,a.c),()) hca ?_;dsimp only [flat,aA,ai,nA,cA];refine aT ?_;intro h2 b2 e2 z2;refine ak b2 rfl (by simp) ?_;intro h3 b3 k3 z3;have b3:aN h3 h1.size 96 (encI none 0 0 (cK k)):=b3;have e13:Ext h1 h3:=Ch.trans e2 k3 (fun j hj hl=>by simp at hj; omega);have e03:=e1.trans e13;have A3:=A.ah e13 (by simp);have hz1:=e1.size;have hlt3:=b3.lt
  have push:∀ {L:Lp} {K:Value→Hp→Prop} {kk:Option Addr→Nat→Nat→T} {hh:Hp} {sp:bI} {y:bw},Ext h3 hh∨Ch [h1.size] h3 hh→Ch [h1.size] h3 hh→SL hh (h1.size+1) 109 2 sp.p sp.l sp.c (y.e.aw.map cJ) →
    (∀ p' c' h',Ext h h'→dF h' h.size p' (l7+1) c' (us++[(sp,y)])→kk p' (l7+1) c' L K h') →
    T.aV Tryz.prog (Instr.buildSlice 23 1 #[(0,.agg (encI sp.p sp.l sp.c y).toArray)]) false [(false,[.slice 0])] (fun q m cc=>T.aV Tryz.prog (Builtin.append_ #[23,23] 23 #[.slice p6 l7 l8,.slice q m cc]) false [(false,[.slice 0])] kk) L K hh:=by
   intro L K kk hh sp y _ kc sy hk;have hzh:=kc.size;have e0h:Ext h hh:=Ch.trans e03 kc (fun j hj hl=>by simp at hj; omega);have Ah:dF hh h.size p6 l7 l8 us:=by
    refine ⟨Sx.SL.aS A3.out kc (fun j hj hm=>?_),fun u hu=>Sx.SL.aS (A3.own u hu) kc (fun j hj hm=>?_),A3.po,A3.pp⟩
    ·have:=(Sx.SL.bN A.out hj).2; simp at hm; omega
    ·have:=(Sx.SL.bN (A.own u hu) hj).2; simp at hm; omega
   refine qm (e:=96) (z:=.agg zI.toArray) (sz:=10) (by':=104) (vs:=encI sp.p sp.l sp.c y) G6 CI rfl (by omega) (by omega) (Is _ _ _ _) rfl rfl Ah.out e0h.size (by have:=A.len; omega) (by have:=A.len; omega) ?_;intro p' c' h' o k' hp';refine hk p' c' h' (Ch.trans e0h k' (fun j hj hl=>by have:=(Sx.SL.bN Ah.out hj).1; omega)) (Ah.snoc (u:=(sp,y)) o k' hp' (Sx.SL.mono sy (by omega)) (fun j hj hm=>?_) (fun x hx j hj hm=>?_))
   ·have h1:=(Sx.SL.bN sy hj).1;have h2:=(Sx.SL.bN A.out hm).2;omega
   ·have h1:=(Sx.SL.bN sy hm).1;have h2:=(Sx.SL.bN (A.own x hx) hj).2;omega
  have hw:IntKind.wrap .i64 ((i:Int)+1)=((i+1:Nat):Int):=by rw [wrap_i64 (by omega) (by omega)]; omega
  have v3:=v.ah e03;rcases hk56 with rfl | rfl
  ·refine aX rfl ?_;refine aC (nL (v3.sQ a hmem) (v3.bN a hmem) (v.wf a hmem) (v.many a hmem) (-128) 255) ?_;rintro _ h4 ⟨rfl,e4⟩;rw [GU] at hit;cases hn:gT (-128) 255 a.ts with
   | error e =>
    rw [hn] at hit;have he:=gO (v.wf a hmem) hn;refine ⟨((0:Int),(e:Int),()),rfl,?_⟩;dsimp only [flat,aA,ai,nA,cA];rw [ao];refine ak (b3.ah e4 (by simp)) rfl (by simp [encI]) ?_;intro h5 b5 k5 z5;refine aX (by simp; omega) ?_;refine ⟨Ch.trans (e03.trans e4) k5 (fun j hj hl=>by simp at hj; omega),?_⟩;rw [hit];exact ⟨rfl,he⟩
   | ok nn =>
    rw [hn] at hit;refine ⟨(nn,(0:Int),()),rfl,?_⟩;dsimp only [flat,aA,ai,nA,cA];rw [ao];refine ak (b3.ah e4 (by simp)) rfl (by simp [encI]) ?_;intro h5 b5 k5 z5;have b5:aN h5 h1.size 96 (encI none 0 0 { cK 5 with n:=nn }):=b5;refine bm rfl ?_;refine ad b5 ((5:Int),(⟨#[]⟩:ByteArray),(0:Int),(0:Int),(0:Int),(0:Int),(0:Int),(none,0,0),(0:Int),nn,()) rfl ?_;dsimp only [flat,aA,ai,nA,cA];have k35:Ch [h1.size] h3 h5:=Ch.trans (e4.mono (by simp)) k5 (fun j hj _=>hj);refine push (sp:=⟨none,0,0⟩) (y:={ cK 5 with n:=nn }) (.inr k35) k35 (SL.nil _ _ _ _) ?_;intro p' c' h6 e6 A6;refine aL (cs:=[(false,[.slice 0]),(false,[.int .i64]),(false,[.slice 0]),(false,[.int .i64])]) ((p2,l3,l4),n5,(p',l7+1,c'),((i+1:Nat):Int),()) (l-(i+1)) rfl (by omega) (by rw [hw]; rfl) ⟨i+1,_,rfl,by omega,rfl,e6,A6,by simp [hus],?_⟩;rw [hit];cases cC 5 ((al.map In.ts).drop (i+1)) <;> simp
  ·refine bm rfl ?_;refine aC (iC (v3.sQ a hmem) (v3.bN a hmem) (v.wf a hmem) (v.many a hmem)) ?_;rintro u h4 ⟨e4,hu⟩;rw [HO] at hit;cases hn:bP a.ts with
   | error e =>
    rw [hn] at hit hu;have he:=dM (v.wf a hmem) hn;have hu:u=.tuple #[.agg #[.slice none 0 0,.int .u32 0],.int .i64 (e:Int)]:=hu;subst hu;refine ⟨((none,0,0),(0:Int),(e:Int),()),rfl,?_⟩;dsimp only [flat,aA,ai,nA,cA];rw [ao];refine ak (b3.ah e4 (by simp)) rfl (by simp [encI]) ?_;intro h5 b5 k5 z5;refine aX (by simp; omega) ?_;refine ⟨Ch.trans (e03.trans e4) k5 (fun j hj hl=>by simp at hj; omega),?_⟩;rw [hit];exact ⟨rfl,he⟩
   | ok y =>
    rw [hn] at hit hu;obtain ⟨p5,l5,c5,rfl,sl,gd⟩:=hu;refine ⟨((p5,l5,c5),(y.num:Int),(0:Int),()),rfl,?_⟩;dsimp only [flat,aA,ai,nA,cA];rw [ao];refine ak (b3.ah e4 (by simp)) rfl (by simp [encI]) ?_;intro h5 b5 k5 z5;have b5:aN h5 h1.size 96 (encI p5 l5 c5 { cK 6 with e:=y }):=b5;refine bm rfl ?_;refine ad b5 ((6:Int),(⟨#[]⟩:ByteArray),(0:Int),(0:Int),(0:Int),(0:Int),(0:Int),(p5,l5,c5),(y.num:Int),(0:Int),()) rfl ?_;dsimp only [flat,aA,ai,nA,cA];have k35:Ch [h1.size] h3 h5:=Ch.trans (e4.mono (by simp)) k5 (fun j hj _=>hj);refine push (sp:=⟨p5,l5,c5⟩) (y:={ cK 6 with e:=y }) (.inr k35) k35 ((Sx.SL.mono sl (by omega)).aS k5 (fun j hj hm=>by have:=(Sx.SL.bN sl hj).1; simp at hm; omega)) ?_;intro p' c' h6 e6 A6;refine aL (cs:=[(false,[.slice 0]),(false,[.int .i64]),(false,[.slice 0]),(false,[.int .i64])]) ((p2,l3,l4),n5,(p',l7+1,c'),((i+1:Nat):Int),()) (l-(i+1)) rfl (by omega) (by rw [hw]; rfl) ⟨i+1,_,rfl,by omega,rfl,e6,A6,by simp [hus],?_⟩;rw [hit];cases cC 6 ((al.map In.ts).drop (i+1)) <;> simp
 ·have r:=of_decide_eq_false r
  have:i=l:=by omega
  subst this;rw [List.drop_of_length_le (by rw [List.length_map]; omega)] at hit;refine ⟨e1,?_⟩;rw [hit];exact ⟨p6,l7,l8,us,rfl,A,by simp [cC]⟩
theorem Da (s:ByteArray) (h:Hp):tp Tryz.prog 126 [.string s] h (.tuple #[.int .i64 (if cU s=-2 then 0 else cU s),.bool (decide (cU s≠-2))]):=by
 refine dU mixed Tryz.func126 (by kernel_rfl) (rh s) ?_;unfold oQ;refine af (fun g=>?_) (fun g=>?_)
 ·have q0:s.data.toList=[112,111,111,108]:=(ByteArray.toList_eq s).symm.trans (eq_of_beq g);refine ⟨?_,rfl⟩
  have:cU s=0:=by unfold cU; simp [q0]
  rw [this] <;> rfl
 ·have n0:¬ s.data.toList=[112,111,111,108]:=fun e=>ne_of_beq_false g ((ByteArray.toList_eq s).trans e)
  refine af (fun g=>?_) (fun g=>?_)
  ·have q1:s.data.toList=[97,108,105,103,110]:=(ByteArray.toList_eq s).symm.trans (eq_of_beq g);refine aX (by rw [ByteArray.toList_eq,q1]; rfl) ?_;refine ⟨?_,rfl⟩
   have:cU s=1:=by unfold cU; simp [n0,q1]
   rw [this] <;> rfl
  ·have n1:¬ s.data.toList=[97,108,105,103,110]:=fun e=>ne_of_beq_false g ((ByteArray.toList_eq s).trans e)
   refine af (fun g=>?_) (fun g=>?_)
   ·have q2:s.data.toList=[115,112,97,99,101]:=(ByteArray.toList_eq s).symm.trans (eq_of_beq g);refine aX (by rw [ByteArray.toList_eq,q2]; rfl) ?_;refine ⟨?_,rfl⟩
    have:cU s=1:=by unfold cU; simp [n0,n1,q2]
    rw [this] <;> rfl
   ·have n2:¬ s.data.toList=[115,112,97,99,101]:=fun e=>ne_of_beq_false g ((ByteArray.toList_eq s).trans e)
    refine af (fun g=>?_) (fun g=>?_)
    ·have q3:s.data.toList=[103,108,111,98,97,108]:=(ByteArray.toList_eq s).symm.trans (eq_of_beq g);refine aX (by rw [ByteArray.toList_eq,q3]; rfl) ?_;refine ⟨?_,rfl⟩
     have:cU s=1:=by unfold cU; simp [n0,n1,n2,q3]
     rw [this] <;> rfl
    ·have n3:¬ s.data.toList=[103,108,111,98,97,108]:=fun e=>ne_of_beq_false g ((ByteArray.toList_eq s).trans e)
     refine af (fun g=>?_) (fun g=>?_)
     ·have q4:s.data.toList=[115,101,99,116,105,111,110]:=(ByteArray.toList_eq s).symm.trans (eq_of_beq g);refine ⟨?_,rfl⟩
      have:cU s=1:=by unfold cU; simp [n0,n1,n2,n3,q4]
      rw [this] <;> rfl
     ·have n4:¬ s.data.toList=[115,101,99,116,105,111,110]:=fun e=>ne_of_beq_false g ((ByteArray.toList_eq s).trans e)
      refine af (fun g=>?_) (fun g=>?_)
      ·have q5:s.data.toList=[101,113,117]:=(ByteArray.toList_eq s).symm.trans (eq_of_beq g);refine ⟨?_,rfl⟩
       have:cU s=2:=by unfold cU; simp [n0,n1,n2,n3,n4,q5]
       rw [this] <;> rfl
      ·have n5:¬ s.data.toList=[101,113,117]:=fun e=>ne_of_beq_false g ((ByteArray.toList_eq s).trans e)
       refine af (fun g=>?_) (fun g=>?_)
       ·have q6:s.data.toList=[98,121,116,101]:=(ByteArray.toList_eq s).symm.trans (eq_of_beq g);refine aX (by rw [ByteArray.toList_eq,q6]; rfl) ?_;refine ⟨?_,rfl⟩
        have:cU s=-1:=by unfold cU; simp [n0,n1,n2,n3,n4,n5,q6]
        rw [this] <;> rfl
       ·have n6:¬ s.data.toList=[98,121,116,101]:=fun e=>ne_of_beq_false g ((ByteArray.toList_eq s).trans e)
        refine af (fun g=>?_) (fun g=>?_)
        ·have q7:s.data.toList=[119,111,114,100]:=(ByteArray.toList_eq s).symm.trans (eq_of_beq g);refine ⟨?_,rfl⟩
         have:cU s=-1:=by unfold cU; simp [n0,n1,n2,n3,n4,n5,n6,q7]
         rw [this] <;> rfl
        ·have n7:¬ s.data.toList=[119,111,114,100]:=fun e=>ne_of_beq_false g ((ByteArray.toList_eq s).trans e)
         refine ⟨?_,rfl⟩
         have:cU s=-2:=by unfold cU; simp [n0,n1,n2,n3,n4,n5,n6,n7]
         rw [this] <;> rfl
section
variable {L:Lp} {K:Value→Hp→Prop} {h:Hp}
def qK (k:Int) (p:Option Addr) (l c:Nat) (nm:ByteArray) (p':Option Addr) (l' c':Nat) (n sec:Int):List Value:=[.int .i64 k,.slice p l c,.string nm,.slice p' l' c',.int .u32 n,.int .i64 sec]
theorem yE {g:Nat} {e:TypeId} {xs:List Value} {k:Int} {p:Option Addr} {l c:Nat} {nm:ByteArray} {p':Option Addr} {l' c':Nat} {n sec:Int} {cont:Int→Option Addr→Nat→Nat→ByteArray→Option Addr→Nat→Nat→Int→Int→T}
  (bx:aN h g e xs) (hx:xs.length=6) (hk:∀ h',aN h' g e (qK k p l c nm p' l' c' n sec)→Ch [g] h h'→h'.size=h.size→cont k p l c nm p' l' c' n sec L K h') :
  (T.ap ⟨g,0,none⟩ [.int .i64 k,.slice p l c,.string nm,.slice p' l' c',.int .u32 n,.int .i64 sec] <| T.ae ⟨g,0,none⟩ [.int .i64,.slice 96,.string,.slice 109,.int .u32,.int .i64] cont) L K h:=by
 refine ak bx rfl (by rw [hx]; simp) ?_;intro h' b k1 z;rw [nH _ _ _ (by rw [hx]; simp)] at b;have hd:xs.drop 6=[]:=List.drop_of_length_le (by omega);have b:aN h' g e (qK k p l c nm p' l' c' n sec):=by simpa [qK,hx,hd] using b
 exact ad b (k,(p,l,c),nm,(p',l',c'),n,sec,()) rfl (hk h' b k1 z)
end
def HA (w:Nat):Int:=if w=2 then -1 else (w:Int)
def IR (h:Hp) (r:Except Nat (jW × Nat)) (u:Value) (h':Hp):Prop:=Ext h h'∧match r with
 | .error e=>∃ k p l c nm p' l' c' n sec w,u=.tuple #[.agg (qK k p l c nm p' l' c' n sec).toArray,.int .i64 w,.int .i64 (e:Int)]∧e≠0
 | .ok (t,w)=>∃ sl us se,u=.tuple #[I1 t.kind sl t.name se t.e.num t.sec,.int .i64 (HA w),.int .i64 0]∧gV h' h.size t sl us se
theorem ry {h:Hp} {p:Option Addr} {l:Nat} {al:List In} (v:CC h p l al) {k:Nat} (hk:k<al.length):∃ a,p=some a∧aG h (a.add (k*1)) 0 [.slice al[k].p al[k].l al[k].c]:=v.cells k hk
theorem Gh (a:Addr):a.add (0*1)=a:=by simp [Addr.add]
theorem GK {h : Hp} {b : Nat} {p : Option Addr} {x : bw} (s : SL h b 96 10 p 1 1 [encI none 0 0 x]) (he : x.e.aw = []) : gV h b (eW x) ⟨p, 1, 1⟩ [(⟨none, 0, 0⟩, x)] ⟨none, 0, 0⟩ :=
  ⟨⟨s, by intro u hu; have : u = (⟨none, 0, 0⟩, x) := by simpa using hu
          subst this;rw [he]
          exact SL.nil _ _ _ _, by intro u hu; have : u = (⟨none, 0, 0⟩, x) := by simpa using hu
                                   subst this;simp [ay], by simp⟩, rfl, SL.nil _ _ _ _, .inr rfl⟩
theorem qR {ts:List Tok} {e:Nat} (h:mZ ts=.error e):e=20:=by
 unfold mZ at h;split at h
 ·split at h
  ·cases h
  ·injection h with h
   exact h.symm
 ·injection h with h
  exact h.symm
theorem yp {h:Hp} {p:Option Addr} {l c:Nat} {al:List In} (v:CC h p l al) (hal:al.length≤2^32) (s:ByteArray) :
  HC Tryz.prog 100 #[.string s,.slice p l c] h (IR h (fO s (al.map In.ts))):=by
 refine aI (args:=[.string s,.slice p l c]) mixed Tryz.func100 (by kernel_rfl) (oi s p l c) ?_;unfold ki;have hl:=v.len;refine aT ?_;intro g1 b1 e1 z1;refine iS (Da s g1) ((if cU s=-2 then (0:Int) else cU s:Int),decide (cU s≠-2),()) rfl ?_;dsimp only [flat,aA,ai,nA,cA]
 have bad:∀ {gg:Hp} {k:Int} {nm:ByteArray} {sec w:Int} {e:Nat} {p1 p2:Option Addr} {l1 c1 l2 c2:Nat} {n1:Int} {L:Lp},Ext h gg→(∃ xs,aN gg h.size 134 xs∧xs.length=6)→fO s (al.map In.ts)=.error e→e≠0 →
   (T.ap ⟨h.size,0,none⟩ [.int .i64 k,.slice p1 l1 c1,.string nm,.slice p2 l2 c2,.int .u32 n1,.int .i64 sec] <|
   T.ae ⟨h.size,0,none⟩ [.int .i64,.slice 96,.string,.slice 109,.int .u32,.int .i64] <| fun (n5:Int) (p6:Option Addr) (l7:Nat) (l8:Nat) (s9:ByteArray) (p10:Option Addr) (l11:Nat) (l12:Nat) (n13:Int) (n14:Int) =>
   T.ret (.tuple #[.agg #[.int .i64 n5,.slice p6 l7 l8,.string s9,.slice p10 l11 l12,.int .u32 n13,.int .i64 n14],.int .i64 w,.int .i64 (e:Int)])) L (IR h (fO s (al.map In.ts))) gg:=by
  rintro gg k nm sec w e p1 p2 l1 c1 l2 c2 n1 L eg ⟨xs,bx,hx⟩ hA he;refine yE bx hx ?_;intro h' b' k' z';refine ⟨Ch.trans eg k' (fun i hi hl=>by simp at hi; omega),?_⟩;rw [hA];exact ⟨k,p1,l1,c1,nm,p2,l2,c2,n1,sec,w,rfl,he⟩
 have good:∀ {gg:Hp} {t:jW} {w:Nat} {wi:Int} {sl se:bI} {us:List (bI × bw)} {L:Lp},Ext h gg→(∃ xs,aN gg h.size 134 xs∧xs.length=6)→fO s (al.map In.ts)=.ok (t,w)→wi=HA w→gV gg (h.size+1) t sl us se →
   (T.ap ⟨h.size,0,none⟩ [.int .i64 (t.kind:Int),.slice sl.p sl.l sl.c,.string t.name,.slice se.p se.l se.c,.int .u32 (t.e.num:Int),.int .i64 (t.sec:Int)] <|
   T.ae ⟨h.size,0,none⟩ [.int .i64,.slice 96,.string,.slice 109,.int .u32,.int .i64] <| fun (n5:Int) (p6:Option Addr) (l7:Nat) (l8:Nat) (s9:ByteArray) (p10:Option Addr) (l11:Nat) (l12:Nat) (n13:Int) (n14:Int) =>
   T.ret (.tuple #[.agg #[.int .i64 n5,.slice p6 l7 l8,.string s9,.slice p10 l11 l12,.int .u32 n13,.int .i64 n14],.int .i64 wi,.int .i64 (0:Int)])) L (IR h (fO s (al.map In.ts))) gg:=by
  rintro gg t w wi sl se us L eg ⟨xs,bx,hx⟩ hA rfl A;refine yE bx hx ?_;intro h' b' k' z';refine ⟨Ch.trans eg k' (fun i hi hl=>by simp at hi; omega),?_⟩;rw [hA];exact ⟨sl,us,se,rfl,(A.ah k' (fun i hi hl=>by simp at hi; omega)).mono (by omega)⟩
 have bz:∀ {gg:Hp},Ext g1 gg→∃ xs,aN gg h.size 134 xs∧xs.length=6:=fun e=>⟨_,b1.ah e (by simp),rfl⟩
 have hbad:cU s=-2∨(0≤cU s∧(al.length:Int)≠cU s)→fO s (al.map In.ts)=.error 20:=by
  intro hh;unfold fO;simp only;rw [if_pos (by rw [List.length_map]; exact hh)]
 refine dt (cs:=[(false,[.int .i64]),(false,[.int .i64])]) (fun y h'=>h'=g1∧¬ (cU s=-2∨(0≤cU s∧((al.map In.ts).length:Int)≠cU s))) ?_ ?_
 ·refine af (fun q=>?_) (fun q=>?_)
  ·have q:cU s=-2:=by simpa using q
   exact bad (e:=20) e1 (bz (Ch.refl _ _)) (hbad (.inl q)) (by decide)
  have q:¬ cU s=-2:=by simpa using q
  rw [if_neg q];refine af (fun r=>?_) (fun r=>?_)
  ·have r:=of_decide_eq_true r;refine af (fun u=>?_) (fun u=>?_)
   ·have u:¬ (l:Int)=cU s:=by simpa using u
    exact bad (e:=20) e1 (bz (Ch.refl _ _)) (hbad (.inr ⟨r,by omega⟩)) (by decide)
   ·have u:(l:Int)=cU s:=by simpa using u
    exact bh (cs:=[(false,[.int .i64]),(false,[.int .i64])]) ((0:Int),(0:Int),()) rfl rfl ⟨rfl,by rintro (x | x); exact q x; rw [List.length_map] at x; omega⟩
  ·have r:=of_decide_eq_false r;exact bh (cs:=[(false,[.int .i64]),(false,[.int .i64])]) ((0:Int),(0:Int),()) rfl rfl ⟨rfl,by rintro (x | x); exact q x; omega⟩
 rintro ⟨n5,n6,⟨⟩⟩ h9 ⟨e9,hcnt⟩;have e9:=e9.symm;subst e9;dsimp only [flat,aA,ai,nA,cA];clear hbad;have hD:fO s (al.map In.ts)=(if s.data.toList=[112,111,111,108] then .ok (eW (cK 4),0)
 else if s.data.toList=[97,108,105,103,110] then match gT 1 256 (ag (al.map In.ts) 0) with
  | .error e=>.error e
  | .ok n=>if pF n then .ok (eW { cK 3 with n:=n },2) else .error 21
 else if s.data.toList=[115,112,97,99,101] then match gT 0 1048576 (ag (al.map In.ts) 0) with
  | .error e=>.error e
  | .ok n=>.ok (eW { cK 7 with n:=n },1)
 else if s.data.toList=[98,121,116,101] then match wg 5 (al.map In.ts) with
  | .error e=>.error e
  | .ok l=>.ok ({ bE with kind:=2,items:=l },1)
 else if s.data.toList=[119,111,114,100] then match wg 6 (al.map In.ts) with
  | .error e=>.error e
  | .ok l=>.ok ({ bE with kind:=2,items:=l },1)
 else if s.data.toList=[101,113,117] then match mZ (ag (al.map In.ts) 0) with
  | .error e=>.error e
  | .ok s=>match bP (ag (al.map In.ts) 1) with
   | .error e=>.error e
   | .ok x=>.ok ({ bE with kind:=3,name:=s,e:=x },2)
 else if s.data.toList=[103,108,111,98,97,108] then match mZ (ag (al.map In.ts) 0) with
  | .error e=>.error e
  | .ok s=>.ok ({ bE with kind:=4,name:=s },2)
 else match ag (al.map In.ts) 0 with
  | [t]=>if t.kind=1∧t.text.data.toList=[116,101,120,116] then .ok ({ bE with kind:=5 },2) else if t.kind=1∧t.text.data.toList=[100,97,116,97] then .ok ({ bE with kind:=5,sec:=1 },2) else .error 20
  | _=>.error 20):=by
  unfold fO wg;simp only;rw [if_neg hcnt]
  by_cases hz:al.map In.ts=[]
  ·simp only [hz,if_true] <;> rfl
  ·simp only [hz,if_false] <;> rfl
 have v1:=v.ah e1;have hh1:g1.size=h.size+1:=z1;have arg:∀ i,(hi:i<al.length)→ag (al.map In.ts) i=al[i].ts:=by
  intro i hi;unfold ag;rw [List.getD_eq_getElem?_getD,List.getElem?_eq_getElem (by rw [List.length_map]; exact hi),Option.getD_some,List.getElem_map]
 have mem:∀ i,(hi:i<al.length)→al[i]∈al:=fun i hi=>List.getElem_mem hi
 refine af (fun q=>?_) (fun q=>?_)
 ·have q:s.data.toList=[112,111,111,108]:=(ByteArray.toList_eq s).symm.trans (eq_of_beq q);refine jE (p:=none) (l:=0) (c:=0) (x:=cK 4) ?_;intro h2 s2 e2 z2;exact good (t:=eW (cK 4)) (w:=0) (sl:=⟨some ⟨g1.size,0,none⟩,1,1⟩) (se:=⟨none,0,0⟩) (e1.trans e2) (bz e2) (hD.trans (if_pos q)) rfl (GK (Sx.SL.mono s2 (by omega)) rfl)
 have q1:¬ s.data.toList=[112,111,111,108]:=fun e=>ne_of_beq_false q ((ByteArray.toList_eq s).trans e)
 rw [if_neg q1] at hD;refine af (fun q=>?_) (fun q=>?_)
 ·have q:s.data.toList=[97,108,105,103,110]:=(ByteArray.toList_eq s).symm.trans (eq_of_beq q);rw [if_pos q] at hD;have hc:cU s=1:=by unfold cU; simp [q]
  rw [List.length_map] at hcnt;have h1:0<al.length:=by omega
  obtain ⟨a0,ha0,hc0⟩:=ry v1 h1;rw [Gh] at hc0;refine aB ⟨by omega,by omega⟩ (an ha0 (aH ((al[0].p,al[0].l,al[0].c),()) hc0 ?_));dsimp only [flat,aA,ai,nA,cA];refine aC (nL (v1.sQ _ (mem 0 h1)) (v1.bN _ (mem 0 h1)) (v.wf _ (mem 0 h1)) (v.many _ (mem 0 h1)) 1 256) ?_;rintro _ h2 ⟨rfl,e2⟩;rw [arg 0 h1] at hD;cases hn:gT 1 256 al[0].ts with
  | error e =>
   have he:=gO (v.wf _ (mem 0 h1)) hn;rw [hn] at hD;refine ⟨((0:Int),(e:Int),()),rfl,?_⟩;dsimp only [flat,aA,ai,nA,cA];refine bm (by simp; omega) ?_;refine jE (p:=none) (l:=0) (c:=0) (x:={ cK 3 with n:=0 }) ?_;intro h3 s3 e3 z3;exact bad (e:=e) (e1.trans (e2.trans e3)) (bz (e2.trans e3)) hD (by omega)
  | ok n =>
   rw [hn] at hD;refine ⟨(n,(0:Int),()),rfl,?_⟩;dsimp only [flat,aA,ai,nA,cA];refine aX rfl (aD (ub h2 n) ?_);refine af (fun r=>?_) (fun r=>?_)
   ·have r:pF n=false:=by simpa using r
    refine jE (p:=none) (l:=0) (c:=0) (x:={ cK 3 with n:=n }) ?_;intro h3 s3 e3 z3;exact bad (e:=21) (e1.trans (e2.trans e3)) (bz (e2.trans e3)) (hD.trans (if_neg (by rw [r]; simp))) (by decide)
   ·have r:pF n=true:=by simpa using r
    refine jE (p:=none) (l:=0) (c:=0) (x:={ cK 3 with n:=n }) ?_;intro h3 s3 e3 z3;have hz2:=e2.size;exact good (t:=eW { cK 3 with n:=n }) (w:=2) (sl:=⟨some ⟨h2.size,0,none⟩,1,1⟩) (se:=⟨none,0,0⟩) (e1.trans (e2.trans e3)) (bz (e2.trans e3)) (hD.trans (if_pos r)) rfl (GK (Sx.SL.mono s3 (by omega)) rfl)
 have q2:¬ s.data.toList=[97,108,105,103,110]:=fun e=>ne_of_beq_false q ((ByteArray.toList_eq s).trans e)
 rw [if_neg q2] at hD;refine af (fun q=>?_) (fun q=>?_)
 ·have q:s.data.toList=[115,112,97,99,101]:=(ByteArray.toList_eq s).symm.trans (eq_of_beq q);rw [if_pos q] at hD;have hc:cU s=1:=by unfold cU; simp [q]
  rw [List.length_map] at hcnt;have h1:0<al.length:=by omega
  obtain ⟨a0,ha0,hc0⟩:=ry v1 h1;rw [Gh] at hc0;refine aB ⟨by omega,by omega⟩ (an ha0 (aH ((al[0].p,al[0].l,al[0].c),()) hc0 ?_));dsimp only [flat,aA,ai,nA,cA];refine aC (nL (v1.sQ _ (mem 0 h1)) (v1.bN _ (mem 0 h1)) (v.wf _ (mem 0 h1)) (v.many _ (mem 0 h1)) 0 1048576) ?_;rintro _ h2 ⟨rfl,e2⟩;rw [arg 0 h1] at hD;cases hn:gT 0 1048576 al[0].ts with
  | error e =>
   have he:=gO (v.wf _ (mem 0 h1)) hn;rw [hn] at hD;refine ⟨((0:Int),(e:Int),()),rfl,?_⟩;dsimp only [flat,aA,ai,nA,cA];refine jE (p:=none) (l:=0) (c:=0) (x:={ cK 7 with n:=0 }) ?_;intro h3 s3 e3 z3;exact bad (e:=e) (e1.trans (e2.trans e3)) (bz (e2.trans e3)) hD (by omega)
  | ok n =>
   rw [hn] at hD;refine ⟨(n,(0:Int),()),rfl,?_⟩;dsimp only [flat,aA,ai,nA,cA];refine jE (p:=none) (l:=0) (c:=0) (x:={ cK 7 with n:=n }) ?_;intro h3 s3 e3 z3;have hz2:=e2.size;exact good (t:=eW { cK 7 with n:=n }) (w:=1) (sl:=⟨some ⟨h2.size,0,none⟩,1,1⟩) (se:=⟨none,0,0⟩) (e1.trans (e2.trans e3)) (bz (e2.trans e3)) hD rfl (GK (Sx.SL.mono s3 (by omega)) rfl)
 have q3:¬ s.data.toList=[115,112,97,99,101]:=fun e=>ne_of_beq_false q ((ByteArray.toList_eq s).trans e)
 rw [if_neg q3] at hD;refine af (fun q=>?_) (fun q=>?_)
 ·have q:s.data.toList=[98,121,116,101]:=(ByteArray.toList_eq s).symm.trans (eq_of_beq q);rw [if_pos q] at hD;refine aC (zK (k:=5) (by omega) v1 hal) ?_;rintro u h2 ⟨e2,hu⟩;cases hn:wg 5 (al.map In.ts) with
  | error e =>
   rw [hn] at hD hu;obtain ⟨rfl,he⟩:=hu;refine ⟨((none,0,0),(e:Int),()),rfl,?_⟩;dsimp only [flat,aA,ai,nA,cA];exact bad (e:=e) (e1.trans e2) (bz e2) hD (by omega)
  | ok li =>
   rw [hn] at hD hu;obtain ⟨p5,l5,c5,us,rfl,A,hus⟩:=hu;refine ⟨((p5,l5,c5),(0:Int),()),rfl,?_⟩;dsimp only [flat,aA,ai,nA,cA];exact good (t:={ bE with kind:=2,items:=li }) (w:=1) (sl:=⟨p5,l5,c5⟩) (se:=⟨none,0,0⟩) (us:=us) (e1.trans e2) (bz e2) hD rfl ⟨A.mono (by omega),hus,SL.nil _ _ _ _,.inr rfl⟩
 have q4:¬ s.data.toList=[98,121,116,101]:=fun e=>ne_of_beq_false q ((ByteArray.toList_eq s).trans e)
 rw [if_neg q4] at hD;refine af (fun q=>?_) (fun q=>?_)
 ·have q:s.data.toList=[119,111,114,100]:=(ByteArray.toList_eq s).symm.trans (eq_of_beq q);rw [if_pos q] at hD;refine aC (zK (k:=6) (by omega) v1 hal) ?_;rintro u h2 ⟨e2,hu⟩;cases hn:wg 6 (al.map In.ts) with
  | error e =>
   rw [hn] at hD hu;obtain ⟨rfl,he⟩:=hu;refine ⟨((none,0,0),(e:Int),()),rfl,?_⟩;dsimp only [flat,aA,ai,nA,cA];exact bad (e:=e) (e1.trans e2) (bz e2) hD (by omega)
  | ok li =>
   rw [hn] at hD hu;obtain ⟨p5,l5,c5,us,rfl,A,hus⟩:=hu;refine ⟨((p5,l5,c5),(0:Int),()),rfl,?_⟩;dsimp only [flat,aA,ai,nA,cA];exact good (t:={ bE with kind:=2,items:=li }) (w:=1) (sl:=⟨p5,l5,c5⟩) (se:=⟨none,0,0⟩) (us:=us) (e1.trans e2) (bz e2) hD rfl ⟨A.mono (by omega),hus,SL.nil _ _ _ _,.inr rfl⟩
 have q5:¬ s.data.toList=[119,111,114,100]:=fun e=>ne_of_beq_false q ((ByteArray.toList_eq s).trans e)
 rw [if_neg q5] at hD;refine af (fun q=>?_) (fun q=>?_)
 ·have q:s.data.toList=[101,113,117]:=(ByteArray.toList_eq s).symm.trans (eq_of_beq q);rw [if_pos q] at hD;have hc:cU s=2:=by unfold cU; simp [q]
  rw [List.length_map] at hcnt;have h1:0<al.length:=by omega
  have h2:1<al.length:=by omega
  obtain ⟨a0,ha0,hc0⟩:=ry v1 h1;rw [Gh] at hc0;refine aB ⟨by omega,by omega⟩ (an ha0 (aH ((al[0].p,al[0].l,al[0].c),()) hc0 ?_));dsimp only [flat,aA,ai,nA,cA];rw [arg 0 h1,arg 1 h2] at hD;cases hn:mZ al[0].ts with
  | error e =>
   have he:=qR hn;rw [hn] at hD;refine iS (tF (v1.sQ _ (mem 0 h1)) (v.text _ (mem 0 h1))) ((⟨#[]⟩:ByteArray),(e:Int),()) (by rw [hn]; rfl) ?_;dsimp only [flat,aA,ai,nA,cA];refine aX (by simp; omega) ?_;exact bad (e:=e) e1 (bz (Ch.refl _ _)) hD (by omega)
  | ok nm =>
   rw [hn] at hD;refine iS (tF (v1.sQ _ (mem 0 h1)) (v.text _ (mem 0 h1))) (nm,(0:Int),()) (by rw [hn]; rfl) ?_;dsimp only [flat,aA,ai,nA,cA];refine bm rfl ?_;obtain ⟨a1,ha1,hc1⟩:=ry v1 h2;rw [ha0] at ha1;obtain rfl:=Option.some.inj ha1;refine aB ⟨by omega,by omega⟩ (an ha0 (aH ((al[1].p,al[1].l,al[1].c),()) hc1 ?_));dsimp only [flat,aA,ai,nA,cA];refine aC (iC (v1.sQ _ (mem 1 h2)) (v1.bN _ (mem 1 h2)) (v.wf _ (mem 1 h2)) (v.many _ (mem 1 h2))) ?_;rintro u h3 ⟨e3,hu⟩;cases hx:bP al[1].ts with
   | error e =>
    rw [hx] at hu hD;have he:=dM (v.wf _ (mem 1 h2)) hx;have hu:u=.tuple #[.agg #[.slice none 0 0,.int .u32 0],.int .i64 (e:Int)]:=hu;subst hu;refine ⟨((none,0,0),(0:Int),(e:Int),()),rfl,?_⟩;dsimp only [flat,aA,ai,nA,cA];refine aT ?_;intro h4 b4 e4 z4;refine ak b4 rfl (by simp) ?_;intro h5 b5 k5 z5;have b5:aN h5 h3.size 94 [.slice none 0 0,.int .u32 (0:Int)]:=b5;refine ad b5 ((none,0,0),(0:Int),()) rfl ?_;dsimp only [flat,aA,ai,nA,cA];have e35:Ext h3 h5:=Ch.trans e4 k5 (fun i hi hl=>by simp at hi; omega);exact bad (e:=e) (e1.trans (e3.trans e35)) (bz (e3.trans e35)) hD (by omega)
   | ok x =>
    rw [hx] at hu hD;obtain ⟨p5,l5,c5,rfl,sl,gd⟩:=hu;refine ⟨((p5,l5,c5),(x.num:Int),(0:Int),()),rfl,?_⟩;dsimp only [flat,aA,ai,nA,cA];refine aT ?_;intro h4 b4 e4 z4;refine ak b4 rfl (by simp) ?_;intro h5 b5 k5 z5;have b5:aN h5 h3.size 94 [.slice p5 l5 c5,.int .u32 (x.num:Int)]:=b5;refine ad b5 ((p5,l5,c5),(x.num:Int),()) rfl ?_;dsimp only [flat,aA,ai,nA,cA];have e35:Ext h3 h5:=Ch.trans e4 k5 (fun i hi hl=>by simp at hi; omega);exact good (t:={ bE with kind:=3,name:=nm,e:=x }) (w:=2) (sl:=⟨none,0,0⟩) (se:=⟨p5,l5,c5⟩) (us:=[]) (e1.trans (e3.trans e35)) (bz (e3.trans e35)) hD rfl ⟨dF.nil _ _,rfl,(Sx.SL.mono sl (by omega)).aS e35 (by simp),.inl rfl⟩
 have q6:¬ s.data.toList=[101,113,117]:=fun e=>ne_of_beq_false q ((ByteArray.toList_eq s).trans e)
 rw [if_neg q6] at hD;refine af (fun q=>?_) (fun q=>?_)
 ·have q:s.data.toList=[103,108,111,98,97,108]:=(ByteArray.toList_eq s).symm.trans (eq_of_beq q);rw [if_pos q] at hD;have hc:cU s=1:=by unfold cU; simp [q]
  rw [List.length_map] at hcnt;have h1:0<al.length:=by omega
  obtain ⟨a0,ha0,hc0⟩:=ry v1 h1;rw [Gh] at hc0;refine aB ⟨by omega,by omega⟩ (an ha0 (aH ((al[0].p,al[0].l,al[0].c),()) hc0 ?_));dsimp only [flat,aA,ai,nA,cA];rw [arg 0 h1] at hD;cases hn:mZ al[0].ts with
  | error e =>
   have he:=qR hn;rw [hn] at hD;refine iS (tF (v1.sQ _ (mem 0 h1)) (v.text _ (mem 0 h1))) ((⟨#[]⟩:ByteArray),(e:Int),()) (by rw [hn]; rfl) ?_;dsimp only [flat,aA,ai,nA,cA];exact bad (e:=e) e1 (bz (Ch.refl _ _)) hD (by omega)
  | ok nm =>
   rw [hn] at hD;refine iS (tF (v1.sQ _ (mem 0 h1)) (v.text _ (mem 0 h1))) (nm,(0:Int),()) (by rw [hn]; rfl) ?_;dsimp only [flat,aA,ai,nA,cA];exact good (t:={ bE with kind:=4,name:=nm }) (w:=2) (sl:=⟨none,0,0⟩) (se:=⟨none,0,0⟩) (us:=[]) e1 (bz (Ch.refl _ _)) hD rfl ⟨dF.nil _ _,rfl,SL.nil _ _ _ _,.inl rfl⟩
 have q7:¬ s.data.toList=[103,108,111,98,97,108]:=fun e=>ne_of_beq_false q ((ByteArray.toList_eq s).trans e)
 rw [if_neg q7] at hD;have hcn:cU s=1:=by
  unfold cU at hcnt ⊢;simp only [if_neg q1,if_neg q6] at hcnt ⊢
  by_cases hs:s.data.toList=[115,101,99,116,105,111,110]
  ·simp [hs]
  ·exfalso;apply hcnt
   left
   simp [q2,q3,q7,hs,q4,q5]
 rw [List.length_map] at hcnt;have h1:0<al.length:=by omega
 obtain ⟨a0,ha0,hc0⟩:=ry v1 h1;rw [Gh] at hc0;have va:=v1.sQ _ (mem 0 h1);have hag:=arg 0 h1;rw [hag] at hD;refine aB ⟨by omega,by omega⟩ (an ha0 (aH ((al[0].p,al[0].l,al[0].c),()) hc0 ?_));dsimp only [flat,aA,ai,nA,cA];generalize al[0]=a at *;have hla:=va.len;refine af (fun r=>?_) (fun r=>?_)
 ·have r:a.l=1:=eQ r;obtain ⟨t,ht⟩:=BO (show a.ts.length=1 by omega);rw [ht] at va hD;obtain ⟨aa,haa,c0⟩:=va.cells 0 (by simp);have c0:aG g1 (aa.add (0*4)) 0 (enc t):=c0;obtain ⟨u1,u2,_⟩:=iy c0;simp only at hD;refine aB ⟨by omega,by omega⟩ (an ha0 (aH ((a.p,a.l,a.c),()) hc0 ?_));dsimp only [flat,aA,ai,nA,cA];refine aB ⟨by omega,by omega⟩ (an haa (aH ((t.kind:Int),()) u1 ?_));dsimp only [flat,aA,ai,nA,cA];refine af (fun g=>?_) (fun g=>?_)
  ·have g:t.kind=1:=eQ g;refine aB ⟨by omega,by omega⟩ (an ha0 (aH ((a.p,a.l,a.c),()) hc0 ?_));dsimp only [flat,aA,ai,nA,cA];refine aB ⟨by omega,by omega⟩ (an haa (aH (t.text,()) u2 ?_));dsimp only [flat,aA,ai,nA,cA];refine af (fun w=>?_) (fun w=>?_)
   ·have w:t.text.data.toList=[116,101,120,116]:=(ByteArray.toList_eq _).symm.trans (eq_of_beq w);rw [if_pos ⟨g,w⟩] at hD;exact good (t:={ bE with kind:=5 }) (w:=2) (sl:=⟨none,0,0⟩) (se:=⟨none,0,0⟩) (us:=[]) e1 (bz (Ch.refl _ _)) hD rfl ⟨dF.nil _ _,rfl,SL.nil _ _ _ _,.inl rfl⟩
   have w:¬ t.text.data.toList=[116,101,120,116]:=fun e=>ne_of_beq_false w ((ByteArray.toList_eq _).trans e)
   rw [if_neg (fun hh=>w hh.2)] at hD;refine af (fun x=>?_) (fun x=>?_)
   ·have x:t.text.data.toList=[100,97,116,97]:=(ByteArray.toList_eq _).symm.trans (eq_of_beq x);rw [if_pos ⟨g,x⟩] at hD;exact good (t:={ bE with kind:=5,sec:=1 }) (w:=2) (sl:=⟨none,0,0⟩) (se:=⟨none,0,0⟩) (us:=[]) e1 (bz (Ch.refl _ _)) hD rfl ⟨dF.nil _ _,rfl,SL.nil _ _ _ _,.inl rfl⟩
   have x:¬ t.text.data.toList=[100,97,116,97]:=fun e=>ne_of_beq_false x ((ByteArray.toList_eq _).trans e)
   rw [if_neg (fun hh=>x hh.2)] at hD;exact bad (e:=20) e1 (bz (Ch.refl _ _)) hD (by decide)
  ·have g:¬ t.kind=1:=fx g;rw [if_neg (fun hh=>g hh.1),if_neg (fun hh=>g hh.1)] at hD;exact bad (e:=20) e1 (bz (Ch.refl _ _)) hD (by decide)
 ·have r:¬ a.l=1:=fx r;have hD:fO s (al.map In.ts)=.error 20:=by
   rw [hD];cases hts:a.ts with
   | nil=>rfl
   | cons t r =>
    cases r with
    | nil=>rw [hts] at hla; simp at hla; omega
    | cons _ _=>rfl
  exact bad (e:=20) e1 (bz (Ch.refl _ _)) hD (by decide)
section
variable {L:Lp} {K:Value→Hp→Prop} {hh:Hp}
end
set_option maxHeartbeats 1000000 in
def zT:List Value:=qK 0 none 0 0 bK none 0 0 0 0
def D6 (h:Hp) (r:Except Nat jW) (u:Value) (h':Hp):Prop:=Ext h h'∧match r with
 | .error e=>u=.tuple #[.agg zT.toArray,.int .i64 (e:Int)]∧e≠0
 | .ok t=>∃ sl us se,u=.tuple #[I1 t.kind sl t.name se t.e.num t.sec,.int .i64 0]∧gV h' h.size t sl us se
def JX (op:ByteArray) (args:List (List Tok)):Except Nat (jW × Nat) :=
 if j8 op≠0 then match ey (j8 op) args with
  | .error e=>.error e
  | .ok x=>.ok (eW x,0)
 else fO op args
theorem Fa {l:Ln} {data:Bool} (h:¬ l.op=bK):dy l data=match JX l.op l.args with
  | .error e=>.error e
  | .ok (t,w)=>if w=2∨w=(if data then 1 else 0) then .ok t else .error 21:=by
 unfold dy JX;rw [if_neg h]
 by_cases hf:j8 l.op≠0
 ·rw [if_pos hf,if_pos hf];cases ey (j8 l.op) l.args with
  | error e=>rfl
  | ok x=>cases data <;> simp
 ·rw [if_neg hf,if_neg hf]
  all_goals
   cases fO l.op l.args with
   | error e=>rfl
   | ok q=>rfl
theorem xf {op:Int} {args:List (List Tok)} {e:Nat} (hw:∀ a,a∈args→Wf a) (h:ey op args=.error e):e=20∨e=21:=by
 unfold ey at h;split at h
 ·injection h with h
  exact .inl h.symm
 have key:∀ (rs:List CD) (args:List (List Tok)) (x:bw),(∀ a,a∈args→Wf a)→dO x rs args=.error e→e=20∨e=21:=by
  intro rs
  induction rs with
  | nil=>intro args x _ h; cases args <;> simp [dO] at h
  | cons r rs ih =>
   intro args x hw h;cases args with
   | nil=>simp [dO] at h
   | cons a args =>
    simp only [dO] at h;cases ha:dE x r a with
    | error e' =>
     rw [ha] at h;injection h with h
     subst h;exact FZ (hw a (by simp)) ha
    | ok y =>
     rw [ha] at h;exact ih args y (fun b hb=>hw b (by simp [hb])) h
 exact key _ _ _ hw h
theorem Jp {op:ByteArray} {args:List (List Tok)} {t:jW} {w:Nat} (hd:fO op args=.ok (t,w)):w≤2:=by
 unfold fO at hd;simp only at hd
 repeat' split at hd
 all_goals first | (cases hd; done) | (injection hd with hd; injection hd with h1 h2; omega)
set_option maxHeartbeats 1000000 in
theorem Cr {h:Hp} (tb:lZ h) {dC op:ByteArray} {p:Option Addr} {l c:Nat} {al:List In} (v:CC h p l al) (hal:al.length≤2^32) (sec:Int) :
  HC Tryz.prog 65 #[.agg #[.string dC,.string op,.slice p l c],.int .i64 sec] h (D6 h (dy ⟨dC,op,al.map In.ts⟩ (decide (sec=1)))):=by
 refine aI (args:=[.agg #[.string dC,.string op,.slice p l c],.int .i64 sec]) mixed Tryz.func65 (by kernel_rfl) (vi dC op p l c sec) ?_;unfold rT;refine aT ?_;intro g1 b1 e1 z1;refine aT ?_;intro g2 b2 e2 z2;have b1:=b1.ah e2 (by simp);have e02:=e1.trans e2;have b2:aN g2 g1.size 134 zT:=b2;obtain ⟨s4,hs4⟩:∃ s4:Int,s4=if sec=1 then 1 else 0:=⟨_,rfl⟩
 refine dt (cs:=[(false,[.int .i64])]) (fun y h'=>g2=h'∧s4=y.1) ?_ ?_
 ·refine af (fun q=>?_) (fun q=>?_)
  ·have q:¬ sec=1:=by simpa using q
   exact bh (cs:=[(false,[.int .i64])]) ((0:Int),()) rfl rfl ⟨rfl,by rw [hs4,if_neg q]⟩
  ·have q:sec=1:=by simpa using q
   exact bh (cs:=[(false,[.int .i64])]) (sec,()) rfl rfl ⟨rfl,by rw [hs4,if_pos q,q]⟩
 rintro ⟨n4,⟨⟩⟩ g9 ⟨h9,h4⟩;simp only at h4;subst h9;rw [← h4];clear h4;dsimp only [flat,aA,ai,nA,cA];rw [ao];refine ad b1 (op,()) rfl ?_;dsimp only [flat,aA,ai,nA,cA];obtain ⟨r,hr⟩:∃ r,r=dy ⟨dC,op,al.map In.ts⟩ (decide (sec=1)):=⟨_,rfl⟩
 rw [← hr]
 have bad:∀ {gg:Hp} {xs:List Value} {e:Nat} {L:Lp},Ext h gg→aN gg g1.size 134 xs→xs.length=6→r=.error e→e≠0 →
   (T.ap ⟨g1.size,0,none⟩ [.int .i64 (0:Int),.slice none 0 0,.string ⟨#[]⟩,.slice none 0 0,.int .u32 (0:Int),.int .i64 (0:Int)] <|
   T.ae ⟨g1.size,0,none⟩ [.int .i64,.slice 96,.string,.slice 109,.int .u32,.int .i64] <| fun (n6:Int) (p7:Option Addr) (l8:Nat) (l9:Nat) (s10:ByteArray) (p11:Option Addr) (l12:Nat) (l13:Nat) (n14:Int) (n15:Int) =>
   T.ret (.tuple #[.agg #[.int .i64 n6,.slice p7 l8 l9,.string s10,.slice p11 l12 l13,.int .u32 n14,.int .i64 n15],.int .i64 (e:Int)])) L (D6 h r) gg:=by
  intro gg xs e L eg bx hx hA he;refine yE bx hx ?_;intro h' b' k' z';refine ⟨Ch.trans eg k' (fun i hi hl=>by simp at hi; omega),?_⟩;rw [hA];exact ⟨rfl,he⟩
 have good:∀ {gg:Hp} {xs:List Value} {t:jW} {sl se:bI} {us:List (bI × bw)} {L:Lp},Ext h gg→aN gg g1.size 134 xs→xs.length=6→r=.ok t→gV gg (g1.size+1) t sl us se →
   (T.ap ⟨g1.size,0,none⟩ [.int .i64 (t.kind:Int),.slice sl.p sl.l sl.c,.string t.name,.slice se.p se.l se.c,.int .u32 (t.e.num:Int),.int .i64 (t.sec:Int)] <|
   T.ae ⟨g1.size,0,none⟩ [.int .i64,.slice 96,.string,.slice 109,.int .u32,.int .i64] <| fun (n6:Int) (p7:Option Addr) (l8:Nat) (l9:Nat) (s10:ByteArray) (p11:Option Addr) (l12:Nat) (l13:Nat) (n14:Int) (n15:Int) =>
   T.ret (.tuple #[.agg #[.int .i64 n6,.slice p7 l8 l9,.string s10,.slice p11 l12 l13,.int .u32 n14,.int .i64 n15],.int .i64 (0:Int)])) L (D6 h r) gg:=by
  intro gg xs t sl se us L eg bx hx hA A;refine yE bx hx ?_;intro h' b' k' z';refine ⟨Ch.trans eg k' (fun i hi hl=>by simp at hi; omega),?_⟩;rw [hA];exact ⟨sl,us,se,rfl,(A.ah k' (fun i hi hl=>by simp at hi; omega)).mono (by omega)⟩
 refine af (fun q=>?_) (fun q=>?_)
 ·have q:op=bK:=by
   have q:op.data.toList=[]:=(ByteArray.toList_eq op).symm.trans (eq_of_beq q);exact kB q
  have hA:r=.ok bE:=by rw [hr]; unfold dy; rw [if_pos q]
  exact good (t:=bE) (sl:=⟨none,0,0⟩) (se:=⟨none,0,0⟩) (us:=[]) e02 b2 rfl hA ⟨dF.nil _ _,rfl,SL.nil _ _ _ _,.inl rfl⟩
 have q:¬ op=bK:=fun e=>by
  subst e;rw [ByteArray.toList_eq] at q;simp [bK] at q
 have hop:=Fa (l:=⟨dC,op,al.map In.ts⟩) (data:=decide (sec=1)) q;rw [← hr] at hop;simp only at hop;obtain ⟨ro,hro⟩:∃ ro,JX op (al.map In.ts)=ro:=⟨_,rfl⟩
 rw [hro] at hop;refine aT ?_;intro g3 b3 e3 z3;have b3:aN g3 g2.size 134 zT:=b3;have b1:=b1.ah e3 (by simp);have b2:=b2.ah e3 (by simp);have e03:=e02.trans e3;have hlt2:=b2.lt;have v3:=v.ah e03;refine dt (cs:=[(false,[.int .i64]),(false,[.int .i64])]) (fun y h'=>Ext h h'∧aN h' g1.size 134 zT∧match ro with
  | .error e=>y.2.1=(e:Int)∧e≠0
  | .ok (t,w)=>y.1=HA w∧y.2.1=(0:Int)∧w≤2∧∃ sl us se,aN h' g2.size 134 (qK t.kind sl.p sl.l sl.c t.name se.p se.l se.c t.e.num t.sec)∧gV h' (g1.size+1) t sl us se) ?_ ?_
 ·rw [ao];refine ad b1 (op,()) rfl ?_;dsimp only [flat,aA,ai,nA,cA];refine aC (G0 (tb.ah e03 (by simp)) op) ?_;obtain ⟨fo,hfo⟩:∃ fo,j8 op=fo:=⟨_,rfl⟩
  have hle:fo≤43:=hfo▸uI _ _ _;rintro u0 g4 ⟨hu0,e4⟩;rw [hfo] at hu0;subst hu0;refine ⟨((fo:Int),decide (fo≠0),()),rfl,?_⟩;dsimp only [flat,aA,ai,nA,cA];have b14:=b1.ah e4 (by simp);have b24:=b2.ah e4 (by simp);have b34:=b3.ah e4 (by simp);have e04:=e03.trans e4;refine af (fun f=>?_) (fun f=>?_)
  ·have f:fo≠0:=of_decide_eq_true f;refine aT ?_;intro g5 b5 e5 z5;have b15:=b14.ah e5 (by simp)
   try rw [ao]
   refine ad b15 ((p,l,c),()) rfl ?_;dsimp only [flat,aA,ai,nA,cA];have e05:=e04.trans e5;refine aC (Ig ((tb.ah e05 (by simp)).K6) (op:=fo) (by omega) hle (v.ah e05) (by omega)) ?_;rintro u g6 ⟨e6,hu⟩;have e06:=e05.trans e6
   have hopA:ro=match ey (fo:Int) (al.map In.ts) with
     | .error e=>.error e
     | .ok x=>.ok (eW x,0):=by
    rw [← hro];unfold JX;rw [hfo,if_pos f]
   have fin:∀ {x:bw} {p':Option Addr} {l' c':Nat} {why:Int} {L:Lp} {K:Value→Hp→Prop},SL g6 g5.size 109 2 p' l' c' (x.e.aw.map cJ)→(∀ h',Ext g6 h'∨True→Ch [g2.size] g6 h'∨True→Ext h h'→aN h' g1.size 134 zT→aN h' g2.size 134 (qK 1 (some ⟨g6.size,0,none⟩) 1 1 bK none 0 0 0 0)→dF h' (g1.size+1) (some ⟨g6.size,0,none⟩) 1 1 [(⟨p',l',c'⟩,x)]→T.again 0 [.int .i64 (0:Int),.int .i64 why] L K h') →
     (T.ap ⟨g4.size,0,none⟩ [.int .i64 x.kind,.string x.name,.int .i64 x.inst.op,.int .i64 x.inst.a,.int .i64 x.inst.b,.int .i32 x.inst.n,.int .i64 x.inst.form,.slice p' l' c',.int .u32 (x.e.num:Int),.int .i64 x.n] <|
     T.ae ⟨g4.size,0,none⟩ [.int .i64,.string,.int .i64,.int .i64,.int .i64,.int .i32,.int .i64,.slice 109,.int .u32,.int .i64] <| fun (n27:Int) (s28:ByteArray) (n29:Int) (n30:Int) (n31:Int) (n32:Int) (n33:Int) (p34:Option Addr) (l35:Nat) (l36:Nat) (n37:Int) (n38:Int) =>
     T.aV Tryz.prog (Instr.buildSlice 23 1 #[(0,.agg #[.int .i64 n27,.string s28,.int .i64 n29,.int .i64 n30,.int .i64 n31,.int .i32 n32,.int .i64 n33,.slice p34 l35 l36,.int .u32 n37,.int .i64 n38])]) false [(false,[.slice 0])] <| fun (p39:Option Addr) (l40:Nat) (l41:Nat) =>
     T.ap ⟨g2.size,0,none⟩ [.int .i64 (1:Int),.slice p39 l40 l41,.string ⟨#[]⟩,.slice none 0 0,.int .u32 (0:Int),.int .i64 (0:Int)] <|
     T.again 0 [.int .i64 (0:Int),.int .i64 why]) L K g6:=by
    intro x p' l' c' why L K sx hk;refine ak (b5.ah e6 (by simp)) rfl (by simp) ?_;intro g7 b7 k7 z7;have b7:aN g7 g4.size 96 (encI p' l' c' x):=b7;refine ad b7 (x.kind,x.name,x.inst.op,x.inst.a,x.inst.b,x.inst.n,x.inst.form,(p',l',c'),(x.e.num:Int),x.n,()) rfl ?_;dsimp only [flat,aA,ai,nA,cA];refine jE (p:=p') (l:=l') (c:=c') (x:=x) ?_;intro g8 s8 e8 z8;have hz4:=e4.size;have hz5:g5.size=g4.size+1:=z5;have hz6:=e6.size;have e07:Ext h g7:=Ch.trans e06 k7 (fun i hi hl=>by have:=e04.size; simp at hi; omega);have b38:aN g8 g2.size 134 zT:=(((b34.ah e5 (by simp)).ah e6 (by simp)).ah k7 (by have:=b34.lt; simp; omega)).ah e8 (by simp);refine ak b38 rfl (by simp [zT,qK]) ?_;intro g9 b9 k9 z9;have b28:aN g8 g1.size 134 zT:=(((b24.ah e5 (by simp)).ah e6 (by simp)).ah k7 (by have:=b24.lt; simp; omega)).ah e8 (by simp);have e09:Ext h g9:=Ch.trans (e07.trans e8) k9 (fun i hi hl=>by have:=e02.size; simp at hi; omega);have s8':=SL.ur (Sx.SL.mono s8 (show g1.size+1≤g7.size by omega)) (Ch.refl [] g8) (by simp);refine hk g9 (.inr trivial) (.inr trivial) e09 (b28.ah k9 (by simp; omega)) (by rw [z7] at b9; exact b9) ?_;refine ⟨?_,?_,?_,by simp⟩
    ·rw [z7] at s8;exact Sx.SL.aS (Sx.SL.mono s8 (by omega)) k9 (fun i hi hm=>by simp [ay] at hi hm; omega)
    ·intro w hw;have hw:w=(⟨p',l',c'⟩,x):=by simpa using hw
     subst hw;refine Sx.SL.aS (Sx.SL.aS (Sx.SL.aS (Sx.SL.mono sx (by omega)) k7 (fun i hi hm=>by have:=(Sx.SL.bN sx hi).1; simp at hm; omega)) e8 (by simp)) k9 (fun i hi hm=>by have:=(Sx.SL.bN sx hi).1; simp at hm; omega)
    ·intro w hw i hi hm;have hw:w=(⟨p',l',c'⟩,x):=by simpa using hw
     subst hw
     have:=(Sx.SL.bN sx hi).2
     simp [ay] at hm;omega
   cases hcd:ey (fo:Int) (al.map In.ts) with
   | error e =>
    rw [hcd] at hu hopA;have he:=xf (fun a ha=>by obtain ⟨b,hb,rfl⟩:=List.mem_map.1 ha; exact v.wf b hb) hcd;have hu:u=.tuple #[pV none 0 0 (cK 0),.int .i64 (e:Int)]:=hu;subst hu;refine ⟨((0:Int),(⟨#[]⟩:ByteArray),(0:Int),(0:Int),(0:Int),(0:Int),(0:Int),(none,0,0),(0:Int),(0:Int),(e:Int),()),rfl,?_⟩;dsimp only [flat,aA,ai,nA,cA];refine fin (x:=cK 0) (p':=none) (l':=0) (c':=0) (SL.nil _ _ _ _) ?_;intro g9 _ _ e09 b29 b39 _;refine bh (cs:=[(false,[.int .i64]),(false,[.int .i64])]) ((0:Int),(e:Int),()) rfl rfl ⟨e09,b29,?_⟩;have hopA:ro=.error e:=hopA;subst hopA;exact ⟨rfl,by omega⟩
   | ok x =>
    rw [hcd] at hu hopA;obtain ⟨p',l',c',rfl,sx⟩:=hu;refine ⟨(x.kind,x.name,x.inst.op,x.inst.a,x.inst.b,x.inst.n,x.inst.form,(p',l',c'),(x.e.num:Int),x.n,(0:Int),()),rfl,?_⟩;dsimp only [flat,aA,ai,nA,cA];refine fin (x:=x) sx ?_;intro g9 _ _ e09 b29 b39 A9;refine bh (cs:=[(false,[.int .i64]),(false,[.int .i64])]) ((0:Int),(0:Int),()) rfl rfl ⟨e09,b29,?_⟩;have hopA:ro=.ok (eW x,0):=hopA;subst hopA;exact ⟨rfl,rfl,by omega,⟨_,1,1⟩,_,⟨none,0,0⟩,b39,A9,rfl,SL.nil _ _ _ _,.inr rfl⟩
  ·have f:¬ fo≠0:=of_decide_eq_false f;have hopA:ro=fO op (al.map In.ts):=by
    rw [← hro];unfold JX;rw [hfo,if_neg f]
   try rw [ao]
   refine ad b14 (op,()) rfl ?_;dsimp only [flat,aA,ai,nA,cA]
   try rw [ao]
   refine ad b14 ((p,l,c),()) rfl ?_;dsimp only [flat,aA,ai,nA,cA];refine aC (yp (v.ah e04) hal op) ?_;rintro u g5 ⟨e5,hu⟩;have e05:=e04.trans e5;have hz2:=e2.size;have hlt3:=b34.lt;cases hd:fO op (al.map In.ts) with
   | error e =>
    rw [hd] at hu;obtain ⟨k,p1,l1,c1,nm,p2,l2,c2,n,sc,w,rfl,he⟩:=hu;refine ⟨(k,(p1,l1,c1),nm,(p2,l2,c2),n,sc,w,(e:Int),()),rfl,?_⟩;dsimp only [flat,aA,ai,nA,cA];refine ak (b34.ah e5 (by simp)) rfl (by simp [zT,qK]) ?_;intro g6 b6 k6 z6;refine bh (cs:=[(false,[.int .i64]),(false,[.int .i64])]) (w,(e:Int),()) rfl rfl ⟨Ch.trans e05 k6 (fun i hi hl=>by have:=e02.size; simp at hi; omega),(b24.ah e5 (by simp)).ah k6 (by simp; omega),?_⟩;have hopA:ro=.error e:=hopA.trans hd;subst hopA;exact ⟨rfl,he⟩
   | ok q =>
    obtain ⟨t,w⟩:=q;rw [hd] at hu;obtain ⟨sl,us,se,rfl,A⟩:=hu;refine ⟨(((t.kind:Nat):Int),(sl.p,sl.l,sl.c),t.name,(se.p,se.l,se.c),(t.e.num:Int),((t.sec:Nat):Int),HA w,(0:Int),()),rfl,?_⟩;dsimp only [flat,aA,ai,nA,cA];refine ak (b34.ah e5 (by simp)) rfl (by simp [zT,qK]) ?_;intro g6 b6 k6 z6;have hw2:w≤2:=Jp hd;refine bh (cs:=[(false,[.int .i64]),(false,[.int .i64])]) (HA w,(0:Int),()) rfl rfl ⟨Ch.trans e05 k6 (fun i hi hl=>by have:=e02.size; simp at hi; omega),(b24.ah e5 (by simp)).ah k6 (by simp; omega),?_⟩;have hopA:ro=.ok (t,w):=hopA.trans hd;subst hopA;exact ⟨rfl,rfl,hw2,sl,us,se,b6,(A.ah k6 (fun i hi hl=>by simp at hi; omega)).mono (by have:=e4.size; omega)⟩
 rintro ⟨n7,n8,⟨⟩⟩ g4 ⟨e04,b24,hJ⟩;simp only at hJ;dsimp only [flat,aA,ai,nA,cA];cases ho:ro with
 | error e =>
  subst ho;obtain ⟨rfl,he⟩:=hJ;refine aX (by simp; omega) ?_;exact bad (e:=e) e04 b24 rfl hop he
 | ok q =>
  obtain ⟨t,w⟩:=q;subst ho;obtain ⟨rfl,rfl,hw,sl,us,se,b34,A⟩:=hJ;simp only at hop;refine bm rfl ?_
  have done_:w=2∨w=(if decide (sec=1)=true then 1 else 0)→∀ {L:Lp},(T.ae ⟨g2.size,0,none⟩ [.int .i64,.slice 96,.string,.slice 109,.int .u32,.int .i64] <| fun (n9:Int) (p10:Option Addr) (l11:Nat) (l12:Nat) (s13:ByteArray) (p14:Option Addr) (l15:Nat) (l16:Nat) (n17:Int) (n18:Int) =>
    T.ap ⟨g1.size,0,none⟩ [.int .i64 n9,.slice p10 l11 l12,.string s13,.slice p14 l15 l16,.int .u32 n17,.int .i64 n18] <|
    T.ae ⟨g1.size,0,none⟩ [.int .i64,.slice 96,.string,.slice 109,.int .u32,.int .i64] <| fun (n19:Int) (p20:Option Addr) (l21:Nat) (l22:Nat) (s23:ByteArray) (p24:Option Addr) (l25:Nat) (l26:Nat) (n27:Int) (n28:Int) =>
    T.ret (.tuple #[.agg #[.int .i64 n19,.slice p20 l21 l22,.string s23,.slice p24 l25 l26,.int .u32 n27,.int .i64 n28],.int .i64 (0:Int)])) L (D6 h r) g4:=by
   intro hh L;refine ad b34 (((t.kind:Nat):Int),(sl.p,sl.l,sl.c),t.name,(se.p,se.l,se.c),(t.e.num:Int),((t.sec:Nat):Int),()) rfl ?_;dsimp only [flat,aA,ai,nA,cA];exact good e04 b24 rfl (hop.trans (if_pos hh)) A
  refine af (fun g=>?_) (fun g=>?_)
  ·have g:=of_decide_eq_true g;have hw2:¬ w=2:=fun e=>by rw [e] at g; simp [HA] at g
   have hwi:HA w=(w:Int):=by unfold HA; rw [if_neg hw2]
   rw [hwi,hs4];refine af (fun f=>?_) (fun f=>?_)
   ·have f:¬ (w:Int)=if sec=1 then 1 else 0:=by simpa using f
    refine bad (e:=21) e04 b24 rfl (hop.trans (if_neg ?_)) (by decide);rintro (x | x)
    ·exact hw2 x
    ·apply f;rw [x]
     by_cases hs:sec=1 <;> simp [hs]
   ·have f:(w:Int)=if sec=1 then 1 else 0:=by simpa using f
    refine done_ (.inr ?_)
    by_cases hs:sec=1
    ·simp [hs] at f ⊢; omega
    ·simp [hs] at f ⊢; omega
  ·have g:=of_decide_eq_false g;have hw2:w=2:=by
    by_cases e:w=2
    ·exact e
    ·exfalso;apply g;unfold HA;rw [if_neg e];omega
   exact done_ (.inl hw2)
end Go.Sx.Ob
set_option linter.unusedVariables false
set_option linter.unusedSimpArgs false
set_option maxRecDepth 100000
namespace Go.Sx
open Go.Proofs
theorem Fs {s:ByteArray} {a k':Nat} {t:Tok} (ha:a≤s.size) (h:j5 s a=.tok t k'):Lo t:=by
 have hsz:s.data.toList.length=s.size:=by simp
 unfold j5 at h;split at h
 ·cases h
 split at h
 ·cases h
 have hlen:(s.data.toList.drop a).length=s.size-a:=by rw [List.length_drop,hsz]
 split at h
 ·rename_i h1 h2 h3;split at h
  ·cases h
  ·rename_i h4;cases h;refine ⟨by simp,fun _=>⟨rfl,?_⟩⟩;have h5:=df (s.data.toList.drop a) bi;have h0:(s.data.toList.drop a).getD 0 0=s.data.toList.getD a 0:=by simp [List.getD]
   have h6:=(mN (s:=s.data.toList.drop a) (set:=bi) (by omega)).2 (by
    rw [h0];show (bR++aU).contains _=true;rw [mB,h3]; rfl)
   have e:(s.extract a (a+aQ (s.data.toList.drop a) bi)).data.toList=(s.data.toList.drop a).take (aQ (s.data.toList.drop a) bi):=by
    rw [gG,show a+aQ (s.data.toList.drop a) bi-a=aQ (s.data.toList.drop a) bi by omega]
   show bf (s.extract a (a+aQ (s.data.toList.drop a) bi)).data.toList=!(iv (s.extract a (a+aQ (s.data.toList.drop a) bi)).data.toList).2.2;rw [e];unfold bf;have l1:((s.data.toList.drop a).take (aQ (s.data.toList.drop a) bi)).length=aQ (s.data.toList.drop a) bi:=by rw [List.length_take]; omega
   have l2:((s.data.toList.drop a).take (aQ (s.data.toList.drop a) bi)).getD 0 0=s.data.toList.getD a 0:=by rw [← h0]; exact getD_take (by omega)
   have l3:((s.data.toList.drop a).take (aQ (s.data.toList.drop a) bi)).all (fun c=>fC c || eL c)=true:=by
    refine List.all_eq_true.2 fun c hc=>?_
    obtain ⟨i,hi,rfl⟩:=List.getElem_of_mem hc;rw [l1] at hi;have h7:=qD hi;have h8:(bR++aU).contains ((s.data.toList.drop a).getD i 0)=true:=h7;rw [mB] at h8;rw [List.getElem_take];rw [List.getD,List.getElem?_eq_getElem (by omega)] at h8;exact h8
   rw [l1,l2,l3,h3,decide_eq_true (by omega),decide_eq_true (by omega)] <;> rfl
 split at h
 ·split at h
  ·cases h
  ·cases h;exact ⟨(tD _).2,by simp⟩
 split at h
 ·split at h
  ·cases h
  ·cases h;exact ⟨by show (s.data.toList.getD (a+1) 0).toNat<4294967296; have:=(s.data.toList.getD (a+1) 0).toNat_lt; omega,by simp⟩
 split at h
 ·cases h;exact ⟨by simp,by simp⟩
 ·cases h
theorem Cm {s:ByteArray}:∀ (f k:Nat) (acc:List Tok),k≤s.size→Wf acc→Wf (jk s f k acc).1
 | 0,k,acc,hk,w=>w
 | f+1,k,acc,hk,w=>by
  unfold jk;cases h:dL s k with
  | stop=>exact w
  | ct a=>intro t ht; simp at ht
  | tok t k' =>
   simp only;have h1:=mz hk h;have hle:k+aQ (s.data.toList.drop k) aK≤s.size:=by
    have:=df (s.data.toList.drop k) aK
    rw [List.length_drop] at this;have hsz:s.data.toList.length=s.size:=by simp
    omega
   refine Cm f k' _ h1.2 ?_;intro u hu;rcases List.mem_append.1 hu with hu | hu
   ·exact w u hu
   ·rw [List.mem_singleton] at hu;subst hu;exact Fs hle h
theorem HJ (s:ByteArray):Wf (ef s).1:=Cm _ 0 [] (Nat.zero_le _) (by intro t ht; simp at ht)
theorem wP {s:ByteArray}:∀ (f k:Nat) (acc:List Tok),k≤s.size→(∀ t,t∈acc→t.text.size≤s.size)→∀ t,t∈(jk s f k acc).1→t.text.size≤s.size
 | 0,k,acc,hk,w=>w
 | f+1,k,acc,hk,w=>by
  unfold jk;cases h:dL s k with
  | stop=>exact w
  | ct a=>intro t ht; simp at ht
  | tok t k' =>
   simp only;have h1:=mz hk h;have hle:k+aQ (s.data.toList.drop k) aK≤s.size:=by
    have:=df (s.data.toList.drop k) aK
    rw [List.length_drop] at this;have hsz:s.data.toList.length=s.size:=by simp
    omega
   refine wP f k' _ h1.2 ?_;intro u hu;rcases List.mem_append.1 hu with hu | hu
   ·exact w u hu
   ·rw [List.mem_singleton] at hu;subst hu;obtain ⟨_,_,_,h4⟩:=wV hle h;rw [h4,eU];omega
theorem xI (s:ByteArray):∀ t,t∈(ef s).1→t.text.size≤s.size:=wP _ 0 [] (Nat.zero_le _) (by intro t ht; simp at ht)
theorem vS (n:Nat):∀ (ts:List Tok) (done:List (List Tok)) (bS:List Tok) (r:List (List Tok)),dN n ts done bS=.ok r→(∀ l,l∈done→l≠[])→∀ l,l∈r→l≠[]
 | [],done,bS,r,h,hd=>by
  simp only [dN] at h;split at h
  ·cases h
  ·rename_i hc;injection h with h
   subst h;intro l hl;rcases List.mem_append.1 hl with hl | hl
   ·exact hd l hl
   ·have:l=bS:=by simpa using hl
    subst this;exact hc
 | t::ts,done,bS,r,h,hd=>by
  simp only [dN] at h;split at h
  ·cases h
  ·rename_i h0;split at h
   ·rename_i h1;refine vS n ts _ _ r h fun l hl=>?_
    rcases List.mem_append.1 hl with hl | hl
    ·exact hd l hl
    ·have:l=bS:=by simpa using hl
     subst this;intro hh;subst hh;rw [h1] at h0;simp at h0
   ·exact vS n ts _ _ r h hd
theorem xS (n:Nat) (lb:ByteArray) (us:List Tok):∀ l,l∈(bM n lb us).1.args→l≠[]:=by
 cases us with
 | nil=>simp [bM]
 | cons t us =>
  simp only [bM];split
  ·simp [gP]
  ·cases hA:eO n us with
   | error a=>simp [gP]
   | ok r =>
    unfold eO at hA;split at hA
    ·injection hA with hA
     subst hA
     simp
    ·exact vS n us [] [] r hA (by simp)
theorem Dh (s:ByteArray):∀ l,l∈(aJ s).1.args→l≠[]:=by
 unfold aJ;split
 ·simp [gP]
 ·unfold eH;split
  ·exact xS _ _ _
  ·exact xS _ _ _
theorem rD (P:Tok→Prop) (n:Nat):∀ (ts:List Tok) (done:List (List Tok)) (bS:List Tok) (r:List (List Tok)),dN n ts done bS=.ok r→(∀ l,l∈done→∀ t,t∈l→P t)→(∀ t,t∈bS→P t)→(∀ t,t∈ts→P t)→∀ l,l∈r→∀ t,t∈l→P t
 | [],done,bS,r,h,hd,hc,ht=>by
  simp only [dN] at h;split at h
  ·cases h
  ·injection h with h
   subst h;intro l hl;rcases List.mem_append.1 hl with hl | hl
   ·exact hd l hl
   ·have:l=bS:=by simpa using hl
    subst this;exact hc
 | t::ts,done,bS,r,h,hd,hc,ht=>by
  simp only [dN] at h;split at h
  ·cases h
  ·split at h
   ·refine rD P n ts _ _ r h (fun l hl=>?_) (by simp) (fun x hx=>ht x (by simp [hx]));rcases List.mem_append.1 hl with hl | hl
    ·exact hd l hl
    ·have:l=bS:=by simpa using hl
     subst this;exact hc
   ·refine rD P n ts _ _ r h hd (fun x hx=>?_) (fun x hx=>ht x (by simp [hx]));rcases List.mem_append.1 hx with hx | hx
    ·exact hc x hx
    ·have:x=t:=by simpa using hx
     subst this;exact ht x (by simp)
theorem tR (Q:Tok→Prop) (n:Nat) (lb:ByteArray) (us:List Tok) (h:∀ t,t∈us→Q t):∀ l,l∈(bM n lb us).1.args→∀ t,t∈l→Q t:=by
 cases us with
 | nil=>simp [bM]
 | cons t us =>
  simp only [bM];split
  ·simp [gP]
  ·cases hA:eO n us with
   | error a=>simp [gP]
   | ok r =>
    unfold eO at hA;split at hA
    ·injection hA with hA
     subst hA
     simp
    ·exact rD Q n us [] [] r hA (by simp) (by simp) (fun x hx=>h x (by simp [hx]))
theorem uz (Q:Tok→Prop) (s:ByteArray) (h:∀ t,t∈(ef s).1→Q t):∀ l,l∈(aJ s).1.args→∀ t,t∈l→Q t:=by
 unfold aJ;split
 ·simp [gP]
 ·unfold eH;split
  ·exact tR Q _ _ _ fun t ht=>h t (List.mem_of_mem_drop ht)
  ·exact tR Q _ _ _ h
theorem gJ (s:ByteArray) (hs:s.size≤2^20):∀ a,a∈(aJ s).1.args→Wf a∧a.length≤2^40∧a≠[]∧∀ t,t∈a→t.text.size≤9223372036854775807:=fun a ha =>
 ⟨uz Lo s (HJ s) a ha,by have:=(eA s).1 a ha; omega,Dh s a ha,fun t ht=>by have:=uz (fun t=>t.text.size≤s.size) s (xI s) a ha t ht; omega⟩
end Go.Sx
namespace Go.Sx.Ob
open Go.Proofs
theorem CC.parse {h:Hp} {b:Nat} {te es:TypeId} {p:Option Addr} {c:Nat} {al:List In} (s:ByteArray) (hs:s.size≤2^20) (A:fM h b te es p c al) (ha:al.map In.ts=(aJ s).1.args):CC h p al.length al∧al.length≤2^32:=by
 refine ⟨CC.of A fun a hm=>gJ s hs a.ts (ha▸List.mem_map_of_mem hm),?_⟩
 have:=(eA s).2
 rw [← ha,List.length_map] at this;omega
theorem gV.z (h:Hp) (b:Nat):gV h b bE ⟨none,0,0⟩ [] ⟨none,0,0⟩:=⟨dF.nil _ _,rfl,SL.nil _ _ _ _,.inl rfl⟩
theorem kU {ts:List Tok} {x:eJ} (hw:Wf ts) (h:bP ts=.ok x):x.aw.length≤ts.length:=by
 unfold bP at h
 have:=j7 32 ts hw
 cases hs:ml 32 ts with
 | error e=>rw [hs] at h; cases h
 | ok q =>
  rw [hs] at h this;simp only at h;split at h
  ·injection h with h
   subst h;obtain ⟨_,_,_,h4⟩:=this;omega
  ·cases h
theorem Em {pool:Bool} {ts:List Tok} {x:eJ} (hw:Wf ts) (h:qf pool ts=.ok x):x.aw.length≤ts.length:=by
 unfold qf at h;split at h
 ·exact kU hw h
 ·split at h
  ·cases h
  ·split at h
   ·have:=kU hw.tail h
    simp only [List.length_cons]; omega
   ·cases h
def Bd (n:Nat) (x:bw):Prop:=x.e.aw.length≤n
theorem FR {n:Nat} {x y:bw} {r:CD} {ts:List Tok} (hw:Wf ts) (hn:ts.length≤n) (hx:Bd n x) (h:dE x r ts=.ok y):Bd n y:=by
 unfold dE at h;unfold Bd at *;split at h
 ·split at h
  ·cases h
  ·injection h with h
   subst h;split
   ·exact hx
   ·split
    ·exact hx
    ·exact hx
 ·split at h
  ·cases h
  ·injection h with h
   subst h;exact hx
 ·split at h
  ·cases h
  ·rename_i hv;injection h with h
   subst h
   have:=Em hw hv
   simp only [yq]; omega
theorem wJ {n:Nat}:∀ (rs:List CD) (args:List (List Tok)) (x y:bw),(∀ a,a∈args→Wf a∧a.length≤n)→Bd n x→dO x rs args=.ok y→Bd n y
 | [],args,x,y,_,hx,h=>by
  have h:Except.ok x=(Except.ok y:Except Nat bw):=by cases args <;> exact h
  injection h with h
  subst h;exact hx
 | r::rs,[],x,y,_,hx,h=>by
  simp only [dO] at h;injection h with h
  subst h;exact hx
 | r::rs,a::args,x,y,ha,hx,h=>by
  simp only [dO] at h;split at h
  ·cases h
  ·rename_i z hz;exact wJ rs args z y (fun b hb=>ha b (by simp [hb])) (FR (ha a (by simp)).1 (ha a (by simp)).2 hx hz) h
theorem CV {n:Nat} {op:Int} {args:List (List Tok)} {y:bw} (ha:∀ a,a∈args→Wf a∧a.length≤n) (h:ey op args=.ok y):Bd n y:=by
 unfold ey at h;split at h
 ·cases h
 ·exact wJ _ _ _ _ ha (by simp [Bd,dR,cK,dJ]) h
theorem CR {n k:Nat} {ts:List Tok} {y:bw} (hw:Wf ts) (hn:ts.length≤n) (h:iN k ts=.ok y):Bd n y:=by
 unfold iN at h;split at h
 ·split at h
  ·cases h
  ·injection h with h
   subst h;simp [Bd,cK,dJ]
 ·split at h
  ·cases h
  ·rename_i x hx;injection h with h
   subst h
   have:=kU hw hx
   unfold Bd; simp only; omega
theorem oW {n k:Nat}:∀ (args:List (List Tok)) (l:List bw),(∀ a,a∈args→Wf a∧a.length≤n)→cC k args=.ok l→l.length=args.length∧∀ x,x∈l→Bd n x
 | [],l,_,h=>by
  simp only [cC] at h;injection h with h
  subst h
  simp
 | a::args,l,ha,h=>by
  simp only [cC] at h;split at h
  ·cases h
  ·rename_i x hx;split at h
   ·cases h
   ·rename_i l' hl;injection h with h
    subst h
    have:=oW args l' (fun b hb=>ha b (by simp [hb])) hl
    refine ⟨by simp [this.1],fun y hy=>?_⟩;rcases List.mem_cons.1 hy with rfl | hy
    ·exact CR (ha a (by simp)).1 (ha a (by simp)).2 hx
    ·exact this.2 y hy
structure mX (n:Nat) (t:jW):Prop where
 many:t.items.length≤n
 item:∀ x,x∈t.items→Bd n x
 e:t.e.aw.length≤n
theorem mX.z (n:Nat):mX n bE:=⟨by simp [bE],by simp [bE],by simp [bE,dJ]⟩
theorem mX.one {n:Nat} {x:bw} (hn:1≤n) (h:Bd n x):mX n (eW x):=⟨by simp [eW]; omega,by simp [eW]; exact h,by simp [eW,bE,dJ]⟩
theorem Ia {n:Nat} {op:ByteArray} {args:List (List Tok)} {t:jW} {w:Nat} (hn:1≤n) (ha:∀ a,a∈args→Wf a∧a.length≤n) (hl:args.length≤n) (h:fO op args=.ok (t,w)):mX n t:=by
 have hag:∀ i,Wf (ag args i)∧(ag args i).length≤n:=by
  intro i;unfold ag;rw [List.getD_eq_getElem?_getD];cases hh:args[i]? with
  | none=>exact ⟨fun t ht=>by simp at ht,by simp⟩
  | some a=>exact ha a (List.mem_of_getElem? hh)
 have z:∀ x:bw,x.e=dJ→Bd n x:=fun x hx=>by unfold Bd; rw [hx]; simp [dJ]
 unfold fO at h;simp only at h;split at h
 ·cases h
 split at h
 ·injection h with h; injection h with h _; subst h
  exact mX.one hn (z _ rfl)
 split at h
 ·split at h
  ·cases h
  split at h
  ·injection h with h; injection h with h _; subst h
   exact mX.one hn (z _ rfl)
  ·cases h
 split at h
 ·split at h
  ·cases h
  injection h with h; injection h with h _; subst h
  exact mX.one hn (z _ rfl)
 split at h
 ·split at h
  ·cases h
  split at h
  ·cases h
  rename_i l hh;injection h with h; injection h with h _; subst h
  have:=oW args l ha hh
  exact ⟨by simp only; omega,this.2,by simp [bE,dJ]⟩
 split at h
 ·split at h
  ·cases h
  split at h
  ·cases h
  rename_i l hh;injection h with h; injection h with h _; subst h
  have:=oW args l ha hh
  exact ⟨by simp only; omega,this.2,by simp [bE,dJ]⟩
 split at h
 ·split at h
  ·cases h
  split at h
  ·cases h
  rename_i x hx;injection h with h; injection h with h _; subst h
  have:=kU (hag 1).1 hx
  exact ⟨by simp [bE],by simp [bE],by have:=(hag 1).2; simp only; omega⟩
 split at h
 ·split at h
  ·cases h
  injection h with h; injection h with h _; subst h
  exact ⟨by simp [bE],by simp [bE],by simp [bE,dJ]⟩
 split at h
 ·split at h
  ·injection h with h; injection h with h _; subst h
   exact ⟨by simp [bE],by simp [bE],by simp [bE,dJ]⟩
  split at h
  ·injection h with h; injection h with h _; subst h
   exact ⟨by simp [bE],by simp [bE],by simp [bE,dJ]⟩
  ·cases h
 ·cases h
theorem yX {n:Nat} {l:Ln} {data:Bool} {t:jW} (hn:1≤n) (ha:∀ a,a∈l.args→Wf a∧a.length≤n) (hl:l.args.length≤n) (h:dy l data=.ok t):mX n t:=by
 unfold dy at h;split at h
 ·injection h with h
  subst h;exact mX.z n
 split at h
 ·split at h
  ·cases h
  rename_i x hx;split at h
  ·cases h
  injection h with h
  subst h;exact mX.one hn (CV ha hx)
 split at h
 ·cases h
 rename_i t' w' hd
 by_cases g:w'=2∨w'=(if data then 1 else 0)
 ·rw [if_pos g] at h;injection h with h
  subst h;exact Ia hn ha hl hd
 ·rw [if_neg g] at h;cases h
theorem IU {op:Int} (h:cH op≠0):Sm op:=by
 unfold cH at h;unfold Sm;split at h
 ·exact absurd rfl h
 ·by_cases g:op≤43
  ·omega
  ·exfalso;apply h;rw [List.getD_eq_getElem?_getD,List.getElem?_eq_none (by simp only [bO,List.length_cons,List.length_nil]; omega)] <;> rfl
end Go.Sx.Ob
