/- Contracts over heaps, and plain laws, for the functions that the laws of chapter 9 call, part 4: Instructions, as the document has them, over heaps. What a line says, in plain L Condition: as each statement says. -/
import Derived.Test.YtfkjiiapldkoeaaGreatDoorP3
import Derived.Test.YtfkjiiapldkoeaaGreatDoorArW
import Derived.Test.YtfkjiiapldkoeaaGreatDoorArX
import Derived.Test.YtfkjiiapldkoeaaGreatDoorAtA
import Derived.Test.YtfkjiiapldkoeaaGreatDoorArY
import Derived.Test.YtfkjiiapldkoeaaGreatDoorAtC
import Derived.Test.YtfkjiiapldkoeaaGreatDoorAtB
import Derived.Test.YtfkjiiapldkoeaaGreatDoorAtD
import Derived.Test.YtfkjiiapldkoeaaGreatDoorAtH
import Derived.Test.YtfkjiiapldkoeaaGreatDoorAtI
import Derived.Test.YtfkjiiapldkoeaaGreatDoorAtJ
set_option linter.unusedVariables false
set_option linter.unusedSimpArgs false
set_option maxRecDepth 100000
namespace Go.Sx.Ob
open Go.Proofs
def KZ:Array (Nat × Value):=#[(0,.agg #[.string ⟨#[110,111,112]⟩,.int .u8 (0:Int),.int .i64 (1:Int)]),(1,.agg #[.string ⟨#[104,97,108,116]⟩,.int .u8 (1:Int),.int .i64 (1:Int)]),(2,.agg #[.string ⟨#[114,101,116]⟩,.int .u8 (2:Int),.int .i64 (1:Int)]),(3,.agg #[.string ⟨#[112,114,105,110,116]⟩,.int .u8 (3:Int),.int .i64 (2:Int)]),(4,.agg #[.string ⟨#[105,110]⟩,.int .u8 (4:Int),.int .i64 (2:Int)]),(5,.agg #[.string ⟨#[112,117,115,104]⟩,.int .u8 (5:Int),.int .i64 (2:Int)]),(6,.agg #[.string ⟨#[112,111,112]⟩,.int .u8 (6:Int),.int .i64 (2:Int)]),(7,.agg #[.string ⟨#[106,114]⟩,.int .u8 (7:Int),.int .i64 (2:Int)]),(8,.agg #[.string ⟨#[110,101,103]⟩,.int .u8 (8:Int),.int .i64 (2:Int)]),(9,.agg #[.string ⟨#[110,111,116]⟩,.int .u8 (9:Int),.int .i64 (2:Int)]),(10,.agg #[.string ⟨#[122,116,117,114,110]⟩,.int .u8 (10:Int),.int .i64 (3:Int)]),(11,.agg #[.string ⟨#[122,99,111,110,106]⟩,.int .u8 (11:Int),.int .i64 (3:Int)]),(12,.agg #[.string ⟨#[109,111,118]⟩,.int .u8 (16:Int),.int .i64 (4:Int)]),(13,.agg #[.string ⟨#[97,100,100]⟩,.int .u8 (17:Int),.int .i64 (4:Int)]),(14,.agg #[.string ⟨#[115,117,98]⟩,.int .u8 (18:Int),.int .i64 (4:Int)]),(15,.agg #[.string ⟨#[109,117,108]⟩,.int .u8 (19:Int),.int .i64 (4:Int)]),(16,.agg #[.string ⟨#[100,105,118]⟩,.int .u8 (20:Int),.int .i64 (4:Int)]),(17,.agg #[.string ⟨#[97,110,100]⟩,.int .u8 (21:Int),.int .i64 (4:Int)]),(18,.agg #[.string ⟨#[111,114]⟩,.int .u8 (22:Int),.int .i64 (4:Int)]),(19,.agg #[.string ⟨#[120,111,114]⟩,.int .u8 (23:Int),.int .i64 (4:Int)]),(20,.agg #[.string ⟨#[115,104,108]⟩,.int .u8 (24:Int),.int .i64 (4:Int)]),(21,.agg #[.string ⟨#[115,104,114]⟩,.int .u8 (25:Int),.int .i64 (4:Int)]),(22,.agg #[.string ⟨#[108,116]⟩,.int .u8 (26:Int),.int .i64 (4:Int)]),(23,.agg #[.string ⟨#[101,113]⟩,.int .u8 (27:Int),.int .i64 (4:Int)]),(24,.agg #[.string ⟨#[108,100,98]⟩,.int .u8 (28:Int),.int .i64 (4:Int)]),(25,.agg #[.string ⟨#[108,100,119]⟩,.int .u8 (29:Int),.int .i64 (4:Int)]),(26,.agg #[.string ⟨#[108,100,109]⟩,.int .u8 (30:Int),.int .i64 (4:Int)]),(27,.agg #[.string ⟨#[115,116,109]⟩,.int .u8 (31:Int),.int .i64 (4:Int)]),(28,.agg #[.string ⟨#[122,109,111,118]⟩,.int .u8 (32:Int),.int .i64 (5:Int)]),(29,.agg #[.string ⟨#[122,97,100,100]⟩,.int .u8 (33:Int),.int .i64 (5:Int)]),(30,.agg #[.string ⟨#[122,115,117,98]⟩,.int .u8 (34:Int),.int .i64 (5:Int)]),(31,.agg #[.string ⟨#[122,109,117,108]⟩,.int .u8 (35:Int),.int .i64 (5:Int)]),(32,.agg #[.string ⟨#[122,114,101]⟩,.int .u8 (36:Int),.int .i64 (6:Int)]),(33,.agg #[.string ⟨#[122,105,109]⟩,.int .u8 (37:Int),.int .i64 (6:Int)]),(34,.agg #[.string ⟨#[122,115,101,116]⟩,.int .u8 (38:Int),.int .i64 (7:Int)]),(35,.agg #[.string ⟨#[108,105,115]⟩,.int .u8 (48:Int),.int .i64 (8:Int)]),(36,.agg #[.string ⟨#[116,114,97,112]⟩,.int .u8 (49:Int),.int .i64 (9:Int)]),(37,.agg #[.string ⟨#[108,105]⟩,.int .u8 (50:Int),.int .i64 (10:Int)]),(38,.agg #[.string ⟨#[108,100,112]⟩,.int .u8 (51:Int),.int .i64 (11:Int)]),(39,.agg #[.string ⟨#[106,109,112]⟩,.int .u8 (64:Int),.int .i64 (12:Int)]),(40,.agg #[.string ⟨#[99,97,108,108]⟩,.int .u8 (67:Int),.int .i64 (12:Int)]),(41,.agg #[.string ⟨#[106,122]⟩,.int .u8 (70:Int),.int .i64 (13:Int)]),(42,.agg #[.string ⟨#[106,110,122]⟩,.int .u8 (73:Int),.int .i64 (13:Int)])]
def cb (k:Nat):ByteArray:=match KZ[k]? with | some (_,.agg #[.string s,_,_])=>s | _=>⟨#[]⟩
def cg (k:Nat):Int:=match KZ[k]? with | some (_,.agg #[_,.int _ b,_])=>b | _=>0
structure kg where
 kind:Nat
 items:List bC
 name:ByteArray
 e:eS
 sec:Nat
def bF:kg:=⟨0,[],bK,dN,0⟩
def nw (z:Bool):List Tok→Except Nat Int
 | [t]=>if t.kind=1∧(iG t.text.data.toList).2.2=true∧(iG t.text.data.toList).2.1=z then .ok (iG t.text.data.toList).1 else .error 20
 | _=>.error 20
def ia (lo hi:Int) (ts:List Tok):Except Nat Int :=
 match bU ts with
 | .error e=>.error e
 | .ok x=>if x.aw≠[]∨Bh x.num<lo∨hi<Bh x.num then .error 21 else .ok (Bh x.num)
def nN:List Tok→Except Nat ByteArray
 | [t]=>if t.kind=1∧bh t.text.data.toList=true then .ok t.text else .error 20
 | _=>.error 20
inductive Dt where
 | uw (z second third:Bool)
 | IR (lo hi:Int)
 | val (pool:Bool)
def cU (s:Nat):List Dt :=
 if s=1 then []
 else if s=2 then [.uw false false false]
 else if s=3 then [.uw true false false]
 else if s=4 then [.uw false false false,.uw false true false]
 else if s=5 then [.uw true false false,.uw true true false]
 else if s=6 then [.uw false false false,.uw true true false]
 else if s=7 then [.uw true false false,.uw false true false,.uw false false true]
 else if s=8 then [.uw false false false,.IR (-128) 127]
 else if s=9 then [.IR 0 255]
 else if s=11 then [.uw false false false,.val true]
 else if s=12 then [.val false]
 else [.uw false false false,.val false]
def eI (x:bC) (n:Int):bC:={ x with inst:={ x.inst with n:=n } }
def nk (x:bC) (n:Int):bC:={ x with inst:={ x.inst with a:=n } }
def mW (x:bC) (n:Int):bC:={ x with inst:={ x.inst with b:=n } }
def zi (x:bC) (e:eS):bC:={ x with e:=e }
def rC (pool:Bool) (ts:List Tok):Except Nat eS :=
 match pool with
 | false=>bU ts
 | true=>match ts with
  | []=>.error 20
  | t::r=>if fE t 61=true then bU r else .error 20
def dH (x:bC) (r:Dt) (ts:List Tok):Except Nat bC :=
 match r with
 | .uw z second third=>match nw z ts with
  | .error e=>.error e
  | .ok n=>.ok (if third then eI x n else if second then mW x n else nk x n)
 | .IR lo hi=>match ia lo hi ts with
  | .error e=>.error e
  | .ok n=>.ok (eI x n)
 | .val pool=>match rC pool ts with
  | .error e=>.error e
  | .ok y=>.ok (zi x y)
def dQ:bC→List Dt→List (List Tok)→Except Nat bC
 | x,r::rs,t::ts=>match dH x r t with
  | .error e=>.error e
  | .ok y=>dQ y rs ts
 | x,_,_=>.ok x
def dT (op:Int):bC:={ cR 2 with inst:={ jv with op:=op } }
def eC (op:Int) (args:List (List Tok)):Except Nat bC :=
 if (cU (cK op)).length≠args.length then .error 20 else dQ (dT op) (cU (cK op)) args
def jq (k:Nat) (ts:List Tok):Except Nat bC :=
 if k=5 then match ia (-128) 255 ts with
  | .error e=>.error e
  | .ok n=>.ok { cR 5 with n:=n }
 else match bU ts with
  | .error e=>.error e
  | .ok x=>.ok { cR k with e:=x }
def cF (k:Nat):List (List Tok)→Except Nat (List bC)
 | []=>.ok []
 | t::ts=>match jq k t with
  | .error e=>.error e
  | .ok x=>match cF k ts with
   | .error e=>.error e
   | .ok l=>.ok (x::l)
def cY (op:ByteArray):Int :=
 let o:=op.data.toList
 if o=[112,111,111,108] then 0
 else if o=[97,108,105,103,110]∨o=[115,112,97,99,101]∨o=[103,108,111,98,97,108]∨o=[115,101,99,116,105,111,110] then 1
 else if o=[101,113,117] then 2
 else if o=[98,121,116,101]∨o=[119,111,114,100] then -1
 else -2
def fc (x:bC):kg:={ bF with kind:=1,items:=[x] }
def ag (args:List (List Tok)) (i:Nat):List Tok:=args.getD i []
def fZ (op:ByteArray) (args:List (List Tok)):Except Nat (kg × Nat) :=
 let o:=op.data.toList
 if cY op=-2∨(0≤cY op∧(args.length:Int)≠cY op) then .error 20
 else if o=[112,111,111,108] then .ok (fc (cR 4),0)
 else if o=[97,108,105,103,110] then match ia 1 256 (ag args 0) with
  | .error e=>.error e
  | .ok n=>if qf n then .ok (fc { cR 3 with n:=n },2) else .error 21
 else if o=[115,112,97,99,101] then match ia 0 1048576 (ag args 0) with
  | .error e=>.error e
  | .ok n=>.ok (fc { cR 7 with n:=n },1)
 else if o=[98,121,116,101] then if args=[] then .error 20 else match cF 5 args with
  | .error e=>.error e
  | .ok l=>.ok ({ bF with kind:=2,items:=l },1)
 else if o=[119,111,114,100] then if args=[] then .error 20 else match cF 6 args with
  | .error e=>.error e
  | .ok l=>.ok ({ bF with kind:=2,items:=l },1)
 else if o=[101,113,117] then match nN (ag args 0) with
  | .error e=>.error e
  | .ok s=>match bU (ag args 1) with
   | .error e=>.error e
   | .ok x=>.ok ({ bF with kind:=3,name:=s,e:=x },2)
 else if o=[103,108,111,98,97,108] then match nN (ag args 0) with
  | .error e=>.error e
  | .ok s=>.ok ({ bF with kind:=4,name:=s },2)
 else match ag args 0 with
  | [t]=>if t.kind=1∧t.text.data.toList=[116,101,120,116] then .ok ({ bF with kind:=5 },2) else if t.kind=1∧t.text.data.toList=[100,97,116,97] then .ok ({ bF with kind:=5,sec:=1 },2) else .error 20
  | _=>.error 20
def jU (nm:Nat→List UInt8) (s:List UInt8):Nat→Nat
 | 0=>0
 | k+1=>match jU nm s k with
  | 0=>if nm k=s then k+1 else 0
  | n=>n
def Ep (k:Nat):List UInt8:=(cb k).data.toList
def kK (op:ByteArray):Nat:=jU Ep op.data.toList 43
def dF (l:Ln) (data:Bool):Except Nat kg :=
 if l.op=bK then .ok bF
 else if kK l.op≠0 then match eC (kK l.op) l.args with
  | .error e=>.error e
  | .ok x=>if data then .error 21 else .ok (fc x)
 else match fZ l.op l.args with
  | .error e=>.error e
  | .ok (t,w)=>if w=2∨w=(if data then 1 else 0) then .ok t else .error 21
/-! What is read is right. -/
theorem lf {z:Bool} {ts:List Tok} {n:Int} (h:nw z ts=.ok n):0≤n∧n<(if z then 4 else 8):=by
 unfold nw at h;split at h
 ·rename_i t;split at h
  ·rename_i hh;injection h with h
   subst h;obtain ⟨_,h2,h3⟩:=hh;generalize t.text.data.toList=s at h2 h3;unfold iG at h2 h3 ⊢;split
   ·rename_i a b;simp only at h2 h3;split at h2
    ·rename_i g;rw [if_pos g] at h3 ⊢;simp only at h3 ⊢;rw [← h3]
     simp
     omega
    ·rename_i g;rw [if_neg g] at h3 ⊢;split at h2
     ·rename_i g2;rw [if_pos g2] at h3 ⊢;simp only at h3 ⊢;rw [← h3]
      simp
      omega
     ·cases h2
   ·rename_i hno;exfalso;split at h2
    ·rename_i a b;exact hno a b rfl
    ·cases h2
  ·cases h
 ·cases h
theorem qF {lo hi n:Int} {ts:List Tok} (h:ia lo hi ts=.ok n):lo≤n∧n≤hi:=by
 unfold ia at h;split at h
 ·cases h
 ·split at h
  ·cases h
  ·injection h with h
   omega
theorem hZ {ts:List Tok} {x:eS} (hw:Wf ts) (h:bU ts=.ok x):Good x:=by
 unfold bU at h
 have:=kJ 32 ts hw
 cases hs:mS 32 ts with
 | error e=>rw [hs] at h; cases h
 | ok q =>
  rw [hs] at h this;simp only at h;split at h
  ·injection h with h
   subst h;exact this.1
  ·cases h
theorem xC {pool:Bool} {ts:List Tok} {x:eS} (hw:Wf ts) (h:rC pool ts=.ok x):Good x:=by
 unfold rC at h;split at h
 ·exact hZ hw h
 ·split at h
  ·cases h
  ·split at h
   ·exact hZ hw.tail h
   ·cases h
theorem Kx {α:Type} {l:List α} (h:0=l.length):l=[]:=List.eq_nil_of_length_eq_zero h.symm
theorem Ld {α:Type} {l:List α} (h:0+1=l.length):∃ a,l=[a]:=by
 match l,h with
 | [a],_=>exact ⟨a,rfl⟩
theorem LV {α:Type} {l:List α} (h:0+1+1=l.length):∃ a b,l=[a,b]:=by
 match l,h with
 | [a,b],_=>exact ⟨a,b,rfl⟩
theorem Mu {α:Type} {l:List α} (h:0+1+1+1=l.length):∃ a b c,l=[a,b,c]:=by
 match l,h with
 | [a,b,c],_=>exact ⟨a,b,c,rfl⟩
theorem AQ {op : Nat} {args : List (List Tok)} {x : bC} (h1 : 1 ≤ op) (h2 : op ≤ 43) (hw : ∀ a, a ∈ args → Wf a) (h : eC (op : Int) args = .ok x) : cM x 0 = true ∧ Good x.e := by
  have hs : ∀ k : Fin 44, 1 ≤ k.1 → 1 ≤ cK (k.1 : Int) ∧ cK (k.1 : Int) ≤ 13 := by decide
  have hs' := hs ⟨op, by omega⟩ h1;simp only at hs';have gz : Good dN := Good.z
  have key : ∀ (y : bC), y.kind = 2 → y.name = bK → y.n = 0 → y.inst.op = op → y.inst.form = 0 → Good y.e → bD (cK op) y.inst.a y.inst.b y.inst.n = true →
      (if HB op then y.inst.n = 0 else nR (cK op) y.inst.n 0 = true ∧ y.e = dN) → cM y 0 = true := by
    intro y k1 k2 k3 k4 k5 k6 k7 k8;have hz : cK (op : Int) ≠ 0 := by omega
    unfold cM;rw [if_neg (by rw [k1]; decide), if_pos k1];unfold zt z1 z4;rw [k4, k2, k3, k5];simp only [decide_true, Bool.true_and, Bool.and_true, decide_eq_true hz]
    by_cases hwn : HB (op : Int) = true
    · rw [if_pos hwn] at k8 ⊢
      rw [zk k6, k8];simp only [decide_true, Bool.true_and, Bool.and_true];refine decide_eq_true ?_;unfold oS;simp only [k4];rw [k8] at k7;rw [if_neg hz, if_neg (by rw [k7]; decide), if_neg];unfold Cn HB at *;unfold nR mX;have hw' := of_decide_eq_true hwn
      by_cases g : 12 ≤ cK (op : Int)
      · rw [decide_eq_true g]
        have : cK (op : Int) = 12 ∨ cK (op : Int) = 13 := by omega
        rcases this with e | e <;> rw [e] <;> simp
      · rw [decide_eq_false g]
        have : cK (op : Int) = 10 ∨ cK (op : Int) = 11 := by omega
        rcases this with e | e <;> rw [e] <;> simp
    · rw [if_neg hwn] at k8 ⊢
      rw [k8.2, Ed, Bool.and_true];refine decide_eq_true ?_;unfold oS;rw [k4, if_neg hz, if_neg (by rw [k7]; decide), k5, k8.1]
      simp
  unfold eC at h;split at h
  · cases h
  rename_i hlen0;have hlen : (cU (cK op)).length = args.length := by omega
  clear hlen0;have hc0 : ∀ a b n : Int, ({ (dT (op : Int)) with inst := ⟨op, a, b, n, 0⟩ } : bC).kind = 2 := fun _ _ _ => rfl
  have hw' : HB (op : Int) = decide (10 ≤ cK (op : Int)) := rfl;generalize cK (op : Int) = s at *;have : s = 1 ∨ s = 9 ∨ s = 2 ∨ s = 3 ∨ s = 4 ∨ s = 5 ∨ s = 6 ∨ s = 7 ∨ s = 8 ∨ s = 10 ∨ s = 11 ∨ s = 12 ∨ s = 13 := by omega
  rcases this with rfl | rfl | this
  · obtain rfl := Kx hlen
    have h : Except.ok (dT (op : Int)) = (Except.ok x : Except Nat bC) := h;injection h with h
    subst h;refine ⟨key _ rfl rfl rfl rfl rfl gz (by simp [bD, dT, cR, jv]) ?_, gz⟩;rw [if_neg (by rw [hw']; decide)];exact ⟨by simp [nR, dT, cR, jv], rfl⟩
  · obtain ⟨a, rfl⟩ := Ld hlen
    cases hn : ia 0 255 a with
    | error e =>
      simp [dQ, cU, dH, hn] at h
    | ok n =>
      simp [dQ, cU, dH, hn] at h;subst h;have hn := qF hn;refine ⟨key _ rfl rfl rfl rfl rfl gz (by simp [bD, eI, dT, cR, jv]) ?_, gz⟩;rw [if_neg (by rw [hw']; decide)];refine ⟨?_, rfl⟩;simp [nR, eI, dT, cR, jv];exact ⟨decide_eq_true hn.1, decide_eq_true hn.2⟩
  rcases this with rfl | rfl | rfl | rfl | rfl | rfl | rfl | rfl | rfl | rfl | rfl
  all_goals
    simp only [cU, Nat.reduceEqDiff, if_true, if_false, List.length_cons, List.length_nil] at h hlen;simp only [hw'] at key
    first
    | (obtain rfl := Kx hlen
       · simp only [dQ] at h
         injection h with h
         subst h;exact ⟨key _ rfl rfl rfl rfl rfl gz (by decide) (by rw [if_neg (by decide)]; exact ⟨by decide, rfl⟩), gz⟩)
    | (obtain ⟨a, rfl⟩ := Ld hlen
       ·
        simp only [dQ, dH] at h;split at h
        · cases h
        rename_i y hy;split at hy
        · cases hy
        rename_i n hn;injection hy with hy
        injection h with h
        subst hy;subst h
        first
        | (have hn := lf hn
           simp at hn;refine ⟨key _ rfl rfl rfl rfl rfl gz (by simp [bD, oa, nk, mW, eI, dT, cR, jv, dN] <;> omega) (by simp [nR, nk, mW, eI, dT, cR, jv, dN] <;> omega), gz⟩)
        | (have hn := qF hn
           refine ⟨key _ rfl rfl rfl rfl rfl gz (by simp [bD, oa, nk, mW, eI, dT, cR, jv, dN] <;> omega) (by simp [nR, nk, mW, eI, dT, cR, jv, dN] <;> omega), gz⟩)
        | (have hg := xC (hw a (by simp)) hn
           exact ⟨key _ rfl rfl rfl rfl rfl hg (by simp [bD, oa, nk, mW, eI, zi, dT, cR, jv, dN] <;> omega) (by simp [nk, mW, eI, zi, dT, cR, jv, dN] <;> omega), hg⟩))
    | (obtain ⟨a, b, rfl⟩ := LV hlen
       ·
        simp only [dQ, dH] at h;split at h
        · cases h
        rename_i y hy;split at hy
        · cases hy
        rename_i n hn;injection hy with hy
        subst hy;split at h
        · cases h
        rename_i y2 hy2;split at hy2
        · cases hy2
        rename_i m hm;injection hy2 with hy2
        subst hy2;injection h with h
        subst h;have hn := lf hn;simp at hn
        first
        | (have hm := lf hm
           simp at hm;refine ⟨key _ rfl rfl rfl rfl rfl gz (by simp [bD, oa, nk, mW, eI, dT, cR, jv, dN] <;> omega) (by simp [nR, nk, mW, eI, dT, cR, jv, dN] <;> omega), gz⟩)
        | (have hm := qF hm
           refine ⟨key _ rfl rfl rfl rfl rfl gz (by simp [bD, oa, nk, mW, eI, dT, cR, jv, dN] <;> omega) (by simp [nR, mX, nk, mW, eI, dT, cR, jv, dN] <;> omega), gz⟩)
        | (have hg := xC (hw b (by simp)) hm
           exact ⟨key _ rfl rfl rfl rfl rfl hg (by simp [bD, oa, nk, mW, eI, zi, dT, cR, jv, dN] <;> omega) (by simp [nk, mW, eI, zi, dT, cR, jv, dN] <;> omega), hg⟩))
    | (obtain ⟨a, b, c, rfl⟩ := Mu hlen
       ·
        simp only [dQ, dH] at h;split at h
        · cases h
        rename_i y hy;split at hy
        · cases hy
        rename_i n hn;injection hy with hy
        subst hy;split at h
        · cases h
        rename_i y2 hy2;split at hy2
        · cases hy2
        rename_i m hm;injection hy2 with hy2
        subst hy2;split at h
        · cases h
        rename_i y3 hy3;split at hy3
        · cases hy3
        rename_i k hk;injection hy3 with hy3
        subst hy3;injection h with h
        subst h;have hn := lf hn;have hm := lf hm;have hk := lf hk;simp at hn hm hk;refine ⟨key _ rfl rfl rfl rfl rfl gz (by simp [bD, oa, nk, mW, eI, dT, cR, jv, dN] <;> omega) (by simp [nR, nk, mW, eI, dT, cR, jv, dN] <;> omega), gz⟩)
theorem BI {k:Nat} (hk:k=5∨k=6) {ts:List Tok} {x:bC} (hw:Wf ts) (h:jq k ts=.ok x):cM x 1=true∧Good x.e:=by
 unfold jq at h;rcases hk with rfl | rfl
 ·rw [if_pos rfl] at h;split at h
  ·cases h
  rename_i n hn;injection h with h
  subst h;have hn:=qF hn;refine ⟨?_,Good.z⟩;simp [cM,cR,z1,z2,z3,Ed];omega
 ·rw [if_neg (by decide)] at h;split at h
  ·cases h
  rename_i y hy;injection h with h
  subst h;have hg:=hZ hw hy;refine ⟨?_,hg⟩;simp [cM,cR,z1,z2,z4,zk hg]
theorem lF {k:Nat} (hk:k=5∨k=6):∀ {args:List (List Tok)} {l:List bC},(∀ a,a∈args→Wf a)→cF k args=.ok l→∀ x,x∈l→cM x 1=true∧Good x.e
 | [],l,_,h,x,hx=>by
  simp only [cF] at h;injection h with h
  subst h;simp at hx
 | t::ts,l,hw,h,x,hx=>by
  simp only [cF] at h;split at h
  ·cases h
  rename_i y hy;split at h
  ·cases h
  rename_i r hr;injection h with h
  subst h;rcases List.mem_cons.1 hx with rfl | hx
  ·exact BI hk (hw t (by simp)) hy
  ·exact lF hk (fun a ha=>hw a (by simp [ha])) hr x hx
structure kl (t:kg) (data:Bool):Prop where
 items:∀ x,x∈t.items→cM x (if data then 1 else 0)=true∧Good x.e
 kind:t.kind≤5
 single:t.kind=1↔(t.items.length=1∧t.kind≠2)
 name:t.kind=3∨t.kind=4→bh t.name.data.toList=true
 e:Good t.e
 sec:t.sec≤1
theorem kl.z (data:Bool):kl bF data:=⟨by simp [bF],by simp [bF],by simp [bF],by simp [bF],Good.z,by simp [bF]⟩
theorem kl.H9 {x:bC} {data:Bool} (h:cM x (if data then 1 else 0)=true) (g:Good x.e):kl (fc x) data :=
 ⟨by simpa [fc] using ⟨h,g⟩,by simp [fc],by simp [fc],by simp [fc],Good.z,by simp [fc,bF]⟩
theorem vo {ts:List Tok} {s:ByteArray} (h:nN ts=.ok s):bh s.data.toList=true:=by
 unfold nN at h;split at h
 ·split at h
  ·rename_i hh;injection h with h
   subst h;exact hh.2
  ·cases h
 ·cases h
theorem Cd {op:ByteArray} {args:List (List Tok)} {t:kg} {w:Nat} {data:Bool} (hw:∀ a,a∈args→Wf a) (h:fZ op args=.ok (t,w)) (hd:w=2∨w=(if data then 1 else 0)):kl t data:=by
 have hag:∀ i,Wf (ag args i):=by
  intro i;unfold ag;rw [List.getD_eq_getElem?_getD];cases hh:args[i]? with
  | none=>exact fun t ht=>by simp at ht
  | some a=>exact hw a (List.mem_of_getElem? hh)
 unfold fZ at h;simp only at h;split at h
 ·cases h
 split at h
 ·injection h with h
  injection h with h1 h2
  subst h1 h2;have hd:data=false:=by cases data <;> simp_all
  subst hd;exact kl.H9 (by simp [cM,cR,z1,z2,z3,z4,Ed]) Good.z
 split at h
 ·split at h
  ·cases h
  rename_i n hn;split at h
  ·rename_i hp;injection h with h
   injection h with h1 h2
   subst h1 h2;exact kl.H9 (by simp [cM,cR,z1,z2,z3,z4,Ed,hp]) Good.z
  ·cases h
 split at h
 ·split at h
  ·cases h
  rename_i n hn;injection h with h
  injection h with h1 h2
  subst h1 h2;have hd:data=true:=by cases data <;> simp_all
  subst hd;have hn:=qF hn;exact kl.H9 (by simp [cM,cR,z1,z2,z3,z4,Ed]; omega) Good.z
 split at h
 ·split at h
  ·cases h
  split at h
  ·cases h
  rename_i l hl;injection h with h
  injection h with h1 h2
  subst h1 h2;have hd:data=true:=by cases data <;> simp_all
  subst hd;exact ⟨fun x hx=>lF (.inl rfl) hw hl x hx,by simp,by simp,by simp,Good.z,by simp [bF]⟩
 split at h
 ·split at h
  ·cases h
  split at h
  ·cases h
  rename_i l hl;injection h with h
  injection h with h1 h2
  subst h1 h2;have hd:data=true:=by cases data <;> simp_all
  subst hd;exact ⟨fun x hx=>lF (.inr rfl) hw hl x hx,by simp,by simp,by simp,Good.z,by simp [bF]⟩
 split at h
 ·split at h
  ·cases h
  rename_i s hs;split at h
  ·cases h
  rename_i x hx;injection h with h
  injection h with h1 h2
  subst h1 h2;exact ⟨by simp [bF],by simp,by simp [bF],fun _=>vo hs,hZ (hag 1) hx,by simp [bF]⟩
 split at h
 ·split at h
  ·cases h
  rename_i s hs;injection h with h
  injection h with h1 h2
  subst h1 h2;exact ⟨by simp [bF],by simp,by simp [bF],fun _=>vo hs,Good.z,by simp [bF]⟩
 split at h
 ·split at h
  ·injection h with h
   injection h with h1 h2
   subst h1 h2;exact ⟨by simp [bF],by simp,by simp [bF],by simp,Good.z,by simp [bF]⟩
  ·split at h
   ·injection h with h
    injection h with h1 h2
    subst h1 h2;exact ⟨by simp [bF],by simp,by simp [bF],by simp,Good.z,by simp⟩
   ·cases h
 ·cases h
theorem wM (nm:Nat→List UInt8) (s:List UInt8):∀ k,jU nm s k≤k
 | 0=>Nat.le_refl _
 | k+1=>by
  unfold jU
  have:=wM nm s k
  split
  ·split <;> omega
  ·omega
theorem sW {l:Ln} {data:Bool} {t:kg} (hw:∀ a,a∈l.args→Wf a) (h:dF l data=.ok t):kl t data:=by
 unfold dF at h;split at h
 ·injection h with h
  subst h;exact kl.z data
 split at h
 ·rename_i hf;split at h
  ·cases h
  rename_i x hx;cases data with
  | true=>cases h
  | false =>
   injection h with h
   subst h
   have:=AQ (op:=kK l.op) (by omega) (wM _ _ _) hw hx
   exact kl.H9 this.1 this.2
 ·split at h
  ·cases h
  rename_i t' w hd
  by_cases hh:w=2∨w=(if data=true then 1 else 0)
  ·rw [if_pos hh] at h;injection h with h
   subst h;exact Cd hw hd hh
  ·rw [if_neg hh] at h;cases h
def IH (r:Except Nat Int):Value :=
 match r with
 | .ok n=>.tuple #[.int .i64 n,.int .i64 0]
 | .error e=>.tuple #[.int .i64 0,.int .i64 (e:Int)]
def Ms (r:Except Nat ByteArray):Value :=
 match r with
 | .ok s=>.tuple #[.string s,.int .i64 0]
 | .error e=>.tuple #[.string ⟨#[]⟩,.int .i64 (e:Int)]
theorem Cf {ts:List Tok} (h:ts.length=1):∃ t,ts=[t]:=by
 match ts,h with
 | [t],_=>exact ⟨t,rfl⟩
theorem Ll {ts:List Tok} {α:Type} {f:Tok→Except Nat α} (h:¬ ts.length=1):(match ts with | [t]=>f t | _=>.error 20)=.error 20:=by
 match ts,h with
 | [],_=>rfl
 | [t],h=>exact absurd rfl h
 | _::_::_,_=>rfl
theorem Gg {h:Hp} {p:Option Addr} {l c:Nat} {ts:List Tok} (v:Vw h p l c ts) (z:Bool):ur Tryz.prog 151 [.slice p l c,.bool z] h (IH (nw z ts)):=by
 refine ec mixed Tryz.func151 (by kernel_rfl) (xj p l c z) ?_;unfold vy;have hl:=v.len;refine af (fun g=>?_) (fun g=>?_)
 ·have g:(l:Int)≠1:=by simpa using g
  refine ⟨?_,rfl⟩
  have:nw z ts=.error 20:=Ll (by omega)
  rw [this] <;> rfl
 have g:(l:Int)=1:=by simpa using g
 obtain ⟨t,rfl⟩:=Cf (show ts.length=1 by omega);obtain ⟨a,rfl,c0⟩:=v.cells 0 (by simp);have c0:aH h (a.add (0*4)) 0 (enc t):=c0;obtain ⟨q1,q2,_⟩:=iN c0;refine aA ⟨by omega,by omega⟩ (an rfl (aG ((t.kind:Int),()) q1 ?_));dsimp only [flat,aB,ai,nA,cA];refine af (fun r=>?_) (fun r=>?_)
 ·have r:¬ t.kind=1:=by
   have:¬ (t.kind:Int)=1:=by simpa using r
   omega
  refine ⟨?_,rfl⟩
  have:nw z [t]=.error 20:=if_neg (fun hh=>r hh.1)
  rw [this] <;> rfl
 have r:t.kind=1:=by
  have:(t.kind:Int)=1:=by simpa using r
  omega
 refine aA ⟨by omega,by omega⟩ (an rfl (aG (t.text,()) q2 ?_));dsimp only [flat,aB,ai,nA,cA];refine wb (mH t.text h) ?_;refine af (fun s=>?_) (fun s=>?_)
 ·have s:(iG t.text.data.toList).2.2=false:=by simpa using s
  refine ⟨?_,rfl⟩
  have:nw z [t]=.error 20:=if_neg (fun hh=>by rw [s] at hh; simp at hh)
  rw [this] <;> rfl
 have s:(iG t.text.data.toList).2.2=true:=by simpa using s
 refine af (fun u=>?_) (fun u=>?_)
 ·have u:¬ (iG t.text.data.toList).2.1=z:=by simpa using u
  refine ⟨?_,rfl⟩
  have:nw z [t]=.error 20:=if_neg (fun hh=>u hh.2.2)
  rw [this] <;> rfl
 have u:(iG t.text.data.toList).2.1=z:=by simpa using u
 refine ⟨?_,rfl⟩
 have:nw z [t]=.ok (iG t.text.data.toList).1:=if_pos ⟨r,s,u⟩
 rw [this] <;> rfl
theorem uq {h:Hp} {p:Option Addr} {l c:Nat} {ts:List Tok} (v:Vw h p l c ts) (hs:∀ t,t∈ts→t.text.size≤9223372036854775807):ur Tryz.prog 129 [.slice p l c] h (Ms (nN ts)):=by
 refine ec mixed Tryz.func129 (by kernel_rfl) (wo p l c) ?_;unfold tr;have hl:=v.len;refine af (fun g=>?_) (fun g=>?_)
 ·have g:(l:Int)≠1:=by simpa using g
  refine ⟨?_,rfl⟩
  have:nN ts=.error 20:=Ll (by omega)
  rw [this] <;> rfl
 have g:(l:Int)=1:=by simpa using g
 obtain ⟨t,rfl⟩:=Cf (show ts.length=1 by omega);obtain ⟨a,rfl,c0⟩:=v.cells 0 (by simp);have c0:aH h (a.add (0*4)) 0 (enc t):=c0;obtain ⟨q1,q2,_⟩:=iN c0;refine aA ⟨by omega,by omega⟩ (an rfl (aG ((t.kind:Int),()) q1 ?_));dsimp only [flat,aB,ai,nA,cA];refine af (fun r=>?_) (fun r=>?_)
 ·have r:¬ t.kind=1:=by
   have:¬ (t.kind:Int)=1:=by simpa using r
   omega
  refine ⟨?_,rfl⟩
  have:nN [t]=.error 20:=if_neg (fun hh=>r hh.1)
  rw [this] <;> rfl
 have r:t.kind=1:=by
  have:(t.kind:Int)=1:=by simpa using r
  omega
 refine aA ⟨by omega,by omega⟩ (an rfl (aG (t.text,()) q2 ?_));dsimp only [flat,aB,ai,nA,cA];refine aE (kz t.text h (hs t (by simp))) ?_;refine af (fun s=>?_) (fun s=>?_)
 ·have s:bh t.text.data.toList=false:=by simpa using s
  refine ⟨?_,rfl⟩
  have:nN [t]=.error 20:=if_neg (fun hh=>by rw [s] at hh; simp at hh)
  rw [this] <;> rfl
 have s:bh t.text.data.toList=true:=by simpa using s
 refine aA ⟨by omega,by omega⟩ (an rfl (aG (t.text,()) q2 ?_));dsimp only [flat,aB,ai,nA,cA];refine ⟨?_,rfl⟩
 have:nN [t]=.ok t.text:=if_pos ⟨r,s⟩
 rw [this] <;> rfl
theorem dM {ts:List Tok} {e:Nat} (hw:Wf ts) (h:bU ts=.error e):e=20∨e=21:=by
 unfold bU at h
 have:=kJ 32 ts hw
 cases hs:mS 32 ts with
 | error e' =>
  rw [hs] at h this;injection h with h
  subst h;exact this
 | ok q =>
  rw [hs] at h;simp only at h;split at h
  ·cases h
  ·injection h with h
   exact .inl h.symm
theorem wrap32 {n:Nat} (hn:n<4294967296):IntKind.wrap .i64 (IntKind.wrap .i32 (n:Int))=Bh n:=by
 have h1:IntKind.wrap .i32 (n:Int)=Bh n:=by
  unfold Bh
  by_cases g:n<2147483648
  ·rw [if_pos g];simp only [IntKind.wrap,IntKind.bits,IntKind.signed,Bool.true_and];split <;> rename_i hh
   ·have:=of_decide_eq_true hh; omega
   ·have:¬ _:=fun h=>hh (decide_eq_true h); omega
  ·rw [if_neg g];simp only [IntKind.wrap,IntKind.bits,IntKind.signed,Bool.true_and];split <;> rename_i hh
   ·have:=of_decide_eq_true hh; omega
   ·have:¬ _:=fun h=>hh (decide_eq_true h); omega
 rw [h1];unfold Bh;split <;> exact wrap_i64 (by omega) (by omega)
theorem oo {h:Hp} {p:Option Addr} {l c:Nat} {ts:List Tok} (v:Vw h p l c ts) (hp:∀ i,i∈az p→i<h.size) (w:Wf ts) (hts:ts.length≤2^40) (lo hi:Int) :
  HC Tryz.prog 127 #[.slice p l c,.int .i64 lo,.int .i64 hi] h fun r h'=>r=IH (ia lo hi ts)∧Ext h h':=by
 refine aL (args:=[.slice p l c,.int .i64 lo,.int .i64 hi]) mixed Tryz.func127 (by kernel_rfl) (sC p l c lo hi) ?_;unfold oY;refine aC (jb v hp w hts) ?_;rintro r h1 ⟨e1,hr⟩;unfold ia;cases hx:bU ts with
 | error e =>
  rw [hx] at hr;have hr:r=.tuple #[.agg #[.slice none 0 0,.int .u32 0],.int .i64 (e:Int)]:=hr;subst hr;have he:=dM w hx;refine ⟨((none,0,0),(0:Int),(e:Int),()),rfl,?_⟩;dsimp only [flat,aB,ai,nA,cA];refine aW ?_;intro h2 b2 e2 z2;refine ak b2 rfl (by simp) ?_;intro h3 b3 k3 z3;refine bd (by simp; omega) ?_;exact ⟨rfl,e1.trans (Ch.trans e2 k3 (fun i hi hl=>by simp at hi; omega))⟩
 | ok x =>
  rw [hx] at hr;obtain ⟨p1,l1,c1,rfl,sl,gd⟩:=hr;refine ⟨((p1,l1,c1),(x.num:Int),(0:Int),()),rfl,?_⟩;dsimp only [flat,aB,ai,nA,cA];refine aW ?_;intro h2 b2 e2 z2;refine ak b2 rfl (by simp) ?_;intro h3 b3 k3 z3;have b3:aO h3 h1.size 94 [.slice p1 l1 c1,.int .u32 (x.num:Int)]:=b3;have e3:Ext h h3:=e1.trans (Ch.trans e2 k3 (fun i hi hl=>by simp at hi; omega));refine bo rfl ?_;rw [ao];refine ad b3 ((x.num:Int),()) rfl ?_;dsimp only [flat,aB,ai,nA,cA];refine ad b3 ((p1,l1,c1),()) rfl ?_;dsimp only [flat,aB,ai,nA,cA];rw [wrap32 gd.num];have hl1:l1=x.aw.length:=by rw [sl.1,List.length_map]
  refine af (fun g=>?_) (fun g=>?_)
  ·have g:=of_decide_eq_true g;refine ⟨?_,e3⟩;rw [if_pos (.inl (fun hh=>by rw [hh] at hl1; simp at hl1; omega))] <;> rfl
  have g:=of_decide_eq_false g;have hz:x.aw=[]:=List.eq_nil_of_length_eq_zero (by omega);refine af (fun g=>?_) (fun g=>?_)
  ·have g:=of_decide_eq_true g;refine ⟨?_,e3⟩;rw [if_pos (.inr (.inl g))] <;> rfl
  have g:=of_decide_eq_false g;refine af (fun g=>?_) (fun g=>?_)
  ·have g:=of_decide_eq_true g;refine ⟨?_,e3⟩;rw [if_pos (.inr (.inr g))] <;> rfl
  have g':=of_decide_eq_false g;refine ⟨?_,e3⟩;rw [if_neg (by rintro (q | q | q) <;> first | exact q hz | omega)] <;> rfl
def kA:Dt→Value
 | .uw z s t=>.iface 253 (.agg #[.bool z,.bool s,.bool t])
 | .IR lo hi=>.iface 255 (.agg #[.int .i64 lo,.int .i64 hi])
 | .val pool=>.iface 257 (.agg #[.bool pool])
theorem jk:Tryz.prog.underlying 221=some (.slice 20):=by kernel_rfl
theorem wO:(Tryz.prog.info? 20).map (fun i=>(i.zero,i.size,i.bytes))=some (some .nilIface,1,16):=by kernel_rfl
theorem SL.lit {h:Hp} {b g:Nat} {e:TypeId} {xs:List Value} (bx:aO h g e xs) (hb:b≤g) (hn:xs.length<9223372036854775808):SL h b e 1 (some ⟨g,0,none⟩) xs.length xs.length (xs.map fun x=>[x]):=by
 refine ⟨by simp,by simp,g,[],[],rfl,hb,⟨Nat.le_refl _,hn⟩,?_,by simp⟩
 have:∀ l:List Value,(l.map fun x=>[x]).flatten=l:=by
  intro l
  induction l with
  | nil=>rfl
  | cons a l ih=>simp [ih]
 rw [this];simpa using bx
theorem Cu (s:Nat) (h:Hp):HC Tryz.prog 124 #[.int .i64 (s:Int)] h fun w h'=>∃ p c,w=.slice p (cU s).length c∧SL h' h.size 20 1 p (cU s).length c ((cU s).map fun r=>[kA r])∧Ext h h':=by
 refine aL (args:=[.int .i64 (s:Int)]) mixed Tryz.func124 (by kernel_rfl) (rF s) ?_;unfold mJ;refine aW ?_;intro h1 b1 e1 z1;refine aW ?_;intro h2 b2 e2 z2;refine ak (b1.ah e2 (by simp)) rfl (by simp) ?_;intro h3 b3 k3 z3;have b3:aO h3 h.size 253 [.bool false,.bool false,.bool false]:=b3;refine ak (b2.ah k3 (by simp; omega)) rfl (by simp) ?_;intro h4 b4 k4 z4;have b4:aO h4 h1.size 253 [.bool false,.bool true,.bool false]:=b4;have b5:=b3.ah k4 (by simp; omega);have e04:Ext h h4:=Ch.trans (Ch.trans (e1.trans e2) k3 (fun i hi hl=>by simp at hi; omega)) k4 (fun i hi hl=>by simp at hi; omega);have fin:∀ {rs:List Dt} {h':Hp},aO h' h4.size 20 (rs.map kA)→Ext h4 h'→rs.length<100→∃ p c,(Value.slice (some ⟨h4.size,0,none⟩) rs.length rs.length)=.slice p rs.length c∧SL h' h.size 20 1 p rs.length c (rs.map fun r=>[kA r])∧Ext h h':=by
  intro rs h' b e hl;refine ⟨_,_,rfl,?_,e04.trans e⟩
  have:=SL.lit (b:=h.size) b (by omega) (by rw [List.length_map]; omega)
  rw [List.length_map,List.map_map] at this;exact this
 clear k4 k3 e2 e1 b1 b2 b3;refine af (fun q=>?_) (fun q=>?_)
 ·obtain rfl:s=1:=eV q;exact ⟨none,0,rfl,SL.nil _ _ _ _,e04⟩
 have r1:¬ s=1:=fy q;refine af (fun q=>?_) (fun q=>?_)
 ·obtain rfl:s=2:=eV q;refine ad b5 (false,false,false,()) rfl ?_;dsimp only [flat,aB,ai,nA,cA];refine eA (cells:=(cU 2).map kA) jk wO (by decide) (by decide) (by kernel_rfl) ?_;intro h' b e z;exact fin (rs:=cU 2) b e (by decide)
 have r2:¬ s=2:=fy q;refine af (fun q=>?_) (fun q=>?_)
 ·obtain rfl:s=3:=eV q;refine eA (cells:=(cU 3).map kA) jk wO (by decide) (by decide) (by kernel_rfl) ?_;intro h' b e z;exact fin (rs:=cU 3) b e (by decide)
 have r3:¬ s=3:=fy q;refine af (fun q=>?_) (fun q=>?_)
 ·obtain rfl:s=4:=eV q;refine ad b5 (false,false,false,()) rfl ?_;dsimp only [flat,aB,ai,nA,cA];refine ad b4 (false,true,false,()) rfl ?_;dsimp only [flat,aB,ai,nA,cA];refine eA (cells:=(cU 4).map kA) jk wO (by decide) (by decide) (by kernel_rfl) ?_;intro h' b e z;exact fin (rs:=cU 4) b e (by decide)
 have r4:¬ s=4:=fy q;refine af (fun q=>?_) (fun q=>?_)
 ·obtain rfl:s=5:=eV q;refine eA (cells:=(cU 5).map kA) jk wO (by decide) (by decide) (by kernel_rfl) ?_;intro h' b e z;exact fin (rs:=cU 5) b e (by decide)
 have r5:¬ s=5:=fy q;refine af (fun q=>?_) (fun q=>?_)
 ·obtain rfl:s=6:=eV q;refine ad b5 (false,false,false,()) rfl ?_;dsimp only [flat,aB,ai,nA,cA];refine eA (cells:=(cU 6).map kA) jk wO (by decide) (by decide) (by kernel_rfl) ?_;intro h' b e z;exact fin (rs:=cU 6) b e (by decide)
 have r6:¬ s=6:=fy q;refine af (fun q=>?_) (fun q=>?_)
 ·obtain rfl:s=7:=eV q;refine ad b4 (false,true,false,()) rfl ?_;dsimp only [flat,aB,ai,nA,cA];refine eA (cells:=(cU 7).map kA) jk wO (by decide) (by decide) (by kernel_rfl) ?_;intro h' b e z;exact fin (rs:=cU 7) b e (by decide)
 have r7:¬ s=7:=fy q;refine af (fun q=>?_) (fun q=>?_)
 ·obtain rfl:s=8:=eV q;refine ad b5 (false,false,false,()) rfl ?_;dsimp only [flat,aB,ai,nA,cA];refine eA (cells:=(cU 8).map kA) jk wO (by decide) (by decide) (by kernel_rfl) ?_;intro h' b e z;exact fin (rs:=cU 8) b e (by decide)
 have r8:¬ s=8:=fy q;refine af (fun q=>?_) (fun q=>?_)
 ·obtain rfl:s=9:=eV q;refine eA (cells:=(cU 9).map kA) jk wO (by decide) (by decide) (by kernel_rfl) ?_;intro h' b e z;exact fin (rs:=cU 9) b e (by decide)
 have r9:¬ s=9:=fy q;refine af (fun q=>?_) (fun q=>?_)
 ·obtain rfl:s=11:=eV q;refine ad b5 (false,false,false,()) rfl ?_;dsimp only [flat,aB,ai,nA,cA];refine eA (cells:=(cU 11).map kA) jk wO (by decide) (by decide) (by kernel_rfl) ?_;intro h' b e z;exact fin (rs:=cU 11) b e (by decide)
 have r11:¬ s=11:=fy q;refine af (fun q=>?_) (fun q=>?_)
 ·obtain rfl:s=12:=eV q;refine eA (cells:=(cU 12).map kA) jk wO (by decide) (by decide) (by kernel_rfl) ?_;intro h' b e z;exact fin (rs:=cU 12) b e (by decide)
 have r12:¬ s=12:=fy q;have hr:cU s=cU 13:=by
  unfold cU;simp [r1,r2,r3,r4,r5,r6,r7,r8,r9,r11,r12]
 rw [hr];refine ad b5 (false,false,false,()) rfl ?_;dsimp only [flat,aB,ai,nA,cA];refine eA (cells:=(cU 13).map kA) jk wO (by decide) (by decide) (by kernel_rfl) ?_;intro h' b e z;exact fin (rs:=cU 13) b e (by decide)
def bB (s:Nat):Nat:=if s=4∨s=7 then 8 else if s=5∨s=6 then 4 else 0
def nq (h:Hp):Prop:=∃ e f,h[1]?=some (.cells (ma cb cg).toArray e f)
theorem nq.ah {ws:List Nat} {h h':Hp} (t:nq h) (k:Ch ws h h') (hw:1∉ws):nq h':=by
 obtain ⟨e,f,ht⟩:=t;exact ⟨e,f,k.get ht hw⟩
theorem nq.LG {h:Hp} (t:nq h):zA h:=by
 obtain ⟨e,f,ht⟩:=t;exact ⟨_,_,e,f,ht⟩
theorem yi {h:Hp} {g:Nat} {c:Array Value} {e:TypeId} {f:Nat × Nat} (hg:h[g]?=some (.cells c e f)):∀ (vs:List Value) (i:Nat),(∀ j,j<vs.length→c[i+j]?=vs[j]?)→aH h ⟨g,0,none⟩ i vs
 | [],_,_=>trivial
 | v::vs,i,hv=>by
  refine ⟨?_,yi hg vs (i+1) fun j hj=>?_⟩
  ·rw [ao,kv hg]
   have:=hv 0 (by simp)
   simpa using this
  ·have:=hv (j+1) (by simpa using hj)
   rw [List.getElem?_cons_succ] at this;rw [← this]; congr 1; omega
theorem nq.all {h:Hp} (t:nq h):aH h ⟨1,0,none⟩ 0 (ma cb cg):=by
 obtain ⟨e,f,ht⟩:=t;exact yi ht _ 0 (fun j hj=>by simp)
def Lz:Value:=.agg (ma cb cg).toArray
theorem IA (h:Hp) (K:Value→Hp→Prop):∀ k:Nat,k<43→aD Tryz.prog (Instr.index 215 Lz (.int .i64 (k:Int))) h K=K (.agg #[.string (cb k),.int .u8 (cg k),.int .i64 (bT.getD k 0:Nat)]) h
 | 0,_=>by kernel_rfl
 | 1,_=>by kernel_rfl
 | 2,_=>by kernel_rfl
 | 3,_=>by kernel_rfl
 | 4,_=>by kernel_rfl
 | 5,_=>by kernel_rfl
 | 6,_=>by kernel_rfl
 | 7,_=>by kernel_rfl
 | 8,_=>by kernel_rfl
 | 9,_=>by kernel_rfl
 | 10,_=>by kernel_rfl
 | 11,_=>by kernel_rfl
 | 12,_=>by kernel_rfl
 | 13,_=>by kernel_rfl
 | 14,_=>by kernel_rfl
 | 15,_=>by kernel_rfl
 | 16,_=>by kernel_rfl
 | 17,_=>by kernel_rfl
 | 18,_=>by kernel_rfl
 | 19,_=>by kernel_rfl
 | 20,_=>by kernel_rfl
 | 21,_=>by kernel_rfl
 | 22,_=>by kernel_rfl
 | 23,_=>by kernel_rfl
 | 24,_=>by kernel_rfl
 | 25,_=>by kernel_rfl
 | 26,_=>by kernel_rfl
 | 27,_=>by kernel_rfl
 | 28,_=>by kernel_rfl
 | 29,_=>by kernel_rfl
 | 30,_=>by kernel_rfl
 | 31,_=>by kernel_rfl
 | 32,_=>by kernel_rfl
 | 33,_=>by kernel_rfl
 | 34,_=>by kernel_rfl
 | 35,_=>by kernel_rfl
 | 36,_=>by kernel_rfl
 | 37,_=>by kernel_rfl
 | 38,_=>by kernel_rfl
 | 39,_=>by kernel_rfl
 | 40,_=>by kernel_rfl
 | 41,_=>by kernel_rfl
 | 42,_=>by kernel_rfl
 | k+43,hk=>by omega
def Jf (s0:ByteArray):T :=
 T.loop [(false,[.int .i64]),(false,[.bool]),(false,[.int .i64])] [.int .i64 (0:Int),.bool false,.int .i64 (0:Int)] <| fun (n130:Int) (b131:Bool) (n132:Int) =>
 cond (decide (n132<(43:Int)))
 (T.aY Tryz.prog (Instr.index 215 Lz (.int .i64 n132)) false [(true,[.string,.int .u8,.int .i64])] <| fun (s133:ByteArray) (n134:Int) (n135:Int) =>
 T.new [.string ⟨#[]⟩,.int .u8 (0:Int),.int .i64 (0:Int)] 158 <| fun (a136:Addr) =>
 T.ap a136 [.string s133,.int .u8 n134,.int .i64 n135] <|
 T.ae a136 [.string] <| fun (s137:ByteArray) =>
 cond ((ByteArray.toList s137)==(ByteArray.toList s0))
  (T.ret (.tuple #[.int .i64 (IntKind.wrap .i64 (n132+(1:Int))),.bool true]))
  (T.again 0 [.int .i64 n130,.bool b131,.int .i64 (IntKind.wrap .i64 (n132+(1:Int)))]))
 (T.ret (.tuple #[.int .i64 (0:Int),.bool false]))
def La:rQ [.string,.int .u8,.int .i64,.string,.int .u8,.int .i64,.string,.int .u8,.int .i64,.string,.int .u8,.int .i64,.string,.int .u8,.int .i64,.string,.int .u8,.int .i64,.string,.int .u8,.int .i64,.string,.int .u8,.int .i64,.string,.int .u8,.int .i64,.string,.int .u8,.int .i64,.string,.int .u8,.int .i64,.string,.int .u8,.int .i64,.string,.int .u8,.int .i64,.string,.int .u8,.int .i64,.string,.int .u8,.int .i64,.string,.int .u8,.int .i64,.string,.int .u8,.int .i64,.string,.int .u8,.int .i64,.string,.int .u8,.int .i64,.string,.int .u8,.int .i64,.string,.int .u8,.int .i64,.string,.int .u8,.int .i64,.string,.int .u8,.int .i64,.string,.int .u8,.int .i64,.string,.int .u8,.int .i64,.string,.int .u8,.int .i64,.string,.int .u8,.int .i64,.string,.int .u8,.int .i64,.string,.int .u8,.int .i64,.string,.int .u8,.int .i64,.string,.int .u8,.int .i64,.string,.int .u8,.int .i64,.string,.int .u8,.int .i64,.string,.int .u8,.int .i64,.string,.int .u8,.int .i64,.string,.int .u8,.int .i64,.string,.int .u8,.int .i64,.string,.int .u8,.int .i64,.string,.int .u8,.int .i64,.string,.int .u8,.int .i64,.string,.int .u8,.int .i64,.string,.int .u8,.int .i64,.string,.int .u8,.int .i64]:=(cb 0,cg 0,((bT.getD 0 0:Nat):Int),cb 1,cg 1,((bT.getD 1 0:Nat):Int),cb 2,cg 2,((bT.getD 2 0:Nat):Int),cb 3,cg 3,((bT.getD 3 0:Nat):Int),cb 4,cg 4,((bT.getD 4 0:Nat):Int),cb 5,cg 5,((bT.getD 5 0:Nat):Int),cb 6,cg 6,((bT.getD 6 0:Nat):Int),cb 7,cg 7,((bT.getD 7 0:Nat):Int),cb 8,cg 8,((bT.getD 8 0:Nat):Int),cb 9,cg 9,((bT.getD 9 0:Nat):Int),cb 10,cg 10,((bT.getD 10 0:Nat):Int),cb 11,cg 11,((bT.getD 11 0:Nat):Int),cb 12,cg 12,((bT.getD 12 0:Nat):Int),cb 13,cg 13,((bT.getD 13 0:Nat):Int),cb 14,cg 14,((bT.getD 14 0:Nat):Int),cb 15,cg 15,((bT.getD 15 0:Nat):Int),cb 16,cg 16,((bT.getD 16 0:Nat):Int),cb 17,cg 17,((bT.getD 17 0:Nat):Int),cb 18,cg 18,((bT.getD 18 0:Nat):Int),cb 19,cg 19,((bT.getD 19 0:Nat):Int),cb 20,cg 20,((bT.getD 20 0:Nat):Int),cb 21,cg 21,((bT.getD 21 0:Nat):Int),cb 22,cg 22,((bT.getD 22 0:Nat):Int),cb 23,cg 23,((bT.getD 23 0:Nat):Int),cb 24,cg 24,((bT.getD 24 0:Nat):Int),cb 25,cg 25,((bT.getD 25 0:Nat):Int),cb 26,cg 26,((bT.getD 26 0:Nat):Int),cb 27,cg 27,((bT.getD 27 0:Nat):Int),cb 28,cg 28,((bT.getD 28 0:Nat):Int),cb 29,cg 29,((bT.getD 29 0:Nat):Int),cb 30,cg 30,((bT.getD 30 0:Nat):Int),cb 31,cg 31,((bT.getD 31 0:Nat):Int),cb 32,cg 32,((bT.getD 32 0:Nat):Int),cb 33,cg 33,((bT.getD 33 0:Nat):Int),cb 34,cg 34,((bT.getD 34 0:Nat):Int),cb 35,cg 35,((bT.getD 35 0:Nat):Int),cb 36,cg 36,((bT.getD 36 0:Nat):Int),cb 37,cg 37,((bT.getD 37 0:Nat):Int),cb 38,cg 38,((bT.getD 38 0:Nat):Int),cb 39,cg 39,((bT.getD 39 0:Nat):Int),cb 40,cg 40,((bT.getD 40 0:Nat):Int),cb 41,cg 41,((bT.getD 41 0:Nat):Int),cb 42,cg 42,((bT.getD 42 0:Nat):Int),())
theorem IG:fw _ La=ma cb cg:=by kernel_rfl
theorem DD {L:Lp} {K:Value→Hp→Prop} {h:Hp} (t:nq h) {s:ByteArray} (hk:Jf s L K h):uH s L K h :=
 ⟨La,by rw [IG]; exact t.all,hk⟩
theorem A8 (nm:Nat→List UInt8) (s:List UInt8):∀ (m k:Nat),k≤m→jU nm s k≠0→jU nm s m=jU nm s k
 | 0,k,h,_=>by
  have:k=0:=by omega
  rw [this]
 | m+1,k,h,hk=>by
  by_cases e:k=m+1
  ·rw [e]
  ·have ih:=A8 nm s m k (by omega) hk;show (match jU nm s m with | 0=>if nm m=s then m+1 else 0 | n=>n)=jU nm s k;rw [ih];cases hh:jU nm s k with
   | zero=>exact absurd hh hk
   | succ n=>rfl
theorem Cp (nm:Nat→List UInt8) (s:List UInt8) (k:Nat) (h:jU nm s k=0):jU nm s (k+1)=if nm k=s then k+1 else 0:=by
 show (match jU nm s k with | 0=>if nm k=s then k+1 else 0 | n=>n)=_;rw [h] <;> rfl
theorem I1 {h:Hp} (t:nq h) (s:ByteArray):HC Tryz.prog 98 #[.string s] h fun u h'=>u=.tuple #[.int .i64 (kK s:Nat),.bool (decide (kK s≠0))]∧Ext h h':=by
 refine aL (args:=[.string s]) mixed Tryz.func98 (by kernel_rfl) (xn s) ?_;refine DD t ?_;unfold Jf;refine bm (cs:=[(false,[.int .i64]),(false,[.bool]),(false,[.int .i64])]) (fun x n h'=>∃ k:Nat,x.2.2.1=(k:Int)∧k≤43∧n=43-k∧Ext h h'∧jU Ep s.data.toList k=0) ((0:Int),false,(0:Int),()) 43 rfl ⟨0,rfl,by omega,by omega,Ch.refl _ _,rfl⟩ ?_;rintro ⟨n130,b131,n132,⟨⟩⟩ n h1 ⟨k,hk,hk43,rfl,e1,h0⟩;simp only at hk;subst hk;dsimp only [flat,aB,ai,nA,cA];refine af (fun q=>?_) (fun q=>?_)
 ·have q:=of_decide_eq_true q;have hlt:k<43:=by omega
  show aD _ _ _ _;rw [IA _ _ k hlt];refine ⟨(cb k,cg k,((bT.getD k 0:Nat):Int),()),rfl,?_⟩;dsimp only [flat,aB,ai,nA,cA];refine aW ?_;intro h2 b2 e2 z2;refine ak b2 rfl (by simp) ?_;intro h3 b3 k3 z3;have b3:aO h3 h1.size 158 [.string (cb k),.int .u8 (cg k),.int .i64 ((bT.getD k 0:Nat):Int)]:=b3;have e3:Ext h h3:=e1.trans (Ch.trans e2 k3 (fun i hi hl=>by simp at hi; omega));refine ad b3 (cb k,()) rfl ?_;dsimp only [flat,aB,ai,nA,cA];have hn:=Cp Ep s.data.toList k h0;have hw:IntKind.wrap .i64 ((k:Int)+1)=((k+1:Nat):Int):=by rw [wrap_i64 (by omega) (by omega)]; omega
  rw [ByteArray.toList_eq,ByteArray.toList_eq,hw];refine af (fun r=>?_) (fun r=>?_)
  ·have r:Ep k=s.data.toList:=eq_of_beq r;rw [if_pos r] at hn;have hf:kK s=k+1:=by
    unfold kK;rw [A8 _ _ 43 (k+1) (by omega) (by omega),hn]
   refine ⟨?_,e3⟩;rw [hf]
   simp
  ·have r:¬ Ep k=s.data.toList:=ne_of_beq_false r;rw [if_neg r] at hn;exact aM (cs:=[(false,[.int .i64]),(false,[.bool]),(false,[.int .i64])]) (n130,b131,((k+1:Nat):Int),()) (43-(k+1)) rfl (by omega) rfl ⟨k+1,rfl,by omega,rfl,e3,hn⟩
 ·have q:=of_decide_eq_false q
  have:k=43:=by omega
  subst this;refine ⟨?_,e1⟩;unfold kK;rw [h0]
  simp
end Go.Sx.Ob
set_option linter.unusedVariables false
set_option linter.unusedSimpArgs false
set_option maxRecDepth 100000
namespace Go.Sx
open Go.Proofs
def RQ (h:Hp) (A:Nat) (us ts:List Tok) (d:Int) (e:Nat):Prop:=∃ k,RB h A us k d e∧ts=us.drop k
theorem RQ.ah {ws:List Nat} {h h':Hp} {A:Nat} {us ts:List Tok} {d:Int} {e:Nat} (b:RQ h A us ts d e) (c:Ch ws h h') (hw:∀ i,i∈ws→A<i):RQ h' A us ts d e:=by
 obtain ⟨k,b,ht⟩:=b;exact ⟨k,b.ah c hw,ht⟩
theorem RQ.lt {h:Hp} {A:Nat} {us ts:List Tok} {d:Int} {e:Nat} (b:RQ h A us ts d e):A<h.size:=by
 obtain ⟨k,b,ht⟩:=b;exact b.lt
def LO (h:Hp) (A:Nat) (us:List Tok) (n:Nat) (d:Int) (res:cH) (v:Value) (h':Hp):Prop :=
 Ch [A] h h'∧∃ x p l c ts' d' e',v=oR p l c x∧SL h' h.size 109 2 p l c (x.aw.map cP)∧Good x∧RQ h' A us ts' d' e'∧AX n d x ts' d' e' res
section rules
variable {L:Lp} {K:Value→Hp→Prop} {h:Hp}
theorem sj {h hx:Hp} {A:Nat} {us ts':List Tok} {n:Nat} {d d':Int} {res:cH} {g1 g4 b:Nat} {x:eS} {p:Option Addr} {l c e':Nat} {L:Lp} (kx:Ch [A] h hx) (hg1:h.size≤g1) (hAg:A<g1) (b1:aO hx g1 94 [.slice none 0 0,.int .u32 0]) (b4:aO hx g4 94 [.slice p l c,.int .u32 (x.num:Int)])
  (s:SL hx b 109 2 p l c (x.aw.map cP)) (hb:g1<b) (gx:Good x) (rq:RQ hx A us ts' d' e') (post:AX n d x ts' d' e' res) :
  (T.ae ⟨g4,0,none⟩ [.slice 109,.int .u32] fun (p:Option Addr) (l c:Nat) (n:Int)=>T.ap ⟨g1,0,none⟩ [.slice p l c,.int .u32 n] <| T.ae ⟨g1,0,none⟩ [.slice 109,.int .u32] fun (p:Option Addr) (l c:Nat) (n:Int)=>T.ret (.agg #[.slice p l c,.int .u32 n])) L (LO h A us n d res) hx:=by
 refine ad b4 ((p,l,c),(x.num:Int),()) rfl ?_;dsimp only [flat,aB,ai,nA,cA];refine ak b1 rfl (by simp) ?_;intro h7 b7 k7 z7;have b7:aO h7 g1 94 [.slice p l c,.int .u32 (x.num:Int)]:=b7;refine ad b7 ((p,l,c),(x.num:Int),()) rfl ?_;exact ⟨Ch.trans kx k7 (fun j hj hl=>by simp at hj; omega),x,p,l,c,ts',d',e',rfl,(s.aT k7 (fun j hj=>by have:=(s.bO hj).1; simp; omega)).mono (by omega),gx,rq.ah k7 (by simp; omega),post⟩
end rules
theorem CY {α:Type} {l r:List α} {p:α} {i:Nat} (h:l.drop i=p::r):i<l.length:=by
 rcases Nat.lt_or_ge i l.length with h1 | h1
 ·exact h1
 ·rw [List.drop_eq_nil_of_le h1] at h; cases h
end Go.Sx
set_option linter.unusedVariables false
set_option linter.unusedSimpArgs false
set_option maxRecDepth 100000
namespace Go.Sx.Ob
open Go.Proofs
variable {h':Hp}
structure Dg (h:Hp) (p:Option Addr) (l:Nat) (al:List In):Prop where
 len:l=al.length
 cells:∀ k,(hk:k<al.length)→∃ a,p=some a∧aH h (a.add (k*1)) 0 al[k].val
 uc:∀ a,a∈al→Vw h a.p a.l a.c a.ts
 bO:∀ a,a∈al→∀ i,i∈az a.p→i<h.size
 wf:∀ a,a∈al→Wf a.ts
 many:∀ a,a∈al→a.ts.length≤2^40
 ne:∀ a,a∈al→a.ts≠[]
 text:∀ a,a∈al→∀ t,t∈a.ts→t.text.size≤9223372036854775807
theorem Dg.ah {h:Hp} {p:Option Addr} {l:Nat} {al:List In} (v:Dg h p l al) (e:Ext h h'):Dg h' p l al :=
 ⟨v.len,fun k hk=>by
  obtain ⟨a,ha,hc⟩:=v.cells k hk;exact ⟨a,ha,bt e (by simp) _ _ hc⟩,fun a ha=>(v.uc a ha).ah e (by simp),fun a ha i hi=>Nat.lt_of_lt_of_le (v.bO a ha i hi) e.size,v.wf,v.many,v.ne,v.text⟩
theorem Dg.of {h:Hp} {b:Nat} {te es:TypeId} {p:Option Addr} {c:Nat} {al:List In} (A:fX h b te es p c al) (w:∀ a,a∈al→Wf a.ts∧a.ts.length≤2^40∧a.ts≠[]∧∀ t,t∈a.ts→t.text.size≤9223372036854775807):Dg h p al.length al:=by
 refine ⟨rfl,fun k hk=>?_,fun a ha=>(A.uc a ha).vw,fun a ha i hi=>((A.uc a ha).bO hi).2,fun a ha=>(w a ha).1,fun a ha=>(w a ha).2.1,fun a ha=>(w a ha).2.2.1,fun a ha=>(w a ha).2.2.2⟩;obtain ⟨a,ha,hc⟩:=A.out.cells (i:=k) (by rw [List.length_map]; exact hk);rw [List.getElem_map] at hc;exact ⟨a,ha,hc⟩
theorem L9 (z s t:Bool) (h:Hp) (K:Value→Hp→Prop):aD Tryz.prog (Instr.typeAssert (.iface 253 (.agg #[.bool z,.bool s,.bool t])) 20 253 true) h K=K (.tuple #[.agg #[.bool z,.bool s,.bool t],.bool true]) h:=by kernel_rfl
theorem Mv (lo hi:Int) (h:Hp) (K:Value→Hp→Prop):aD Tryz.prog (Instr.typeAssert (.iface 255 (.agg #[.int .i64 lo,.int .i64 hi])) 20 253 true) h K=K (.tuple #[.agg #[.bool false,.bool false,.bool false],.bool false]) h:=by kernel_rfl
theorem Ml (lo hi:Int) (h:Hp) (K:Value→Hp→Prop):aD Tryz.prog (Instr.typeAssert (.iface 255 (.agg #[.int .i64 lo,.int .i64 hi])) 20 255 true) h K=K (.tuple #[.agg #[.int .i64 lo,.int .i64 hi],.bool true]) h:=by kernel_rfl
theorem LP (p:Bool) (h:Hp) (K:Value→Hp→Prop):aD Tryz.prog (Instr.typeAssert (.iface 257 (.agg #[.bool p])) 20 253 true) h K=K (.tuple #[.agg #[.bool false,.bool false,.bool false],.bool false]) h:=by kernel_rfl
theorem L4 (p:Bool) (h:Hp) (K:Value→Hp→Prop):aD Tryz.prog (Instr.typeAssert (.iface 257 (.agg #[.bool p])) 20 255 true) h K=K (.tuple #[.agg #[.int .i64 0,.int .i64 0],.bool false]) h:=by kernel_rfl
theorem Mc (p:Bool) (h:Hp) (K:Value→Hp→Prop):aD Tryz.prog (Instr.typeAssert (.iface 257 (.agg #[.bool p])) 20 257 true) h K=K (.tuple #[.agg #[.bool p],.bool true]) h:=by kernel_rfl
theorem wrap_i32 {n:Int} (h1:-2147483648≤n) (h2:n<2147483648):IntKind.wrap .i32 n=n:=by
 simp only [IntKind.wrap,IntKind.bits,IntKind.signed,Bool.true_and];split <;> rename_i hh
 ·have:=of_decide_eq_true hh; omega
 ·have:¬ _:=fun h=>hh (decide_eq_true h); omega
theorem J3 (n:Nat) (h:n<4294967296):-2147483648≤Bh n∧Bh n<2147483648:=by
 unfold Bh;split <;> omega
theorem I7 {lo hi n:Int} {ts:List Tok} (w:Wf ts) (h:ia lo hi ts=.ok n):-2147483648≤n∧n<2147483648:=by
 unfold ia at h;cases hx:bU ts with
 | error e=>rw [hx] at h; cases h
 | ok x =>
  rw [hx] at h;simp only at h;split at h
  ·cases h
  ·injection h with h
   rw [← h];exact J3 _ (hZ w hx).num
theorem gU {lo hi:Int} {ts:List Tok} {e:Nat} (w:Wf ts) (h:ia lo hi ts=.error e):e=20∨e=21:=by
 unfold ia at h;cases hx:bU ts with
 | error e' =>
  rw [hx] at h;injection h with h
  subst h;exact dM w hx
 | ok x =>
  rw [hx] at h;simp only at h;split at h
  ·injection h with h
   exact .inr h.symm
  ·cases h
theorem Bo {z:Bool} {ts:List Tok} {e:Nat} (h:nw z ts=.error e):e=20:=by
 unfold nw at h;split at h
 ·split at h
  ·cases h
  ·injection h with h
   exact h.symm
 ·injection h with h
  exact h.symm
def El (h:Hp) (b0 B:Nat) (r:Except Nat bC) (u:Value) (h':Hp):Prop:=Ch [B] h h'∧match r with
 | .error e=>u=.int .i64 (e:Int)∧(e=20∨e=21)∧∃ xs,aO h' B 96 xs∧xs.length=10
 | .ok y=>u=.int .i64 0∧∃ p l c,aO h' B 96 (encI p l c y)∧SL h' b0 109 2 p l c (y.e.aw.map cP)
theorem AR {h:Hp} {b0 B:Nat} {x:bC} {p:Option Addr} {l c:Nat} (b:aO h B 96 (encI p l c x)) (s:SL h b0 109 2 p l c (x.e.aw.map cP)) (hb0:b0≤h.size) (hB:B<b0) (r:Dt)
  {q:Option Addr} {m d:Nat} {ts:List Tok} (v:Vw h q m d ts) (hq:∀ i,i∈az q→i<h.size) (w:Wf ts) (hts:ts.length≤2^40) :
  HC Tryz.prog 125 #[.pointer (some ⟨B,0,none⟩),kA r,.slice q m d] h (El h b0 B (dH x r ts)):=by
 have hBs:=b.lt;refine aL (args:=[.pointer (some ⟨B,0,none⟩),kA r,.slice q m d]) mixed Tryz.func125 (by kernel_rfl) (pP _ _ q m d) ?_;unfold lQ;have hS:∀ {h1 h2:Hp},Ext h h1→Ch [B] h1 h2→SL h2 b0 109 2 p l c (x.e.aw.map cP):=fun e k=>(Sx.SL.aT s e (by simp)).aT k (fun i hi hm=>by have:=(Sx.SL.bO s hi).1; simp at hm; omega)
 have hC:∀ {h1 h2:Hp},Ext h h1→Ch [B] h1 h2→Ch [B] h h2:=fun e k=>Ch.trans (e.mono (by simp)) k (fun i hi _=>hi)
 cases r with
 | uw z s2 s3 =>
  show aD _ _ _ _;unfold kA;rw [L9];refine ⟨(z,s2,s3,true,()),rfl,?_⟩;dsimp only [flat,aB,ai,nA,cA];refine bd rfl ?_;refine aW ?_;intro h1 b1 e1 z1;refine ak b1 rfl (by simp) ?_;intro h2 b2 k2 z2;have b2:aO h2 h.size 253 [.bool z,.bool s2,.bool s3]:=b2;have e2:Ext h h2:=Ch.trans e1 k2 (fun i hi hl=>by simp at hi; omega);refine ad b2 (z,()) rfl ?_;dsimp only [flat,aB,ai,nA,cA];have bB:=b.ah e2 (by simp)
  have st:∀ {L:Lp} (n e:Int) (y:bC) (o:Nat) (val:Value),dY val=true→o<10→(encI p l c x).set o val=encI p l c y→y.e=x.e→(∀ h',aO h' B 96 (encI p l c y)→Ch [B] h h'→SL h' b0 109 2 p l c (y.e.aw.map cP)→El h b0 B (dH x (.uw z s2 s3) ts) (.int .i64 e) h') →
    (T.ap ⟨B,o,none⟩ [val] <| T.ret (.int .i64 e)) L (El h b0 B (dH x (.uw z s2 s3) ts)) h2:=by
   intro L n e y o val hpv ho iI hy hk;refine ak bB (by simp [hpv]) (by simp [encI]; omega) ?_;intro h3 b3 k3 z3;rw [show iK (encI p l c x) o [val]=(encI p l c x).set o val from rfl,iI] at b3;exact hk h3 b3 (hC e2 k3) (by rw [hy]; exact hS e2 k3)
  cases hr:nw z ts with
  | error e =>
   have he:=Bo hr;have hA:dH x (.uw z s2 s3) ts=.error e:=by unfold dH; simp only [hr]
   refine iZ (v:=IH (nw z ts)) (Gg (v.ah e2 (by simp)) z) ((0:Int),(e:Int),()) (by rw [hr]; rfl) ?_;dsimp only [flat,aB,ai,nA,cA];rw [ao];refine ad b2 (s3,()) rfl ?_;dsimp only [flat,aB,ai,nA,cA];have out:∀ {L:Lp} (o:Nat) (val:Value),dY val=true→o<10→(T.ap ⟨B,o,none⟩ [val] <| T.ret (.int .i64 (e:Int))) L (El h b0 B (dH x (.uw z s2 s3) ts)) h2:=by
    intro L o val hpv ho;refine ak bB (by simp [hpv]) (by simp [encI]; omega) ?_;intro h3 b3 k3 z3;refine ⟨hC e2 k3,?_⟩;rw [hA];exact ⟨rfl,.inl he,_,b3,by rw [jY]; rfl⟩
   refine af (fun g=>?_) (fun g=>?_)
   ·refine an rfl ?_;rw [ao,ao];exact out 5 _ rfl (by omega)
   ·rw [ao];refine ad b2 (s2,()) rfl ?_;dsimp only [flat,aB,ai,nA,cA];refine af (fun g=>?_) (fun g=>?_)
    ·refine an rfl ?_;rw [ao,ao];exact out 4 _ rfl (by omega)
    ·refine an rfl ?_;rw [ao,ao];exact out 3 _ rfl (by omega)
  | ok n =>
   have hn:=lf hr;have hn8:0≤n∧n<8:=by
    refine ⟨hn.1,?_⟩
    have:=hn.2
    split at this <;> omega
   refine iZ (v:=IH (nw z ts)) (Gg (v.ah e2 (by simp)) z) (n,(0:Int),()) (by rw [hr]; rfl) ?_;dsimp only [flat,aB,ai,nA,cA];rw [ao];refine ad b2 (s3,()) rfl ?_;dsimp only [flat,aB,ai,nA,cA];have hA:dH x (.uw z s2 s3) ts=.ok (if s3 then eI x n else if s2 then mW x n else nk x n):=by unfold dH; simp only [hr]
   refine af (fun g=>?_) (fun g=>?_)
   ·refine an rfl ?_;rw [ao,ao,wrap_i32 (by omega) (by omega)];refine st n 0 (eI x n) 5 _ rfl (by omega) rfl rfl ?_;intro h' b' k' s';refine ⟨k',?_⟩;rw [hA,if_pos g];exact ⟨rfl,p,l,c,b',s'⟩
   ·rw [ao];refine ad b2 (s2,()) rfl ?_;dsimp only [flat,aB,ai,nA,cA];refine af (fun g'=>?_) (fun g'=>?_)
    ·refine an rfl ?_;rw [ao,ao];refine st n 0 (mW x n) 4 _ rfl (by omega) rfl rfl ?_;intro h' b' k' s';refine ⟨k',?_⟩;rw [hA,if_neg (by rw [g]; simp),if_pos g'];exact ⟨rfl,p,l,c,b',s'⟩
    ·refine an rfl ?_;rw [ao,ao];refine st n 0 (nk x n) 3 _ rfl (by omega) rfl rfl ?_;intro h' b' k' s';refine ⟨k',?_⟩;rw [hA,if_neg (by rw [g]; simp),if_neg (by rw [g']; simp)];exact ⟨rfl,p,l,c,b',s'⟩
 | IR lo hi =>
  show aD _ _ _ _;unfold kA;rw [Mv];refine ⟨(false,false,false,false,()),rfl,?_⟩;dsimp only [flat,aB,ai,nA,cA];refine bo rfl ?_;show aD _ _ _ _;rw [Ml];refine ⟨(lo,hi,true,()),rfl,?_⟩;dsimp only [flat,aB,ai,nA,cA];refine bd rfl ?_;refine aW ?_;intro h1 b1 e1 z1;refine ak b1 rfl (by simp) ?_;intro h2 b2 k2 z2;have b2:aO h2 h.size 255 [.int .i64 lo,.int .i64 hi]:=b2;have e2:Ext h h2:=Ch.trans e1 k2 (fun i hi hl=>by simp at hi; omega);refine ad b2 (lo,()) rfl ?_;dsimp only [flat,aB,ai,nA,cA];rw [ao];refine ad b2 (hi,()) rfl ?_;dsimp only [flat,aB,ai,nA,cA];refine aC (oo (v.ah e2 (by simp)) (fun i hi=>Nat.lt_of_lt_of_le (hq i hi) e2.size) w hts lo hi) ?_;rintro _ h3 ⟨rfl,e3⟩;have e3:=e2.trans e3;have bB:=b.ah e3 (by simp);cases hr:ia lo hi ts with
  | error e =>
   have he:=gU w hr;refine ⟨((0:Int),(e:Int),()),rfl,?_⟩;dsimp only [flat,aB,ai,nA,cA];refine an rfl ?_;rw [ao,ao];refine ak bB rfl (by simp [encI]) ?_;intro h4 b4 k4 z4;refine ⟨hC e3 k4,?_⟩;rw [show dH x (.IR lo hi) ts=.error e by unfold dH; simp only [hr]];exact ⟨rfl,he,_,b4,by rw [jY]; rfl⟩
  | ok n =>
   have hn:=I7 w hr;refine ⟨(n,(0:Int),()),rfl,?_⟩;dsimp only [flat,aB,ai,nA,cA];refine an rfl ?_;rw [ao,ao,wrap_i32 hn.1 hn.2];refine ak bB rfl (by simp [encI]) ?_;intro h4 b4 k4 z4;refine ⟨hC e3 k4,?_⟩;rw [show dH x (.IR lo hi) ts=.ok (eI x n) by unfold dH; simp only [hr]];exact ⟨rfl,p,l,c,b4,hS e3 k4⟩
 | val pool =>
  show aD _ _ _ _;unfold kA;rw [LP];refine ⟨(false,false,false,false,()),rfl,?_⟩;dsimp only [flat,aB,ai,nA,cA];refine bo rfl ?_;show aD _ _ _ _;rw [L4];refine ⟨((0:Int),(0:Int),false,()),rfl,?_⟩;dsimp only [flat,aB,ai,nA,cA];refine bo rfl ?_;show aD _ _ _ _;rw [Mc];refine ⟨(pool,true,()),rfl,?_⟩;dsimp only [flat,aB,ai,nA,cA];refine bd rfl ?_;refine aW ?_;intro h1 b1 e1 z1;refine ak b1 rfl (by simp) ?_;intro h2 b2 k2 z2;have b2:aO h2 h.size 257 [.bool pool]:=b2;have e2:Ext h h2:=Ch.trans e1 k2 (fun i hi hl=>by simp at hi; omega);refine ad b2 (pool,()) rfl ?_;dsimp only [flat,aB,ai,nA,cA];have bB:=b.ah e2 (by simp)
  have put:∀ {L:Lp} {us:List Tok} {h3:Hp} {u:Value},Wf us→dH x (.val pool) ts=(match bU us with | .error e=>.error e | .ok y=>.ok (zi x y))→B3 h2 (bU us) u h3 →
    ∃ y:rQ (flat [(true,[.slice 109,.int .u32]),(false,[.int .i64])]),u=rv true [(true,[.slice 109,.int .u32]),(false,[.int .i64])] (fw _ y)∧@aB (flat [(true,[.slice 109,.int .u32]),(false,[.int .i64])]) T (fun (p18:Option Addr) (l19:Nat) (l20:Nat) (n21:Int) (n22:Int) =>
    T.au (some (⟨B,0,none⟩:Addr)) <| fun (a23:Addr) =>
    T.ap (a23.add 7) [.slice p18 l19 l20,.int .u32 n21] <|
    T.ret (.int .i64 n22)) y L (El h b0 B (dH x (.val pool) ts)) h3:=by
   rintro L us h3 u hw hA ⟨e3,hu⟩;have e3:=e2.trans e3;cases hx:bU us with
   | error e =>
    rw [hx] at hu hA;have he:=dM hw hx;have hu:u=.tuple #[.agg #[.slice none 0 0,.int .u32 0],.int .i64 (e:Int)]:=hu;subst hu;refine ⟨((none,0,0),(0:Int),(e:Int),()),rfl,?_⟩;dsimp only [flat,aB,ai,nA,cA];refine an rfl ?_;rw [ao];refine ak (b.ah e3 (by simp)) rfl (by simp [encI]) ?_;intro h4 b4 k4 z4;refine ⟨hC e3 k4,?_⟩;rw [hA];exact ⟨rfl,he,_,b4,by rw [jY]; rfl⟩
   | ok y =>
    rw [hx] at hu hA;obtain ⟨p5,l5,c5,rfl,sl,gd⟩:=hu;refine ⟨((p5,l5,c5),(y.num:Int),(0:Int),()),rfl,?_⟩;dsimp only [flat,aB,ai,nA,cA];refine an rfl ?_;rw [ao];refine ak (b.ah e3 (by simp)) rfl (by simp [encI]) ?_;intro h4 b4 k4 z4;refine ⟨hC e3 k4,?_⟩;rw [hA];have hz:=e2.size;exact ⟨rfl,p5,l5,c5,b4,((Sx.SL.mono sl (by omega)).aT k4 (fun i hi hm=>by have:=(Sx.SL.bO sl hi).1; simp at hm; omega))⟩
  have v2:=v.ah e2 (by simp);have hq2:∀ i,i∈az q→i<h2.size:=fun i hi=>Nat.lt_of_lt_of_le (hq i hi) e2.size
  cases pool with
  | false =>
   refine bo rfl ?_;refine aC (jb v2 hq2 w hts) ?_;intro u h3 hu;refine put w ?_ hu;unfold dH rC;rfl
  | true =>
   refine bd rfl ?_;have hl:=v.len;have bad:dH x (.val true) ts=.error 20→El h b0 B (dH x (.val true) ts) (.int .i64 20) h2:=by
    intro hA;refine ⟨e2.mono (by simp),?_⟩;rw [hA];exact ⟨rfl,.inl rfl,_,bB,rfl⟩
   refine af (fun g=>?_) (fun g=>?_)
   ·have g:m=0:=eV g;refine bad ?_
    have:ts=[]:=List.eq_nil_of_length_eq_zero (by omega)
    subst this;rfl
   have g:¬ m=0:=fy g;cases ts with
   | nil=>simp at hl; omega
   | cons t r =>
    obtain ⟨a,rfl,c0⟩:=v2.cells 0 (by simp);have c0:aH h2 (a.add (0*4)) 0 (enc t):=c0;obtain ⟨q1,q2,_⟩:=iN c0;refine aA ⟨by omega,by omega⟩ (an rfl (aG ((t.kind:Int),()) q1 ?_));dsimp only [flat,aB,ai,nA,cA];refine af (fun g3=>?_) (fun g3=>?_)
    ·have g3:¬ t.kind=3:=by
      have:¬ (t.kind:Int)=3:=by simpa using g3
      omega
     refine bad ?_
     have:fE t 61=false:=by unfold fE; rw [beq_false_of_ne g3]; rfl
     unfold dH rC;simp [this]
    have g3:t.kind=3:=by
     have:(t.kind:Int)=3:=by simpa using g3
     omega
    refine aA ⟨by omega,by omega⟩ (an rfl (aG (t.text,()) q2 ?_));dsimp only [flat,aB,ai,nA,cA];have hs:(ByteArray.toList t.text==[({ toBitVec:=61#8 }:UInt8)])=fE t 61:=by
     unfold fE;rw [g3,ByteArray.toList_eq] <;> rfl
    rw [hs];refine af (fun g4=>?_) (fun g4=>?_)
    ·have g4:fE t 61=false:=by simpa using g4
     refine bad ?_;unfold dH rC;simp [g4]
    have g4:fE t 61=true:=by simpa using g4
    refine aA ⟨by omega,by simp at hl; omega,by have:=v.cap; omega⟩ ?_;have vd:=v2.drop (k:=1) (by simp at hl; omega);refine aC (args:=[.slice _ _ _]) (jb (ts:=r) (p:=if d=1 then some a else Option.map (fun a=>Addr.add a 4) (some a)) (l:=m-1) (c:=d-1) vd ?_ w.tail (by simp at hts; omega)) ?_
    ·intro i hi;rw [show az (if d=1 then some a else Option.map (fun a=>Addr.add a 4) (some a))=az (some a) from kG _ _ _ _] at hi;exact hq2 i hi
    ·intro u h3 hu;refine put w.tail ?_ hu;unfold dH rC;simp only [g4,if_true]
     all_goals (cases bU r <;> rfl)
theorem FN {x:bC} {r:Dt} {ts:List Tok} {e:Nat} (w:Wf ts) (h:dH x r ts=.error e):e=20∨e=21:=by
 unfold dH at h;cases r with
 | uw z s t =>
  simp only at h;cases hr:nw z ts with
  | error e' =>
   rw [hr] at h;injection h with h
   subst h;exact .inl (Bo hr)
  | ok n=>rw [hr] at h; cases h
 | IR lo hi =>
  simp only at h;cases hr:ia lo hi ts with
  | error e' =>
   rw [hr] at h;injection h with h
   subst h;exact gU w hr
  | ok n=>rw [hr] at h; cases h
 | val p =>
  simp only at h;cases hr:rC p ts with
  | error e' =>
   rw [hr] at h;injection h with h
   subst h;unfold rC at hr;split at hr
   ·exact dM w hr
   ·split at hr
    ·injection hr with hr
     exact .inl hr.symm
    ·split at hr
     ·exact dM w.tail hr
     ·injection hr with hr
      exact .inl hr.symm
  | ok n=>rw [hr] at h; cases h
def Lx (h:Hp) (r:Except Nat bC) (u:Value) (h':Hp):Prop:=Ext h h'∧match r with
 | .error e=>u=.tuple #[qv none 0 0 (cR 0),.int .i64 (e:Int)]
 | .ok y=>∃ p l c,u=.tuple #[qv p l c y,.int .i64 0]∧SL h' h.size 109 2 p l c (y.e.aw.map cP)
def zI:List Value:=[.int .i64 (0:Int),.string ⟨#[]⟩,.int .i64 (0:Int),.int .i64 (0:Int),.int .i64 (0:Int),.int .i32 (0:Int),.int .i64 (0:Int),.slice none 0 0,.int .u32 (0:Int),.int .i64 (0:Int)]
theorem HE {h:Hp} (t:zA h) {op:Nat} (h1:1≤op) (h2:op≤43) {p:Option Addr} {l c:Nat} {al:List In} (v:Dg h p l al) (hal:al.length≤2^40) :
  HC Tryz.prog 99 #[.int .i64 (op:Int),.slice p l c] h (Lx h (eC (op:Int) (al.map In.ts))):=by
 refine aL (args:=[.int .i64 (op:Int),.slice p l c]) mixed Tryz.func99 (by kernel_rfl) (wV op p l c) ?_;unfold tp;refine aW ?_;intro g1 b1 e1 z1;refine aC (Dd (t.ah e1 (by simp)) (op:Int) (by omega) (by omega)) ?_;rintro _ g2 ⟨s,b,rfl,e2⟩;refine ⟨(s,b,(cK (op:Int):Int),decide (cK (op:Int)≠0),()),rfl,?_⟩;dsimp only [flat,aB,ai,nA,cA];refine aW ?_;intro g3 b3 e3 z3;refine ak b3 rfl (by simp) ?_;intro g4 b4 k4 z4;have b4:aO g4 g2.size 158 [.string s,.int .u8 b,.int .i64 (cK (op:Int):Int)]:=b4;have e24:Ext g2 g4:=Ch.trans e3 k4 (fun i hi hl=>by simp at hi; omega);have e04:Ext h g4:=(e1.trans e2).trans e24;rw [ao];refine ad b4 ((cK (op:Int):Int),()) rfl ?_;dsimp only [flat,aB,ai,nA,cA];refine aC (Cu (cK (op:Int)) g4) ?_;rintro _ g5 ⟨pr,cr,rfl,sr,e5⟩;refine ⟨((pr,(cU (cK (op:Int))).length,cr),()),rfl,?_⟩;dsimp only [flat,aB,ai,nA,cA];have e05:=e04.trans e5;have b1:aO g5 h.size 96 zI:=((b1.ah e2 (by simp)).ah e24 (by simp)).ah e5 (by simp);have hl:=v.len
 have out:∀ {L:Lp} {gg:Hp} {e:Nat},Ext h gg→(∃ xs,aO gg h.size 96 xs∧xs.length=10)→eC (op:Int) (al.map In.ts)=.error e →
   (T.ap ⟨h.size,0,none⟩ zI <|
   T.ae ⟨h.size,0,none⟩ [.int .i64,.string,.int .i64,.int .i64,.int .i64,.int .i32,.int .i64,.slice 109,.int .u32,.int .i64] <| fun (n12:Int) (s13:ByteArray) (n14:Int) (n15:Int) (n16:Int) (n17:Int) (n18:Int) (p19:Option Addr) (l20:Nat) (l21:Nat) (n22:Int) (n23:Int) =>
   T.ret (.tuple #[.agg #[.int .i64 n12,.string s13,.int .i64 n14,.int .i64 n15,.int .i64 n16,.int .i32 n17,.int .i64 n18,.slice p19 l20 l21,.int .u32 n22,.int .i64 n23],.int .i64 (e:Int)])) L (Lx h (eC (op:Int) (al.map In.ts))) gg:=by
  rintro L gg e eg ⟨xs,bx,hx⟩ hA;refine ak bx rfl (by rw [hx]; simp [zI]) ?_;intro g' b' k' z';rw [ol _ _ _ (by rw [hx]; simp [zI])] at b';have hd:xs.drop 10=[]:=List.drop_of_length_le (by omega);have b':aO g' h.size 96 zI:=by simpa [zI,hx,hd] using b'
  refine ad b' ((0:Int),(⟨#[]⟩:ByteArray),(0:Int),(0:Int),(0:Int),(0:Int),(0:Int),(none,0,0),(0:Int),(0:Int),()) rfl ?_;refine ⟨Ch.trans eg k' (fun i hi hl=>by simp at hi; omega),?_⟩;rw [hA] <;> rfl
 refine af (fun q=>?_) (fun q=>?_)
 ·have q:¬ (cU (cK (op:Int))).length=l:=by
   have:¬ ((cU (cK (op:Int))).length:Int)=l:=by simpa using q
   omega
  exact out e05 ⟨_,b1,rfl⟩ (by unfold eC; rw [if_pos (by rw [List.length_map]; omega)])
 have q:(cU (cK (op:Int))).length=l:=by
  have:((cU (cK (op:Int))).length:Int)=l:=by simpa using q
  omega
 have hcode:eC (op:Int) (al.map In.ts)=dQ (dT (op:Int)) (cU (cK (op:Int))) (al.map In.ts):=by
  unfold eC;rw [if_neg (by rw [List.length_map]; omega)]
 refine aW ?_;intro g6 b6 e6 z6;refine ak b6 rfl (by simp) ?_;intro g7 b7 k7 z7;have b7:aO g7 g5.size 96 (encI none 0 0 (dT (op:Int))):=b7;have e57:Ext g5 g7:=Ch.trans e6 k7 (fun i hi hl=>by simp at hi; omega);have e07:=e05.trans e57;have b17:=b1.ah e57 (by simp);have sr7:=sr.aT e57 (by simp);have hz5:=e05.size;have hlt1:=b1.lt
 refine bm (cs:=[(false,[.int .i64]),(false,[.int .i64])]) (fun x n h'=>∃ (k:Nat) (y:bC),x.2.1=(k:Int)∧k≤l∧n=l-k∧Ext g7 h'=Ext g7 h'∧Ch [g5.size] g7 h'∧dQ (dT (op:Int)) (cU (cK (op:Int))) (al.map In.ts)=dQ y ((cU (cK (op:Int))).drop k) ((al.map In.ts).drop k) ∧
   ∃ p' l' c',aO h' g5.size 96 (encI p' l' c' y)∧SL h' (g5.size+1) 109 2 p' l' c' (y.e.aw.map cP)) ((0:Int),(0:Int),()) l rfl ⟨0,_,rfl,by omega,by omega,rfl,Ch.refl _ _,rfl,none,0,0,b7,SL.nil _ _ _ _⟩ ?_
 rintro ⟨n13,n14,⟨⟩⟩ n g8 ⟨k,y,hk,hkl,rfl,_,k8,hcl,p',l',c',b8,s8⟩;simp only at hk;subst hk;dsimp only [flat,aB,ai,nA,cA];have e58:Ext g5 g8:=Ch.trans e57 k8 (fun i hi hl=>by simp at hi; omega);have e08:=e05.trans e58;have hz7:g7.size=g5.size+1:=by rw [z7,z6]
 refine af (fun r=>?_) (fun r=>?_)
 ·have r:=of_decide_eq_true r;have hkr:k<(cU (cK (op:Int))).length:=by omega
  have hka:k<al.length:=by omega
  obtain ⟨ar,har,hcr⟩:=(sr.aT e58 (by simp)).cells (i:=k) (by rw [List.length_map]; exact hkr);rw [List.getElem_map] at hcr;obtain ⟨aa,haa,hca⟩:=(v.ah e08).cells k hka;refine aA ⟨by omega,by omega⟩ (an har ?_);rw [show Int.toNat (k:Int)=k by omega];refine aG (kA ((cU (cK (op:Int)))[k]),()) hcr ?_;dsimp only [flat,aB,ai,nA,cA];refine aA ⟨by omega,by omega⟩ (an haa ?_);have hmem:al[k]∈al:=List.getElem_mem hka;have hdr:(cU (cK (op:Int))).drop k=(cU (cK (op:Int)))[k]::(cU (cK (op:Int))).drop (k+1):=List.drop_eq_getElem_cons hkr;have hda:(al.map In.ts).drop k=al[k].ts::(al.map In.ts).drop (k+1):=by
   rw [List.drop_eq_getElem_cons (by rw [List.length_map]; exact hka),List.getElem_map]
  rw [hdr,hda] at hcl;simp only [dQ] at hcl;generalize (cU (cK (op:Int)))[k]=rr at hcl ⊢;generalize al[k]=a at hcl hca hmem ⊢;refine aG ((a.p,a.l,a.c),()) hca ?_;dsimp only [flat,aB,ai,nA,cA];have hz8:g7.size≤g8.size:=k8.size;refine aC (AR b8 s8 (by omega) (by omega) rr ((v.ah e08).uc a hmem) ((v.ah e08).bO a hmem) (v.wf a hmem) (v.many a hmem)) ?_;rintro u g9 ⟨k9,hu⟩;have e59:Ext g5 g9:=Ch.trans e58 k9 (fun i hi hl=>by simp at hi; omega);cases hA:dH y rr a.ts with
  | error e =>
   rw [hA] at hu hcl;obtain ⟨rfl,he,xs,bx,hx⟩:=hu;refine ⟨((e:Int),()),rfl,?_⟩;dsimp only [flat,aB,ai,nA,cA];refine bd (by simp; omega) ?_;exact out (e05.trans e59) ⟨_,b1.ah e59 (by simp),rfl⟩ (by rw [hcode,hcl])
  | ok y' =>
   rw [hA] at hu hcl;obtain ⟨rfl,p2,l2,c2,b9,s9⟩:=hu;refine ⟨((0:Int),()),rfl,?_⟩;dsimp only [flat,aB,ai,nA,cA];refine bo rfl ?_;have hw:IntKind.wrap .i64 ((k:Int)+1)=((k+1:Nat):Int):=by rw [wrap_i64 (by omega) (by omega)]; omega
   refine aM (cs:=[(false,[.int .i64]),(false,[.int .i64])]) (n13,((k+1:Nat):Int),()) (l-(k+1)) rfl (by omega) (by rw [hw]; rfl) ⟨k+1,y',rfl,by omega,rfl,rfl,Ch.trans k8 k9 (fun i hi _=>hi),hcl,p2,l2,c2,b9,s9⟩
 ·have r:=of_decide_eq_false r;have hkl2:k=l:=by omega
  have hcl2:eC (op:Int) (al.map In.ts)=.ok y:=by
   rw [hcode,hcl,List.drop_of_length_le (by omega)] <;> rfl
  refine ad b8 (y.kind,y.name,y.inst.op,y.inst.a,y.inst.b,y.inst.n,y.inst.form,(p',l',c'),(y.e.num:Int),y.n,()) rfl ?_;dsimp only [flat,aB,ai,nA,cA];refine ak (b1.ah e58 (by simp)) rfl (by simp [zI]) ?_;intro g9 b9 k9 z9;have b9:aO g9 h.size 96 (encI p' l' c' y):=b9;refine ad b9 (y.kind,y.name,y.inst.op,y.inst.a,y.inst.b,y.inst.n,y.inst.form,(p',l',c'),(y.e.num:Int),y.n,()) rfl ?_;refine ⟨Ch.trans e08 k9 (fun i hi hl=>by simp at hi; omega),?_⟩;rw [hcl2];refine ⟨p',l',c',rfl,(Sx.SL.mono s8 (by omega)).aT k9 (fun i hi hm=>by have:=(Sx.SL.bO s8 hi).1; simp at hm; omega)⟩
def xw (u:bL × bC):List Value:=encI u.1.p u.1.l u.1.c u.2
structure dI (h:Hp) (b:Nat) (p:Option Addr) (l c:Nat) (us:List (bL × bC)):Prop where
 out:SL h b 96 10 p l c (us.map xw)
 own:∀ u,u∈us→SL h b 109 2 u.1.p u.1.l u.1.c (u.2.e.aw.map cP)
 po:∀ u,u∈us→∀ i,i∈az u.1.p→i∉az p
 pp:us.Pairwise fun u v=>∀ i,i∈az u.1.p→i∉az v.1.p
theorem dI.len {h:Hp} {b:Nat} {p:Option Addr} {l c:Nat} {us:List (bL × bC)} (A:dI h b p l c us):l=us.length:=by rw [A.out.1,List.length_map]
theorem dI.ah {ws:List Nat} {h:Hp} {b:Nat} {p:Option Addr} {l c:Nat} {us:List (bL × bC)} (A:dI h b p l c us) (k:Ch ws h h') (hw:∀ i,i∈ws→i<h.size→i<b):dI h' b p l c us :=
 ⟨SL.wv A.out k hw,fun u hu=>SL.wv (A.own u hu) k hw,A.po,A.pp⟩
theorem dI.mono {h:Hp} {b b':Nat} {p:Option Addr} {l c:Nat} {us:List (bL × bC)} (A:dI h b p l c us) (hb:b'≤b):dI h b' p l c us :=
 ⟨Sx.SL.mono A.out hb,fun u hu=>Sx.SL.mono (A.own u hu) hb,A.po,A.pp⟩
theorem dI.nil (h:Hp) (b:Nat):dI h b none 0 0 []:=⟨SL.nil _ _ _ _,by simp,by simp,List.Pairwise.nil⟩
theorem dI.snoc {h:Hp} {b:Nat} {p p':Option Addr} {l c c':Nat} {us:List (bL × bC)} (A:dI h b p l c us) {u:bL × bC} (o:SL h' b 96 10 p' (l+1) c' (us.map xw++[xw u])) (k:Ch (az p) h h') (hp:p'=p∨∃ x,p'=some x∧h.size≤x.block)
  (ha:SL h b 109 2 u.1.p u.1.l u.1.c (u.2.e.aw.map cP)) (h1:∀ i,i∈az u.1.p→i∉az p) (h2:∀ x,x∈us→∀ i,i∈az x.1.p→i∉az u.1.p):dI h' b p' (l+1) c' (us++[u]):=by
 have hp':∀ i,i∈az p'→i∈az p∨h.size≤i:=by
  intro i hi;rcases hp with rfl | ⟨x,rfl,hx⟩
  ·exact .inl hi
  ·simp [az] at hi; right; omega
 refine ⟨by rw [List.map_append]; exact o,fun x hx=>?_,fun x hx i hi hh=>?_,List.pairwise_append.2 ⟨A.pp,by simp,fun x hx y hy i hi=>?_⟩⟩
 ·rcases List.mem_append.1 hx with hx | hx
  ·exact Sx.SL.aT (A.own x hx) k fun i hi=>A.po x hx i hi
  ·have hx:x=u:=by simpa using hx
   subst hx;exact Sx.SL.aT ha k h1
 ·rcases List.mem_append.1 hx with hx | hx
  ·rcases hp' i hh with h' | h'
   ·exact A.po x hx i hi h'
   ·have:=(Sx.SL.bO (A.own x hx) hi).2; omega
  ·have hx:x=u:=by simpa using hx
   subst hx;rcases hp' i hh with h' | h'
   ·exact h1 i hi h'
   ·have:=(Sx.SL.bO ha hi).2; omega
 ·have hy:y=u:=by simpa using hy
  subst hy;exact h2 x hx i hi
theorem HU:Tryz.prog.underlying 23=some (.slice 96):=by kernel_rfl
theorem DA:(Tryz.prog.info? 96).map (fun i=>(i.zero,i.size,i.bytes))=some (some (.agg zI.toArray),10,104):=by kernel_rfl
theorem Jk (p:Option Addr) (l c:Nat) (x:bC):Instr.fill (fun j=>some (j*10,10)) ((Array.range (1*10)).map ((Value.agg zI.toArray).cells[· % (Value.agg zI.toArray).cells.size]!)) [(0,.agg (encI p l c x).toArray)]=some (encI p l c x).toArray:=by kernel_rfl
theorem SL.KS {h:Hp} {b g:Nat} {xs:List Value} (bx:aO h g 96 xs) (hb:b≤g) (hn:xs.length=10):SL h b 96 10 (some ⟨g,0,none⟩) 1 1 [xs]:=by
 refine ⟨rfl,by simpa using hn,g,[],[],rfl,hb,⟨Nat.le_refl _,by omega⟩,?_,by simp⟩;simpa using bx
section
variable {L:Lp} {K:Value→Hp→Prop} {h:Hp}
theorem jT {k:Option Addr→Nat→Nat→T} {p:Option Addr} {l c:Nat} {x:bC} (hk:∀ h',SL h' h.size 96 10 (some ⟨h.size,0,none⟩) 1 1 [encI p l c x]→Ext h h'→h'.size=h.size+1→k (some ⟨h.size,0,none⟩) 1 1 L K h') :
  T.aY Tryz.prog (Instr.buildSlice 23 1 #[(0,.agg (encI p l c x).toArray)]) false [(false,[.slice 0])] k L K h:=by
 refine eA HU DA (by omega) (by omega) (Jk p l c x) ?_;intro h' b e z;exact hk h' (SL.KS b (Nat.le_refl _) rfl) e z
end
def JR (k:Int) (a:bL) (s:ByteArray) (b:bL) (n sec:Int):Value:=.agg #[.int .i64 k,a.v,.string s,b.v,.int .u32 n,.int .i64 sec]
structure iy (h:Hp) (b:Nat) (t:kg) (sl:bL) (us:List (bL × bC)) (se:bL):Prop where
 sD:dI h b sl.p sl.l sl.c us
 eq:us.map (·.2)=t.items
 e:SL h b 109 2 se.p se.l se.c (t.e.aw.map cP)
 MG:us=[]∨se.p=none
theorem iy.ah {ws:List Nat} {h h':Hp} {b:Nat} {t:kg} {sl:bL} {us:List (bL × bC)} {se:bL} (A:iy h b t sl us se) (k:Ch ws h h') (hw:∀ i,i∈ws→i<h.size→i<b):iy h' b t sl us se :=
 ⟨A.sD.ah k hw,A.eq,SL.wv A.e k hw,A.MG⟩
theorem iy.mono {h:Hp} {b b':Nat} {t:kg} {sl:bL} {us:List (bL × bC)} {se:bL} (A:iy h b t sl us se) (hb:b'≤b):iy h b' t sl us se:=⟨A.sD.mono hb,A.eq,Sx.SL.mono A.e hb,A.MG⟩
def xq (k:Nat) (args:List (List Tok)):Except Nat (List bC):=if args=[] then .error 20 else cF k args
def L8 (h:Hp) (r:Except Nat (List bC)) (u:Value) (h':Hp):Prop:=Ext h h'∧match r with
 | .error e=>u=.tuple #[.slice none 0 0,.int .i64 (e:Int)]∧(e=20∨e=21)
 | .ok l=>∃ p n c us,u=.tuple #[.slice p n c,.int .i64 0]∧dI h' h.size p n c us∧us.map (·.2)=l
theorem I9 (ts:List Tok):jq 5 ts=match ia (-128) 255 ts with | .error e=>.error e | .ok n=>.ok { cR 5 with n:=n }:=by
 unfold jq;rw [if_pos rfl]
 all_goals (cases ia (-128) 255 ts <;> rfl)
theorem Iq (ts:List Tok):jq 6 ts=match bU ts with | .error e=>.error e | .ok x=>.ok { cR 6 with e:=x }:=by
 unfold jq;rw [if_neg (by decide)]
 all_goals (cases bU ts <;> rfl)
theorem Aw {h:Hp} {k:Nat} (hk56:k=5∨k=6) {p:Option Addr} {l c:Nat} {al:List In} (v:Dg h p l al) (hal:al.length≤2^32) :
  HC Tryz.prog 128 #[.int .i64 (k:Int),.slice p l c] h (L8 h (xq k (al.map In.ts))):=by
 refine aL (args:=[.int .i64 (k:Int),.slice p l c]) mixed Tryz.func128 (by kernel_rfl) (tN k p l c) ?_;unfold rN;have hl:=v.len;refine af (fun q=>?_) (fun q=>?_)
 ·have q:l=0:=eV q;refine ⟨Ch.refl _ _,?_⟩
  have:xq k (al.map In.ts)=.error 20:=by
   unfold xq;rw [if_pos (by rw [List.eq_nil_of_length_eq_zero (show al.length=0 by omega)]; rfl)]
  rw [this];exact ⟨rfl,.inl rfl⟩
 have q:¬ l=0:=fy q;have hR:xq k (al.map In.ts)=cF k (al.map In.ts):=by
  unfold xq;rw [if_neg (fun hh=>by have:=congrArg List.length hh; simp at this; rw [this] at hl; simp at hl; omega)]
 rw [hR]
 refine bm (cs:=[(false,[.slice 0]),(false,[.int .i64]),(false,[.slice 0]),(false,[.int .i64])]) (fun x n h'=>∃ (i:Nat) (us:List (bL × bC)),x.2.2.2.1=(i:Int)∧i≤l∧n=l-i∧Ext h h'∧dI h' h.size x.2.2.1.1 x.2.2.1.2.1 x.2.2.1.2.2 us∧us.length=i ∧
   cF k (al.map In.ts)=(match cF k ((al.map In.ts).drop i) with | .error e=>.error e | .ok r=>.ok (us.map (·.2)++r))) ((none,0,0),(0:Int),(none,0,0),(0:Int),()) l rfl
  ⟨0,[],rfl,by omega,by omega,Ch.refl _ _,dI.nil _ _,rfl,by rw [List.drop_zero]; cases cF k (al.map In.ts) <;> rfl⟩ ?_
 rintro ⟨⟨p2,l3,l4⟩,n5,⟨p6,l7,l8⟩,n9,⟨⟩⟩ n h1 ⟨i,us,hi,hil,rfl,e1,A,hus,hit⟩;simp only at hi A;subst hi;dsimp only [flat,aB,ai,nA,cA];refine af (fun r=>?_) (fun r=>?_)
 ·have r:=of_decide_eq_true r;have hia:i<al.length:=by omega
  obtain ⟨aa,haa,hca⟩:=(v.ah e1).cells i hia;refine aA ⟨by omega,by omega⟩ (an haa ?_);rw [show Int.toNat (i:Int)=i by omega];have hmem:al[i]∈al:=List.getElem_mem hia;have hda:(al.map In.ts).drop i=al[i].ts::(al.map In.ts).drop (i+1):=by
   rw [List.drop_eq_getElem_cons (by rw [List.length_map]; exact hia),List.getElem_map]
  rw [hda] at hit;simp only [cF] at hit;generalize al[i]=a at hit hca hmem;refine aG ((a.p,a.l,a.c),()) hca ?_;dsimp only [flat,aB,ai,nA,cA];refine aW ?_;intro h2 b2 e2 z2;refine ak b2 rfl (by simp) ?_;intro h3 b3 k3 z3;have b3:aO h3 h1.size 96 (encI none 0 0 (cR k)):=b3;have e13:Ext h1 h3:=Ch.trans e2 k3 (fun j hj hl=>by simp at hj; omega);have e03:=e1.trans e13;have A3:=A.ah e13 (by simp);have hz1:=e1.size;have hlt3:=b3.lt
  have push:∀ {L:Lp} {K:Value→Hp→Prop} {kk:Option Addr→Nat→Nat→T} {hh:Hp} {sp:bL} {y:bC},Ext h3 hh∨Ch [h1.size] h3 hh→Ch [h1.size] h3 hh→SL hh (h1.size+1) 109 2 sp.p sp.l sp.c (y.e.aw.map cP) →
    (∀ p' c' h',Ext h h'→dI h' h.size p' (l7+1) c' (us++[(sp,y)])→kk p' (l7+1) c' L K h') →
    T.aY Tryz.prog (Instr.buildSlice 23 1 #[(0,.agg (encI sp.p sp.l sp.c y).toArray)]) false [(false,[.slice 0])] (fun q m cc=>T.aY Tryz.prog (Builtin.append_ #[23,23] 23 #[.slice p6 l7 l8,.slice q m cc]) false [(false,[.slice 0])] kk) L K hh:=by
   intro L K kk hh sp y _ kc sy hk;have hzh:=kc.size;have e0h:Ext h hh:=Ch.trans e03 kc (fun j hj hl=>by simp at hj; omega);have Ah:dI hh h.size p6 l7 l8 us:=by
    refine ⟨Sx.SL.aT A3.out kc (fun j hj hm=>?_),fun u hu=>Sx.SL.aT (A3.own u hu) kc (fun j hj hm=>?_),A3.po,A3.pp⟩
    ·have:=(Sx.SL.bO A.out hj).2; simp at hm; omega
    ·have:=(Sx.SL.bO (A.own u hu) hj).2; simp at hm; omega
   refine nS (e:=96) (z:=.agg zI.toArray) (sz:=10) (by':=104) (vs:=encI sp.p sp.l sp.c y) HU DA rfl (by omega) (by omega) (Jk _ _ _ _) rfl rfl Ah.out e0h.size (by have:=A.len; omega) (by have:=A.len; omega) ?_;intro p' c' h' o k' hp';refine hk p' c' h' (Ch.trans e0h k' (fun j hj hl=>by have:=(Sx.SL.bO Ah.out hj).1; omega)) (Ah.snoc (u:=(sp,y)) o k' hp' (Sx.SL.mono sy (by omega)) (fun j hj hm=>?_) (fun x hx j hj hm=>?_))
   ·have h1:=(Sx.SL.bO sy hj).1;have h2:=(Sx.SL.bO A.out hm).2;omega
   ·have h1:=(Sx.SL.bO sy hm).1;have h2:=(Sx.SL.bO (A.own x hx) hj).2;omega
  have hw:IntKind.wrap .i64 ((i:Int)+1)=((i+1:Nat):Int):=by rw [wrap_i64 (by omega) (by omega)]; omega
  have v3:=v.ah e03;rcases hk56 with rfl | rfl
  ·refine bd rfl ?_;refine aC (oo (v3.uc a hmem) (v3.bO a hmem) (v.wf a hmem) (v.many a hmem) (-128) 255) ?_;rintro _ h4 ⟨rfl,e4⟩;rw [I9] at hit;cases hn:ia (-128) 255 a.ts with
   | error e =>
    rw [hn] at hit;have he:=gU (v.wf a hmem) hn;refine ⟨((0:Int),(e:Int),()),rfl,?_⟩;dsimp only [flat,aB,ai,nA,cA];rw [ao];refine ak (b3.ah e4 (by simp)) rfl (by simp [encI]) ?_;intro h5 b5 k5 z5;refine bd (by simp; omega) ?_;refine ⟨Ch.trans (e03.trans e4) k5 (fun j hj hl=>by simp at hj; omega),?_⟩;rw [hit];exact ⟨rfl,he⟩
   | ok nn =>
    rw [hn] at hit;refine ⟨(nn,(0:Int),()),rfl,?_⟩;dsimp only [flat,aB,ai,nA,cA];rw [ao];refine ak (b3.ah e4 (by simp)) rfl (by simp [encI]) ?_;intro h5 b5 k5 z5;have b5:aO h5 h1.size 96 (encI none 0 0 { cR 5 with n:=nn }):=b5;refine bo rfl ?_;refine ad b5 ((5:Int),(⟨#[]⟩:ByteArray),(0:Int),(0:Int),(0:Int),(0:Int),(0:Int),(none,0,0),(0:Int),nn,()) rfl ?_;dsimp only [flat,aB,ai,nA,cA];have k35:Ch [h1.size] h3 h5:=Ch.trans (e4.mono (by simp)) k5 (fun j hj _=>hj);refine push (sp:=⟨none,0,0⟩) (y:={ cR 5 with n:=nn }) (.inr k35) k35 (SL.nil _ _ _ _) ?_;intro p' c' h6 e6 A6;refine aM (cs:=[(false,[.slice 0]),(false,[.int .i64]),(false,[.slice 0]),(false,[.int .i64])]) ((p2,l3,l4),n5,(p',l7+1,c'),((i+1:Nat):Int),()) (l-(i+1)) rfl (by omega) (by rw [hw]; rfl) ⟨i+1,_,rfl,by omega,rfl,e6,A6,by simp [hus],?_⟩;rw [hit];cases cF 5 ((al.map In.ts).drop (i+1)) <;> simp
  ·refine bo rfl ?_;refine aC (jb (v3.uc a hmem) (v3.bO a hmem) (v.wf a hmem) (v.many a hmem)) ?_;rintro u h4 ⟨e4,hu⟩;rw [Iq] at hit;cases hn:bU a.ts with
   | error e =>
    rw [hn] at hit hu;have he:=dM (v.wf a hmem) hn;have hu:u=.tuple #[.agg #[.slice none 0 0,.int .u32 0],.int .i64 (e:Int)]:=hu;subst hu;refine ⟨((none,0,0),(0:Int),(e:Int),()),rfl,?_⟩;dsimp only [flat,aB,ai,nA,cA];rw [ao];refine ak (b3.ah e4 (by simp)) rfl (by simp [encI]) ?_;intro h5 b5 k5 z5;refine bd (by simp; omega) ?_;refine ⟨Ch.trans (e03.trans e4) k5 (fun j hj hl=>by simp at hj; omega),?_⟩;rw [hit];exact ⟨rfl,he⟩
   | ok y =>
    rw [hn] at hit hu;obtain ⟨p5,l5,c5,rfl,sl,gd⟩:=hu;refine ⟨((p5,l5,c5),(y.num:Int),(0:Int),()),rfl,?_⟩;dsimp only [flat,aB,ai,nA,cA];rw [ao];refine ak (b3.ah e4 (by simp)) rfl (by simp [encI]) ?_;intro h5 b5 k5 z5;have b5:aO h5 h1.size 96 (encI p5 l5 c5 { cR 6 with e:=y }):=b5;refine bo rfl ?_;refine ad b5 ((6:Int),(⟨#[]⟩:ByteArray),(0:Int),(0:Int),(0:Int),(0:Int),(0:Int),(p5,l5,c5),(y.num:Int),(0:Int),()) rfl ?_;dsimp only [flat,aB,ai,nA,cA];have k35:Ch [h1.size] h3 h5:=Ch.trans (e4.mono (by simp)) k5 (fun j hj _=>hj);refine push (sp:=⟨p5,l5,c5⟩) (y:={ cR 6 with e:=y }) (.inr k35) k35 ((Sx.SL.mono sl (by omega)).aT k5 (fun j hj hm=>by have:=(Sx.SL.bO sl hj).1; simp at hm; omega)) ?_;intro p' c' h6 e6 A6;refine aM (cs:=[(false,[.slice 0]),(false,[.int .i64]),(false,[.slice 0]),(false,[.int .i64])]) ((p2,l3,l4),n5,(p',l7+1,c'),((i+1:Nat):Int),()) (l-(i+1)) rfl (by omega) (by rw [hw]; rfl) ⟨i+1,_,rfl,by omega,rfl,e6,A6,by simp [hus],?_⟩;rw [hit];cases cF 6 ((al.map In.ts).drop (i+1)) <;> simp
 ·have r:=of_decide_eq_false r
  have:i=l:=by omega
  subst this;rw [List.drop_of_length_le (by rw [List.length_map]; omega)] at hit;refine ⟨e1,?_⟩;rw [hit];exact ⟨p6,l7,l8,us,rfl,A,by simp [cF]⟩
theorem EO (s:ByteArray) (h:Hp):ur Tryz.prog 126 [.string s] h (.tuple #[.int .i64 (if cY s=-2 then 0 else cY s),.bool (decide (cY s≠-2))]):=by
 refine ec mixed Tryz.func126 (by kernel_rfl) (sw s) ?_;unfold pu;refine af (fun g=>?_) (fun g=>?_)
 ·have q0:s.data.toList=[112,111,111,108]:=(ByteArray.toList_eq s).symm.trans (eq_of_beq g);refine ⟨?_,rfl⟩
  have:cY s=0:=by unfold cY; simp [q0]
  rw [this] <;> rfl
 ·have n0:¬ s.data.toList=[112,111,111,108]:=fun e=>ne_of_beq_false g ((ByteArray.toList_eq s).trans e)
  refine af (fun g=>?_) (fun g=>?_)
  ·have q1:s.data.toList=[97,108,105,103,110]:=(ByteArray.toList_eq s).symm.trans (eq_of_beq g);refine bd (by rw [ByteArray.toList_eq,q1]; rfl) ?_;refine ⟨?_,rfl⟩
   have:cY s=1:=by unfold cY; simp [n0,q1]
   rw [this] <;> rfl
  ·have n1:¬ s.data.toList=[97,108,105,103,110]:=fun e=>ne_of_beq_false g ((ByteArray.toList_eq s).trans e)
   refine af (fun g=>?_) (fun g=>?_)
   ·have q2:s.data.toList=[115,112,97,99,101]:=(ByteArray.toList_eq s).symm.trans (eq_of_beq g);refine bd (by rw [ByteArray.toList_eq,q2]; rfl) ?_;refine ⟨?_,rfl⟩
    have:cY s=1:=by unfold cY; simp [n0,n1,q2]
    rw [this] <;> rfl
   ·have n2:¬ s.data.toList=[115,112,97,99,101]:=fun e=>ne_of_beq_false g ((ByteArray.toList_eq s).trans e)
    refine af (fun g=>?_) (fun g=>?_)
    ·have q3:s.data.toList=[103,108,111,98,97,108]:=(ByteArray.toList_eq s).symm.trans (eq_of_beq g);refine bd (by rw [ByteArray.toList_eq,q3]; rfl) ?_;refine ⟨?_,rfl⟩
     have:cY s=1:=by unfold cY; simp [n0,n1,n2,q3]
     rw [this] <;> rfl
    ·have n3:¬ s.data.toList=[103,108,111,98,97,108]:=fun e=>ne_of_beq_false g ((ByteArray.toList_eq s).trans e)
     refine af (fun g=>?_) (fun g=>?_)
     ·have q4:s.data.toList=[115,101,99,116,105,111,110]:=(ByteArray.toList_eq s).symm.trans (eq_of_beq g);refine ⟨?_,rfl⟩
      have:cY s=1:=by unfold cY; simp [n0,n1,n2,n3,q4]
      rw [this] <;> rfl
     ·have n4:¬ s.data.toList=[115,101,99,116,105,111,110]:=fun e=>ne_of_beq_false g ((ByteArray.toList_eq s).trans e)
      refine af (fun g=>?_) (fun g=>?_)
      ·have q5:s.data.toList=[101,113,117]:=(ByteArray.toList_eq s).symm.trans (eq_of_beq g);refine ⟨?_,rfl⟩
       have:cY s=2:=by unfold cY; simp [n0,n1,n2,n3,n4,q5]
       rw [this] <;> rfl
      ·have n5:¬ s.data.toList=[101,113,117]:=fun e=>ne_of_beq_false g ((ByteArray.toList_eq s).trans e)
       refine af (fun g=>?_) (fun g=>?_)
       ·have q6:s.data.toList=[98,121,116,101]:=(ByteArray.toList_eq s).symm.trans (eq_of_beq g);refine bd (by rw [ByteArray.toList_eq,q6]; rfl) ?_;refine ⟨?_,rfl⟩
        have:cY s=-1:=by unfold cY; simp [n0,n1,n2,n3,n4,n5,q6]
        rw [this] <;> rfl
       ·have n6:¬ s.data.toList=[98,121,116,101]:=fun e=>ne_of_beq_false g ((ByteArray.toList_eq s).trans e)
        refine af (fun g=>?_) (fun g=>?_)
        ·have q7:s.data.toList=[119,111,114,100]:=(ByteArray.toList_eq s).symm.trans (eq_of_beq g);refine ⟨?_,rfl⟩
         have:cY s=-1:=by unfold cY; simp [n0,n1,n2,n3,n4,n5,n6,q7]
         rw [this] <;> rfl
        ·have n7:¬ s.data.toList=[119,111,114,100]:=fun e=>ne_of_beq_false g ((ByteArray.toList_eq s).trans e)
         refine ⟨?_,rfl⟩
         have:cY s=-2:=by unfold cY; simp [n0,n1,n2,n3,n4,n5,n6,n7]
         rw [this] <;> rfl
section
variable {L:Lp} {K:Value→Hp→Prop} {h:Hp}
def ru (k:Int) (p:Option Addr) (l c:Nat) (nm:ByteArray) (p':Option Addr) (l' c':Nat) (n sec:Int):List Value:=[.int .i64 k,.slice p l c,.string nm,.slice p' l' c',.int .u32 n,.int .i64 sec]
theorem y6 {g:Nat} {e:TypeId} {xs:List Value} {k:Int} {p:Option Addr} {l c:Nat} {nm:ByteArray} {p':Option Addr} {l' c':Nat} {n sec:Int} {cont:Int→Option Addr→Nat→Nat→ByteArray→Option Addr→Nat→Nat→Int→Int→T}
  (bx:aO h g e xs) (hx:xs.length=6) (hk:∀ h',aO h' g e (ru k p l c nm p' l' c' n sec)→Ch [g] h h'→h'.size=h.size→cont k p l c nm p' l' c' n sec L K h') :
  (T.ap ⟨g,0,none⟩ [.int .i64 k,.slice p l c,.string nm,.slice p' l' c',.int .u32 n,.int .i64 sec] <| T.ae ⟨g,0,none⟩ [.int .i64,.slice 96,.string,.slice 109,.int .u32,.int .i64] cont) L K h:=by
 refine ak bx rfl (by rw [hx]; simp) ?_;intro h' b k1 z;rw [ol _ _ _ (by rw [hx]; simp)] at b;have hd:xs.drop 6=[]:=List.drop_of_length_le (by omega);have b:aO h' g e (ru k p l c nm p' l' c' n sec):=by simpa [ru,hx,hd] using b
 exact ad b (k,(p,l,c),nm,(p',l',c'),n,sec,()) rfl (hk h' b k1 z)
end
def IK (w:Nat):Int:=if w=2 then -1 else (w:Int)
def J7 (h:Hp) (r:Except Nat (kg × Nat)) (u:Value) (h':Hp):Prop:=Ext h h'∧match r with
 | .error e=>∃ k p l c nm p' l' c' n sec w,u=.tuple #[.agg (ru k p l c nm p' l' c' n sec).toArray,.int .i64 w,.int .i64 (e:Int)]∧e≠0
 | .ok (t,w)=>∃ sl us se,u=.tuple #[JR t.kind sl t.name se t.e.num t.sec,.int .i64 (IK w),.int .i64 0]∧iy h' h.size t sl us se
theorem sL {h:Hp} {p:Option Addr} {l:Nat} {al:List In} (v:Dg h p l al) {k:Nat} (hk:k<al.length):∃ a,p=some a∧aH h (a.add (k*1)) 0 [.slice al[k].p al[k].l al[k].c]:=v.cells k hk
theorem Ht (a:Addr):a.add (0*1)=a:=by simp [Addr.add]
theorem GI {h : Hp} {b : Nat} {p : Option Addr} {x : bC} (s : SL h b 96 10 p 1 1 [encI none 0 0 x]) (he : x.e.aw = []) : iy h b (fc x) ⟨p, 1, 1⟩ [(⟨none, 0, 0⟩, x)] ⟨none, 0, 0⟩ :=
  ⟨⟨s, by intro u hu; have : u = (⟨none, 0, 0⟩, x) := by simpa using hu
          subst this;rw [he]
          exact SL.nil _ _ _ _, by intro u hu; have : u = (⟨none, 0, 0⟩, x) := by simpa using hu
                                   subst this;simp [az], by simp⟩, rfl, SL.nil _ _ _ _, .inr rfl⟩
theorem rD {ts:List Tok} {e:Nat} (h:nN ts=.error e):e=20:=by
 unfold nN at h;split at h
 ·split at h
  ·cases h
  ·injection h with h
   exact h.symm
 ·injection h with h
  exact h.symm
theorem yP {h:Hp} {p:Option Addr} {l c:Nat} {al:List In} (v:Dg h p l al) (hal:al.length≤2^32) (s:ByteArray) :
  HC Tryz.prog 100 #[.string s,.slice p l c] h (J7 h (fZ s (al.map In.ts))):=by
 refine aL (args:=[.string s,.slice p l c]) mixed Tryz.func100 (by kernel_rfl) (oJ s p l c) ?_;unfold ki;have hl:=v.len;refine aW ?_;intro g1 b1 e1 z1;refine iZ (EO s g1) ((if cY s=-2 then (0:Int) else cY s:Int),decide (cY s≠-2),()) rfl ?_;dsimp only [flat,aB,ai,nA,cA]
 have bad:∀ {gg:Hp} {k:Int} {nm:ByteArray} {sec w:Int} {e:Nat} {p1 p2:Option Addr} {l1 c1 l2 c2:Nat} {n1:Int} {L:Lp},Ext h gg→(∃ xs,aO gg h.size 134 xs∧xs.length=6)→fZ s (al.map In.ts)=.error e→e≠0 →
   (T.ap ⟨h.size,0,none⟩ [.int .i64 k,.slice p1 l1 c1,.string nm,.slice p2 l2 c2,.int .u32 n1,.int .i64 sec] <|
   T.ae ⟨h.size,0,none⟩ [.int .i64,.slice 96,.string,.slice 109,.int .u32,.int .i64] <| fun (n5:Int) (p6:Option Addr) (l7:Nat) (l8:Nat) (s9:ByteArray) (p10:Option Addr) (l11:Nat) (l12:Nat) (n13:Int) (n14:Int) =>
   T.ret (.tuple #[.agg #[.int .i64 n5,.slice p6 l7 l8,.string s9,.slice p10 l11 l12,.int .u32 n13,.int .i64 n14],.int .i64 w,.int .i64 (e:Int)])) L (J7 h (fZ s (al.map In.ts))) gg:=by
  rintro gg k nm sec w e p1 p2 l1 c1 l2 c2 n1 L eg ⟨xs,bx,hx⟩ hA he;refine y6 bx hx ?_;intro h' b' k' z';refine ⟨Ch.trans eg k' (fun i hi hl=>by simp at hi; omega),?_⟩;rw [hA];exact ⟨k,p1,l1,c1,nm,p2,l2,c2,n1,sec,w,rfl,he⟩
 have good:∀ {gg:Hp} {t:kg} {w:Nat} {wi:Int} {sl se:bL} {us:List (bL × bC)} {L:Lp},Ext h gg→(∃ xs,aO gg h.size 134 xs∧xs.length=6)→fZ s (al.map In.ts)=.ok (t,w)→wi=IK w→iy gg (h.size+1) t sl us se →
   (T.ap ⟨h.size,0,none⟩ [.int .i64 (t.kind:Int),.slice sl.p sl.l sl.c,.string t.name,.slice se.p se.l se.c,.int .u32 (t.e.num:Int),.int .i64 (t.sec:Int)] <|
   T.ae ⟨h.size,0,none⟩ [.int .i64,.slice 96,.string,.slice 109,.int .u32,.int .i64] <| fun (n5:Int) (p6:Option Addr) (l7:Nat) (l8:Nat) (s9:ByteArray) (p10:Option Addr) (l11:Nat) (l12:Nat) (n13:Int) (n14:Int) =>
   T.ret (.tuple #[.agg #[.int .i64 n5,.slice p6 l7 l8,.string s9,.slice p10 l11 l12,.int .u32 n13,.int .i64 n14],.int .i64 wi,.int .i64 (0:Int)])) L (J7 h (fZ s (al.map In.ts))) gg:=by
  rintro gg t w wi sl se us L eg ⟨xs,bx,hx⟩ hA rfl A;refine y6 bx hx ?_;intro h' b' k' z';refine ⟨Ch.trans eg k' (fun i hi hl=>by simp at hi; omega),?_⟩;rw [hA];exact ⟨sl,us,se,rfl,(A.ah k' (fun i hi hl=>by simp at hi; omega)).mono (by omega)⟩
 have bz:∀ {gg:Hp},Ext g1 gg→∃ xs,aO gg h.size 134 xs∧xs.length=6:=fun e=>⟨_,b1.ah e (by simp),rfl⟩
 have hbad:cY s=-2∨(0≤cY s∧(al.length:Int)≠cY s)→fZ s (al.map In.ts)=.error 20:=by
  intro hh;unfold fZ;simp only;rw [if_pos (by rw [List.length_map]; exact hh)]
 refine dL (cs:=[(false,[.int .i64]),(false,[.int .i64])]) (fun y h'=>h'=g1∧¬ (cY s=-2∨(0≤cY s∧((al.map In.ts).length:Int)≠cY s))) ?_ ?_
 ·refine af (fun q=>?_) (fun q=>?_)
  ·have q:cY s=-2:=by simpa using q
   exact bad (e:=20) e1 (bz (Ch.refl _ _)) (hbad (.inl q)) (by decide)
  have q:¬ cY s=-2:=by simpa using q
  rw [if_neg q];refine af (fun r=>?_) (fun r=>?_)
  ·have r:=of_decide_eq_true r;refine af (fun u=>?_) (fun u=>?_)
   ·have u:¬ (l:Int)=cY s:=by simpa using u
    exact bad (e:=20) e1 (bz (Ch.refl _ _)) (hbad (.inr ⟨r,by omega⟩)) (by decide)
   ·have u:(l:Int)=cY s:=by simpa using u
    exact bi (cs:=[(false,[.int .i64]),(false,[.int .i64])]) ((0:Int),(0:Int),()) rfl rfl ⟨rfl,by rintro (x | x); exact q x; rw [List.length_map] at x; omega⟩
  ·have r:=of_decide_eq_false r;exact bi (cs:=[(false,[.int .i64]),(false,[.int .i64])]) ((0:Int),(0:Int),()) rfl rfl ⟨rfl,by rintro (x | x); exact q x; omega⟩
 rintro ⟨n5,n6,⟨⟩⟩ h9 ⟨e9,hcnt⟩;have e9:=e9.symm;subst e9;dsimp only [flat,aB,ai,nA,cA];clear hbad;have hD:fZ s (al.map In.ts)=(if s.data.toList=[112,111,111,108] then .ok (fc (cR 4),0)
 else if s.data.toList=[97,108,105,103,110] then match ia 1 256 (ag (al.map In.ts) 0) with
  | .error e=>.error e
  | .ok n=>if qf n then .ok (fc { cR 3 with n:=n },2) else .error 21
 else if s.data.toList=[115,112,97,99,101] then match ia 0 1048576 (ag (al.map In.ts) 0) with
  | .error e=>.error e
  | .ok n=>.ok (fc { cR 7 with n:=n },1)
 else if s.data.toList=[98,121,116,101] then match xq 5 (al.map In.ts) with
  | .error e=>.error e
  | .ok l=>.ok ({ bF with kind:=2,items:=l },1)
 else if s.data.toList=[119,111,114,100] then match xq 6 (al.map In.ts) with
  | .error e=>.error e
  | .ok l=>.ok ({ bF with kind:=2,items:=l },1)
 else if s.data.toList=[101,113,117] then match nN (ag (al.map In.ts) 0) with
  | .error e=>.error e
  | .ok s=>match bU (ag (al.map In.ts) 1) with
   | .error e=>.error e
   | .ok x=>.ok ({ bF with kind:=3,name:=s,e:=x },2)
 else if s.data.toList=[103,108,111,98,97,108] then match nN (ag (al.map In.ts) 0) with
  | .error e=>.error e
  | .ok s=>.ok ({ bF with kind:=4,name:=s },2)
 else match ag (al.map In.ts) 0 with
  | [t]=>if t.kind=1∧t.text.data.toList=[116,101,120,116] then .ok ({ bF with kind:=5 },2) else if t.kind=1∧t.text.data.toList=[100,97,116,97] then .ok ({ bF with kind:=5,sec:=1 },2) else .error 20
  | _=>.error 20):=by
  unfold fZ xq;simp only;rw [if_neg hcnt]
  by_cases hz:al.map In.ts=[]
  ·simp only [hz,if_true] <;> rfl
  ·simp only [hz,if_false] <;> rfl
 have v1:=v.ah e1;have hh1:g1.size=h.size+1:=z1;have arg:∀ i,(hi:i<al.length)→ag (al.map In.ts) i=al[i].ts:=by
  intro i hi;unfold ag;rw [List.getD_eq_getElem?_getD,List.getElem?_eq_getElem (by rw [List.length_map]; exact hi),Option.getD_some,List.getElem_map]
 have mem:∀ i,(hi:i<al.length)→al[i]∈al:=fun i hi=>List.getElem_mem hi
 refine af (fun q=>?_) (fun q=>?_)
 ·have q:s.data.toList=[112,111,111,108]:=(ByteArray.toList_eq s).symm.trans (eq_of_beq q);refine jT (p:=none) (l:=0) (c:=0) (x:=cR 4) ?_;intro h2 s2 e2 z2;exact good (t:=fc (cR 4)) (w:=0) (sl:=⟨some ⟨g1.size,0,none⟩,1,1⟩) (se:=⟨none,0,0⟩) (e1.trans e2) (bz e2) (hD.trans (if_pos q)) rfl (GI (Sx.SL.mono s2 (by omega)) rfl)
 have q1:¬ s.data.toList=[112,111,111,108]:=fun e=>ne_of_beq_false q ((ByteArray.toList_eq s).trans e)
 rw [if_neg q1] at hD;refine af (fun q=>?_) (fun q=>?_)
 ·have q:s.data.toList=[97,108,105,103,110]:=(ByteArray.toList_eq s).symm.trans (eq_of_beq q);rw [if_pos q] at hD;have hc:cY s=1:=by unfold cY; simp [q]
  rw [List.length_map] at hcnt;have h1:0<al.length:=by omega
  obtain ⟨a0,ha0,hc0⟩:=sL v1 h1;rw [Ht] at hc0;refine aA ⟨by omega,by omega⟩ (an ha0 (aG ((al[0].p,al[0].l,al[0].c),()) hc0 ?_));dsimp only [flat,aB,ai,nA,cA];refine aC (oo (v1.uc _ (mem 0 h1)) (v1.bO _ (mem 0 h1)) (v.wf _ (mem 0 h1)) (v.many _ (mem 0 h1)) 1 256) ?_;rintro _ h2 ⟨rfl,e2⟩;rw [arg 0 h1] at hD;cases hn:ia 1 256 al[0].ts with
  | error e =>
   have he:=gU (v.wf _ (mem 0 h1)) hn;rw [hn] at hD;refine ⟨((0:Int),(e:Int),()),rfl,?_⟩;dsimp only [flat,aB,ai,nA,cA];refine bo (by simp; omega) ?_;refine jT (p:=none) (l:=0) (c:=0) (x:={ cR 3 with n:=0 }) ?_;intro h3 s3 e3 z3;exact bad (e:=e) (e1.trans (e2.trans e3)) (bz (e2.trans e3)) hD (by omega)
  | ok n =>
   rw [hn] at hD;refine ⟨(n,(0:Int),()),rfl,?_⟩;dsimp only [flat,aB,ai,nA,cA];refine bd rfl (aE (wB h2 n) ?_);refine af (fun r=>?_) (fun r=>?_)
   ·have r:qf n=false:=by simpa using r
    refine jT (p:=none) (l:=0) (c:=0) (x:={ cR 3 with n:=n }) ?_;intro h3 s3 e3 z3;exact bad (e:=21) (e1.trans (e2.trans e3)) (bz (e2.trans e3)) (hD.trans (if_neg (by rw [r]; simp))) (by decide)
   ·have r:qf n=true:=by simpa using r
    refine jT (p:=none) (l:=0) (c:=0) (x:={ cR 3 with n:=n }) ?_;intro h3 s3 e3 z3;have hz2:=e2.size;exact good (t:=fc { cR 3 with n:=n }) (w:=2) (sl:=⟨some ⟨h2.size,0,none⟩,1,1⟩) (se:=⟨none,0,0⟩) (e1.trans (e2.trans e3)) (bz (e2.trans e3)) (hD.trans (if_pos r)) rfl (GI (Sx.SL.mono s3 (by omega)) rfl)
 have q2:¬ s.data.toList=[97,108,105,103,110]:=fun e=>ne_of_beq_false q ((ByteArray.toList_eq s).trans e)
 rw [if_neg q2] at hD;refine af (fun q=>?_) (fun q=>?_)
 ·have q:s.data.toList=[115,112,97,99,101]:=(ByteArray.toList_eq s).symm.trans (eq_of_beq q);rw [if_pos q] at hD;have hc:cY s=1:=by unfold cY; simp [q]
  rw [List.length_map] at hcnt;have h1:0<al.length:=by omega
  obtain ⟨a0,ha0,hc0⟩:=sL v1 h1;rw [Ht] at hc0;refine aA ⟨by omega,by omega⟩ (an ha0 (aG ((al[0].p,al[0].l,al[0].c),()) hc0 ?_));dsimp only [flat,aB,ai,nA,cA];refine aC (oo (v1.uc _ (mem 0 h1)) (v1.bO _ (mem 0 h1)) (v.wf _ (mem 0 h1)) (v.many _ (mem 0 h1)) 0 1048576) ?_;rintro _ h2 ⟨rfl,e2⟩;rw [arg 0 h1] at hD;cases hn:ia 0 1048576 al[0].ts with
  | error e =>
   have he:=gU (v.wf _ (mem 0 h1)) hn;rw [hn] at hD;refine ⟨((0:Int),(e:Int),()),rfl,?_⟩;dsimp only [flat,aB,ai,nA,cA];refine jT (p:=none) (l:=0) (c:=0) (x:={ cR 7 with n:=0 }) ?_;intro h3 s3 e3 z3;exact bad (e:=e) (e1.trans (e2.trans e3)) (bz (e2.trans e3)) hD (by omega)
  | ok n =>
   rw [hn] at hD;refine ⟨(n,(0:Int),()),rfl,?_⟩;dsimp only [flat,aB,ai,nA,cA];refine jT (p:=none) (l:=0) (c:=0) (x:={ cR 7 with n:=n }) ?_;intro h3 s3 e3 z3;have hz2:=e2.size;exact good (t:=fc { cR 7 with n:=n }) (w:=1) (sl:=⟨some ⟨h2.size,0,none⟩,1,1⟩) (se:=⟨none,0,0⟩) (e1.trans (e2.trans e3)) (bz (e2.trans e3)) hD rfl (GI (Sx.SL.mono s3 (by omega)) rfl)
 have q3:¬ s.data.toList=[115,112,97,99,101]:=fun e=>ne_of_beq_false q ((ByteArray.toList_eq s).trans e)
 rw [if_neg q3] at hD;refine af (fun q=>?_) (fun q=>?_)
 ·have q:s.data.toList=[98,121,116,101]:=(ByteArray.toList_eq s).symm.trans (eq_of_beq q);rw [if_pos q] at hD;refine aC (Aw (k:=5) (by omega) v1 hal) ?_;rintro u h2 ⟨e2,hu⟩;cases hn:xq 5 (al.map In.ts) with
  | error e =>
   rw [hn] at hD hu;obtain ⟨rfl,he⟩:=hu;refine ⟨((none,0,0),(e:Int),()),rfl,?_⟩;dsimp only [flat,aB,ai,nA,cA];exact bad (e:=e) (e1.trans e2) (bz e2) hD (by omega)
  | ok li =>
   rw [hn] at hD hu;obtain ⟨p5,l5,c5,us,rfl,A,hus⟩:=hu;refine ⟨((p5,l5,c5),(0:Int),()),rfl,?_⟩;dsimp only [flat,aB,ai,nA,cA];exact good (t:={ bF with kind:=2,items:=li }) (w:=1) (sl:=⟨p5,l5,c5⟩) (se:=⟨none,0,0⟩) (us:=us) (e1.trans e2) (bz e2) hD rfl ⟨A.mono (by omega),hus,SL.nil _ _ _ _,.inr rfl⟩
 have q4:¬ s.data.toList=[98,121,116,101]:=fun e=>ne_of_beq_false q ((ByteArray.toList_eq s).trans e)
 rw [if_neg q4] at hD;refine af (fun q=>?_) (fun q=>?_)
 ·have q:s.data.toList=[119,111,114,100]:=(ByteArray.toList_eq s).symm.trans (eq_of_beq q);rw [if_pos q] at hD;refine aC (Aw (k:=6) (by omega) v1 hal) ?_;rintro u h2 ⟨e2,hu⟩;cases hn:xq 6 (al.map In.ts) with
  | error e =>
   rw [hn] at hD hu;obtain ⟨rfl,he⟩:=hu;refine ⟨((none,0,0),(e:Int),()),rfl,?_⟩;dsimp only [flat,aB,ai,nA,cA];exact bad (e:=e) (e1.trans e2) (bz e2) hD (by omega)
  | ok li =>
   rw [hn] at hD hu;obtain ⟨p5,l5,c5,us,rfl,A,hus⟩:=hu;refine ⟨((p5,l5,c5),(0:Int),()),rfl,?_⟩;dsimp only [flat,aB,ai,nA,cA];exact good (t:={ bF with kind:=2,items:=li }) (w:=1) (sl:=⟨p5,l5,c5⟩) (se:=⟨none,0,0⟩) (us:=us) (e1.trans e2) (bz e2) hD rfl ⟨A.mono (by omega),hus,SL.nil _ _ _ _,.inr rfl⟩
 have q5:¬ s.data.toList=[119,111,114,100]:=fun e=>ne_of_beq_false q ((ByteArray.toList_eq s).trans e)
 rw [if_neg q5] at hD;refine af (fun q=>?_) (fun q=>?_)
 ·have q:s.data.toList=[101,113,117]:=(ByteArray.toList_eq s).symm.trans (eq_of_beq q);rw [if_pos q] at hD;have hc:cY s=2:=by unfold cY; simp [q]
  rw [List.length_map] at hcnt;have h1:0<al.length:=by omega
  have h2:1<al.length:=by omega
  obtain ⟨a0,ha0,hc0⟩:=sL v1 h1;rw [Ht] at hc0;refine aA ⟨by omega,by omega⟩ (an ha0 (aG ((al[0].p,al[0].l,al[0].c),()) hc0 ?_));dsimp only [flat,aB,ai,nA,cA];rw [arg 0 h1,arg 1 h2] at hD;cases hn:nN al[0].ts with
  | error e =>
   have he:=rD hn;rw [hn] at hD;refine iZ (uq (v1.uc _ (mem 0 h1)) (v.text _ (mem 0 h1))) ((⟨#[]⟩:ByteArray),(e:Int),()) (by rw [hn]; rfl) ?_;dsimp only [flat,aB,ai,nA,cA];refine bd (by simp; omega) ?_;exact bad (e:=e) e1 (bz (Ch.refl _ _)) hD (by omega)
  | ok nm =>
   rw [hn] at hD;refine iZ (uq (v1.uc _ (mem 0 h1)) (v.text _ (mem 0 h1))) (nm,(0:Int),()) (by rw [hn]; rfl) ?_;dsimp only [flat,aB,ai,nA,cA];refine bo rfl ?_;obtain ⟨a1,ha1,hc1⟩:=sL v1 h2;rw [ha0] at ha1;obtain rfl:=Option.some.inj ha1;refine aA ⟨by omega,by omega⟩ (an ha0 (aG ((al[1].p,al[1].l,al[1].c),()) hc1 ?_));dsimp only [flat,aB,ai,nA,cA];refine aC (jb (v1.uc _ (mem 1 h2)) (v1.bO _ (mem 1 h2)) (v.wf _ (mem 1 h2)) (v.many _ (mem 1 h2))) ?_;rintro u h3 ⟨e3,hu⟩;cases hx:bU al[1].ts with
   | error e =>
    rw [hx] at hu hD;have he:=dM (v.wf _ (mem 1 h2)) hx;have hu:u=.tuple #[.agg #[.slice none 0 0,.int .u32 0],.int .i64 (e:Int)]:=hu;subst hu;refine ⟨((none,0,0),(0:Int),(e:Int),()),rfl,?_⟩;dsimp only [flat,aB,ai,nA,cA];refine aW ?_;intro h4 b4 e4 z4;refine ak b4 rfl (by simp) ?_;intro h5 b5 k5 z5;have b5:aO h5 h3.size 94 [.slice none 0 0,.int .u32 (0:Int)]:=b5;refine ad b5 ((none,0,0),(0:Int),()) rfl ?_;dsimp only [flat,aB,ai,nA,cA];have e35:Ext h3 h5:=Ch.trans e4 k5 (fun i hi hl=>by simp at hi; omega);exact bad (e:=e) (e1.trans (e3.trans e35)) (bz (e3.trans e35)) hD (by omega)
   | ok x =>
    rw [hx] at hu hD;obtain ⟨p5,l5,c5,rfl,sl,gd⟩:=hu;refine ⟨((p5,l5,c5),(x.num:Int),(0:Int),()),rfl,?_⟩;dsimp only [flat,aB,ai,nA,cA];refine aW ?_;intro h4 b4 e4 z4;refine ak b4 rfl (by simp) ?_;intro h5 b5 k5 z5;have b5:aO h5 h3.size 94 [.slice p5 l5 c5,.int .u32 (x.num:Int)]:=b5;refine ad b5 ((p5,l5,c5),(x.num:Int),()) rfl ?_;dsimp only [flat,aB,ai,nA,cA];have e35:Ext h3 h5:=Ch.trans e4 k5 (fun i hi hl=>by simp at hi; omega);exact good (t:={ bF with kind:=3,name:=nm,e:=x }) (w:=2) (sl:=⟨none,0,0⟩) (se:=⟨p5,l5,c5⟩) (us:=[]) (e1.trans (e3.trans e35)) (bz (e3.trans e35)) hD rfl ⟨dI.nil _ _,rfl,(Sx.SL.mono sl (by omega)).aT e35 (by simp),.inl rfl⟩
 have q6:¬ s.data.toList=[101,113,117]:=fun e=>ne_of_beq_false q ((ByteArray.toList_eq s).trans e)
 rw [if_neg q6] at hD;refine af (fun q=>?_) (fun q=>?_)
 ·have q:s.data.toList=[103,108,111,98,97,108]:=(ByteArray.toList_eq s).symm.trans (eq_of_beq q);rw [if_pos q] at hD;have hc:cY s=1:=by unfold cY; simp [q]
  rw [List.length_map] at hcnt;have h1:0<al.length:=by omega
  obtain ⟨a0,ha0,hc0⟩:=sL v1 h1;rw [Ht] at hc0;refine aA ⟨by omega,by omega⟩ (an ha0 (aG ((al[0].p,al[0].l,al[0].c),()) hc0 ?_));dsimp only [flat,aB,ai,nA,cA];rw [arg 0 h1] at hD;cases hn:nN al[0].ts with
  | error e =>
   have he:=rD hn;rw [hn] at hD;refine iZ (uq (v1.uc _ (mem 0 h1)) (v.text _ (mem 0 h1))) ((⟨#[]⟩:ByteArray),(e:Int),()) (by rw [hn]; rfl) ?_;dsimp only [flat,aB,ai,nA,cA];exact bad (e:=e) e1 (bz (Ch.refl _ _)) hD (by omega)
  | ok nm =>
   rw [hn] at hD;refine iZ (uq (v1.uc _ (mem 0 h1)) (v.text _ (mem 0 h1))) (nm,(0:Int),()) (by rw [hn]; rfl) ?_;dsimp only [flat,aB,ai,nA,cA];exact good (t:={ bF with kind:=4,name:=nm }) (w:=2) (sl:=⟨none,0,0⟩) (se:=⟨none,0,0⟩) (us:=[]) e1 (bz (Ch.refl _ _)) hD rfl ⟨dI.nil _ _,rfl,SL.nil _ _ _ _,.inl rfl⟩
 have q7:¬ s.data.toList=[103,108,111,98,97,108]:=fun e=>ne_of_beq_false q ((ByteArray.toList_eq s).trans e)
 rw [if_neg q7] at hD;have hcn:cY s=1:=by
  unfold cY at hcnt ⊢;simp only [if_neg q1,if_neg q6] at hcnt ⊢
  by_cases hs:s.data.toList=[115,101,99,116,105,111,110]
  ·simp [hs]
  ·exfalso;apply hcnt
   left
   simp [q2,q3,q7,hs,q4,q5]
 rw [List.length_map] at hcnt;have h1:0<al.length:=by omega
 obtain ⟨a0,ha0,hc0⟩:=sL v1 h1;rw [Ht] at hc0;have va:=v1.uc _ (mem 0 h1);have hag:=arg 0 h1;rw [hag] at hD;refine aA ⟨by omega,by omega⟩ (an ha0 (aG ((al[0].p,al[0].l,al[0].c),()) hc0 ?_));dsimp only [flat,aB,ai,nA,cA];generalize al[0]=a at *;have hla:=va.len;refine af (fun r=>?_) (fun r=>?_)
 ·have r:a.l=1:=eV r;obtain ⟨t,ht⟩:=Cf (show a.ts.length=1 by omega);rw [ht] at va hD;obtain ⟨aa,haa,c0⟩:=va.cells 0 (by simp);have c0:aH g1 (aa.add (0*4)) 0 (enc t):=c0;obtain ⟨u1,u2,_⟩:=iN c0;simp only at hD;refine aA ⟨by omega,by omega⟩ (an ha0 (aG ((a.p,a.l,a.c),()) hc0 ?_));dsimp only [flat,aB,ai,nA,cA];refine aA ⟨by omega,by omega⟩ (an haa (aG ((t.kind:Int),()) u1 ?_));dsimp only [flat,aB,ai,nA,cA];refine af (fun g=>?_) (fun g=>?_)
  ·have g:t.kind=1:=eV g;refine aA ⟨by omega,by omega⟩ (an ha0 (aG ((a.p,a.l,a.c),()) hc0 ?_));dsimp only [flat,aB,ai,nA,cA];refine aA ⟨by omega,by omega⟩ (an haa (aG (t.text,()) u2 ?_));dsimp only [flat,aB,ai,nA,cA];refine af (fun w=>?_) (fun w=>?_)
   ·have w:t.text.data.toList=[116,101,120,116]:=(ByteArray.toList_eq _).symm.trans (eq_of_beq w);rw [if_pos ⟨g,w⟩] at hD;exact good (t:={ bF with kind:=5 }) (w:=2) (sl:=⟨none,0,0⟩) (se:=⟨none,0,0⟩) (us:=[]) e1 (bz (Ch.refl _ _)) hD rfl ⟨dI.nil _ _,rfl,SL.nil _ _ _ _,.inl rfl⟩
   have w:¬ t.text.data.toList=[116,101,120,116]:=fun e=>ne_of_beq_false w ((ByteArray.toList_eq _).trans e)
   rw [if_neg (fun hh=>w hh.2)] at hD;refine af (fun x=>?_) (fun x=>?_)
   ·have x:t.text.data.toList=[100,97,116,97]:=(ByteArray.toList_eq _).symm.trans (eq_of_beq x);rw [if_pos ⟨g,x⟩] at hD;exact good (t:={ bF with kind:=5,sec:=1 }) (w:=2) (sl:=⟨none,0,0⟩) (se:=⟨none,0,0⟩) (us:=[]) e1 (bz (Ch.refl _ _)) hD rfl ⟨dI.nil _ _,rfl,SL.nil _ _ _ _,.inl rfl⟩
   have x:¬ t.text.data.toList=[100,97,116,97]:=fun e=>ne_of_beq_false x ((ByteArray.toList_eq _).trans e)
   rw [if_neg (fun hh=>x hh.2)] at hD;exact bad (e:=20) e1 (bz (Ch.refl _ _)) hD (by decide)
  ·have g:¬ t.kind=1:=fy g;rw [if_neg (fun hh=>g hh.1),if_neg (fun hh=>g hh.1)] at hD;exact bad (e:=20) e1 (bz (Ch.refl _ _)) hD (by decide)
 ·have r:¬ a.l=1:=fy r;have hD:fZ s (al.map In.ts)=.error 20:=by
   rw [hD];cases hts:a.ts with
   | nil=>rfl
   | cons t r =>
    cases r with
    | nil=>rw [hts] at hla; simp at hla; omega
    | cons _ _=>rfl
  exact bad (e:=20) e1 (bz (Ch.refl _ _)) hD (by decide)
section
variable {L:Lp} {K:Value→Hp→Prop} {hh:Hp}
end
set_option maxHeartbeats 1000000 in
def zT:List Value:=ru 0 none 0 0 bK none 0 0 0 0
def Eo (h:Hp) (r:Except Nat kg) (u:Value) (h':Hp):Prop:=Ext h h'∧match r with
 | .error e=>u=.tuple #[.agg zT.toArray,.int .i64 (e:Int)]∧e≠0
 | .ok t=>∃ sl us se,u=.tuple #[JR t.kind sl t.name se t.e.num t.sec,.int .i64 0]∧iy h' h.size t sl us se
def Kq (op:ByteArray) (args:List (List Tok)):Except Nat (kg × Nat) :=
 if kK op≠0 then match eC (kK op) args with
  | .error e=>.error e
  | .ok x=>.ok (fc x,0)
 else fZ op args
theorem E2 {l:Ln} {data:Bool} (h:¬ l.op=bK):dF l data=match Kq l.op l.args with
  | .error e=>.error e
  | .ok (t,w)=>if w=2∨w=(if data then 1 else 0) then .ok t else .error 21:=by
 unfold dF Kq;rw [if_neg h]
 by_cases hf:kK l.op≠0
 ·rw [if_pos hf,if_pos hf];cases eC (kK l.op) l.args with
  | error e=>rfl
  | ok x=>cases data <;> simp
 ·rw [if_neg hf,if_neg hf]
  all_goals
   cases fZ l.op l.args with
   | error e=>rfl
   | ok q=>rfl
theorem xA {op:Int} {args:List (List Tok)} {e:Nat} (hw:∀ a,a∈args→Wf a) (h:eC op args=.error e):e=20∨e=21:=by
 unfold eC at h;split at h
 ·injection h with h
  exact .inl h.symm
 have key:∀ (rs:List Dt) (args:List (List Tok)) (x:bC),(∀ a,a∈args→Wf a)→dQ x rs args=.error e→e=20∨e=21:=by
  intro rs
  induction rs with
  | nil=>intro args x _ h; cases args <;> simp [dQ] at h
  | cons r rs ih =>
   intro args x hw h;cases args with
   | nil=>simp [dQ] at h
   | cons a args =>
    simp only [dQ] at h;cases ha:dH x r a with
    | error e' =>
     rw [ha] at h;injection h with h
     subst h;exact FN (hw a (by simp)) ha
    | ok y =>
     rw [ha] at h;exact ih args y (fun b hb=>hw b (by simp [hb])) h
 exact key _ _ _ hw h
theorem J4 {op:ByteArray} {args:List (List Tok)} {t:kg} {w:Nat} (hd:fZ op args=.ok (t,w)):w≤2:=by
 unfold fZ at hd;simp only at hd
 repeat' split at hd
 all_goals first | (cases hd; done) | (injection hd with hd; injection hd with h1 h2; omega)
set_option maxHeartbeats 1000000 in
theorem Dn {h:Hp} (tb:nq h) {dG op:ByteArray} {p:Option Addr} {l c:Nat} {al:List In} (v:Dg h p l al) (hal:al.length≤2^32) (sec:Int) :
  HC Tryz.prog 65 #[.agg #[.string dG,.string op,.slice p l c],.int .i64 sec] h (Eo h (dF ⟨dG,op,al.map In.ts⟩ (decide (sec=1)))):=by
 refine aL (args:=[.agg #[.string dG,.string op,.slice p l c],.int .i64 sec]) mixed Tryz.func65 (by kernel_rfl) (uV dG op p l c sec) ?_;unfold tF;refine aW ?_;intro g1 b1 e1 z1;refine aW ?_;intro g2 b2 e2 z2;have b1:=b1.ah e2 (by simp);have e02:=e1.trans e2;have b2:aO g2 g1.size 134 zT:=b2;obtain ⟨s4,hs4⟩:∃ s4:Int,s4=if sec=1 then 1 else 0:=⟨_,rfl⟩
 refine dL (cs:=[(false,[.int .i64])]) (fun y h'=>g2=h'∧s4=y.1) ?_ ?_
 ·refine af (fun q=>?_) (fun q=>?_)
  ·have q:¬ sec=1:=by simpa using q
   exact bi (cs:=[(false,[.int .i64])]) ((0:Int),()) rfl rfl ⟨rfl,by rw [hs4,if_neg q]⟩
  ·have q:sec=1:=by simpa using q
   exact bi (cs:=[(false,[.int .i64])]) (sec,()) rfl rfl ⟨rfl,by rw [hs4,if_pos q,q]⟩
 rintro ⟨n4,⟨⟩⟩ g9 ⟨h9,h4⟩;simp only at h4;subst h9;rw [← h4];clear h4;dsimp only [flat,aB,ai,nA,cA];rw [ao];refine ad b1 (op,()) rfl ?_;dsimp only [flat,aB,ai,nA,cA];obtain ⟨r,hr⟩:∃ r,r=dF ⟨dG,op,al.map In.ts⟩ (decide (sec=1)):=⟨_,rfl⟩
 rw [← hr]
 have bad:∀ {gg:Hp} {xs:List Value} {e:Nat} {L:Lp},Ext h gg→aO gg g1.size 134 xs→xs.length=6→r=.error e→e≠0 →
   (T.ap ⟨g1.size,0,none⟩ [.int .i64 (0:Int),.slice none 0 0,.string ⟨#[]⟩,.slice none 0 0,.int .u32 (0:Int),.int .i64 (0:Int)] <|
   T.ae ⟨g1.size,0,none⟩ [.int .i64,.slice 96,.string,.slice 109,.int .u32,.int .i64] <| fun (n6:Int) (p7:Option Addr) (l8:Nat) (l9:Nat) (s10:ByteArray) (p11:Option Addr) (l12:Nat) (l13:Nat) (n14:Int) (n15:Int) =>
   T.ret (.tuple #[.agg #[.int .i64 n6,.slice p7 l8 l9,.string s10,.slice p11 l12 l13,.int .u32 n14,.int .i64 n15],.int .i64 (e:Int)])) L (Eo h r) gg:=by
  intro gg xs e L eg bx hx hA he;refine y6 bx hx ?_;intro h' b' k' z';refine ⟨Ch.trans eg k' (fun i hi hl=>by simp at hi; omega),?_⟩;rw [hA];exact ⟨rfl,he⟩
 have good:∀ {gg:Hp} {xs:List Value} {t:kg} {sl se:bL} {us:List (bL × bC)} {L:Lp},Ext h gg→aO gg g1.size 134 xs→xs.length=6→r=.ok t→iy gg (g1.size+1) t sl us se →
   (T.ap ⟨g1.size,0,none⟩ [.int .i64 (t.kind:Int),.slice sl.p sl.l sl.c,.string t.name,.slice se.p se.l se.c,.int .u32 (t.e.num:Int),.int .i64 (t.sec:Int)] <|
   T.ae ⟨g1.size,0,none⟩ [.int .i64,.slice 96,.string,.slice 109,.int .u32,.int .i64] <| fun (n6:Int) (p7:Option Addr) (l8:Nat) (l9:Nat) (s10:ByteArray) (p11:Option Addr) (l12:Nat) (l13:Nat) (n14:Int) (n15:Int) =>
   T.ret (.tuple #[.agg #[.int .i64 n6,.slice p7 l8 l9,.string s10,.slice p11 l12 l13,.int .u32 n14,.int .i64 n15],.int .i64 (0:Int)])) L (Eo h r) gg:=by
  intro gg xs t sl se us L eg bx hx hA A;refine y6 bx hx ?_;intro h' b' k' z';refine ⟨Ch.trans eg k' (fun i hi hl=>by simp at hi; omega),?_⟩;rw [hA];exact ⟨sl,us,se,rfl,(A.ah k' (fun i hi hl=>by simp at hi; omega)).mono (by omega)⟩
 refine af (fun q=>?_) (fun q=>?_)
 ·have q:op=bK:=by
   have q:op.data.toList=[]:=(ByteArray.toList_eq op).symm.trans (eq_of_beq q);exact j8 q
  have hA:r=.ok bF:=by rw [hr]; unfold dF; rw [if_pos q]
  exact good (t:=bF) (sl:=⟨none,0,0⟩) (se:=⟨none,0,0⟩) (us:=[]) e02 b2 rfl hA ⟨dI.nil _ _,rfl,SL.nil _ _ _ _,.inl rfl⟩
 have q:¬ op=bK:=fun e=>by
  subst e;rw [ByteArray.toList_eq] at q;simp [bK] at q
 have hop:=E2 (l:=⟨dG,op,al.map In.ts⟩) (data:=decide (sec=1)) q;rw [← hr] at hop;simp only at hop;obtain ⟨ro,hro⟩:∃ ro,Kq op (al.map In.ts)=ro:=⟨_,rfl⟩
 rw [hro] at hop;refine aW ?_;intro g3 b3 e3 z3;have b3:aO g3 g2.size 134 zT:=b3;have b1:=b1.ah e3 (by simp);have b2:=b2.ah e3 (by simp);have e03:=e02.trans e3;have hlt2:=b2.lt;have v3:=v.ah e03;refine dL (cs:=[(false,[.int .i64]),(false,[.int .i64])]) (fun y h'=>Ext h h'∧aO h' g1.size 134 zT∧match ro with
  | .error e=>y.2.1=(e:Int)∧e≠0
  | .ok (t,w)=>y.1=IK w∧y.2.1=(0:Int)∧w≤2∧∃ sl us se,aO h' g2.size 134 (ru t.kind sl.p sl.l sl.c t.name se.p se.l se.c t.e.num t.sec)∧iy h' (g1.size+1) t sl us se) ?_ ?_
 ·rw [ao];refine ad b1 (op,()) rfl ?_;dsimp only [flat,aB,ai,nA,cA];refine aC (I1 (tb.ah e03 (by simp)) op) ?_;obtain ⟨fo,hfo⟩:∃ fo,kK op=fo:=⟨_,rfl⟩
  have hle:fo≤43:=hfo▸wM _ _ _;rintro u0 g4 ⟨hu0,e4⟩;rw [hfo] at hu0;subst hu0;refine ⟨((fo:Int),decide (fo≠0),()),rfl,?_⟩;dsimp only [flat,aB,ai,nA,cA];have b14:=b1.ah e4 (by simp);have b24:=b2.ah e4 (by simp);have b34:=b3.ah e4 (by simp);have e04:=e03.trans e4;refine af (fun f=>?_) (fun f=>?_)
  ·have f:fo≠0:=of_decide_eq_true f;refine aW ?_;intro g5 b5 e5 z5;have b15:=b14.ah e5 (by simp)
   try rw [ao]
   refine ad b15 ((p,l,c),()) rfl ?_;dsimp only [flat,aB,ai,nA,cA];have e05:=e04.trans e5;refine aC (HE ((tb.ah e05 (by simp)).LG) (op:=fo) (by omega) hle (v.ah e05) (by omega)) ?_;rintro u g6 ⟨e6,hu⟩;have e06:=e05.trans e6
   have hopA:ro=match eC (fo:Int) (al.map In.ts) with
     | .error e=>.error e
     | .ok x=>.ok (fc x,0):=by
    rw [← hro];unfold Kq;rw [hfo,if_pos f]
   have fin:∀ {x:bC} {p':Option Addr} {l' c':Nat} {why:Int} {L:Lp} {K:Value→Hp→Prop},SL g6 g5.size 109 2 p' l' c' (x.e.aw.map cP)→(∀ h',Ext g6 h'∨True→Ch [g2.size] g6 h'∨True→Ext h h'→aO h' g1.size 134 zT→aO h' g2.size 134 (ru 1 (some ⟨g6.size,0,none⟩) 1 1 bK none 0 0 0 0)→dI h' (g1.size+1) (some ⟨g6.size,0,none⟩) 1 1 [(⟨p',l',c'⟩,x)]→T.again 0 [.int .i64 (0:Int),.int .i64 why] L K h') →
     (T.ap ⟨g4.size,0,none⟩ [.int .i64 x.kind,.string x.name,.int .i64 x.inst.op,.int .i64 x.inst.a,.int .i64 x.inst.b,.int .i32 x.inst.n,.int .i64 x.inst.form,.slice p' l' c',.int .u32 (x.e.num:Int),.int .i64 x.n] <|
     T.ae ⟨g4.size,0,none⟩ [.int .i64,.string,.int .i64,.int .i64,.int .i64,.int .i32,.int .i64,.slice 109,.int .u32,.int .i64] <| fun (n27:Int) (s28:ByteArray) (n29:Int) (n30:Int) (n31:Int) (n32:Int) (n33:Int) (p34:Option Addr) (l35:Nat) (l36:Nat) (n37:Int) (n38:Int) =>
     T.aY Tryz.prog (Instr.buildSlice 23 1 #[(0,.agg #[.int .i64 n27,.string s28,.int .i64 n29,.int .i64 n30,.int .i64 n31,.int .i32 n32,.int .i64 n33,.slice p34 l35 l36,.int .u32 n37,.int .i64 n38])]) false [(false,[.slice 0])] <| fun (p39:Option Addr) (l40:Nat) (l41:Nat) =>
     T.ap ⟨g2.size,0,none⟩ [.int .i64 (1:Int),.slice p39 l40 l41,.string ⟨#[]⟩,.slice none 0 0,.int .u32 (0:Int),.int .i64 (0:Int)] <|
     T.again 0 [.int .i64 (0:Int),.int .i64 why]) L K g6:=by
    intro x p' l' c' why L K sx hk;refine ak (b5.ah e6 (by simp)) rfl (by simp) ?_;intro g7 b7 k7 z7;have b7:aO g7 g4.size 96 (encI p' l' c' x):=b7;refine ad b7 (x.kind,x.name,x.inst.op,x.inst.a,x.inst.b,x.inst.n,x.inst.form,(p',l',c'),(x.e.num:Int),x.n,()) rfl ?_;dsimp only [flat,aB,ai,nA,cA];refine jT (p:=p') (l:=l') (c:=c') (x:=x) ?_;intro g8 s8 e8 z8;have hz4:=e4.size;have hz5:g5.size=g4.size+1:=z5;have hz6:=e6.size;have e07:Ext h g7:=Ch.trans e06 k7 (fun i hi hl=>by have:=e04.size; simp at hi; omega);have b38:aO g8 g2.size 134 zT:=(((b34.ah e5 (by simp)).ah e6 (by simp)).ah k7 (by have:=b34.lt; simp; omega)).ah e8 (by simp);refine ak b38 rfl (by simp [zT,ru]) ?_;intro g9 b9 k9 z9;have b28:aO g8 g1.size 134 zT:=(((b24.ah e5 (by simp)).ah e6 (by simp)).ah k7 (by have:=b24.lt; simp; omega)).ah e8 (by simp);have e09:Ext h g9:=Ch.trans (e07.trans e8) k9 (fun i hi hl=>by have:=e02.size; simp at hi; omega);have s8':=SL.wv (Sx.SL.mono s8 (show g1.size+1≤g7.size by omega)) (Ch.refl [] g8) (by simp);refine hk g9 (.inr trivial) (.inr trivial) e09 (b28.ah k9 (by simp; omega)) (by rw [z7] at b9; exact b9) ?_;refine ⟨?_,?_,?_,by simp⟩
    ·rw [z7] at s8;exact Sx.SL.aT (Sx.SL.mono s8 (by omega)) k9 (fun i hi hm=>by simp [az] at hi hm; omega)
    ·intro w hw;have hw:w=(⟨p',l',c'⟩,x):=by simpa using hw
     subst hw;refine Sx.SL.aT (Sx.SL.aT (Sx.SL.aT (Sx.SL.mono sx (by omega)) k7 (fun i hi hm=>by have:=(Sx.SL.bO sx hi).1; simp at hm; omega)) e8 (by simp)) k9 (fun i hi hm=>by have:=(Sx.SL.bO sx hi).1; simp at hm; omega)
    ·intro w hw i hi hm;have hw:w=(⟨p',l',c'⟩,x):=by simpa using hw
     subst hw
     have:=(Sx.SL.bO sx hi).2
     simp [az] at hm;omega
   cases hcd:eC (fo:Int) (al.map In.ts) with
   | error e =>
    rw [hcd] at hu hopA;have he:=xA (fun a ha=>by obtain ⟨b,hb,rfl⟩:=List.mem_map.1 ha; exact v.wf b hb) hcd;have hu:u=.tuple #[qv none 0 0 (cR 0),.int .i64 (e:Int)]:=hu;subst hu;refine ⟨((0:Int),(⟨#[]⟩:ByteArray),(0:Int),(0:Int),(0:Int),(0:Int),(0:Int),(none,0,0),(0:Int),(0:Int),(e:Int),()),rfl,?_⟩;dsimp only [flat,aB,ai,nA,cA];refine fin (x:=cR 0) (p':=none) (l':=0) (c':=0) (SL.nil _ _ _ _) ?_;intro g9 _ _ e09 b29 b39 _;refine bi (cs:=[(false,[.int .i64]),(false,[.int .i64])]) ((0:Int),(e:Int),()) rfl rfl ⟨e09,b29,?_⟩;have hopA:ro=.error e:=hopA;subst hopA;exact ⟨rfl,by omega⟩
   | ok x =>
    rw [hcd] at hu hopA;obtain ⟨p',l',c',rfl,sx⟩:=hu;refine ⟨(x.kind,x.name,x.inst.op,x.inst.a,x.inst.b,x.inst.n,x.inst.form,(p',l',c'),(x.e.num:Int),x.n,(0:Int),()),rfl,?_⟩;dsimp only [flat,aB,ai,nA,cA];refine fin (x:=x) sx ?_;intro g9 _ _ e09 b29 b39 A9;refine bi (cs:=[(false,[.int .i64]),(false,[.int .i64])]) ((0:Int),(0:Int),()) rfl rfl ⟨e09,b29,?_⟩;have hopA:ro=.ok (fc x,0):=hopA;subst hopA;exact ⟨rfl,rfl,by omega,⟨_,1,1⟩,_,⟨none,0,0⟩,b39,A9,rfl,SL.nil _ _ _ _,.inr rfl⟩
  ·have f:¬ fo≠0:=of_decide_eq_false f;have hopA:ro=fZ op (al.map In.ts):=by
    rw [← hro];unfold Kq;rw [hfo,if_neg f]
   try rw [ao]
   refine ad b14 (op,()) rfl ?_;dsimp only [flat,aB,ai,nA,cA]
   try rw [ao]
   refine ad b14 ((p,l,c),()) rfl ?_;dsimp only [flat,aB,ai,nA,cA];refine aC (yP (v.ah e04) hal op) ?_;rintro u g5 ⟨e5,hu⟩;have e05:=e04.trans e5;have hz2:=e2.size;have hlt3:=b34.lt;cases hd:fZ op (al.map In.ts) with
   | error e =>
    rw [hd] at hu;obtain ⟨k,p1,l1,c1,nm,p2,l2,c2,n,sc,w,rfl,he⟩:=hu;refine ⟨(k,(p1,l1,c1),nm,(p2,l2,c2),n,sc,w,(e:Int),()),rfl,?_⟩;dsimp only [flat,aB,ai,nA,cA];refine ak (b34.ah e5 (by simp)) rfl (by simp [zT,ru]) ?_;intro g6 b6 k6 z6;refine bi (cs:=[(false,[.int .i64]),(false,[.int .i64])]) (w,(e:Int),()) rfl rfl ⟨Ch.trans e05 k6 (fun i hi hl=>by have:=e02.size; simp at hi; omega),(b24.ah e5 (by simp)).ah k6 (by simp; omega),?_⟩;have hopA:ro=.error e:=hopA.trans hd;subst hopA;exact ⟨rfl,he⟩
   | ok q =>
    obtain ⟨t,w⟩:=q;rw [hd] at hu;obtain ⟨sl,us,se,rfl,A⟩:=hu;refine ⟨(((t.kind:Nat):Int),(sl.p,sl.l,sl.c),t.name,(se.p,se.l,se.c),(t.e.num:Int),((t.sec:Nat):Int),IK w,(0:Int),()),rfl,?_⟩;dsimp only [flat,aB,ai,nA,cA];refine ak (b34.ah e5 (by simp)) rfl (by simp [zT,ru]) ?_;intro g6 b6 k6 z6;have hw2:w≤2:=J4 hd;refine bi (cs:=[(false,[.int .i64]),(false,[.int .i64])]) (IK w,(0:Int),()) rfl rfl ⟨Ch.trans e05 k6 (fun i hi hl=>by have:=e02.size; simp at hi; omega),(b24.ah e5 (by simp)).ah k6 (by simp; omega),?_⟩;have hopA:ro=.ok (t,w):=hopA.trans hd;subst hopA;exact ⟨rfl,rfl,hw2,sl,us,se,b6,(A.ah k6 (fun i hi hl=>by simp at hi; omega)).mono (by have:=e4.size; omega)⟩
 rintro ⟨n7,n8,⟨⟩⟩ g4 ⟨e04,b24,hJ⟩;simp only at hJ;dsimp only [flat,aB,ai,nA,cA];cases ho:ro with
 | error e =>
  subst ho;obtain ⟨rfl,he⟩:=hJ;refine bd (by simp; omega) ?_;exact bad (e:=e) e04 b24 rfl hop he
 | ok q =>
  obtain ⟨t,w⟩:=q;subst ho;obtain ⟨rfl,rfl,hw,sl,us,se,b34,A⟩:=hJ;simp only at hop;refine bo rfl ?_
  have done_:w=2∨w=(if decide (sec=1)=true then 1 else 0)→∀ {L:Lp},(T.ae ⟨g2.size,0,none⟩ [.int .i64,.slice 96,.string,.slice 109,.int .u32,.int .i64] <| fun (n9:Int) (p10:Option Addr) (l11:Nat) (l12:Nat) (s13:ByteArray) (p14:Option Addr) (l15:Nat) (l16:Nat) (n17:Int) (n18:Int) =>
    T.ap ⟨g1.size,0,none⟩ [.int .i64 n9,.slice p10 l11 l12,.string s13,.slice p14 l15 l16,.int .u32 n17,.int .i64 n18] <|
    T.ae ⟨g1.size,0,none⟩ [.int .i64,.slice 96,.string,.slice 109,.int .u32,.int .i64] <| fun (n19:Int) (p20:Option Addr) (l21:Nat) (l22:Nat) (s23:ByteArray) (p24:Option Addr) (l25:Nat) (l26:Nat) (n27:Int) (n28:Int) =>
    T.ret (.tuple #[.agg #[.int .i64 n19,.slice p20 l21 l22,.string s23,.slice p24 l25 l26,.int .u32 n27,.int .i64 n28],.int .i64 (0:Int)])) L (Eo h r) g4:=by
   intro hh L;refine ad b34 (((t.kind:Nat):Int),(sl.p,sl.l,sl.c),t.name,(se.p,se.l,se.c),(t.e.num:Int),((t.sec:Nat):Int),()) rfl ?_;dsimp only [flat,aB,ai,nA,cA];exact good e04 b24 rfl (hop.trans (if_pos hh)) A
  refine af (fun g=>?_) (fun g=>?_)
  ·have g:=of_decide_eq_true g;have hw2:¬ w=2:=fun e=>by rw [e] at g; simp [IK] at g
   have hwi:IK w=(w:Int):=by unfold IK; rw [if_neg hw2]
   rw [hwi,hs4];refine af (fun f=>?_) (fun f=>?_)
   ·have f:¬ (w:Int)=if sec=1 then 1 else 0:=by simpa using f
    refine bad (e:=21) e04 b24 rfl (hop.trans (if_neg ?_)) (by decide);rintro (x | x)
    ·exact hw2 x
    ·apply f;rw [x]
     by_cases hs:sec=1 <;> simp [hs]
   ·have f:(w:Int)=if sec=1 then 1 else 0:=by simpa using f
    refine done_ (.inr ?_)
    by_cases hs:sec=1
    ·simp [hs] at f ⊢; omega
    ·simp [hs] at f ⊢; omega
  ·have g:=of_decide_eq_false g;have hw2:w=2:=by
    by_cases e:w=2
    ·exact e
    ·exfalso;apply g;unfold IK;rw [if_neg e];omega
   exact done_ (.inl hw2)
end Go.Sx.Ob
set_option linter.unusedVariables false
set_option linter.unusedSimpArgs false
set_option maxRecDepth 100000
namespace Go.Sx
open Go.Proofs
theorem GX {s:ByteArray} {a k':Nat} {t:Tok} (ha:a≤s.size) (h:kh s a=.tok t k'):LX t:=by
 have hsz:s.data.toList.length=s.size:=by simp
 unfold kh at h;split at h
 ·cases h
 split at h
 ·cases h
 have hlen:(s.data.toList.drop a).length=s.size-a:=by rw [List.length_drop,hsz]
 split at h
 ·rename_i h1 h2 h3;split at h
  ·cases h
  ·rename_i h4;cases h;refine ⟨by simp,fun _=>⟨rfl,?_⟩⟩;have h5:=bY (s.data.toList.drop a) aU;have h0:(s.data.toList.drop a).getD 0 0=s.data.toList.getD a 0:=by simp [List.getD]
   have h6:=(mL (s:=s.data.toList.drop a) (set:=aU) (by omega)).2 (by
    rw [h0];show (bV++aS).contains _=true;rw [nF,h3]; rfl)
   have e:(s.extract a (a+aK (s.data.toList.drop a) aU)).data.toList=(s.data.toList.drop a).take (aK (s.data.toList.drop a) aU):=by
    rw [ff,show a+aK (s.data.toList.drop a) aU-a=aK (s.data.toList.drop a) aU by omega]
   show bh (s.extract a (a+aK (s.data.toList.drop a) aU)).data.toList=!(iG (s.extract a (a+aK (s.data.toList.drop a) aU)).data.toList).2.2;rw [e];unfold bh;have l1:((s.data.toList.drop a).take (aK (s.data.toList.drop a) aU)).length=aK (s.data.toList.drop a) aU:=by rw [List.length_take]; omega
   have l2:((s.data.toList.drop a).take (aK (s.data.toList.drop a) aU)).getD 0 0=s.data.toList.getD a 0:=by rw [← h0]; exact getD_take (by omega)
   have l3:((s.data.toList.drop a).take (aK (s.data.toList.drop a) aU)).all (fun c=>eW c || eu c)=true:=by
    refine List.all_eq_true.2 fun c hc=>?_
    obtain ⟨i,hi,rfl⟩:=List.getElem_of_mem hc;rw [l1] at hi;have h7:=qQ hi;have h8:(bV++aS).contains ((s.data.toList.drop a).getD i 0)=true:=h7;rw [nF] at h8;rw [List.getElem_take];rw [List.getD,List.getElem?_eq_getElem (by omega)] at h8;exact h8
   rw [l1,l2,l3,h3,decide_eq_true (by omega),decide_eq_true (by omega)] <;> rfl
 split at h
 ·split at h
  ·cases h
  ·cases h;exact ⟨(qR _).2,by simp⟩
 split at h
 ·split at h
  ·cases h
  ·cases h;exact ⟨by show (s.data.toList.getD (a+1) 0).toNat<4294967296; have:=(s.data.toList.getD (a+1) 0).toNat_lt; omega,by simp⟩
 split at h
 ·cases h;exact ⟨by simp,by simp⟩
 ·cases h
theorem Dy {s:ByteArray}:∀ (f k:Nat) (acc:List Tok),k≤s.size→Wf acc→Wf (jG s f k acc).1
 | 0,k,acc,hk,w=>w
 | f+1,k,acc,hk,w=>by
  unfold jG;cases h:dO s k with
  | stop=>exact w
  | bS a=>intro t ht; simp at ht
  | tok t k' =>
   simp only;have h1:=mP hk h;have hle:k+aK (s.data.toList.drop k) aI≤s.size:=by
    have:=bY (s.data.toList.drop k) aI
    rw [List.length_drop] at this;have hsz:s.data.toList.length=s.size:=by simp
    omega
   refine Dy f k' _ h1.2 ?_;intro u hu;rcases List.mem_append.1 hu with hu | hu
   ·exact w u hu
   ·rw [List.mem_singleton] at hu;subst hu;exact GX hle h
theorem IP (s:ByteArray):Wf (dZ s).1:=Dy _ 0 [] (Nat.zero_le _) (by intro t ht; simp at ht)
theorem yy {s:ByteArray}:∀ (f k:Nat) (acc:List Tok),k≤s.size→(∀ t,t∈acc→t.text.size≤s.size)→∀ t,t∈(jG s f k acc).1→t.text.size≤s.size
 | 0,k,acc,hk,w=>w
 | f+1,k,acc,hk,w=>by
  unfold jG;cases h:dO s k with
  | stop=>exact w
  | bS a=>intro t ht; simp at ht
  | tok t k' =>
   simp only;have h1:=mP hk h;have hle:k+aK (s.data.toList.drop k) aI≤s.size:=by
    have:=bY (s.data.toList.drop k) aI
    rw [List.length_drop] at this;have hsz:s.data.toList.length=s.size:=by simp
    omega
   refine yy f k' _ h1.2 ?_;intro u hu;rcases List.mem_append.1 hu with hu | hu
   ·exact w u hu
   ·rw [List.mem_singleton] at hu;subst hu;obtain ⟨_,_,_,h4⟩:=x5 hle h;rw [h4,eU];omega
theorem xR (s:ByteArray):∀ t,t∈(dZ s).1→t.text.size≤s.size:=yy _ 0 [] (Nat.zero_le _) (by intro t ht; simp at ht)
theorem wL (n:Nat):∀ (ts:List Tok) (done:List (List Tok)) (bW:List Tok) (r:List (List Tok)),dS n ts done bW=.ok r→(∀ l,l∈done→l≠[])→∀ l,l∈r→l≠[]
 | [],done,bW,r,h,hd=>by
  simp only [dS] at h;split at h
  ·cases h
  ·rename_i hc;injection h with h
   subst h;intro l hl;rcases List.mem_append.1 hl with hl | hl
   ·exact hd l hl
   ·have:l=bW:=by simpa using hl
    subst this;exact hc
 | t::ts,done,bW,r,h,hd=>by
  simp only [dS] at h;split at h
  ·cases h
  ·rename_i h0;split at h
   ·rename_i h1;refine wL n ts _ _ r h fun l hl=>?_
    rcases List.mem_append.1 hl with hl | hl
    ·exact hd l hl
    ·have:l=bW:=by simpa using hl
     subst this;intro hh;subst hh;rw [h1] at h0;simp at h0
   ·exact wL n ts _ _ r h hd
theorem yu (n:Nat) (lb:ByteArray) (us:List Tok):∀ l,l∈(bP n lb us).1.args→l≠[]:=by
 cases us with
 | nil=>simp [bP]
 | cons t us =>
  simp only [bP];split
  ·simp [fN]
  ·cases hA:fg n us with
   | error a=>simp [fN]
   | ok r =>
    unfold fg at hA;split at hA
    ·injection hA with hA
     subst hA
     simp
    ·exact wL n us [] [] r hA (by simp)
theorem EB (s:ByteArray):∀ l,l∈(aJ s).1.args→l≠[]:=by
 unfold aJ;split
 ·simp [fN]
 ·unfold dX;split
  ·exact yu _ _ _
  ·exact yu _ _ _
theorem rV (P:Tok→Prop) (n:Nat):∀ (ts:List Tok) (done:List (List Tok)) (bW:List Tok) (r:List (List Tok)),dS n ts done bW=.ok r→(∀ l,l∈done→∀ t,t∈l→P t)→(∀ t,t∈bW→P t)→(∀ t,t∈ts→P t)→∀ l,l∈r→∀ t,t∈l→P t
 | [],done,bW,r,h,hd,hc,ht=>by
  simp only [dS] at h;split at h
  ·cases h
  ·injection h with h
   subst h;intro l hl;rcases List.mem_append.1 hl with hl | hl
   ·exact hd l hl
   ·have:l=bW:=by simpa using hl
    subst this;exact hc
 | t::ts,done,bW,r,h,hd,hc,ht=>by
  simp only [dS] at h;split at h
  ·cases h
  ·split at h
   ·refine rV P n ts _ _ r h (fun l hl=>?_) (by simp) (fun x hx=>ht x (by simp [hx]));rcases List.mem_append.1 hl with hl | hl
    ·exact hd l hl
    ·have:l=bW:=by simpa using hl
     subst this;exact hc
   ·refine rV P n ts _ _ r h hd (fun x hx=>?_) (fun x hx=>ht x (by simp [hx]));rcases List.mem_append.1 hx with hx | hx
    ·exact hc x hx
    ·have:x=t:=by simpa using hx
     subst this;exact ht x (by simp)
theorem vY (Q:Tok→Prop) (n:Nat) (lb:ByteArray) (us:List Tok) (h:∀ t,t∈us→Q t):∀ l,l∈(bP n lb us).1.args→∀ t,t∈l→Q t:=by
 cases us with
 | nil=>simp [bP]
 | cons t us =>
  simp only [bP];split
  ·simp [fN]
  ·cases hA:fg n us with
   | error a=>simp [fN]
   | ok r =>
    unfold fg at hA;split at hA
    ·injection hA with hA
     subst hA
     simp
    ·exact rV Q n us [] [] r hA (by simp) (by simp) (fun x hx=>h x (by simp [hx]))
theorem vx (Q:Tok→Prop) (s:ByteArray) (h:∀ t,t∈(dZ s).1→Q t):∀ l,l∈(aJ s).1.args→∀ t,t∈l→Q t:=by
 unfold aJ;split
 ·simp [fN]
 ·unfold dX;split
  ·exact vY Q _ _ _ fun t ht=>h t (List.mem_of_mem_drop ht)
  ·exact vY Q _ _ _ h
theorem gV (s:ByteArray) (hs:s.size≤2^20):∀ a,a∈(aJ s).1.args→Wf a∧a.length≤2^40∧a≠[]∧∀ t,t∈a→t.text.size≤9223372036854775807:=fun a ha =>
 ⟨vx LX s (IP s) a ha,by have:=(eN s).1 a ha; omega,EB s a ha,fun t ht=>by have:=vx (fun t=>t.text.size≤s.size) s (xR s) a ha t ht; omega⟩
end Go.Sx
namespace Go.Sx.Ob
open Go.Proofs
theorem Dg.parse {h:Hp} {b:Nat} {te es:TypeId} {p:Option Addr} {c:Nat} {al:List In} (s:ByteArray) (hs:s.size≤2^20) (A:fX h b te es p c al) (ha:al.map In.ts=(aJ s).1.args):Dg h p al.length al∧al.length≤2^32:=by
 refine ⟨Dg.of A fun a hm=>gV s hs a.ts (ha▸List.mem_map_of_mem hm),?_⟩
 have:=(eN s).2
 rw [← ha,List.length_map] at this;omega
theorem iy.z (h:Hp) (b:Nat):iy h b bF ⟨none,0,0⟩ [] ⟨none,0,0⟩:=⟨dI.nil _ _,rfl,SL.nil _ _ _ _,.inl rfl⟩
end Go.Sx.Ob
