/- Contracts over heaps, and plain laws, for the functions that the laws of chapter 9 call, part 4: The operations over heaps: registers, numbers, Check, power. Check and instructi Condition: as each statement says. -/
import Derived.Test.YtfkjiiapldkoeaaGreatDoorP3
import Derived.Test.YtfkjiiapldkoeaaGreatDoorAobjU
import Derived.Test.YtfkjiiapldkoeaaGreatDoorAobjTa
import Derived.Test.YtfkjiiapldkoeaaGreatDoorRows
import Derived.ProofKit
import Derived.LaidMore
import Derived.LaidLaws
import Derived.OpenShut
import Derived.ChangeSame
import Derived.ChangeStays
import Derived.ChangeOld
import Derived.ChangeSlices
import Derived.ChangeMaps5
import Derived.JoinedCond
import Derived.Lib.LaidTab
import Derived.Stop.Joined
set_option linter.unusedVariables false
set_option linter.unusedSimpArgs false
set_option linter.deprecated false
set_option maxRecDepth 100000
namespace Go.Sx.Ob
open Go.Proofs
variable {e1 e2:TypeId} {sec:Nat}
theorem CI (n:Int):(n==IntKind.wrap .i32 (IntKind.wrap .i8 n))=(decide (-128≤n) && decide (n≤127)):=by
 have h1:IntKind.wrap .i8 n=if n % 256<128 then n % 256 else n % 256-256:=by
  simp only [IntKind.wrap,IntKind.bits,IntKind.signed,Bool.true_and];split <;> rename_i hh
  ·have:=of_decide_eq_true hh
   rw [if_neg (by omega)];rfl
  ·have:¬ _:=fun h=>hh (decide_eq_true h)
   rw [if_pos (by omega)];rfl
 have h2:IntKind.wrap .i32 (IntKind.wrap .i8 n)=IntKind.wrap .i8 n:=by
  have:-128≤IntKind.wrap .i8 n∧IntKind.wrap .i8 n≤127:=by rw [h1]; split <;> omega
  generalize IntKind.wrap .i8 n=m at this;simp only [IntKind.wrap,IntKind.bits,IntKind.signed,Bool.true_and];split <;> rename_i hh
  ·have:=of_decide_eq_true hh; omega
  ·have:¬ _:=fun h=>hh (decide_eq_true h); omega
 rw [h2,h1]
 by_cases g:-128≤n∧n≤127
 ·rw [decide_eq_true g.1,decide_eq_true g.2]
  simp
  split <;> omega
 ·have:(decide (-128≤n) && decide (n≤127))=false:=by
   rw [Bool.and_eq_false_iff]
   simp
   omega
  rw [this]
  simp
  split <;> omega
theorem An (n:Int):(n==IntKind.wrap .i32 (IntKind.wrap .i16 n))=(decide (-32768≤n) && decide (n≤32767)):=by
 have h1:IntKind.wrap .i16 n=if n % 65536<32768 then n % 65536 else n % 65536-65536:=by
  simp only [IntKind.wrap,IntKind.bits,IntKind.signed,Bool.true_and];split <;> rename_i hh
  ·have:=of_decide_eq_true hh
   rw [if_neg (by omega)];rfl
  ·have:¬ _:=fun h=>hh (decide_eq_true h)
   rw [if_pos (by omega)];rfl
 have h2:IntKind.wrap .i32 (IntKind.wrap .i16 n)=IntKind.wrap .i16 n:=by
  have:-32768≤IntKind.wrap .i16 n∧IntKind.wrap .i16 n≤32767:=by rw [h1]; split <;> omega
  generalize IntKind.wrap .i16 n=m at this;simp only [IntKind.wrap,IntKind.bits,IntKind.signed,Bool.true_and];split <;> rename_i hh
  ·have:=of_decide_eq_true hh; omega
  ·have:¬ _:=fun h=>hh (decide_eq_true h); omega
 rw [h2,h1]
 by_cases g:-32768≤n∧n≤32767
 ·rw [decide_eq_true g.1,decide_eq_true g.2]
  simp
  split <;> omega
 ·have:(decide (-32768≤n) && decide (n≤32767))=false:=by
   rw [Bool.and_eq_false_iff]
   simp
   omega
  rw [this]
  simp
  split <;> omega
theorem bk (h:Hp) (n f:Int):pQ Tryz.prog 173 [.int .i32 n,.int .i64 f] h (.bool (gQ n f)):=by
 refine cK mixed Tryz.func173 (by kernel_rfl) (sN n f) ?_;unfold qb;rw [CI,An];refine af (fun q=>?_) (fun q=>?_)
 ·have q:f=1:=by simpa using q
  exact ⟨by unfold gQ; rw [if_pos q],rfl⟩
 have q:¬ f=1:=by simpa using q
 refine af (fun r=>?_) (fun r=>?_)
 ·have r:f=2:=by simpa using r
  exact ⟨by unfold gQ; rw [if_neg q,if_pos r],rfl⟩
 have r:¬ f=2:=by simpa using r
 exact ⟨by unfold gQ; rw [if_neg q,if_neg r]; rfl,rfl⟩
theorem vA (h:Hp) (n:Int):pQ Tryz.prog 79 [.int .i64 n] h (.bool (lR n)):=by
 refine cK mixed Tryz.func79 (by kernel_rfl) (um n) ?_;unfold re;have hf:¬ (1≤n∧n≤256)→lR n=false:=by
  intro g;cases hp:lR n with
  | false=>rfl
  | true =>
   exfalso;unfold lR at hp;simp only [Bool.or_eq_true,decide_eq_true_eq] at hp;omega
 refine af (fun q=>?_) (fun q=>?_)
 ·have q:=of_decide_eq_true q;refine af (fun r=>?_) (fun r=>?_)
  ·have r:=of_decide_eq_true r;refine ⟨?_,rfl⟩;obtain ⟨k,rfl,hk⟩:∃ k:Nat,n=((k+1:Nat):Int)∧k<256:=⟨(n-1).toNat,by omega,by omega⟩
   have:∀ k:Fin 256,(IntKind.wrap .i64 (((BitVec.toNat ((BitVec.ofInt 64 ((k.1+1:Nat):Int)) &&& (BitVec.ofInt 64 (IntKind.wrap .i64 (((k.1+1:Nat):Int)-(1:Int)))))):Nat):Int)==(0:Int))=lR ((k.1+1:Nat):Int):=by
    decide +kernel
   rw [this ⟨k,hk⟩]
  ·have r:=of_decide_eq_false r;exact ⟨by rw [hf (by omega)],rfl⟩
 ·have q:=of_decide_eq_false q;exact ⟨by rw [hf (by omega)],rfl⟩
theorem bF (h:Hp) (n m:Int):pQ Tryz.prog 172 [.int .i64 n,.int .i64 m] h (.bool (oo n m)):=by
 refine cK mixed Tryz.func172 (by kernel_rfl) (vj n m) ?_;unfold tX;refine af (fun q=>?_) (fun q=>?_)
 ·have q:=of_decide_eq_true q;refine ⟨?_,rfl⟩;unfold oo;rw [decide_eq_true (show 0≤n by omega)];rfl
 ·have q:=of_decide_eq_false q;refine ⟨?_,rfl⟩;unfold oo;rw [decide_eq_false (show ¬ 0≤n by omega)];rfl
theorem cF (a b:Int):(a==b)=decide (a=b):=rfl
def ct (op a b n form:Int):Value:=.agg #[.int .i64 op,.int .i64 a,.int .i64 b,.int .i32 n,.int .i64 form]
theorem Hj (h:Hp) (op a b n form:Int):HC Tryz.prog 143 #[ct op a b n form,.int .i64 1] h fun w h'=>w=.bool (bw 1 a b n)∧Ext h h':=by
 refine aK (args:=[ct op a b n form,.int .i64 1]) mixed Tryz.func143 (by kernel_rfl) (mZ op a b n form) ?_;unfold jx;refine aX ?_;intro g1 b1 e1 z1
 try simp only [ao]
 repeat' (first
  | (refine ad b1 (_,()) rfl ?_; dsimp only [flat,az,ah,nA,cA])
  | (refine aD (bF _ _ _) ?_)
  | (refine aD (bk _ _ _) ?_)
  | (refine af (fun q=>?_) (fun q=>?_)))
 all_goals (refine ⟨?_,e1⟩; first | (simp_all [bw,cF]; done) | (simp_all [bw,cF] <;> simp [oo] <;> omega))
theorem IQ (h:Hp) (op a b n form:Int):HC Tryz.prog 144 #[ct op a b n form,.int .i64 1] h fun w h'=>w=.bool (nR 1 n form)∧Ext h h':=by
 refine aK (args:=[ct op a b n form,.int .i64 1]) mixed Tryz.func144 (by kernel_rfl) (qB op a b n form) ?_;unfold mG;refine aX ?_;intro g1 b1 e1 z1
 try simp only [ao]
 repeat' (first
  | (refine ad b1 (_,()) rfl ?_; dsimp only [flat,az,ah,nA,cA])
  | (refine aD (bF _ _ _) ?_)
  | (refine aD (bk _ _ _) ?_)
  | (refine af (fun q=>?_) (fun q=>?_)))
 all_goals (refine ⟨?_,e1⟩; first | (simp_all [nR,cF]; done) | (simp_all [nR,cF] <;> omega))
theorem Hb (h:Hp) (op a b n form:Int):HC Tryz.prog 143 #[ct op a b n form,.int .i64 2] h fun w h'=>w=.bool (bw 2 a b n)∧Ext h h':=by
 refine aK (args:=[ct op a b n form,.int .i64 2]) mixed Tryz.func143 (by kernel_rfl) (nh op a b n form) ?_;unfold jP;refine aX ?_;intro g1 b1 e1 z1
 try simp only [ao]
 repeat' (first
  | (refine ad b1 (_,()) rfl ?_; dsimp only [flat,az,ah,nA,cA])
  | (refine aD (bF _ _ _) ?_)
  | (refine aD (bk _ _ _) ?_)
  | (refine af (fun q=>?_) (fun q=>?_)))
 all_goals (refine ⟨?_,e1⟩; first | (simp_all [bw,cF]; done) | (simp_all [bw,cF] <;> simp [oo] <;> omega))
theorem Jk (h:Hp) (op a b n form:Int):HC Tryz.prog 144 #[ct op a b n form,.int .i64 2] h fun w h'=>w=.bool (nR 2 n form)∧Ext h h':=by
 refine aK (args:=[ct op a b n form,.int .i64 2]) mixed Tryz.func144 (by kernel_rfl) (qz op a b n form) ?_;unfold mL;refine aX ?_;intro g1 b1 e1 z1
 try simp only [ao]
 repeat' (first
  | (refine ad b1 (_,()) rfl ?_; dsimp only [flat,az,ah,nA,cA])
  | (refine aD (bF _ _ _) ?_)
  | (refine aD (bk _ _ _) ?_)
  | (refine af (fun q=>?_) (fun q=>?_)))
 all_goals (refine ⟨?_,e1⟩; first | (simp_all [nR,cF]; done) | (simp_all [nR,cF] <;> omega))
theorem FI (h:Hp) (op a b n form:Int):HC Tryz.prog 143 #[ct op a b n form,.int .i64 3] h fun w h'=>w=.bool (bw 3 a b n)∧Ext h h':=by
 refine aK (args:=[ct op a b n form,.int .i64 3]) mixed Tryz.func143 (by kernel_rfl) (mX op a b n form) ?_;unfold jo;refine aX ?_;intro g1 b1 e1 z1
 try simp only [ao]
 repeat' (first
  | (refine ad b1 (_,()) rfl ?_; dsimp only [flat,az,ah,nA,cA])
  | (refine aD (bF _ _ _) ?_)
  | (refine aD (bk _ _ _) ?_)
  | (refine af (fun q=>?_) (fun q=>?_)))
 all_goals (refine ⟨?_,e1⟩; first | (simp_all [bw,cF]; done) | (simp_all [bw,cF] <;> simp [oo] <;> omega))
theorem Iu (h:Hp) (op a b n form:Int):HC Tryz.prog 144 #[ct op a b n form,.int .i64 3] h fun w h'=>w=.bool (nR 3 n form)∧Ext h h':=by
 refine aK (args:=[ct op a b n form,.int .i64 3]) mixed Tryz.func144 (by kernel_rfl) (qT op a b n form) ?_;unfold mH;refine aX ?_;intro g1 b1 e1 z1
 try simp only [ao]
 repeat' (first
  | (refine ad b1 (_,()) rfl ?_; dsimp only [flat,az,ah,nA,cA])
  | (refine aD (bF _ _ _) ?_)
  | (refine aD (bk _ _ _) ?_)
  | (refine af (fun q=>?_) (fun q=>?_)))
 all_goals (refine ⟨?_,e1⟩; first | (simp_all [nR,cF]; done) | (simp_all [nR,cF] <;> omega))
theorem Hx (h:Hp) (op a b n form:Int):HC Tryz.prog 143 #[ct op a b n form,.int .i64 4] h fun w h'=>w=.bool (bw 4 a b n)∧Ext h h':=by
 refine aK (args:=[ct op a b n form,.int .i64 4]) mixed Tryz.func143 (by kernel_rfl) (mY op a b n form) ?_;unfold js;refine aX ?_;intro g1 b1 e1 z1
 try simp only [ao]
 repeat' (first
  | (refine ad b1 (_,()) rfl ?_; dsimp only [flat,az,ah,nA,cA])
  | (refine aD (bF _ _ _) ?_)
  | (refine aD (bk _ _ _) ?_)
  | (refine af (fun q=>?_) (fun q=>?_)))
 all_goals (refine ⟨?_,e1⟩; first | (simp_all [bw,cF]; done) | (simp_all [bw,cF] <;> simp [oo] <;> omega))
theorem Jj (h:Hp) (op a b n form:Int):HC Tryz.prog 144 #[ct op a b n form,.int .i64 4] h fun w h'=>w=.bool (nR 4 n form)∧Ext h h':=by
 refine aK (args:=[ct op a b n form,.int .i64 4]) mixed Tryz.func144 (by kernel_rfl) (qn op a b n form) ?_;unfold mK;refine aX ?_;intro g1 b1 e1 z1
 try simp only [ao]
 repeat' (first
  | (refine ad b1 (_,()) rfl ?_; dsimp only [flat,az,ah,nA,cA])
  | (refine aD (bF _ _ _) ?_)
  | (refine aD (bk _ _ _) ?_)
  | (refine af (fun q=>?_) (fun q=>?_)))
 all_goals (refine ⟨?_,e1⟩; first | (simp_all [nR,cF]; done) | (simp_all [nR,cF] <;> omega))
theorem Ha (h:Hp) (op a b n form:Int):HC Tryz.prog 143 #[ct op a b n form,.int .i64 5] h fun w h'=>w=.bool (bw 5 a b n)∧Ext h h':=by
 refine aK (args:=[ct op a b n form,.int .i64 5]) mixed Tryz.func143 (by kernel_rfl) (mT op a b n form) ?_;unfold jL;refine aX ?_;intro g1 b1 e1 z1
 try simp only [ao]
 repeat' (first
  | (refine ad b1 (_,()) rfl ?_; dsimp only [flat,az,ah,nA,cA])
  | (refine aD (bF _ _ _) ?_)
  | (refine aD (bk _ _ _) ?_)
  | (refine af (fun q=>?_) (fun q=>?_)))
 all_goals (refine ⟨?_,e1⟩; first | (simp_all [bw,cF]; done) | (simp_all [bw,cF] <;> simp [oo] <;> omega))
theorem Ir (h:Hp) (op a b n form:Int):HC Tryz.prog 144 #[ct op a b n form,.int .i64 5] h fun w h'=>w=.bool (nR 5 n form)∧Ext h h':=by
 refine aK (args:=[ct op a b n form,.int .i64 5]) mixed Tryz.func144 (by kernel_rfl) (qk op a b n form) ?_;unfold mI;refine aX ?_;intro g1 b1 e1 z1
 try simp only [ao]
 repeat' (first
  | (refine ad b1 (_,()) rfl ?_; dsimp only [flat,az,ah,nA,cA])
  | (refine aD (bF _ _ _) ?_)
  | (refine aD (bk _ _ _) ?_)
  | (refine af (fun q=>?_) (fun q=>?_)))
 all_goals (refine ⟨?_,e1⟩; first | (simp_all [nR,cF]; done) | (simp_all [nR,cF] <;> omega))
theorem Fq (h:Hp) (op a b n form:Int):HC Tryz.prog 143 #[ct op a b n form,.int .i64 6] h fun w h'=>w=.bool (bw 6 a b n)∧Ext h h':=by
 refine aK (args:=[ct op a b n form,.int .i64 6]) mixed Tryz.func143 (by kernel_rfl) (nr op a b n form) ?_;unfold jA;refine aX ?_;intro g1 b1 e1 z1
 try simp only [ao]
 repeat' (first
  | (refine ad b1 (_,()) rfl ?_; dsimp only [flat,az,ah,nA,cA])
  | (refine aD (bF _ _ _) ?_)
  | (refine aD (bk _ _ _) ?_)
  | (refine af (fun q=>?_) (fun q=>?_)))
 all_goals (refine ⟨?_,e1⟩; first | (simp_all [bw,cF]; done) | (simp_all [bw,cF] <;> simp [oo] <;> omega))
theorem I0 (h:Hp) (op a b n form:Int):HC Tryz.prog 144 #[ct op a b n form,.int .i64 6] h fun w h'=>w=.bool (nR 6 n form)∧Ext h h':=by
 refine aK (args:=[ct op a b n form,.int .i64 6]) mixed Tryz.func144 (by kernel_rfl) (qC op a b n form) ?_;unfold mB;refine aX ?_;intro g1 b1 e1 z1
 try simp only [ao]
 repeat' (first
  | (refine ad b1 (_,()) rfl ?_; dsimp only [flat,az,ah,nA,cA])
  | (refine aD (bF _ _ _) ?_)
  | (refine aD (bk _ _ _) ?_)
  | (refine af (fun q=>?_) (fun q=>?_)))
 all_goals (refine ⟨?_,e1⟩; first | (simp_all [nR,cF]; done) | (simp_all [nR,cF] <;> omega))
theorem G3 (h:Hp) (op a b n form:Int):HC Tryz.prog 143 #[ct op a b n form,.int .i64 7] h fun w h'=>w=.bool (bw 7 a b n)∧Ext h h':=by
 refine aK (args:=[ct op a b n form,.int .i64 7]) mixed Tryz.func143 (by kernel_rfl) (ni op a b n form) ?_;unfold jB;refine aX ?_;intro g1 b1 e1 z1
 try simp only [ao]
 repeat' (first
  | (refine ad b1 (_,()) rfl ?_; dsimp only [flat,az,ah,nA,cA])
  | (refine aD (bF _ _ _) ?_)
  | (refine aD (bk _ _ _) ?_)
  | (refine af (fun q=>?_) (fun q=>?_)))
 all_goals (refine ⟨?_,e1⟩; first | (simp_all [bw,cF]; done) | (simp_all [bw,cF] <;> simp [oo] <;> omega))
theorem H8 (h:Hp) (op a b n form:Int):HC Tryz.prog 144 #[ct op a b n form,.int .i64 7] h fun w h'=>w=.bool (nR 7 n form)∧Ext h h':=by
 refine aK (args:=[ct op a b n form,.int .i64 7]) mixed Tryz.func144 (by kernel_rfl) (qy op a b n form) ?_;unfold mE;refine aX ?_;intro g1 b1 e1 z1
 try simp only [ao]
 repeat' (first
  | (refine ad b1 (_,()) rfl ?_; dsimp only [flat,az,ah,nA,cA])
  | (refine aD (bF _ _ _) ?_)
  | (refine aD (bk _ _ _) ?_)
  | (refine af (fun q=>?_) (fun q=>?_)))
 all_goals (refine ⟨?_,e1⟩; first | (simp_all [nR,cF]; done) | (simp_all [nR,cF] <;> omega))
theorem FL (h:Hp) (op a b n form:Int):HC Tryz.prog 143 #[ct op a b n form,.int .i64 8] h fun w h'=>w=.bool (bw 8 a b n)∧Ext h h':=by
 refine aK (args:=[ct op a b n form,.int .i64 8]) mixed Tryz.func143 (by kernel_rfl) (mW op a b n form) ?_;unfold jN;refine aX ?_;intro g1 b1 e1 z1
 try simp only [ao]
 repeat' (first
  | (refine ad b1 (_,()) rfl ?_; dsimp only [flat,az,ah,nA,cA])
  | (refine aD (bF _ _ _) ?_)
  | (refine aD (bk _ _ _) ?_)
  | (refine af (fun q=>?_) (fun q=>?_)))
 all_goals (refine ⟨?_,e1⟩; first | (simp_all [bw,cF]; done) | (simp_all [bw,cF] <;> simp [oo] <;> omega))
theorem Ix (h:Hp) (op a b n form:Int):HC Tryz.prog 144 #[ct op a b n form,.int .i64 8] h fun w h'=>w=.bool (nR 8 n form)∧Ext h h':=by
 refine aK (args:=[ct op a b n form,.int .i64 8]) mixed Tryz.func144 (by kernel_rfl) (qf op a b n form) ?_;unfold mC;refine aX ?_;intro g1 b1 e1 z1
 try simp only [ao]
 repeat' (first
  | (refine ad b1 (_,()) rfl ?_; dsimp only [flat,az,ah,nA,cA])
  | (refine aD (bF _ _ _) ?_)
  | (refine aD (bk _ _ _) ?_)
  | (refine af (fun q=>?_) (fun q=>?_)))
 all_goals (refine ⟨?_,e1⟩; first | (simp_all [nR,cF]; done) | (simp_all [nR,cF] <;> omega))
theorem G6 (h:Hp) (op a b n form:Int):HC Tryz.prog 143 #[ct op a b n form,.int .i64 9] h fun w h'=>w=.bool (bw 9 a b n)∧Ext h h':=by
 refine aK (args:=[ct op a b n form,.int .i64 9]) mixed Tryz.func143 (by kernel_rfl) (nk op a b n form) ?_;unfold jI;refine aX ?_;intro g1 b1 e1 z1
 try simp only [ao]
 repeat' (first
  | (refine ad b1 (_,()) rfl ?_; dsimp only [flat,az,ah,nA,cA])
  | (refine aD (bF _ _ _) ?_)
  | (refine aD (bk _ _ _) ?_)
  | (refine af (fun q=>?_) (fun q=>?_)))
 all_goals (refine ⟨?_,e1⟩; first | (simp_all [bw,cF]; done) | (simp_all [bw,cF] <;> simp [oo] <;> omega))
theorem JC (h:Hp) (op a b n form:Int):HC Tryz.prog 144 #[ct op a b n form,.int .i64 9] h fun w h'=>w=.bool (nR 9 n form)∧Ext h h':=by
 refine aK (args:=[ct op a b n form,.int .i64 9]) mixed Tryz.func144 (by kernel_rfl) (qS op a b n form) ?_;unfold mJ;refine aX ?_;intro g1 b1 e1 z1
 try simp only [ao]
 repeat' (first
  | (refine ad b1 (_,()) rfl ?_; dsimp only [flat,az,ah,nA,cA])
  | (refine aD (bF _ _ _) ?_)
  | (refine aD (bk _ _ _) ?_)
  | (refine af (fun q=>?_) (fun q=>?_)))
 all_goals (refine ⟨?_,e1⟩; first | (simp_all [nR,cF]; done) | (simp_all [nR,cF] <;> omega))
theorem ET (h:Hp) (op a b n form:Int):HC Tryz.prog 143 #[ct op a b n form,.int .i64 10] h fun w h'=>w=.bool (bw 10 a b n)∧Ext h h':=by
 refine aK (args:=[ct op a b n form,.int .i64 10]) mixed Tryz.func143 (by kernel_rfl) (mA op a b n form) ?_;unfold iO;refine aX ?_;intro g1 b1 e1 z1
 try simp only [ao]
 repeat' (first
  | (refine ad b1 (_,()) rfl ?_; dsimp only [flat,az,ah,nA,cA])
  | (refine aD (bF _ _ _) ?_)
  | (refine aD (bk _ _ _) ?_)
  | (refine af (fun q=>?_) (fun q=>?_)))
 all_goals (refine ⟨?_,e1⟩; first | (simp_all [bw,cF]; done) | (simp_all [bw,cF] <;> simp [oo] <;> omega))
theorem Hv (h:Hp) (op a b n form:Int):HC Tryz.prog 144 #[ct op a b n form,.int .i64 10] h fun w h'=>w=.bool (nR 10 n form)∧Ext h h':=by
 refine aK (args:=[ct op a b n form,.int .i64 10]) mixed Tryz.func144 (by kernel_rfl) (px op a b n form) ?_;unfold kK;refine aX ?_;intro g1 b1 e1 z1
 try simp only [ao]
 repeat' (first
  | (refine ad b1 (_,()) rfl ?_; dsimp only [flat,az,ah,nA,cA])
  | (refine aD (bF _ _ _) ?_)
  | (refine aD (bk _ _ _) ?_)
  | (refine af (fun q=>?_) (fun q=>?_)))
 all_goals (refine ⟨?_,e1⟩; first | (simp_all [nR,cF]; done) | (simp_all [nR,cF] <;> omega))
theorem Ez (h:Hp) (op a b n form:Int):HC Tryz.prog 143 #[ct op a b n form,.int .i64 11] h fun w h'=>w=.bool (bw 11 a b n)∧Ext h h':=by
 refine aK (args:=[ct op a b n form,.int .i64 11]) mixed Tryz.func143 (by kernel_rfl) (ma op a b n form) ?_;unfold iN;refine aX ?_;intro g1 b1 e1 z1
 try simp only [ao]
 repeat' (first
  | (refine ad b1 (_,()) rfl ?_; dsimp only [flat,az,ah,nA,cA])
  | (refine aD (bF _ _ _) ?_)
  | (refine aD (bk _ _ _) ?_)
  | (refine af (fun q=>?_) (fun q=>?_)))
 all_goals (refine ⟨?_,e1⟩; first | (simp_all [bw,cF]; done) | (simp_all [bw,cF] <;> simp [oo] <;> omega))
theorem Gm (h:Hp) (op a b n form:Int):HC Tryz.prog 144 #[ct op a b n form,.int .i64 11] h fun w h'=>w=.bool (nR 11 n form)∧Ext h h':=by
 refine aK (args:=[ct op a b n form,.int .i64 11]) mixed Tryz.func144 (by kernel_rfl) (pK op a b n form) ?_;unfold kV;refine aX ?_;intro g1 b1 e1 z1
 try simp only [ao]
 repeat' (first
  | (refine ad b1 (_,()) rfl ?_; dsimp only [flat,az,ah,nA,cA])
  | (refine aD (bF _ _ _) ?_)
  | (refine aD (bk _ _ _) ?_)
  | (refine af (fun q=>?_) (fun q=>?_)))
 all_goals (refine ⟨?_,e1⟩; first | (simp_all [nR,cF]; done) | (simp_all [nR,cF] <;> omega))
theorem Ev (h:Hp) (op a b n form:Int):HC Tryz.prog 143 #[ct op a b n form,.int .i64 12] h fun w h'=>w=.bool (bw 12 a b n)∧Ext h h':=by
 refine aK (args:=[ct op a b n form,.int .i64 12]) mixed Tryz.func143 (by kernel_rfl) (lT op a b n form) ?_;unfold iQ;refine aX ?_;intro g1 b1 e1 z1
 try simp only [ao]
 repeat' (first
  | (refine ad b1 (_,()) rfl ?_; dsimp only [flat,az,ah,nA,cA])
  | (refine aD (bF _ _ _) ?_)
  | (refine aD (bk _ _ _) ?_)
  | (refine af (fun q=>?_) (fun q=>?_)))
 all_goals (refine ⟨?_,e1⟩; first | (simp_all [bw,cF]; done) | (simp_all [bw,cF] <;> simp [oo] <;> omega))
theorem Ho (h:Hp) (op a b n form:Int):HC Tryz.prog 144 #[ct op a b n form,.int .i64 12] h fun w h'=>w=.bool (nR 12 n form)∧Ext h h':=by
 refine aK (args:=[ct op a b n form,.int .i64 12]) mixed Tryz.func144 (by kernel_rfl) (pB op a b n form) ?_;unfold lB;refine aX ?_;intro g1 b1 e1 z1
 try simp only [ao]
 repeat' (first
  | (refine ad b1 (_,()) rfl ?_; dsimp only [flat,az,ah,nA,cA])
  | (refine aD (bF _ _ _) ?_)
  | (refine aD (bk _ _ _) ?_)
  | (refine af (fun q=>?_) (fun q=>?_)))
 all_goals (refine ⟨?_,e1⟩; first | (simp_all [nR,cF]; done) | (simp_all [nR,cF] <;> omega))
theorem Fc (h:Hp) (op a b n form:Int):HC Tryz.prog 143 #[ct op a b n form,.int .i64 13] h fun w h'=>w=.bool (bw 13 a b n)∧Ext h h':=by
 refine aK (args:=[ct op a b n form,.int .i64 13]) mixed Tryz.func143 (by kernel_rfl) (mf op a b n form) ?_;unfold iP;refine aX ?_;intro g1 b1 e1 z1
 try simp only [ao]
 repeat' (first
  | (refine ad b1 (_,()) rfl ?_; dsimp only [flat,az,ah,nA,cA])
  | (refine aD (bF _ _ _) ?_)
  | (refine aD (bk _ _ _) ?_)
  | (refine af (fun q=>?_) (fun q=>?_)))
 all_goals (refine ⟨?_,e1⟩; first | (simp_all [bw,cF]; done) | (simp_all [bw,cF] <;> simp [oo] <;> omega))
theorem Hq (h:Hp) (op a b n form:Int):HC Tryz.prog 144 #[ct op a b n form,.int .i64 13] h fun w h'=>w=.bool (nR 13 n form)∧Ext h h':=by
 refine aK (args:=[ct op a b n form,.int .i64 13]) mixed Tryz.func144 (by kernel_rfl) (pv op a b n form) ?_;unfold lu;refine aX ?_;intro g1 b1 e1 z1
 try simp only [ao]
 repeat' (first
  | (refine ad b1 (_,()) rfl ?_; dsimp only [flat,az,ah,nA,cA])
  | (refine aD (bF _ _ _) ?_)
  | (refine aD (bk _ _ _) ?_)
  | (refine af (fun q=>?_) (fun q=>?_)))
 all_goals (refine ⟨?_,e1⟩; first | (simp_all [nR,cF]; done) | (simp_all [nR,cF] <;> omega))
theorem y9 (h:Hp) (op a b n form:Int) {s:Nat} (h1:1≤s) (h2:s≤13):HC Tryz.prog 143 #[ct op a b n form,.int .i64 s] h fun w h'=>w=.bool (bw s a b n)∧Ext h h':=by
 have hs:s=1∨s=2∨s=3∨s=4∨s=5∨s=6∨s=7∨s=8∨s=9∨s=10∨s=11∨s=12∨s=13:=by omega
 clear h1 h2;rcases hs with rfl | rfl | rfl | rfl | rfl | rfl | rfl | rfl | rfl | rfl | rfl | rfl | rfl
 ·exact Hj h op a b n form
 ·exact Hb h op a b n form
 ·exact FI h op a b n form
 ·exact Hx h op a b n form
 ·exact Ha h op a b n form
 ·exact Fq h op a b n form
 ·exact G3 h op a b n form
 ·exact FL h op a b n form
 ·exact G6 h op a b n form
 ·exact ET h op a b n form
 ·exact Ez h op a b n form
 ·exact Ev h op a b n form
 ·exact Fc h op a b n form
theorem ph (h:Hp) (op a b n form:Int) {s:Nat} (h1:1≤s) (h2:s≤13):HC Tryz.prog 144 #[ct op a b n form,.int .i64 s] h fun w h'=>w=.bool (nR s n form)∧Ext h h':=by
 have hs:s=1∨s=2∨s=3∨s=4∨s=5∨s=6∨s=7∨s=8∨s=9∨s=10∨s=11∨s=12∨s=13:=by omega
 clear h1 h2;rcases hs with rfl | rfl | rfl | rfl | rfl | rfl | rfl | rfl | rfl | rfl | rfl | rfl | rfl
 ·exact IQ h op a b n form
 ·exact Jk h op a b n form
 ·exact Iu h op a b n form
 ·exact Jj h op a b n form
 ·exact Ir h op a b n form
 ·exact I0 h op a b n form
 ·exact H8 h op a b n form
 ·exact Ix h op a b n form
 ·exact JC h op a b n form
 ·exact Hv h op a b n form
 ·exact Gm h op a b n form
 ·exact Ho h op a b n form
 ·exact Hq h op a b n form
def Sm (n:Int):Prop:=-9223372036854775808≤n∧n≤9223372036854775807
theorem AD {h:Hp} (t:y7 h) (op a b n form:Int) (ho:Sm op) :
  HC Tryz.prog 116 #[ct op a b n form] h fun w h'=>w=.int .i64 (eG ⟨op,a,b,n,form⟩)∧Ext h h':=by
 refine aK (args:=[ct op a b n form]) mixed Tryz.func116 (by kernel_rfl) (vL op a b n form) ?_;unfold tM;refine aX ?_;intro g1 b1 e1 z1;refine ad b1 (op,()) rfl ?_;dsimp only [flat,az,ah,nA,cA];refine aB (DV (t.ai e1 (by simp)) op ho.1 ho.2) ?_;rintro _ g2 ⟨s,y,rfl,e2⟩;refine ⟨(s,y,((bG op:Nat):Int),decide (bG op≠0),()),rfl,?_⟩;dsimp only [flat,az,ah,nA,cA];refine aX ?_;intro g3 b3 e3 z3;refine an b3 rfl (by simp) ?_;intro g4 b4 k4 z4;have b4:aO g4 g2.size 158 [.string s,.int .u8 y,.int .i64 (bG op:Nat)]:=b4;have e4:=((e1.trans e2).trans e3).st k4 (by have:=e1.size; have:=e2.size; omega);have b1:=b1.ai ((e2.trans e3).st k4 (by have:=e2.size; omega)) (by simp);unfold eG;simp only [ao];refine af (fun q=>?_) (fun q=>?_)
 ·have q:bG op=0:=by simpa using q
  exact ⟨by rw [if_pos q],e4⟩
 have q:¬ bG op=0:=by simpa using q
 rw [if_neg q];refine ad b1 (op,a,b,n,form,()) rfl ?_;dsimp only [flat,az,ah,nA,cA];refine ad b4 (((bG op:Nat):Int),()) rfl ?_;dsimp only [flat,az,ah,nA,cA];have hs:=fB op;refine aB (y9 g4 op a b n form (s:=bG op) (by omega) (by omega)) ?_;rintro _ g5 ⟨rfl,e5⟩;refine ⟨(bw (bG op) a b n,()),rfl,?_⟩;dsimp only [flat,az,ah,nA,cA];have e45:=e4.trans e5;refine af (fun q=>?_) (fun q=>?_)
 ·have q:bw (bG op) a b n=false:=by simpa using q
  exact ⟨by rw [if_pos q],e45⟩
 have q:bw (bG op) a b n=true:=by simpa using q
 rw [if_neg (by rw [q]; simp)];have b1:=b1.ai e5 (by simp);have b4:=b4.ai e5 (by simp);refine ad b1 (op,()) rfl ?_;dsimp only [flat,az,ah,nA,cA];refine aB (AY (t.ai e45 (by simp)) op ho.1 ho.2) ?_;rintro _ g6 ⟨rfl,e6⟩;refine ⟨(nt op,()),rfl,?_⟩;dsimp only [flat,az,ah,nA,cA];have e46:=e45.trans e6;have b1:=b1.ai e6 (by simp);have b4:=b4.ai e6 (by simp);refine af (fun q=>?_) (fun q=>?_)
 ·have q:nt op=false:=by simpa using q
  refine ad b1 (form,()) rfl ?_;dsimp only [flat,az,ah,nA,cA];refine af (fun r=>?_) (fun r=>?_)
  ·have r:¬ form=0:=by simpa using r
   exact ⟨by rw [q]; simp [r],e46⟩
  have r:form=0:=by simpa using r
  refine ad b1 (op,a,b,n,form,()) rfl ?_;dsimp only [flat,az,ah,nA,cA];refine ad b4 (((bG op:Nat):Int),()) rfl ?_;dsimp only [flat,az,ah,nA,cA];refine aB (ph g6 op a b n form (s:=bG op) (by omega) (by omega)) ?_;rintro _ g7 ⟨rfl,e7⟩;refine ⟨(nR (bG op) n form,()),rfl,?_⟩;dsimp only [flat,az,ah,nA,cA];refine af (fun p=>?_) (fun p=>?_)
  ·exact ⟨by rw [q]; simp_all,e46.trans e7⟩
  ·exact ⟨by rw [q]; simp_all,e46.trans e7⟩
 ·have q:nt op=true:=by simpa using q
  refine ad b1 (op,a,b,n,form,()) rfl ?_;dsimp only [flat,az,ah,nA,cA];refine ad b4 (((bG op:Nat):Int),()) rfl ?_;dsimp only [flat,az,ah,nA,cA];refine aB (ph g6 op a b n form (s:=bG op) (by omega) (by omega)) ?_;rintro _ g7 ⟨rfl,e7⟩;refine ⟨(nR (bG op) n form,()),rfl,?_⟩;dsimp only [flat,az,ah,nA,cA];refine af (fun p=>?_) (fun p=>?_)
  ·exact ⟨by rw [q]; simp_all,e46.trans e7⟩
  ·exact ⟨by rw [q]; simp_all,e46.trans e7⟩
def encI (p:Option Addr) (l c:Nat) (x:bD):List Value:=[.int .i64 x.kind,.string x.name,.int .i64 x.inst.op,.int .i64 x.inst.a,.int .i64 x.inst.b,.int .i32 x.inst.n,.int .i64 x.inst.form,.slice p l c,.int .u32 x.e.num,.int .i64 x.n]
def nv (p:Option Addr) (l c:Nat) (x:bD):Value:=.agg (encI p l c x).toArray
structure kf (h:Hp) (p:Option Addr) (l:Nat) (x:ey):Prop where
 vw:pI h p l x.au
 many:x.au.length≤2^60
 names:∀ t,t∈x.au→t.1.size≤maxLen
theorem kf.ai {h h':Hp} {p:Option Addr} {l:Nat} {x:ey} (v:kf h p l x) (k:Ext h h'):kf h' p l x:=⟨v.vw.ai k (by simp),v.many,v.names⟩
theorem pI.none (h:Hp):pI h none 0 []:=⟨rfl,fun i hi=>absurd hi (by simp)⟩
theorem kf.none (h:Hp) (n:Nat):kf h none 0 ⟨[],n⟩:=⟨pI.none h,by simp,by simp⟩
theorem oa (x:ey):tk x dT=I7 x:=by
 unfold tk I7 dT;rw [Bool.and_comm]
def Dv (g k:Nat):T :=
 T.ae ⟨g,5,none⟩ [.int .i32] <| fun (n16:Int) =>
 cond (n16==(0:Int))
  (T.ae ⟨k,0,none⟩ [.int .i64,.int .i64,.int .i64,.int .i32,.int .i64] <| fun (n17:Int) (n18:Int) (n19:Int) (n20:Int) (n21:Int) =>
  T.call Tryz.prog 116 [.agg #[.int .i64 n17,.int .i64 n18,.int .i64 n19,.int .i32 n20,.int .i64 n21]] false [(false,[.int .i64])] <| fun (n22:Int) =>
  cond (n22==(0:Int))
  (T.ae ⟨g,7,none⟩ [.slice 109,.int .u32] <| fun (p23:Option Addr) (l24:Nat) (l25:Nat) (n26:Int) =>
  T.call Tryz.prog 46 [.agg #[.slice p23 l24 l25,.int .u32 n26]] false [(false,[.bool])] <| fun (b27:Bool) =>
  T.ret (.bool b27))
  (T.ret (.bool false)))
  (T.ret (.bool false))
def F0 (g k:Nat):T :=
 T.ae ⟨k,0,none⟩ [.int .i64,.int .i64,.int .i64,.int .i32,.int .i64] <| fun (n16:Int) (n17:Int) (n18:Int) (n19:Int) (n20:Int) =>
 T.call Tryz.prog 116 [.agg #[.int .i64 n16,.int .i64 n17,.int .i64 n18,.int .i32 n19,.int .i64 n20]] false [(false,[.int .i64])] <| fun (n21:Int) =>
 cond (n21==(0:Int))
  (T.ae ⟨g,7,none⟩ [.slice 109,.int .u32] <| fun (p22:Option Addr) (l23:Nat) (l24:Nat) (n25:Int) =>
  T.call Tryz.prog 80 [.agg #[.slice p22 l23 l24,.int .u32 n25],.agg #[.slice none 0 0,.int .u32 (0:Int)]] false [(false,[.bool])] <| fun (b26:Bool) =>
  T.ret (.bool b26))
  (T.ret (.bool false))
def kJ (i:Ins):List Value:=[.int .i64 i.op,.int .i64 i.a,.int .i64 i.b,.int .i32 i.n,.int .i64 i.form]
theorem AI {L:Lp} {h0 h:Hp} (t:y7 h) {x:bD} {p:Option Addr} {l c g k:Nat} {i:Ins} (b1:aO h g e1 (encI p l c x)) (b2:aO h k e2 (kJ i)) (v:kf h p l x.e) (ho:Sm i.op) (e:Ext h0 h) :
  Dv g k L (fun w h'=>w=.bool (decide (x.inst.n=0) && decide (eG i=0) && kO none x.e.au)∧Ext h0 h') h:=by
 unfold Dv;refine ad b1 (x.inst.n,()) rfl ?_;dsimp only [flat,az,ah,nA,cA];refine af (fun q=>?_) (fun q=>?_)
 ·have q:x.inst.n=0:=by simpa using q
  refine ad b2 (i.op,i.a,i.b,i.n,i.form,()) rfl ?_;dsimp only [flat,az,ah,nA,cA];refine aB (AD t i.op i.a i.b i.n i.form ho) ?_;rintro _ g2 ⟨rfl,e2⟩;refine ⟨(eG i,()),rfl,?_⟩;dsimp only [flat,az,ah,nA,cA];refine af (fun r=>?_) (fun r=>?_)
  ·have r:eG i=0:=by simpa using r
   refine ad (b1.ai e2 (by simp)) ((p,l,c),(x.e.num:Int),()) rfl ?_;dsimp only [flat,az,ah,nA,cA];refine aB (qu (c:=c) (v.ai e2).vw (by have:=v.many; omega) v.names) ?_;rintro _ g3 ⟨rfl,e3⟩;refine ⟨(kO none x.e.au,()),rfl,?_⟩;exact ⟨by rw [decide_eq_true q,decide_eq_true r]; rfl,(e.trans e2).trans e3⟩
  ·have r:¬ eG i=0:=by simpa using r
   exact ⟨by rw [decide_eq_false r,Bool.and_false]; rfl,e.trans e2⟩
 ·have q:¬ x.inst.n=0:=by simpa using q
  exact ⟨by rw [decide_eq_false q]; rfl,e⟩
theorem FG {L:Lp} {h0 h:Hp} (t:y7 h) {x:bD} {p:Option Addr} {l c g k:Nat} {i:Ins} (b1:aO h g e1 (encI p l c x)) (b2:aO h k e2 (kJ i)) (v:kf h p l x.e) (ho:Sm i.op) (e:Ext h0 h) :
  F0 g k L (fun w h'=>w=.bool (decide (eG i=0) && I7 x.e)∧Ext h0 h') h:=by
 unfold F0;refine ad b2 (i.op,i.a,i.b,i.n,i.form,()) rfl ?_;dsimp only [flat,az,ah,nA,cA];refine aB (AD t i.op i.a i.b i.n i.form ho) ?_;rintro _ g2 ⟨rfl,e2⟩;refine ⟨(eG i,()),rfl,?_⟩;dsimp only [flat,az,ah,nA,cA];refine af (fun r=>?_) (fun r=>?_)
 ·have r:eG i=0:=by simpa using r
  refine ad (b1.ai e2 (by simp)) ((p,l,c),(x.e.num:Int),()) rfl ?_;dsimp only [flat,az,ah,nA,cA];refine aB (x7 (c:=c) (d:=0) (y:=dT) (v.ai e2).vw (pI.none g2) v.many) ?_;rintro _ g3 ⟨rfl,e3⟩;refine ⟨(tk x.e dT,()),rfl,?_⟩;exact ⟨by rw [decide_eq_true r,oa]; rfl,(e.trans e2).trans e3⟩
 ·have r:¬ eG i=0:=by simpa using r
  exact ⟨by rw [decide_eq_false r]; rfl,e.trans e2⟩
theorem instruction_hc {h:Hp} (t:y7 h) {x:bD} {p:Option Addr} {l c:Nat} (v:kf h p l x.e) (ho:Sm x.inst.op) :
  HC Tryz.prog 78 #[nv p l c x] h fun w h'=>w=.bool (uP x.inst x.e)∧Ext h h':=by
 refine aK (args:=[nv p l c x]) mixed Tryz.func78 (by kernel_rfl) (mS x.kind x.name x.inst.op x.inst.a x.inst.b x.inst.n x.inst.form p l c x.e.num x.n) ?_;unfold jT;refine aX ?_;intro g1 b1 e1 z1;have b1:aO g1 h.size 96 (encI p l c x):=b1;simp only [ao];refine ad b1 (x.inst.op,()) rfl ?_;dsimp only [flat,az,ah,nA,cA];refine aB (DV (t.ai e1 (by simp)) x.inst.op ho.1 ho.2) ?_;rintro _ g2 ⟨s,y,rfl,e2⟩;refine ⟨(s,y,((bG x.inst.op:Nat):Int),decide (bG x.inst.op≠0),()),rfl,?_⟩;dsimp only [flat,az,ah,nA,cA];refine aX ?_;intro g3 b3 e3 z3;refine an b3 rfl (by simp) ?_;intro g4 b4 k4 z4;have b4:aO g4 g2.size 158 [.string s,.int .u8 y,.int .i64 (bG x.inst.op:Nat)]:=b4;have s1:=e1.size;have s2:=e2.size;have e14:=(e2.trans e3).st k4 (by omega);have e4:=e1.trans e14;have b1:=b1.ai e14 (by simp);unfold uP;refine af (fun q=>?_) (fun q=>?_)
 ·have q:bG x.inst.op=0:=by simpa using q
  exact ⟨by rw [q]; rfl,e4⟩
 have q:bG x.inst.op≠0:=by simpa using q
 rw [decide_eq_true q,Bool.true_and];refine ad b1 (x.inst.form,()) rfl ?_;dsimp only [flat,az,ah,nA,cA];refine af (fun r=>?_) (fun r=>?_)
 ·have r:¬ x.inst.form=0:=by simpa using r
  exact ⟨by rw [decide_eq_false r]; rfl,e4⟩
 have r:x.inst.form=0:=by simpa using r
 rw [decide_eq_true r,Bool.true_and];refine ad b1 (x.inst.op,x.inst.a,x.inst.b,x.inst.n,x.inst.form,()) rfl ?_;dsimp only [flat,az,ah,nA,cA];refine aX ?_;intro g5 b5 e5 z5;refine an b5 rfl (by simp) ?_;intro g6 b6 k6 z6;have b6:aO g6 g4.size 90 (kJ x.inst):=b6;have e46:=e5.st k6 (by omega);have e6:=e4.trans e46;have b1:=b1.ai e46 (by simp);have b4:=b4.ai e46 (by simp);simp only [ao];have hs:=fB x.inst.op;refine ad b4 (((bG x.inst.op:Nat):Int),()) rfl ?_;dsimp only [flat,az,ah,nA,cA];generalize hB:(if yK x.inst.op=true then decide (x.inst.n=0) && decide (eG { x.inst with form:=if nt x.inst.op=true then 1 else 0 }=0) && kO none x.e.au else decide (eG x.inst=0) && I7 x.e)=B;have hF:{ x.inst with form:=0 }=x.inst:=by
  rcases hx:x.inst with ⟨a1,a2,a3,a4,a5⟩
  rw [hx] at r;simp only at r;rw [r]
 have hA:12≤bG x.inst.op→T.ap ⟨g4.size,4,none⟩ [.int .i64 1] (Dv h.size g4.size) [] (fun w h'=>w=.bool B∧Ext h h') g6:=by
  intro hh;refine an b6 rfl (by simp [kJ]) ?_;intro g7 b7 k7 z7;have b7:aO g7 g4.size 90 (kJ { x.inst with form:=1 }):=b7;have e67:Ext g4 g7:=e46.st k7 (by omega);have e7:=e4.trans e67;have hw:yK x.inst.op=true:=decide_eq_true (by omega);have hp:nt x.inst.op=true:=decide_eq_true hh;rw [if_pos hw,if_pos hp] at hB
  have:=AI (L:=[]) (h0:=h) (t.ai e7 (by simp)) (b1.ai k7 (by simp; omega)) b7 (v.ai e7) ho e7
  rw [hB] at this;exact this
 have hR:bG x.inst.op=10∨bG x.inst.op=11→Dv h.size g4.size [] (fun w h'=>w=.bool B∧Ext h h') g6:=by
  intro hh;have hw:yK x.inst.op=true:=decide_eq_true (by omega);have hp:¬ nt x.inst.op=true:=by unfold nt; rw [decide_eq_false (by omega)]; simp
  rw [if_pos hw,if_neg hp,hF] at hB
  have:=AI (L:=[]) (h0:=h) (t.ai e6 (by simp)) b1 b6 (v.ai e6) ho e6
  rw [hB] at this;exact this
 have hS:bG x.inst.op<10→F0 h.size g4.size [] (fun w h'=>w=.bool B∧Ext h h') g6:=by
  intro hh;have hw:¬ yK x.inst.op=true:=by unfold yK; rw [decide_eq_false (by omega)]; simp
  rw [if_neg hw] at hB
  have:=FG (L:=[]) (h0:=h) (t.ai e6 (by simp)) b1 b6 (v.ai e6) ho e6
  rw [hB] at this;exact this
 clear hB;refine af (fun q1=>?_) (fun q1=>?_)
 ·have q1:((bG x.inst.op:Nat):Int)=12:=by simpa using q1
  refine af (fun q2=>hA (by omega)) (fun q2=>?_);have q2:¬ ((bG x.inst.op:Nat):Int)=12:=by simpa using q2
  exact absurd q1 q2
 have q1:¬ ((bG x.inst.op:Nat):Int)=12:=by simpa using q1
 refine af (fun q2=>?_) (fun q2=>?_)
 ·have q2:((bG x.inst.op:Nat):Int)=13:=by simpa using q2
  exact hA (by omega)
 have q2:¬ ((bG x.inst.op:Nat):Int)=13:=by simpa using q2
 refine af (fun q3=>?_) (fun q3=>?_)
 ·have q3:((bG x.inst.op:Nat):Int)=10:=by simpa using q3
  refine af (fun q2=>hR (by omega)) (fun q4=>?_);have q4:¬ ((bG x.inst.op:Nat):Int)=10:=by simpa using q4
  exact absurd q3 q4
 have q3:¬ ((bG x.inst.op:Nat):Int)=10:=by simpa using q3
 refine af (fun q4=>?_) (fun q4=>?_)
 ·have q4:((bG x.inst.op:Nat):Int)=11:=by simpa using q4
  exact hR (by omega)
 have q4:¬ ((bG x.inst.op:Nat):Int)=11:=by simpa using q4
 exact hS (by omega)
structure nB (h:Hp) (p:Option Addr) (l:Nat) (x:bD):Prop where
 pq:kf h p l x.e
 name:x.name.size≤maxLen
 op:Sm x.inst.op
theorem nB.ai {h h':Hp} {p:Option Addr} {l:Nat} {x:bD} (v:nB h p l x) (k:Ext h h'):nB h' p l x:=⟨v.pq.ai k,v.name,v.op⟩
def iY (x y:bD):Bool:=decide (x.name=y.name) && decide (x.inst=y.inst) && decide (x.n=y.n) && tk x.e y.e
theorem J1:Tryz.prog.underlying 90=some (.struct (GC Tryz.prog 90)):=by kernel_rfl
theorem KO (x y:Operand) (i j:Ins) (h:Hp) (K:Value→Hp→Prop) (hk:K (.bool !(decide (i=j))) h) :
  aH Tryz.prog (Sx.bX (BinOp.neq) 90 x y (.agg (kJ i).toArray) (.agg (kJ j).toArray)) h K:=by
 refine zY J1 (by kernel_rfl) (by kernel_rfl) (by kernel_rfl) K ?_;have he:(GC Tryz.prog 90).all (HM (kJ i).toArray (kJ j).toArray)=(i.op==j.op && (i.a==j.a && (i.b==j.b && (i.n==j.n && (i.form==j.form && true))))):=by
  rw [← Array.all_toList]
  kernel_rfl
 rw [he,Bool.and_true]
 have:(i.op==j.op && (i.a==j.a && (i.b==j.b && (i.n==j.n && i.form==j.form))))=decide (i=j):=by
  rcases i with ⟨a1,a2,a3,a4,a5⟩
  rcases j with ⟨c1,c2,c3,c4,c5⟩
  simp only [cF,Ins.mk.injEq]
  by_cases h1:a1=c1 <;> by_cases h2:a2=c2 <;> by_cases h3:a3=c3 <;> by_cases h4:a4=c4 <;> by_cases h5:a5=c5 <;> simp [h1,h2,h3,h4,h5]
 rw [this];exact hk
def NC (g k:Nat):T :=
 T.ae ⟨g,1,none⟩ [.string] <| fun (s8:ByteArray) =>
 T.ae ⟨k,1,none⟩ [.string] <| fun (s9:ByteArray) =>
 cond (!((ByteArray.toList s8)==(ByteArray.toList s9)))
  (T.ret (.int .i64 (31:Int)))
  (T.ae ⟨g,2,none⟩ [.int .i64,.int .i64,.int .i64,.int .i32,.int .i64] <| fun (n10:Int) (n11:Int) (n12:Int) (n13:Int) (n14:Int) =>
  T.ae ⟨k,2,none⟩ [.int .i64,.int .i64,.int .i64,.int .i32,.int .i64] <| fun (n15:Int) (n16:Int) (n17:Int) (n18:Int) (n19:Int) =>
  T.bj Tryz.prog (Sx.bX (BinOp.neq) 90 (Operand.tmp 109) (Operand.tmp 111) (.agg #[.int .i64 n10,.int .i64 n11,.int .i64 n12,.int .i32 n13,.int .i64 n14]) (.agg #[.int .i64 n15,.int .i64 n16,.int .i64 n17,.int .i32 n18,.int .i64 n19])) false [(false,[.bool])] <| fun (b20:Bool) =>
  cond b20
  (T.ret (.int .i64 (31:Int)))
  (T.ae ⟨g,9,none⟩ [.int .i64] <| fun (n21:Int) =>
  T.ae ⟨k,9,none⟩ [.int .i64] <| fun (n22:Int) =>
  cond (n21 != n22)
   (T.ret (.int .i64 (31:Int)))
   (T.ae ⟨g,7,none⟩ [.slice 109,.int .u32] <| fun (p23:Option Addr) (l24:Nat) (l25:Nat) (n26:Int) =>
   T.ae ⟨k,7,none⟩ [.slice 109,.int .u32] <| fun (p27:Option Addr) (l28:Nat) (l29:Nat) (n30:Int) =>
   T.call Tryz.prog 80 [.agg #[.slice p23 l24 l25,.int .u32 n26],.agg #[.slice p27 l28 l29,.int .u32 n30]] false [(false,[.bool])] <| fun (b31:Bool) =>
   cond (!b31)
   (T.ret (.int .i64 (31:Int)))
   (T.ret (.int .i64 (0:Int))))))
def zA (b:Bool):Value:=.int .i64 (if b then 0 else 31)
theorem mv {L:Lp} {h0 h:Hp} {x y:bD} {p q:Option Addr} {l c m d g k:Nat} (b1:aO h g e1 (encI p l c x)) (b2:aO h k e2 (encI q m d y)) (v:kf h p l x.e) (w:pI h q m y.e.au) (e:Ext h0 h) :
  NC g k L (fun w h'=>w=zA (iY x y)∧Ext h0 h') h:=by
 unfold NC iY;refine ad b1 (x.name,()) rfl ?_;dsimp only [flat,az,ah,nA,cA];refine ad b2 (y.name,()) rfl ?_;dsimp only [flat,az,ah,nA,cA];rw [ByteArray.toList_eq,ByteArray.toList_eq];refine af (fun r=>?_) (fun r=>?_)
 ·have r:¬ x.name=y.name:=fun he=>by rw [he] at r; simp at r
  exact ⟨by rw [decide_eq_false r]; rfl,e⟩
 have r:x.name=y.name:=mg (by simpa using r);rw [decide_eq_true r,Bool.true_and];refine ad b1 (x.inst.op,x.inst.a,x.inst.b,x.inst.n,x.inst.form,()) rfl ?_;dsimp only [flat,az,ah,nA,cA];refine ad b2 (y.inst.op,y.inst.a,y.inst.b,y.inst.n,y.inst.form,()) rfl ?_;dsimp only [flat,az,ah,nA,cA];refine bR (fun K' hK=>KO _ _ x.inst y.inst h K' hK) ?_;refine af (fun r=>?_) (fun r=>?_)
 ·have r:¬ x.inst=y.inst:=by simpa using r
  exact ⟨by rw [decide_eq_false r]; rfl,e⟩
 have r:x.inst=y.inst:=by simpa using r
 rw [decide_eq_true r,Bool.true_and];refine ad b1 (x.n,()) rfl ?_;dsimp only [flat,az,ah,nA,cA];refine ad b2 (y.n,()) rfl ?_;dsimp only [flat,az,ah,nA,cA];refine af (fun r=>?_) (fun r=>?_)
 ·have r:¬ x.n=y.n:=by simpa using r
  exact ⟨by rw [decide_eq_false r]; rfl,e⟩
 have r:x.n=y.n:=by simpa using r
 rw [decide_eq_true r,Bool.true_and];refine ad b1 ((p,l,c),(x.e.num:Int),()) rfl ?_;dsimp only [flat,az,ah,nA,cA];refine ad b2 ((q,m,d),(y.e.num:Int),()) rfl ?_;dsimp only [flat,az,ah,nA,cA];refine aB (x7 (c:=c) (d:=d) v.vw w v.many) ?_;rintro _ g3 ⟨rfl,e3⟩;refine ⟨(tk x.e y.e,()),rfl,?_⟩;dsimp only [flat,az,ah,nA,cA];refine af (fun r=>?_) (fun r=>?_)
 ·have r:tk x.e y.e=false:=by simpa using r
  exact ⟨by rw [r]; rfl,e.trans e3⟩
 ·have r:tk x.e y.e=true:=by simpa using r
  exact ⟨by rw [r]; rfl,e.trans e3⟩
theorem qF (x:ey):tk x x=true:=Et x
theorem zw {x:bD} (hk:x.kind=1):bm x sec=(bd x.name.data.toList && iY x { cY x.kind with name:=x.name }):=by
 unfold bm iY;simp only [hk,cY,qF,oa,z1,z2,z3,z4];simp (decide:=true) only [if_true,if_false,decide_true,Bool.true_and,Bool.and_true]
 try simp only [Bool.and_assoc,Bool.and_comm,Bool.and_left_comm]
theorem Gd {x:bD} (hk:x.kind=2):bm x sec=(decide (sec=0) && uP x.inst x.e && iY x { cY x.kind with inst:=x.inst,e:=x.e }):=by
 unfold bm iY;simp only [hk,cY,qF,oa,z1,z2,z3,z4];simp (decide:=true) only [if_true,if_false,decide_true,Bool.true_and,Bool.and_true]
 try simp only [Bool.and_assoc,Bool.and_comm,Bool.and_left_comm]
theorem FH {x:bD} (hk:x.kind=3):bm x sec=(lR x.n && iY x { cY x.kind with n:=x.n }):=by
 unfold bm iY;simp only [hk,cY,qF,oa,z1,z2,z3,z4];simp (decide:=true) only [if_true,if_false,decide_true,Bool.true_and,Bool.and_true]
 try simp only [Bool.and_assoc,Bool.and_comm,Bool.and_left_comm]
theorem GH {x:bD} (hk:x.kind=4):bm x sec=(decide (sec=0) && iY x (cY x.kind)):=by
 unfold bm iY;simp only [hk,cY,qF,oa,z1,z2,z3,z4];simp (decide:=true) only [if_true,if_false,decide_true,Bool.true_and,Bool.and_true]
 try simp only [Bool.and_assoc,Bool.and_comm,Bool.and_left_comm]
theorem Gx {x:bD} (hk:x.kind=5):bm x sec=(decide (sec=1) && decide (-128≤x.n) && decide (x.n≤255) && iY x { cY x.kind with n:=x.n }):=by
 unfold bm iY;simp only [hk,cY,qF,oa,z1,z2,z3,z4];simp (decide:=true) only [if_true,if_false,decide_true,Bool.true_and,Bool.and_true]
 try simp only [Bool.and_assoc,Bool.and_comm,Bool.and_left_comm]
theorem F' {x:bD} (hk:x.kind=6):bm x sec=(decide (sec=1) && kO none x.e.au && iY x { cY x.kind with e:=x.e }):=by
 unfold bm iY;simp only [hk,cY,qF,oa,z1,z2,z3,z4];simp (decide:=true) only [if_true,if_false,decide_true,Bool.true_and,Bool.and_true]
 try simp only [Bool.and_assoc,Bool.and_comm,Bool.and_left_comm]
theorem GG {x:bD} (hk:x.kind=7):bm x sec=(decide (sec=1) && decide (0≤x.n) && decide (x.n≤1048576) && iY x { cY x.kind with n:=x.n }):=by
 unfold bm iY;simp only [hk,cY,qF,oa,z1,z2,z3,z4];simp (decide:=true) only [if_true,if_false,decide_true,Bool.true_and,Bool.and_true]
 try simp only [Bool.and_assoc,Bool.and_comm,Bool.and_left_comm]
theorem DM {x:bD} (h1:x.kind≠1) (h2:x.kind≠2) (h3:x.kind≠3) (h4:x.kind≠4) (h5:x.kind≠5) (h6:x.kind≠6) (h7:x.kind≠7):bm x sec=false:=by
 unfold bm;rw [if_neg h1,if_neg h2,if_neg h3,if_neg h4,if_neg h5,if_neg h6,if_neg h7]
theorem GS {h:Hp} (t:y7 h) {x:bD} {p:Option Addr} {l c:Nat} (v:nB h p l x) :
  HC Tryz.prog 44 #[nv p l c x,.int .i64 0] h fun w h'=>w=zA (bm x 0)∧Ext h h':=by
 refine aK (args:=[nv p l c x,.int .i64 0]) mixed Tryz.func44 (by kernel_rfl) (qD x.kind x.name x.inst.op x.inst.a x.inst.b x.inst.n x.inst.form p l c x.e.num x.n) ?_;unfold mP;refine aX ?_;intro g1 b1 e1 z1;have b1:aO g1 h.size 96 (encI p l c x):=b1;refine ad b1 (x.kind,()) rfl ?_;dsimp only [flat,az,ah,nA,cA];refine aX ?_;intro g2 b2 e2 z2;refine an b2 rfl (by simp) ?_;intro g3 b3 k3 z3;have b3:aO g3 g1.size 96 (encI none 0 0 (cY x.kind)):=b3;have s1:=e1.size;have e13:=e2.st k3 (Nat.le_refl _);have e3:=e1.trans e13;have b1:=b1.ai e13 (by simp);simp only [ao];refine ad b1 (x.kind,()) rfl ?_;dsimp only [flat,az,ah,nA,cA];refine af (fun q=>?_) (fun q=>?_)
 ·have q:x.kind=1:=by simpa using q
  rw [zw q];refine ad b1 (x.name,()) rfl ?_;dsimp only [flat,az,ah,nA,cA];refine an b3 rfl (by simp [encI]) ?_;intro g4 b4 k4 z4;have b4:aO g4 g1.size 96 (encI none 0 0 { cY x.kind with name:=x.name }):=b4;have e4:=e3.st k4 (by omega);have b1:=b1.ai k4 (by simp; omega);refine ad b1 (x.name,()) rfl ?_;dsimp only [flat,az,ah,nA,cA];refine aD (kE x.name g4 (by have:=v.name; have:maxLen=9223372036854775807:=rfl; omega)) ?_;refine af (fun r=>?_) (fun r=>?_)
  ·have r:bd x.name.data.toList=false:=by simpa using r
   exact ⟨by rw [r]; rfl,e4⟩
  have r:bd x.name.data.toList=true:=by simpa using r
  rw [r,Bool.true_and];have hh:=mv (L:=[]) (h0:=h) (y:={ cY x.kind with name:=x.name }) b1 b4 (v.pq.ai e4) (pI.none g4) e4;exact hh
 have q1:x.kind≠1:=by simpa using q
 refine af (fun q=>?_) (fun q=>?_)
 ·have q:x.kind=2:=by simpa using q
  rw [Gd q];refine ad b1 (x.inst.op,x.inst.a,x.inst.b,x.inst.n,x.inst.form,()) rfl ?_;dsimp only [flat,az,ah,nA,cA];refine ad b1 ((p,l,c),(x.e.num:Int),()) rfl ?_;dsimp only [flat,az,ah,nA,cA];refine an b3 rfl (by simp [encI]) ?_;intro g4 b4 k4 z4;have e4:=e3.st k4 (by omega);have b1:=b1.ai k4 (by simp; omega);refine ⟨⟨b1.cells [.slice p l c,.int .u32 x.e.num] rfl,trivial⟩,?_⟩;refine an b4 rfl (by simp [encI,jd]) ?_;intro g5 b5 k5 z5;have b5:aO g5 g1.size 96 (encI p l c { cY x.kind with inst:=x.inst,e:=x.e }):=b5;have e5:=e4.st k5 (by omega);have b1:=b1.ai k5 (by simp; omega);refine ad b1 (x.kind,x.name,x.inst.op,x.inst.a,x.inst.b,x.inst.n,x.inst.form,(p,l,c),(x.e.num:Int),x.n,()) rfl ?_;dsimp only [flat,az,ah,nA,cA];refine aB (instruction_hc (c:=c) (t.ai e5 (by simp)) (v.pq.ai e5) v.op) ?_;rintro _ g6 ⟨rfl,e6'⟩;refine ⟨(uP x.inst x.e,()),rfl,?_⟩;dsimp only [flat,az,ah,nA,cA];have e6:=e5.trans e6';refine af (fun r=>?_) (fun r=>?_)
  ·have r:uP x.inst x.e=false:=by simpa using r
   exact ⟨by rw [r]; rfl,e6⟩
  have r:uP x.inst x.e=true:=by simpa using r
  rw [r];have b1:=b1.ai e6' (by simp);have b5:=b5.ai e6' (by simp);have hh:=mv (L:=[]) (h0:=h) (y:={ cY x.kind with inst:=x.inst,e:=x.e }) b1 b5 (v.pq.ai e6) (v.pq.ai e6).vw e6;exact hh
 have q2:x.kind≠2:=by simpa using q
 refine af (fun q=>?_) (fun q=>?_)
 ·have q:x.kind=3:=by simpa using q
  rw [FH q];refine ad b1 (x.n,()) rfl ?_;dsimp only [flat,az,ah,nA,cA];refine an b3 rfl (by simp [encI]) ?_;intro g4 b4 k4 z4;have b4:aO g4 g1.size 96 (encI none 0 0 { cY x.kind with n:=x.n }):=b4;have e4:=e3.st k4 (by omega);have b1:=b1.ai k4 (by simp; omega);refine ad b1 (x.n,()) rfl ?_;dsimp only [flat,az,ah,nA,cA];refine aD (vA g4 x.n) ?_;refine af (fun r=>?_) (fun r=>?_)
  ·have r:lR x.n=false:=by simpa using r
   exact ⟨by rw [r]; rfl,e4⟩
  have r:lR x.n=true:=by simpa using r
  rw [r,Bool.true_and];have hh:=mv (L:=[]) (h0:=h) (y:={ cY x.kind with n:=x.n }) b1 b4 (v.pq.ai e4) (pI.none g4) e4;exact hh
 have q3:x.kind≠3:=by simpa using q
 refine af (fun q=>?_) (fun q=>?_)
 ·have q:x.kind=4:=by simpa using q
  rw [GH q];have hh:=mv (L:=[]) (h0:=h) (y:=(cY x.kind)) b1 b3 (v.pq.ai e3) (pI.none g3) e3;exact hh
 have q4:x.kind≠4:=by simpa using q
 refine af (fun q=>?_) (fun q=>?_)
 ·have q:x.kind=5:=by simpa using q
  rw [Gx q];refine ad b1 (x.n,()) rfl ?_;dsimp only [flat,az,ah,nA,cA];refine an b3 rfl (by simp [encI]) ?_;intro g4 b4 k4 z4;have b4:aO g4 g1.size 96 (encI none 0 0 { cY x.kind with n:=x.n }):=b4;have e4:=e3.st k4 (by omega);have b1:=b1.ai k4 (by simp; omega);exact ⟨rfl,e4⟩
 have q5:x.kind≠5:=by simpa using q
 refine af (fun q=>?_) (fun q=>?_)
 ·have q:x.kind=6:=by simpa using q
  rw [F' q];refine ad b1 ((p,l,c),(x.e.num:Int),()) rfl ?_;dsimp only [flat,az,ah,nA,cA];refine an b3 rfl (by simp [encI]) ?_;intro g4 b4 k4 z4;have b4:aO g4 g1.size 96 (encI p l c { cY x.kind with e:=x.e }):=b4;have e4:=e3.st k4 (by omega);have b1:=b1.ai k4 (by simp; omega);exact ⟨rfl,e4⟩
 have q6:x.kind≠6:=by simpa using q
 refine af (fun q=>?_) (fun q=>?_)
 ·have q:x.kind=7:=by simpa using q
  rw [GG q];refine ad b1 (x.n,()) rfl ?_;dsimp only [flat,az,ah,nA,cA];refine an b3 rfl (by simp [encI]) ?_;intro g4 b4 k4 z4;have b4:aO g4 g1.size 96 (encI none 0 0 { cY x.kind with n:=x.n }):=b4;have e4:=e3.st k4 (by omega);have b1:=b1.ai k4 (by simp; omega);exact ⟨rfl,e4⟩
 have q7:x.kind≠7:=by simpa using q
 exact ⟨by rw [DM q1 q2 q3 q4 q5 q6 q7]; rfl,e3⟩
theorem FJ {h:Hp} (t:y7 h) {x:bD} {p:Option Addr} {l c:Nat} (v:nB h p l x) :
  HC Tryz.prog 44 #[nv p l c x,.int .i64 1] h fun w h'=>w=zA (bm x 1)∧Ext h h':=by
 refine aK (args:=[nv p l c x,.int .i64 1]) mixed Tryz.func44 (by kernel_rfl) (qw x.kind x.name x.inst.op x.inst.a x.inst.b x.inst.n x.inst.form p l c x.e.num x.n) ?_;unfold mF;refine aX ?_;intro g1 b1 e1 z1;have b1:aO g1 h.size 96 (encI p l c x):=b1;refine ad b1 (x.kind,()) rfl ?_;dsimp only [flat,az,ah,nA,cA];refine aX ?_;intro g2 b2 e2 z2;refine an b2 rfl (by simp) ?_;intro g3 b3 k3 z3;have b3:aO g3 g1.size 96 (encI none 0 0 (cY x.kind)):=b3;have s1:=e1.size;have e13:=e2.st k3 (Nat.le_refl _);have e3:=e1.trans e13;have b1:=b1.ai e13 (by simp);simp only [ao];refine ad b1 (x.kind,()) rfl ?_;dsimp only [flat,az,ah,nA,cA];refine af (fun q=>?_) (fun q=>?_)
 ·have q:x.kind=1:=by simpa using q
  rw [zw q];refine ad b1 (x.name,()) rfl ?_;dsimp only [flat,az,ah,nA,cA];refine an b3 rfl (by simp [encI]) ?_;intro g4 b4 k4 z4;have b4:aO g4 g1.size 96 (encI none 0 0 { cY x.kind with name:=x.name }):=b4;have e4:=e3.st k4 (by omega);have b1:=b1.ai k4 (by simp; omega);refine ad b1 (x.name,()) rfl ?_;dsimp only [flat,az,ah,nA,cA];refine aD (kE x.name g4 (by have:=v.name; have:maxLen=9223372036854775807:=rfl; omega)) ?_;refine af (fun r=>?_) (fun r=>?_)
  ·have r:bd x.name.data.toList=false:=by simpa using r
   exact ⟨by rw [r]; rfl,e4⟩
  have r:bd x.name.data.toList=true:=by simpa using r
  rw [r,Bool.true_and];have hh:=mv (L:=[]) (h0:=h) (y:={ cY x.kind with name:=x.name }) b1 b4 (v.pq.ai e4) (pI.none g4) e4;exact hh
 have q1:x.kind≠1:=by simpa using q
 refine af (fun q=>?_) (fun q=>?_)
 ·have q:x.kind=2:=by simpa using q
  rw [Gd q];refine ad b1 (x.inst.op,x.inst.a,x.inst.b,x.inst.n,x.inst.form,()) rfl ?_;dsimp only [flat,az,ah,nA,cA];refine ad b1 ((p,l,c),(x.e.num:Int),()) rfl ?_;dsimp only [flat,az,ah,nA,cA];refine an b3 rfl (by simp [encI]) ?_;intro g4 b4 k4 z4;have e4:=e3.st k4 (by omega);have b1:=b1.ai k4 (by simp; omega);refine ⟨⟨b1.cells [.slice p l c,.int .u32 x.e.num] rfl,trivial⟩,?_⟩;refine an b4 rfl (by simp [encI,jd]) ?_;intro g5 b5 k5 z5;have b5:aO g5 g1.size 96 (encI p l c { cY x.kind with inst:=x.inst,e:=x.e }):=b5;have e5:=e4.st k5 (by omega);have b1:=b1.ai k5 (by simp; omega);exact ⟨rfl,e5⟩
 have q2:x.kind≠2:=by simpa using q
 refine af (fun q=>?_) (fun q=>?_)
 ·have q:x.kind=3:=by simpa using q
  rw [FH q];refine ad b1 (x.n,()) rfl ?_;dsimp only [flat,az,ah,nA,cA];refine an b3 rfl (by simp [encI]) ?_;intro g4 b4 k4 z4;have b4:aO g4 g1.size 96 (encI none 0 0 { cY x.kind with n:=x.n }):=b4;have e4:=e3.st k4 (by omega);have b1:=b1.ai k4 (by simp; omega);refine ad b1 (x.n,()) rfl ?_;dsimp only [flat,az,ah,nA,cA];refine aD (vA g4 x.n) ?_;refine af (fun r=>?_) (fun r=>?_)
  ·have r:lR x.n=false:=by simpa using r
   exact ⟨by rw [r]; rfl,e4⟩
  have r:lR x.n=true:=by simpa using r
  rw [r,Bool.true_and];have hh:=mv (L:=[]) (h0:=h) (y:={ cY x.kind with n:=x.n }) b1 b4 (v.pq.ai e4) (pI.none g4) e4;exact hh
 have q3:x.kind≠3:=by simpa using q
 refine af (fun q=>?_) (fun q=>?_)
 ·have q:x.kind=4:=by simpa using q
  rw [GH q];exact ⟨rfl,e3⟩
 have q4:x.kind≠4:=by simpa using q
 refine af (fun q=>?_) (fun q=>?_)
 ·have q:x.kind=5:=by simpa using q
  rw [Gx q];refine ad b1 (x.n,()) rfl ?_;dsimp only [flat,az,ah,nA,cA];refine an b3 rfl (by simp [encI]) ?_;intro g4 b4 k4 z4;have b4:aO g4 g1.size 96 (encI none 0 0 { cY x.kind with n:=x.n }):=b4;have e4:=e3.st k4 (by omega);have b1:=b1.ai k4 (by simp; omega);refine ad b1 (x.n,()) rfl ?_;dsimp only [flat,az,ah,nA,cA];refine af (fun r=>?_) (fun r=>?_)
  ·have r:=of_decide_eq_true r;refine ad b1 (x.n,()) rfl ?_;dsimp only [flat,az,ah,nA,cA];refine af (fun r2=>?_) (fun r2=>?_)
   ·have r2:¬ x.n≤255:=by simpa using r2
    exact ⟨by rw [decide_eq_false r2,Bool.and_false]; rfl,e4⟩
   have r2:x.n≤255:=by simpa using r2
   rw [decide_eq_true r2,decide_eq_true (show -128≤x.n from r)];have hh:=mv (L:=[]) (h0:=h) (y:={ cY x.kind with n:=x.n }) b1 b4 (v.pq.ai e4) (pI.none g4) e4;exact hh
  ·have r:=of_decide_eq_false r;exact ⟨by rw [decide_eq_false (show ¬ -128≤x.n from r),Bool.and_false]; rfl,e4⟩
 have q5:x.kind≠5:=by simpa using q
 refine af (fun q=>?_) (fun q=>?_)
 ·have q:x.kind=6:=by simpa using q
  rw [F' q];refine ad b1 ((p,l,c),(x.e.num:Int),()) rfl ?_;dsimp only [flat,az,ah,nA,cA];refine an b3 rfl (by simp [encI]) ?_;intro g4 b4 k4 z4;have b4:aO g4 g1.size 96 (encI p l c { cY x.kind with e:=x.e }):=b4;have e4:=e3.st k4 (by omega);have b1:=b1.ai k4 (by simp; omega);refine ad b1 ((p,l,c),(x.e.num:Int),()) rfl ?_;dsimp only [flat,az,ah,nA,cA];refine aB (qu (c:=c) (v.pq.ai e4).vw (by have:=v.pq.many; omega) v.pq.names) ?_;rintro _ g6 ⟨rfl,e6'⟩;refine ⟨(kO none x.e.au,()),rfl,?_⟩;dsimp only [flat,az,ah,nA,cA];have e6:=e4.trans e6';refine af (fun r=>?_) (fun r=>?_)
  ·have r:kO none x.e.au=false:=by simpa using r
   exact ⟨by rw [r]; rfl,e6⟩
  have r:kO none x.e.au=true:=by simpa using r
  rw [r];have b1:=b1.ai e6' (by simp);have b4:=b4.ai e6' (by simp);have hh:=mv (L:=[]) (h0:=h) (y:={ cY x.kind with e:=x.e }) b1 b4 (v.pq.ai e6) (v.pq.ai e6).vw e6;exact hh
 have q6:x.kind≠6:=by simpa using q
 refine af (fun q=>?_) (fun q=>?_)
 ·have q:x.kind=7:=by simpa using q
  rw [GG q];refine ad b1 (x.n,()) rfl ?_;dsimp only [flat,az,ah,nA,cA];refine an b3 rfl (by simp [encI]) ?_;intro g4 b4 k4 z4;have b4:aO g4 g1.size 96 (encI none 0 0 { cY x.kind with n:=x.n }):=b4;have e4:=e3.st k4 (by omega);have b1:=b1.ai k4 (by simp; omega);refine ad b1 (x.n,()) rfl ?_;dsimp only [flat,az,ah,nA,cA];refine af (fun r=>?_) (fun r=>?_)
  ·have r:=of_decide_eq_true r;refine ad b1 (x.n,()) rfl ?_;dsimp only [flat,az,ah,nA,cA];refine af (fun r2=>?_) (fun r2=>?_)
   ·have r2:¬ x.n≤1048576:=by simpa using r2
    exact ⟨by rw [decide_eq_false r2,Bool.and_false]; rfl,e4⟩
   have r2:x.n≤1048576:=by simpa using r2
   rw [decide_eq_true r2,decide_eq_true (show 0≤x.n from r)];have hh:=mv (L:=[]) (h0:=h) (y:={ cY x.kind with n:=x.n }) b1 b4 (v.pq.ai e4) (pI.none g4) e4;exact hh
  ·have r:=of_decide_eq_false r;exact ⟨by rw [decide_eq_false (show ¬ 0≤x.n from r),Bool.and_false]; rfl,e4⟩
 have q7:x.kind≠7:=by simpa using q
 exact ⟨by rw [DM q1 q2 q3 q4 q5 q6 q7]; rfl,e3⟩
section
variable {α:Type}
def vE (en:α→Value) (D:List (ByteArray × α)):List (ByteArray × Value):=D.map fun p=>(p.1,en p.2)
def gE (D:List (ByteArray × α)) (s:ByteArray):Option α:=(D.find? fun p=>decide (s=p.1)).map (·.2)
def pE (D:List (ByteArray × α)) (s:ByteArray) (v:α):List (ByteArray × α):=if (gE D s).isSome then D.map fun p=>if s=p.1 then (p.1,v) else p else D++[(s,v)]
theorem DG (en:α→Value) (D:List (ByteArray × α)) (s:ByteArray):look (vE en D) s=(gE D s).map en:=by
 unfold look gE vE
 induction D with
 | nil=>rfl
 | cons p D ih =>
  by_cases h:s=p.1
  ·simp [h]
  ·simp only [List.map_cons,List.find?_cons,decide_eq_false h];exact ih
theorem Kj (en:α→Value) (D:List (ByteArray × α)) (s:ByteArray) (v:α):Fo (vE en D) s (en v)=vE en (pE D s v):=by
 unfold Fo pE;rw [DG];cases h:gE D s with
 | none=>simp [vE]
 | some q =>
  simp only [Option.map_some,Option.isSome_some,if_true,vE,List.map_map];refine List.map_congr_left fun p hp=>?_
  simp only [Function.comp];split <;> simp_all
theorem Eu (D:List (ByteArray × α)) (s:ByteArray) (v:α):(pE D s v).length=if (gE D s).isSome then D.length else D.length+1:=by
 unfold pE;split <;> simp
theorem E' (D:List (ByteArray × α)) (s t:ByteArray) (v:α):gE (D++[(s,v)]) t=(gE D t).or (if t=s then some v else none):=by
 unfold gE;rw [List.find?_append];cases h:D.find? (fun p=>decide (t=p.1)) with
 | some q=>simp
 | none =>
  simp only [Option.none_or,Option.map_none,List.find?_cons,List.find?_nil]
  by_cases e:t=s
  ·simp [e]
  ·simp [e]
theorem KV (D:List (ByteArray × α)) (s t:ByteArray) (v:α) (hs:(gE D s).isSome):gE (D.map fun p=>if s=p.1 then (p.1,v) else p) t=if t=s then some v else gE D t:=by
 unfold gE at *
 induction D with
 | nil=>simp at hs
 | cons p D ih =>
  by_cases h:s=p.1
  ·by_cases e:t=s
   ·simp [h,e]
   ·have e2:¬ t=p.1:=fun k=>e (k.trans h.symm)
    have hg:∀ l:List (ByteArray × α),(List.find? (fun p=>decide (t=p.1)) (List.map (fun p=>if s=p.1 then (p.1,v) else p) l)).map (·.2)=(List.find? (fun p=>decide (t=p.1)) l).map (·.2):=by
     intro l
     induction l with
     | nil=>rfl
     | cons q l ihl =>
      by_cases hq:s=q.1
      ·have:¬ t=q.1:=fun k=>e (k.trans hq.symm)
       simp only [List.map_cons,List.find?_cons,if_pos hq,decide_eq_false this];exact ihl
      ·simp only [List.map_cons,List.find?_cons,if_neg hq]
       by_cases ht:t=q.1
       ·simp [ht]
       ·simp only [decide_eq_false ht];exact ihl
    simp only [List.map_cons,List.find?_cons,if_pos h,decide_eq_false e2,if_neg e];exact hg D
  ·have hs2:(Option.map (fun x=>x.2) (List.find? (fun p=>decide (s=p.1)) D)).isSome:=by
    simpa [List.find?_cons,decide_eq_false h] using hs
   simp only [List.map_cons,List.find?_cons,if_neg h]
   by_cases ht:t=p.1
   ·have:¬ t=s:=fun k=>h (k.symm.trans ht)
    simp [ht,if_neg (ht▸this)]
   ·simp only [decide_eq_false ht];exact ih hs2
theorem Lt (D:List (ByteArray × α)) (s:ByteArray) (v:α) (t:ByteArray):gE (pE D s v) t=if t=s then some v else gE D t:=by
 unfold pE;split
 ·rename_i h;exact KV D s t v h
 ·rename_i h;rw [E']
  by_cases e:t=s
  ·subst e
   have:gE D t=none:=by simpa using h
   rw [this]; simp
  ·simp [e]
def Kt (f:ByteArray→Option α) (s:ByteArray) (v:α):ByteArray→Option α:=fun t=>if t=s then some v else f t
def sI (en:α→Value) (h:Hp) (g:Nat) (f:ByteArray→Option α) (n:Nat):Prop:=∃ D:List (ByteArray × α),eO h g (vE en D)∧(∀ s,gE D s=f s)∧D.length=n
theorem sI.ai {en:α→Value} {ws:List Nat} {h h':Hp} {g:Nat} {f:ByteArray→Option α} {n:Nat} (m:sI en h g f n) (k:Ch ws h h') (hw:g∉ws):sI en h' g f n:=by
 obtain ⟨D,m,r⟩:=m;exact ⟨D,m.ai k hw,r⟩
theorem sI.lt {en:α→Value} {h:Hp} {g:Nat} {f:ByteArray→Option α} {n:Nat} (m:sI en h g f n):g<h.size:=by
 obtain ⟨D,m,r⟩:=m;exact m.lt
theorem sI.new {en:α→Value} {h:Hp} {g:Nat} (m:eO h g []):sI en h g (fun _=>none) 0:=⟨[],m,fun s=>rfl,rfl⟩
theorem sI.Fo {en:α→Value} {h':Hp} {g:Nat} {f:ByteArray→Option α} {n:Nat} {D:List (ByteArray × α)} (hD:∀ s,gE D s=f s) (hn:D.length=n) {s:ByteArray} {v:α} (m:eO h' g (Sx.Fo (vE en D) s (en v))):sI en h' g (Kt f s v) (if (f s).isSome then n else n+1):=by
 rw [Kj] at m;refine ⟨_,m,fun t=>?_,?_⟩
 ·rw [Lt,hD t]; rfl
 ·rw [Eu,hD s,hn]
end
def eB (b:Bool):Value:=.bool b
theorem JM:Tryz.prog.underlying 70=some (.map 9 4):=by kernel_rfl
theorem EO:Tryz.prog.underlying 9=some .string:=by kernel_rfl
theorem LQ:(Tryz.prog.info? 4).bind (·.zero)=some (.bool false):=by kernel_rfl
def pG (h:Hp) (g:Nat) (D:List ByteArray):Prop:=∃ n,sI eB h g (fun s=>if eb D s then some true else none) n
theorem pG.ai {ws:List Nat} {h h':Hp} {g:Nat} {D:List ByteArray} (m:pG h g D) (k:Ch ws h h') (hw:g∉ws):pG h' g D:=by
 obtain ⟨n,m⟩:=m;exact ⟨n,m.ai k hw⟩
theorem pG.lt {h:Hp} {g:Nat} {D:List ByteArray} (m:pG h g D):g<h.size:=by
 obtain ⟨n,m⟩:=m;exact m.lt
section
variable {L:Lp} {K:Value→Hp→Prop} {h:Hp} {g:Nat} {D:List ByteArray}
theorem vx (m:pG h g D) (s:ByteArray) {k:Bool→T} (hk:k (eb D s) L K h):T.bj Tryz.prog (Instr.lookup 70 (.map (some g)) (.string s) false) false [(false,[.bool])] k L K h:=by
 obtain ⟨n,D',m,hD,hn⟩:=m;refine yJ JM EO LQ m s false _ ?_;refine ⟨(eb D s,()),?_,hk⟩;simp only [Bool.false_eq_true,if_false];rw [DG,hD s];dsimp only
 all_goals (cases eb D s <;> rfl)
theorem Hy (m:pG h g D) {s:ByteArray} (hs:s.size≤maxLen) {k:T} (hk:∀ h',pG h' g (s::D)→Ch [g] h h'→h'.size=h.size→k L K h') :
  T.mQ Tryz.prog (Instr.mapUpdate 70 (.map (some g)) (.string s) (.bool true)) k L K h:=by
 obtain ⟨n,D',m,hD,hn⟩:=m;refine rC JM EO m hs _ _ ?_;intro h' m' c' z'
 have:=sI.Fo (en:=eB) hD hn (v:=true) m'
 have he:Kt (fun t=>if eb D t then some true else none) s true=fun t=>if eb (s::D) t then some true else none:=by
  funext t
  unfold Kt eb
  by_cases h1:t=s
  ·rw [if_pos h1,if_pos];simp [h1]
  ·rw [if_neg h1]
   have:¬ s=t:=fun e=>h1 e.symm
   rw [List.any_cons,decide_eq_false this,Bool.false_or]
 rw [he] at this;exact hk h' ⟨_,this⟩ c' z'
theorem J5 {t:TypeId} {k:Option Nat→T} (hk:∀ h',pG h' h.size []→Ext h h'→h'.size=h.size+1→k (some h.size) L K h'):T.bj Tryz.prog (Instr.makeMap t none) false [(false,[.map 0 0])] k L K h:=by
 refine qE _ ?_;intro h' m e z;exact ⟨(some h.size,()),rfl,hk h' ⟨0,sI.new m⟩ e z⟩
end
/-! Lists in memory. -/
structure Fk (h:Hp) (p:Option Addr) (l:Nat) (us:List bD):Prop where
 len:l=us.length
 many:us.length≤2^60
 cells:∀ i,(hi:i<us.length)→∃ a q m c,p=some a∧aG h (a.add (i*10)) 0 (encI q m c us[i])∧nB h q m us[i]
theorem Fk.ai {h h':Hp} {p:Option Addr} {l:Nat} {us:List bD} (v:Fk h p l us) (k:Ext h h'):Fk h' p l us :=
 ⟨v.len,v.many,fun i hi=>by
  obtain ⟨a,q,m,c,ha,hc,hv⟩:=v.cells i hi;exact ⟨a,q,m,c,ha,bE k (by simp) _ _ hc,hv.ai k⟩⟩
def E3 (p:Option Addr) (l c:Nat) (x:lP):List Value:=[.string x.1,.slice p l c,.int .u32 x.2.num]
structure K1 (h:Hp) (p:Option Addr) (l:Nat) (us:List lP):Prop where
 len:l=us.length
 many:us.length≤2^60
 cells:∀ i,(hi:i<us.length)→∃ a q m c,p=some a∧aG h (a.add (i*3)) 0 (E3 q m c us[i])∧kf h q m us[i].2∧us[i].1.size≤maxLen
theorem K1.ai {h h':Hp} {p:Option Addr} {l:Nat} {us:List lP} (v:K1 h p l us) (k:Ext h h'):K1 h' p l us :=
 ⟨v.len,v.many,fun i hi=>by
  obtain ⟨a,q,m,c,ha,hc,hv,hs⟩:=v.cells i hi;exact ⟨a,q,m,c,ha,bE k (by simp) _ _ hc,hv.ai k,hs⟩⟩
structure FP (h:Hp) (p:Option Addr) (l:Nat) (us:List ByteArray):Prop where
 len:l=us.length
 many:us.length≤2^60
 cells:∀ i,(hi:i<us.length)→∃ a,p=some a∧aG h (a.add (i*1)) 0 [.string us[i]]∧us[i].size≤maxLen
theorem FP.ai {h h':Hp} {p:Option Addr} {l:Nat} {us:List ByteArray} (v:FP h p l us) (k:Ext h h'):FP h' p l us :=
 ⟨v.len,v.many,fun i hi=>by
  obtain ⟨a,ha,hc,hs⟩:=v.cells i hi;exact ⟨a,ha,bE k (by simp) _ _ hc,hs⟩⟩
structure bP where
 p:Option Addr
 l:Nat
 c:Nat
def bP.v (s:bP):Value:=.slice s.p s.l s.c
structure gn (h:Hp) (a b c d:bP) (u:fS):Prop where
 text:Fk h a.p a.l u.text
 data:Fk h b.p b.l u.data
 aQ:K1 h c.p c.l u.aQ
 aF:FP h d.p d.l u.aF
theorem gn.ai {h h':Hp} {a b c d:bP} {u:fS} (v:gn h a b c d u) (k:Ext h h'):gn h' a b c d u:=⟨v.text.ai k,v.data.ai k,v.aQ.ai k,v.aF.ai k⟩
def lh (a b c d:bP):Value:=.agg #[a.v,b.v,c.v,d.v]
theorem Lg:Tryz.prog.underlying 100=some (.slice 23):=by kernel_rfl
theorem Ml:(Tryz.prog.info? 23).map (fun i=>(i.zero,i.size,i.bytes))=some (some (.slice none 0 0),1,24):=by kernel_rfl
theorem LL (p1:Option Addr) (l1 c1:Nat) (p2:Option Addr) (l2 c2:Nat):Instr.fill (fun j=>some (j*1,1)) ((Array.range (2*1)).map ((Value.slice none 0 0).cells[· % (Value.slice none 0 0).cells.size]!)) [(0,.slice p1 l1 c1),(1,.slice p2 l2 c2)]=some ([.slice p1 l1 c1,.slice p2 l2 c2]:List Value).toArray:=by kernel_rfl
/-! The sections,one behind the other. -/
def E6 (u:fS) (k:Nat):List bD:=if k=0 then u.text else u.data
def qp (u:fS) (k:Nat):List ByteArray:=if k=0 then [] else if k=1 then bM [] u.text else bM (bM [] u.text) u.data
def wz (u:fS) (k:Nat):Bool:=if k=0 then yX u else if k=1 then (ek 1 (bM [] u.text) u.data && (fW (bM (bM [] u.text) u.data) u.aQ && cw u.names bI u.aF)) else (fW (bM (bM [] u.text) u.data) u.aQ && cw u.names bI u.aF)
theorem Fl (u:fS) {k:Nat} (hk:k<2):wz u k=(ek k (qp u k) (E6 u k) && wz u (k+1)):=by
 have:k=0∨k=1:=by omega
 rcases this with rfl | rfl
 ·simp [wz,qp,E6,yX,Bool.and_assoc]
 ·simp [wz,qp,E6]
theorem Ec (u:fS) {k:Nat} (hk:k<2):qp u (k+1)=bM (qp u k) (E6 u k):=by
 have:k=0∨k=1:=by omega
 rcases this with rfl | rfl <;> rfl
theorem Ac (D:List ByteArray) (l:List bD) {i:Nat} (hi:i<l.length):bM D (l.take (i+1))=ri (bM D (l.take i)) l[i]:=by
 unfold bM;rw [List.take_succ_eq_append_getElem hi,List.foldl_append];rfl
theorem AZ (D:List ByteArray) (l:List lP) {i:Nat} (hi:i<l.length):fL D (l.take (i+1))=l[i].1::fL D (l.take i):=by
 unfold fL;rw [List.take_succ_eq_append_getElem hi,List.foldl_append];rfl
theorem zt (sec:Nat) (D:List ByteArray) (l:List bD) {i:Nat} (hi:i<l.length):ek sec D (l.drop i)=(yW sec D l[i] && ek sec (ri D l[i]) (l.drop (i+1))):=by
 rw [List.drop_eq_getElem_cons hi,ek]
theorem B1 (D:List ByteArray) (l:List lP) {i:Nat} (hi:i<l.length):fW D (l.drop i)=(AL D l[i] && fW (l[i].1::D) (l.drop (i+1))):=by
 rw [List.drop_eq_getElem_cons hi,fW]
def lr (l:List ByteArray) (i:Nat):ByteArray:=if i=0 then bI else l.getD (i-1) bI
theorem rV (D:List ByteArray) (l:List ByteArray) {i:Nat} (hi:i<l.length):cw D (lr l i) (l.drop i)=(KZ D (lr l i) l[i] && cw D (lr l (i+1)) (l.drop (i+1))):=by
 rw [List.drop_eq_getElem_cons hi,cw]
 congr 2
 unfold lr;rw [if_neg (by omega),Nat.add_sub_cancel,List.getD_eq_getElem?_getD,List.getElem?_eq_getElem hi];rfl
def BI (h:Hp) (g:Nat) (D:List ByteArray):Prop:=pG h g D∧∀ s,s∈D→bd s.data.toList=true
theorem BI.ai {ws:List Nat} {h h':Hp} {g:Nat} {D:List ByteArray} (m:BI h g D) (k:Ch ws h h') (hw:g∉ws):BI h' g D:=⟨m.1.ai k hw,m.2⟩
theorem A0 {s:ByteArray} (h:bd s.data.toList=true):fE bI s:=by
 unfold bd at h;simp only [Bool.and_eq_true,decide_eq_true_eq] at h;have h2:=h.1.1.1.1;show (bI.data.toList:List UInt8)<s.data.toList
 have:(bI.data.toList:List UInt8)=[]:=rfl
 rw [this];cases hs:s.data.toList with
 | nil=>rw [hs] at h2; simp at h2
 | cons a l=>exact List.Lex.nil
theorem Iz {D:List ByteArray} {s:ByteArray} (h:eb D s=true):s∈D:=by
 unfold eb at h;simp only [List.any_eq_true,decide_eq_true_eq] at h;obtain ⟨y,hy,rfl⟩:=h;exact hy
theorem I5 {h:Hp} (t:y7 h) {x:bD} {p:Option Addr} {l c k:Nat} (v:nB h p l x) (hk:k<2) :
  HC Tryz.prog 44 #[nv p l c x,.int .i64 (k:Int)] h fun w h'=>w=zA (bm x k)∧Ext h h':=by
 have:k=0∨k=1:=by omega
 rcases this with rfl | rfl
 ·exact GS t v
 ·exact FJ t v
theorem je {h:Hp} (t:y7 h) {a b c d:bP} {u:fS} (v:gn h a b c d u):HC Tryz.prog 18 #[lh a b c d] h fun w h'=>w=.int .i64 (j0 u:Nat)∧Ext h h':=by
 refine aK (args:=[lh a b c d]) mixed Tryz.func18 (by kernel_rfl) (uA a.p a.l a.c b.p b.l b.c c.p c.l c.c d.p d.l d.c) ?_;unfold ry;refine aX ?_;intro g1 b1 e1 z1;have b1:aO g1 h.size 27 [a.v,b.v,c.v,d.v]:=b1;have m1:=v.text.many;have m2:=v.data.many;have m3:=v.aQ.many;have m4:=v.aF.many;have n1:=v.text.len;have n2:=v.data.len;have n3:=v.aQ.len;have n4:=v.aF.len;have s1:=e1.size;simp only [ao];refine ad b1 ((a.p,a.l,a.c),()) rfl ?_;dsimp only [flat,az,ah,nA,cA];refine ad b1 ((b.p,b.l,b.c),()) rfl ?_;dsimp only [flat,az,ah,nA,cA];rw [wrap_i64 (by omega) (by omega)];unfold j0 rG;refine af (fun q=>?_) (fun q=>?_)
 ·have q:=of_decide_eq_true q;exact ⟨by rw [decide_eq_true (show 8192<u.text.length+u.data.length by omega)]; rfl,e1⟩
 have q:=of_decide_eq_false q;rw [decide_eq_false (show ¬ 8192<u.text.length+u.data.length by omega),Bool.false_or];refine ad b1 ((c.p,c.l,c.c),()) rfl ?_;dsimp only [flat,az,ah,nA,cA];refine af (fun q=>?_) (fun q=>?_)
 ·have q:=of_decide_eq_true q;exact ⟨by rw [decide_eq_true (show 8192<u.aQ.length by omega)]; rfl,e1⟩
 have q:=of_decide_eq_false q;rw [decide_eq_false (show ¬ 8192<u.aQ.length by omega),if_neg (by simp)];refine J5 ?_;intro g2 m e2 z2;have b2:=b1.ai e2 (by simp);refine ad b2 ((a.p,a.l,a.c),()) rfl ?_;dsimp only [flat,az,ah,nA,cA];refine ad b2 ((b.p,b.l,b.c),()) rfl ?_;dsimp only [flat,az,ah,nA,cA];refine dP Lg Ml (by omega) (by omega) (LL a.p a.l a.c b.p b.l b.c) ?_;intro g3 b3 e3 z3;have m:=m.ai e3 (by have:=m.lt; simp);have e03:=(e1.trans e2).trans e3;have b3':=b2.ai e3 (by simp);have s2:=e2.size;clear b1 b2;have hsec:∀ k,k<2→∃ s:bP,([a.v,b.v]:List Value).drop k=s.v::([a.v,b.v]:List Value).drop (k+1)∧Fk h s.p s.l (E6 u k):=by
  intro k hk
  have:k=0∨k=1:=by omega
  rcases this with rfl | rfl
  ·exact ⟨a,rfl,v.text⟩
  ·exact ⟨b,rfl,v.data⟩
 have s3:=e3.size;have b3:aO g3 g2.size 23 [a.v,b.v]:=b3;generalize hU:yX u=U;refine bh (cs:=[(false,[.int .i64]),(false,[.int .i64])]) (fun y w h'=>∃ k:Nat,y.2.1=(k:Int)∧k≤2∧w=2-k∧Ext h h'∧aO h' h.size 27 [a.v,b.v,c.v,d.v]∧aO h' g2.size 23 [a.v,b.v]∧BI h' g1.size (qp u k)∧U=wz u k) ((0:Int),(0:Int),()) 2 rfl
  ⟨0,rfl,by omega,by omega,e03,b3',b3,⟨m,by simp [qp]⟩,hU.symm⟩ ?_
 rintro ⟨n21,n22,⟨⟩⟩ w h4 ⟨k,hk,hk2,rfl,e4,b1,b2,m,hu⟩;simp only at hk;subst hk;dsimp only [flat,az,ah,nA,cA];refine af (fun q=>?_) (fun q=>?_)
 ·have q:=of_decide_eq_true q;have hk:k<2:=by omega
  obtain ⟨sl,hsl,vs⟩:=hsec k hk;refine ay ⟨by omega,by omega⟩ (aj rfl ?_);rw [ao];refine ad b2 ((sl.p,sl.l,sl.c),()) (by rw [show 0+(k:Int).toNat*1=k by omega,hsl]; rfl) ?_;dsimp only [flat,az,ah,nA,cA];have lk:=vs.len;have mk:=vs.many;generalize hl:E6 u k=l at vs lk mk;have hu2:U=(ek k (bM (qp u k) (l.take 0)) (l.drop 0) && wz u (k+1)):=by
   rw [hu,Fl u hk,hl];rfl
  refine bh (cs:=[(false,[.int .i64]),(false,[.int .i64])]) (fun y w h'=>∃ i:Nat,y.2.1=(i:Int)∧i≤l.length∧w=l.length-i∧Ext h h'∧aO h' h.size 27 [a.v,b.v,c.v,d.v]∧aO h' g2.size 23 [a.v,b.v]∧BI h' g1.size (bM (qp u k) (l.take i))∧U=(ek k (bM (qp u k) (l.take i)) (l.drop i) && wz u (k+1))) (n21,(0:Int),()) l.length rfl
   ⟨0,rfl,by omega,by omega,e4,b1,b2,m,hu2⟩ ?_
  clear hu hu2 m b1 b2 e4;rintro ⟨n27,n28,⟨⟩⟩ w h5 ⟨i,hi,hile,rfl,e5,b1,b2,m,hu⟩;simp only at hi;subst hi;dsimp only [flat,az,ah,nA,cA];refine af (fun q2=>?_) (fun q2=>?_)
  ·have q2:=of_decide_eq_true q2;have hil:i<l.length:=by omega
   obtain ⟨aa,pp,ll,cc,eX,hc,va⟩:=(vs.ai e5).cells i hil;rw [zt k _ l hil] at hu;have hnt:=Ac (qp u k) l hil;generalize l[i]=x at hc va hu hnt;refine ay ⟨by omega,by omega⟩ (aj eX ?_);rw [show Int.toNat (i:Int)=i by omega];refine aE (x.kind,x.name,x.inst.op,x.inst.a,x.inst.b,x.inst.n,x.inst.form,(pp,ll,cc),(x.e.num:Int),x.n,()) hc ?_;dsimp only [flat,az,ah,nA,cA];refine aX ?_;intro h6 b6 e6 z6;refine an b6 rfl (by simp) ?_;intro h7 b7 k7 z7;have b7:aO h7 h5.size 96 (encI pp ll cc x):=b7;have e57:Ext h5 h7:=e6.st k7 (Nat.le_refl _);have e7:=e5.trans e57;simp only [ao];refine ad b7 (x.kind,x.name,x.inst.op,x.inst.a,x.inst.b,x.inst.n,x.inst.form,(pp,ll,cc),(x.e.num:Int),x.n,()) rfl ?_;dsimp only [flat,az,ah,nA,cA];refine aB (I5 (c:=cc) (t.ai e7 (by simp)) (va.ai e57) hk) ?_;rintro _ h8 ⟨rfl,e8⟩;refine ⟨((if bm x k then 0 else 31:Int),()),rfl,?_⟩;dsimp only [flat,az,ah,nA,cA];have e58:=e57.trans e8;have e08:=e5.trans e58;have b1:=b1.ai e58 (by simp);have b2:=b2.ai e58 (by simp);have m:=m.ai e58 (by simp);have b8:=b7.ai e8 (by simp);refine af (fun r=>?_) (fun r=>?_)
   ·have r:bm x k=false:=by
     cases hr:bm x k with
     | false=>rfl
     | true=>rw [hr] at r; simp at r
    exact ⟨by rw [hu,yW,r]; rfl,e08⟩
   have r:bm x k=true:=by
    cases hr:bm x k with
    | true=>rfl
    | false=>rw [hr] at r; simp at r
   have hno:∀ D,yW k D x=!(decide (x.kind=1) && eb D x.name):=fun D=>by rw [yW,r]; rfl
   rw [hno] at hu;refine ad b8 (x.kind,()) rfl ?_;dsimp only [flat,az,ah,nA,cA];refine af (fun r1=>?_) (fun r1=>?_)
   ·have r1:x.kind=1:=by simpa using r1
    rw [decide_eq_true r1,Bool.true_and] at hu;have hle:bd x.name.data.toList=true:=by
     rw [zw r1,Bool.and_eq_true] at r;exact r.1
    refine ad b8 (x.name,()) rfl ?_;dsimp only [flat,az,ah,nA,cA];refine vx m.1 x.name ?_;refine af (fun r2=>?_) (fun r2=>?_)
    ·exact ⟨by rw [hu,r2]; rfl,e08⟩
    rw [r2] at hu;refine ad b8 (x.kind,()) rfl ?_;dsimp only [flat,az,ah,nA,cA];refine aT (by simpa using r1) ?_;refine ad b8 (x.name,()) rfl ?_;dsimp only [flat,az,ah,nA,cA];refine Hy m.1 va.name ?_;intro h9 m9 k9 z9;have e09:Ext h h9:=e08.st k9 (by omega);have s5:=e5.size;have hadd:ri (bM (qp u k) (l.take i)) x=x.name::bM (qp u k) (l.take i):=by unfold ri; rw [if_pos r1]
    refine aI (cs:=[(false,[.int .i64]),(false,[.int .i64])]) (n27,((i+1:Nat):Int),()) (l.length-(i+1)) rfl (by omega) (by rw [wrap_i64 (by omega) (by omega)]; rfl) ?_;refine ⟨i+1,rfl,by omega,rfl,e09,b1.ai k9 (by simp; omega),b2.ai k9 (by simp; omega),by rw [hnt,hadd]; exact ⟨m9,fun s hs=>(List.mem_cons.1 hs).elim (fun e=>by rw [e]; exact hle) (m.2 s)⟩,by rw [hu,hnt]; rfl⟩
   ·have r1:¬ x.kind=1:=by simpa using r1
    rw [decide_eq_false r1] at hu;refine ad b8 (x.kind,()) rfl ?_;dsimp only [flat,az,ah,nA,cA];refine aU (by simpa using r1) ?_;have hadd:ri (bM (qp u k) (l.take i)) x=bM (qp u k) (l.take i):=by unfold ri; rw [if_neg r1]
    refine aI (cs:=[(false,[.int .i64]),(false,[.int .i64])]) (n27,((i+1:Nat):Int),()) (l.length-(i+1)) rfl (by omega) (by rw [wrap_i64 (by omega) (by omega)]; rfl) ?_;refine ⟨i+1,rfl,by omega,rfl,e08,b1,b2,by rw [hnt,hadd]; exact m,by rw [hu,hnt]; rfl⟩
  ·have q2:=of_decide_eq_false q2;have hil:i=l.length:=by omega
   subst hil;rw [List.take_length] at m hu;rw [List.drop_length,ek,Bool.true_and] at hu;refine aI (cs:=[(false,[.int .i64]),(false,[.int .i64])]) (n27,((k+1:Nat):Int),()) (2-(k+1)) rfl (by omega) (by rw [wrap_i64 (by omega) (by omega)]; rfl) ?_;refine ⟨k+1,rfl,by omega,rfl,e5,b1,b2,by rw [Ec u hk,hl]; exact m,hu⟩
 ·have q:=of_decide_eq_false q;have hk:k=2:=by omega
  subst hk;have hu:U=(fW (bM (bM [] u.text) u.data) u.aQ && cw u.names bI u.aF):=hu;have m:BI h4 g1.size (bM (bM [] u.text) u.data):=m;generalize hD:bM (bM [] u.text) u.data=D at hu m;have hN:u.names=fL D u.aQ:=by rw [← hD]; rfl
  rw [hN] at hu;refine ad b1 ((c.p,c.l,c.c),()) rfl ?_;dsimp only [flat,az,ah,nA,cA];have hu2:U=(fW (fL D (u.aQ.take 0)) (u.aQ.drop 0) && cw (fL D u.aQ) bI u.aF):=hu;refine bh (cs:=[(false,[.int .i64]),(false,[.int .i64])]) (fun y w h'=>∃ i:Nat,y.2.1=(i:Int)∧i≤u.aQ.length∧w=u.aQ.length-i∧Ext h h'∧aO h' h.size 27 [a.v,b.v,c.v,d.v]∧BI h' g1.size (fL D (u.aQ.take i))∧U=(fW (fL D (u.aQ.take i)) (u.aQ.drop i) && cw (fL D u.aQ) bI u.aF)) (n21,(0:Int),()) u.aQ.length rfl
   ⟨0,rfl,by omega,by omega,e4,b1,m,hu2⟩ ?_
  clear hu hu2 m b1 b2 e4;rintro ⟨n27,n28,⟨⟩⟩ w h5 ⟨i,hi,hile,rfl,e5,b1,m,hu⟩;simp only at hi;subst hi;dsimp only [flat,az,ah,nA,cA];have s5:=e5.size;refine af (fun q2=>?_) (fun q2=>?_)
  ·have q2:=of_decide_eq_true q2;have hil:i<u.aQ.length:=by omega
   obtain ⟨aa,pp,ll,cc,eX,hc,va,vn⟩:=(v.aQ.ai e5).cells i hil;rw [B1 _ _ hil] at hu;have hnt:=AZ D u.aQ hil;generalize u.aQ[i]=x at hc va vn hu hnt;refine ay ⟨by omega,by omega⟩ (aj eX ?_);rw [show Int.toNat (i:Int)=i by omega];refine aE (x.1,(pp,ll,cc),(x.2.num:Int),()) hc ?_;dsimp only [flat,az,ah,nA,cA];refine aX ?_;intro h6 b6 e6 z6;refine an b6 rfl (by simp) ?_;intro h7 b7 k7 z7;have b7:aO h7 h5.size 99 (E3 pp ll cc x):=b7;have e57:Ext h5 h7:=e6.st k7 (Nat.le_refl _);have e7:=e5.trans e57;simp only [ao];have b1:=b1.ai e57 (by simp);have m:=m.ai e57 (by simp);unfold AL at hu;refine ad b7 (x.1,()) rfl ?_;dsimp only [flat,az,ah,nA,cA];refine vx m.1 x.1 ?_;refine af (fun r=>?_) (fun r=>?_)
   ·exact ⟨by rw [hu,r]; rfl,e7⟩
   rw [r] at hu;refine ad b7 (x.1,()) rfl ?_;dsimp only [flat,az,ah,nA,cA];refine aD (kE x.1 h7 (by have:maxLen=9223372036854775807:=rfl; omega)) ?_;refine af (fun r=>?_) (fun r=>?_)
   ·have r:bd x.1.data.toList=false:=by simpa using r
    exact ⟨by rw [hu,r]; rfl,e7⟩
   have hle:bd x.1.data.toList=true:=by simpa using r
   rw [hle] at hu;refine ad b7 ((pp,ll,cc),(x.2.num:Int),()) rfl ?_;dsimp only [flat,az,ah,nA,cA];refine aB (qu (c:=cc) (va.ai e57).vw (by have:=va.many; omega) va.names) ?_;rintro _ h8 ⟨rfl,e8⟩;refine ⟨(kO none x.2.au,()),rfl,?_⟩;dsimp only [flat,az,ah,nA,cA];have e08:=e7.trans e8;have b1:=b1.ai e8 (by simp);have m:=m.ai e8 (by simp);have b8:=b7.ai e8 (by simp);refine af (fun r=>?_) (fun r=>?_)
   ·have r:kO none x.2.au=false:=by simpa using r
    exact ⟨by rw [hu,r]; rfl,e08⟩
   have r:kO none x.2.au=true:=by simpa using r
   rw [r] at hu;refine ad b8 (x.1,()) rfl ?_;dsimp only [flat,az,ah,nA,cA];refine Hy m.1 vn ?_;intro h9 m9 k9 z9;have e09:Ext h h9:=e08.st k9 (by omega);refine aI (cs:=[(false,[.int .i64]),(false,[.int .i64])]) (n27,((i+1:Nat):Int),()) (u.aQ.length-(i+1)) rfl (by omega) (by rw [wrap_i64 (by omega) (by omega)]; rfl) ?_;refine ⟨i+1,rfl,by omega,rfl,e09,b1.ai k9 (by simp; omega),by rw [hnt]; exact ⟨m9,fun s hs=>(List.mem_cons.1 hs).elim (fun e=>by rw [e]; exact hle) (m.2 s)⟩,by rw [hu,hnt]; rfl⟩
  have q2:=of_decide_eq_false q2;have hil:i=u.aQ.length:=by omega
  subst hil;rw [List.take_length] at m hu;rw [List.drop_length,fW,Bool.true_and] at hu;generalize hE:fL D u.aQ=E at m hu;refine ad b1 ((d.p,d.l,d.c),()) rfl ?_;dsimp only [flat,az,ah,nA,cA];have hu2:U=cw E (lr u.aF 0) (u.aF.drop 0):=hu;refine bh (cs:=[(false,[.int .i64]),(false,[.int .i64])]) (fun y w h'=>∃ i:Nat,y.2.1=(i:Int)∧i≤u.aF.length∧w=u.aF.length-i∧Ext h h'∧aO h' h.size 27 [a.v,b.v,c.v,d.v]∧BI h' g1.size E∧U=cw E (lr u.aF i) (u.aF.drop i)) (n27,(0:Int),()) u.aF.length rfl
   ⟨0,rfl,by omega,by omega,e5,b1,m,hu2⟩ ?_
  clear hu hu2 m b1 e5 s5;rintro ⟨n31,n32,⟨⟩⟩ w h6 ⟨i,hi,hile,rfl,e6,b1,m,hu⟩;simp only at hi;subst hi;dsimp only [flat,az,ah,nA,cA];refine af (fun q3=>?_) (fun q3=>?_)
  ·have q3:=of_decide_eq_true q3;have hil:i<u.aF.length:=by omega
   obtain ⟨aa,eX,hc,va⟩:=(v.aF.ai e6).cells i hil;rw [rV _ _ hil] at hu;unfold KZ at hu;refine ay ⟨by omega,by omega⟩ (aj eX ?_);rw [show Int.toNat (i:Int)=i by omega];refine aE (u.aF[i],()) hc ?_;dsimp only [flat,az,ah,nA,cA];refine vx m.1 _ ?_;refine af (fun r=>?_) (fun r=>?_)
   ·have r:eb E u.aF[i]=false:=by simpa using r
    exact ⟨by rw [hu,r]; rfl,e6⟩
   have r:eb E u.aF[i]=true:=by simpa using r
   rw [r,Bool.true_and] at hu;refine af (fun r2=>?_) (fun r2=>?_)
   ·have r2:=of_decide_eq_true r2;refine ad b1 ((d.p,d.l,d.c),()) rfl ?_;dsimp only [flat,az,ah,nA,cA];rw [wrap_i64 (by omega) (by omega)];obtain ⟨ab,rfl'',hc',va'⟩:=(v.aF.ai e6).cells (i-1) (by omega);refine ay ⟨by omega,by omega⟩ (aj rfl'' ?_);rw [show Int.toNat ((i:Int)-1)=i-1 by omega];refine aE (u.aF[i-1],()) hc' ?_;dsimp only [flat,az,ah,nA,cA];have hla:lr u.aF i=u.aF[i-1]:=by
     unfold lr;rw [if_neg (by omega),List.getD_eq_getElem?_getD,List.getElem?_eq_getElem (by omega)];rfl
    rw [leB];rw [hla] at hu;refine af (fun r3=>?_) (fun r3=>?_)
    ·have r3:decide (fE u.aF[i-1] u.aF[i])=false:=by simpa using r3
     exact ⟨by rw [hu,r3]; rfl,e6⟩
    ·have r3:decide (fE u.aF[i-1] u.aF[i])=true:=by simpa using r3
     rw [r3,Bool.true_and] at hu;refine aI (cs:=[(false,[.int .i64]),(false,[.int .i64])]) (n31,((i+1:Nat):Int),()) (u.aF.length-(i+1)) rfl (by omega) (by rw [wrap_i64 (by omega) (by omega)]; rfl) ?_;exact ⟨i+1,rfl,by omega,rfl,e6,b1,m,hu⟩
   ·have r2:=of_decide_eq_false r2;have hi0:i=0:=by omega
    subst hi0;have hg:decide (fE (lr u.aF 0) u.aF[0])=true:=decide_eq_true (A0 (m.2 _ (Iz r)));rw [hg,Bool.true_and] at hu;refine aI (cs:=[(false,[.int .i64]),(false,[.int .i64])]) (n31,((0+1:Nat):Int),()) (u.aF.length-(0+1)) rfl (by omega) (by rw [wrap_i64 (by omega) (by omega)]; rfl) ?_;exact ⟨0+1,rfl,by omega,rfl,e6,b1,m,hu⟩
  ·have q3:=of_decide_eq_false q3;have hil:i=u.aF.length:=by omega
   subst hil;rw [List.drop_length] at hu;exact ⟨by rw [hu]; rfl,e6⟩
def xA (l:List UInt8):List (List Value):=l.map fun b=>[.int .u8 (b.toNat:Int)]
theorem wM (l:List UInt8):(xA l).length=l.length:=by simp [xA]
theorem Dz (l:List UInt8):∀ y,y∈xA l→y.length=1:=by
 intro y hy;obtain ⟨b,_,rfl⟩:=List.mem_map.1 hy;rfl
theorem AO (l:List UInt8):(xA l).flatten=l.map fun b=>.int .u8 (b.toNat:Int):=by
 induction l with
 | nil=>rfl
 | cons a l ih =>
  have:xA (a::l)=[.int .u8 (a.toNat:Int)]::xA l:=rfl
  rw [this,List.flatten_cons,ih];rfl
theorem EN (l:List UInt8):(xA l).flatten.all ei=true:=by
 rw [AO];simp [ei]
theorem GR:Tryz.prog.underlying 42=some (.slice 5):=by kernel_rfl
theorem Nx:(Tryz.prog.info? 5).map (fun i=>(i.zero,i.size,i.bytes))=some (some (.int .u8 0),1,1):=by kernel_rfl
def HV (g:Nat) (h:Hp) (p:Option Addr) (h':Hp) (p':Option Addr):Prop:=Ch (g::aC p) h h'∧(p'=p∨∃ a,p'=some a∧h.size≤a.block)
theorem HV.refl (g:Nat) (h:Hp) (p:Option Addr):HV g h p h p:=⟨Ch.refl _ _,.inl rfl⟩
theorem HV.trans {g:Nat} {h h1 h2:Hp} {p p1 p2:Option Addr} (a:HV g h p h1 p1) (b:HV g h1 p1 h2 p2):HV g h p h2 p2:=by
 refine ⟨a.1.trans b.1 ?_,?_⟩
 ·intro i hi hl;rcases List.mem_cons.1 hi with rfl | hi
  ·simp
  ·rcases a.2 with h1 | ⟨q,h1,h3⟩
   ·rw [h1] at hi;exact List.mem_cons_of_mem _ hi
   ·rw [h1] at hi;simp [aC] at hi;omega
 ·rcases b.2 with h3 | ⟨q,h3,h4⟩
  ·rcases a.2 with h5 | ⟨r,h5,h6⟩
   ·exact .inl (h3.trans h5)
   ·exact .inr ⟨r,h3.trans h5,h6⟩
  ·exact .inr ⟨q,h3,Nat.le_trans a.1.size h4⟩
theorem HV.of {g:Nat} {h h':Hp} (e:Ext h h') (p:Option Addr):HV g h p h' p:=⟨e.mono (by simp),.inl rfl⟩
theorem SL.bW {h:Hp} {b:Nat} {e:TypeId} {sz:Nat} {p:Option Addr} {l c:Nat} {xs:List (List Value)} (s:SL h b e sz p l c xs):∀ i,i∈aC p→b≤i∧i<h.size:=by
 intro i hi;cases p with
 | none=>simp [aC] at hi
 | some a =>
  obtain ⟨g,pre,rest,rfl,hb,_,hbox,_⟩:=s.2.2;simp [aC] at hi;exact ⟨by omega,by rw [hi]; exact hbox.lt⟩
theorem HV.box {g k:Nat} {h h':Hp} {p p':Option Addr} {e:TypeId} {xs:List Value} (b:aO h k e xs) (hk:k∉g::aC p) (s:HV g h p h' p'):aO h' k e xs∧k∉g::aC p':=by
 refine ⟨b.ai s.1 hk,?_⟩;rcases s.2 with h3 | ⟨a,h3,h4⟩
 ·rw [h3]; exact hk
 ·rw [h3]
  have:=b.lt
  have h5:k≠g:=fun e=>hk (by rw [e]; simp)
  simp [aC];omega
theorem wrap_u32 (n:Int):IntKind.wrap .u32 n=((u32 n:Nat):Int):=by
 simp only [IntKind.wrap,IntKind.bits,IntKind.signed,Bool.false_and,Bool.false_eq_true,if_false];unfold u32;omega
theorem LW (a:Int):Instr.fill (fun j=>some (j*1,1)) ((Array.range (1*1)).map ((Value.int .u8 0).cells[· % (Value.int .u8 0).cells.size]!)) [(0,.int .u8 a)]=some ([.int .u8 a]:List Value).toArray:=by kernel_rfl
structure HU (h:Hp) (p:Option Addr) (l:Nat) (us:Bt):Prop where
 len:l=us.length
 cells:∀ i,(hi:i<us.length)→∃ a,p=some a∧aG h (a.add (i*1)) 0 [.int .u8 (us[i].toNat:Int)]
theorem HU.ai {h h':Hp} {p:Option Addr} {l:Nat} {us:Bt} (v:HU h p l us) (k:Ext h h'):HU h' p l us :=
 ⟨v.len,fun i hi=>by
  obtain ⟨a,ha,hc⟩:=v.cells i hi;exact ⟨a,ha,bE k (by simp) _ _ hc⟩⟩
theorem EA {P:Program} {h:Hp} (a:Addr) (l:List UInt8) (cap:Nat) (K:Value→Hp→Prop) (hc:aG h a 0 (l.map gB)) (hk:K (.string ⟨l.toArray⟩) h):aH P (Conv.bytesToString (.slice (some a) l.length cap)) h K:=by
 unfold Conv.bytesToString;simp only;rw [ak];refine cz (by simp) hc _ ?_;rw [ak,← Array.forIn_toList]
 have key:∀ (l:List UInt8) (s:ByteArray) (K':ByteArray→Hp→Prop),K' ⟨s.data++l.toArray⟩ h→aH P (forIn (l.map gB) s fun c r=>match c with
   | .int .u8 n=>(pure (ForInStep.yield (r.push (UInt8.ofNat n.toNat))):Sem (ForInStep ByteArray))
   | _ => stuck "bytesToString: byte expected") h K' := by
  intro l
  induction l with
  | nil =>
   intro s K' hk;have e:(⟨s.data++([]:List UInt8).toArray⟩:ByteArray)=s:=by simp
   rw [e] at hk;exact hk
  | cons c l ih =>
   intro s K' hk;rw [List.map_cons,List.forIn_cons];rw [ak];show aH P (forIn (List.map gB l) (s.push (UInt8.ofNat ((c.toNat:Nat):Int).toNat)) _) h K';have e1:UInt8.ofNat ((c.toNat:Nat):Int).toNat=c:=by simp
   rw [e1];refine ih (s.push c) K' ?_
   have:(⟨(s.push c).data++l.toArray⟩:ByteArray)=⟨s.data++(c::l).toArray⟩:=by
    congr 1
    apply Array.toList_inj.1
    simp
   rw [this]; exact hk
 refine key l ByteArray.empty _ ?_;have e:(⟨ByteArray.empty.data++l.toArray⟩:ByteArray)=⟨l.toArray⟩:=by
  congr 1
  apply Array.toList_inj.1
  simp
 rw [e];exact hk
theorem HU.from {h:Hp} {a:Addr} {l:Nat} {us:Bt} (v:HU h (some a) l us):∀ (n i:Nat),i+n≤us.length→aG h (a.add (i*1)) 0 (((us.drop i).take n).map gB):=by
 have key:∀ (n i k:Nat),i+k+n≤us.length→aG h (a.add (i*1)) k (((us.drop (i+k)).take n).map gB):=by
  intro n
  induction n with
  | zero=>intro i k _; trivial
  | succ n ih =>
   intro i k hk;rw [List.drop_eq_getElem_cons (by omega),List.take_succ_cons,List.map_cons];obtain ⟨b,hb,hc⟩:=v.cells (i+k) (by omega);cases hb;refine ⟨?_,?_⟩
   ·have:=hc.1
    rw [show (a.add ((i+k)*1)).add 0=(a.add (i*1)).add k by rw [Go.Sx.add_add,Go.Sx.add_add]; congr 1; omega] at this;exact this
   ·have:=ih i (k+1) (by omega)
    rw [← Nat.add_assoc] at this;exact this
 intro n i hi;exact key n i 0 (by omega)
abbrev St:=Except (Nat × Nat) Bt
def KI (h:Hp) (g gm:Nat) (full:Bt) (at_:Nat) (no:Option Addr):St→Prop
 | .ok r=>no=none∧full.drop at_=r
 | .error e=>e.1≤full.length∧∃ a,no=some ⟨a,0,none⟩∧aO h a 63 [.int .i64 ((full.length-e.1:Nat):Int),.int .i64 (e.2:Nat)]∧a≠g∧a≠gm
theorem KI.ai {ws:List Nat} {h h':Hp} {g gm:Nat} {full:Bt} {at_:Nat} {no:Option Addr} {st:St} (n:KI h g gm full at_ no st) (k:Ch ws h h') (hw:∀ i,i∈ws→i<h.size→i=g∨i=gm):KI h' g gm full at_ no st:=by
 cases st with
 | ok r=>exact n
 | error e =>
  obtain ⟨h1,a,h2,h3,h4,h5⟩:=n;exact ⟨h1,a,h2,h3.ai k (fun hi=>(hw a hi h3.lt).elim (fun e=>h4 e) (fun e=>h5 e)),h4,h5⟩
def xv {α:Type} (f:Bt→Rd α) (st:St) (x:α) (st':St):Prop :=
 match st with
 | .error e=>st'=.error e
 | .ok r=>match f r with
  | .ok q=>x=q.1∧st'=.ok q.2
  | .error e=>st'=.error e
theorem xv.off {α:Type} (f:Bt→Rd α) (e:Nat × Nat) (x:α):xv f (.error e) x (.error e):=rfl
theorem xv.and {α β:Type} {f:Bt→Rd α} {k:α→Bt→Rd β} {st st1 st2:St} {x:α} {y:β} (h1:xv f st x st1) (h2:xv (k x) st1 y st2):xv (fun r=>Az (f r) k) st y st2:=by
 cases st with
 | error e =>
  have h1:st1=.error e:=h1;rw [h1] at h2;exact h2
 | ok r =>
  unfold xv at h1 ⊢;simp only at h1 ⊢;cases hf:f r with
  | error e =>
   rw [hf] at h1;have h1:st1=.error e:=h1;rw [h1] at h2;exact h2
  | ok q =>
   rw [hf] at h1;obtain ⟨rfl,h1⟩:=h1;rw [h1] at h2;exact h2
theorem xv.ret {α:Type} (x:α) (st:St):xv (fun r=>.ok (x,r)) st x st:=by
 cases st with
 | error e=>rfl
 | ok r=>exact ⟨rfl,rfl⟩
def KQ (full:Bt) (at_ why:Nat):St→St
 | .ok _=>.error (full.length-at_,why)
 | .error e=>.error e
theorem xv.au {n:Nat} {st st1 st2 st3:St} {s:ByteArray} {c:Nat} {ts:dp} (h1:xv Ga st s st1) (h2:xv (Aq 4) st1 c st2) (h3:xv (zS n) st2 ts st3):xv (zS (n+1)) st ((s,c)::ts) st3 :=
 xv.and (f:=Ga) h1 (xv.and (f:=Aq 4) h2 (xv.and (f:=zS n) h3 (xv.ret _ _)))
structure tI (x:ey):Prop where
 many:x.au.length≤65535
 au:∀ u,u∈x.au→u.1.size<65536∧u.2<4294967296
 num:x.num<4294967296
theorem NA {k c:Nat} (h:k≠c):(((k:Nat):Int)==(c:Int))=false:=by
 simp only [beq_eq_false_iff_ne,ne_eq];omega
structure yY (x:bD):Prop where
 pq:tI x.e
 name:x.name.size<65536
 op:Sm x.inst.op
theorem tI.zero:tI dT:=⟨by decide,by simp [dT],by decide⟩
theorem tI.at {h:Hp} {b:Nat} {e:TypeId} {p:Option Addr} {l c:Nat} {x:ey} (r:tI x) (s:SL h b e 2 p l c (x.au.map cV)):kf h p l x :=
 ⟨Sx.SL.H9 s,by have:=r.many; omega,fun t ht=>by have:=(r.au t ht).1; unfold maxLen; omega⟩
theorem yY.at {h:Hp} {b:Nat} {e:TypeId} {p:Option Addr} {l c:Nat} {x:bD} (r:yY x) (s:SL h b e 2 p l c (x.e.au.map cV)):nB h p l x :=
 ⟨r.pq.at s,by have:=r.name; unfold maxLen; omega,r.op⟩
def iz:List Value:=[.int .i64 (0:Int),.string ⟨#[]⟩,.int .i64 (0:Int),.int .i64 (0:Int),.int .i64 (0:Int),.int .i32 (0:Int),.int .i64 (0:Int),.slice none 0 0,.int .u32 (0:Int),.int .i64 (0:Int)]
structure Ls {α:Type} (e:TypeId) (sz:Nat) (ec:bP→α→List Value) (tm:α→dp) (ok:α→Prop) (h:Hp) (b:Nat) (p:Option Addr) (l c:Nat) (us:List (bP × α)):Prop where
 sl:SL h b e sz p l c (us.map fun u=>ec u.1 u.2)
 own:∀ u,u∈us→SL h b 109 2 u.1.p u.1.l u.1.c ((tm u.2).map cV)
 ok:∀ u,u∈us→ok u.2
section
variable {α:Type} {e:TypeId} {sz:Nat} {ec:bP→α→List Value} {tm:α→dp} {ok:α→Prop} {h h':Hp} {b b':Nat} {p:Option Addr} {l c:Nat} {us:List (bP × α)}
theorem Ls.nil (h:Hp) (b:Nat):Ls e sz ec tm ok h b none 0 0 []:=⟨SL.nil _ _ _ _,by simp,by simp⟩
theorem SL.vR {ws:List Nat} {h h':Hp} {b:Nat} {e:TypeId} {sz:Nat} {p:Option Addr} {l c:Nat} {xs:List (List Value)} (s:SL h b e sz p l c xs) (k:Ch ws h h') (hw:∀ i,i∈ws→i<h.size→i<b):SL h' b e sz p l c xs :=
 Sx.SL.bf s k (fun i hi hm=>by have:=Sx.SL.bW s hi; have:=hw i hm this.2; omega)
theorem Ls.ai {ws:List Nat} (s:Ls e sz ec tm ok h b p l c us) (k:Ch ws h h') (hw:∀ i,i∈ws→i<h.size→i<b):Ls e sz ec tm ok h' b p l c us :=
 ⟨SL.vR s.sl k hw,fun u hu=>SL.vR (s.own u hu) k hw,s.ok⟩
theorem Ls.mono (s:Ls e sz ec tm ok h b p l c us) (hb:b'≤b):Ls e sz ec tm ok h b' p l c us :=
 ⟨Sx.SL.mono s.sl hb,fun u hu=>Sx.SL.mono (s.own u hu) hb,s.ok⟩
theorem Ls.len (s:Ls e sz ec tm ok h b p l c us):l=us.length:=by rw [s.sl.1,List.length_map]
end
theorem xv.many {α:Type} {most:Option Nat} {f:Nat→Bt→Rd α} {full:Bt} {fr:Nat} {st st1:St} {n:Nat} (p:xv (Aq 2) st n st1) (ho:over most n=true) (hat:∀ r,st=.ok r→full.length-fr=r.length) (x:α):xv (Ld most f) st x (KQ full fr 4 st1):=by
 cases st with
 | error e =>
  have p:st1=.error e:=p;rw [p];rfl
 | ok r =>
  unfold xv at p ⊢;simp only at p ⊢;unfold Ld;cases hf:Aq 2 r with
  | error e =>
   rw [hf] at p;have p:st1=.error e:=p;rw [p];rfl
  | ok q =>
   rw [hf] at p;obtain ⟨rfl,p⟩:=p;obtain ⟨q1,q2⟩:=q;rw [Hd,if_pos (show over most q1=true from ho),p];show KQ full fr 4 (.ok q2)=.error (r.length,4);unfold KQ;simp only;rw [hat r rfl]
abbrev ptr (g:Nat):Value:=.pointer (some ⟨g,0,none⟩)
theorem JS:Tryz.prog.underlying 23=some (.slice 96):=by kernel_rfl
theorem JR:Tryz.prog.underlying 24=some (.slice 99):=by kernel_rfl
theorem DB:Tryz.prog.underlying 25=some (.slice 9):=by kernel_rfl
theorem L6:(Tryz.prog.info? 96).map (fun i=>(i.zero,i.size,i.bytes))=some (some (.agg iz.toArray),10,104):=by kernel_rfl
theorem Mj:(Tryz.prog.info? 9).map (fun i=>(i.zero,i.size,i.bytes))=some (some (.string ⟨#[]⟩),1,16):=by kernel_rfl
section
variable {h0 h:Hp} {g gm:Nat} {bp:Option Addr} {bl bc:Nat} {full:Bt} {st:St} {D:List ByteArray}
abbrev KX:=Ls 96 10 (fun s x=>encI s.p s.l s.c x) (fun x=>x.e.au) yY
abbrev Mo:=Ls 99 3 (fun s (x:lP)=>E3 s.p s.l s.c x) (fun x=>x.2.au) (fun x=>tI x.2∧x.1.size<65536)
abbrev Mm:=Ls 9 1 (fun _ (x:ByteArray)=>[.string x]) (fun _=>[]) (fun x=>x.size<65536)
end
def MN (a b:bP):Prop:=∀ i,i∈aC a.p→i∉aC b.p
theorem MN.zero:MN ⟨none,0,0⟩ ⟨none,0,0⟩:=fun i hi=>by simp [aC] at hi
structure jC (h:Hp) (b0:Nat) (a b c d:bP) (u:fS):Prop where
 text:∃ us,us.map (·.2)=u.text∧us.length≤65535∧KX h b0 a.p a.l a.c us
 data:∃ us,us.map (·.2)=u.data∧us.length≤65535∧KX h b0 b.p b.l b.c us
 aQ:∃ us,us.map (·.2)=u.aQ∧us.length≤65535∧Mo h b0 c.p c.l c.c us
 aF:∃ us,us.map (·.2)=u.aF∧us.length≤65535∧Mm h b0 d.p d.l d.c us
def fX:bP:=⟨none,0,0⟩
theorem jC.zero (h:Hp) (b0:Nat):jC h b0 fX fX fX fX tq :=
 ⟨⟨[],rfl,by simp,Ls.nil _ _⟩,⟨[],rfl,by simp,Ls.nil _ _⟩,⟨[],rfl,by simp,Ls.nil _ _⟩,⟨[],rfl,by simp,Ls.nil _ _⟩⟩
theorem jC.ai {ws:List Nat} {h h':Hp} {b0:Nat} {a b c d:bP} {u:fS} (o:jC h b0 a b c d u) (k:Ch ws h h') (hw:∀ i,i∈ws→i<h.size→i<b0):jC h' b0 a b c d u:=by
 obtain ⟨⟨u1,a1,c1,d1⟩,⟨u2,a2,c2,d2⟩,⟨u3,a3,c3,d3⟩,⟨u4,a4,c4,d4⟩⟩:=o;exact ⟨⟨u1,a1,c1,d1.ai k hw⟩,⟨u2,a2,c2,d2.ai k hw⟩,⟨u3,a3,c3,d3.ai k hw⟩,⟨u4,a4,c4,d4.ai k hw⟩⟩
theorem jC.mono {h:Hp} {b0 b1:Nat} {a b c d:bP} {u:fS} (o:jC h b0 a b c d u) (hb:b1≤b0):jC h b1 a b c d u:=by
 obtain ⟨⟨u1,a1,c1,d1⟩,⟨u2,a2,c2,d2⟩,⟨u3,a3,c3,d3⟩,⟨u4,a4,c4,d4⟩⟩:=o;exact ⟨⟨u1,a1,c1,d1.mono hb⟩,⟨u2,a2,c2,d2.mono hb⟩,⟨u3,a3,c3,d3.mono hb⟩,⟨u4,a4,c4,d4.mono hb⟩⟩
theorem SL.at_ {h:Hp} {b:Nat} {e:TypeId} {sz:Nat} {p:Option Addr} {l c:Nat} {xs:List (List Value)} (s:SL h b e sz p l c xs) {i:Nat} (hi:i<xs.length):∃ a,p=some a∧aG h (a.add (i*sz)) 0 xs[i]:=Sx.SL.cells s hi
theorem KX.at {h:Hp} {b:Nat} {p:Option Addr} {l c:Nat} {us:List (bP × bD)} (s:KX h b p l c us) (hn:us.length≤65535):Fk h p l (us.map (·.2)):=by
 refine ⟨by rw [s.len,List.length_map],by rw [List.length_map]; omega,fun i hi=>?_⟩;rw [List.length_map] at hi;obtain ⟨a,ha,hc⟩:=SL.at_ s.sl (i:=i) (by rw [List.length_map]; exact hi);rw [List.getElem_map] at hc ⊢;exact ⟨a,_,_,_,ha,hc,(s.ok _ (List.getElem_mem hi)).at (s.own _ (List.getElem_mem hi))⟩
theorem Mo.at {h:Hp} {b:Nat} {p:Option Addr} {l c:Nat} {us:List (bP × lP)} (s:Mo h b p l c us) (hn:us.length≤65535):K1 h p l (us.map (·.2)):=by
 refine ⟨by rw [s.len,List.length_map],by rw [List.length_map]; omega,fun i hi=>?_⟩;rw [List.length_map] at hi;obtain ⟨a,ha,hc⟩:=SL.at_ s.sl (i:=i) (by rw [List.length_map]; exact hi);rw [List.getElem_map] at hc ⊢;have ok:=s.ok _ (List.getElem_mem hi);exact ⟨a,_,_,_,ha,hc,ok.1.at (s.own _ (List.getElem_mem hi)),by have:=ok.2; unfold maxLen; omega⟩
theorem Mm.at {h:Hp} {b:Nat} {p:Option Addr} {l c:Nat} {us:List (bP × ByteArray)} (s:Mm h b p l c us) (hn:us.length≤65535):FP h p l (us.map (·.2)):=by
 refine ⟨by rw [s.len,List.length_map],by rw [List.length_map]; omega,fun i hi=>?_⟩;rw [List.length_map] at hi;obtain ⟨a,ha,hc⟩:=SL.at_ s.sl (i:=i) (by rw [List.length_map]; exact hi);rw [List.getElem_map] at hc ⊢;have ok:=s.ok _ (List.getElem_mem hi);exact ⟨a,ha,hc,by unfold maxLen; omega⟩
theorem jC.at {h:Hp} {b0:Nat} {a b c d:bP} {u:fS} (o:jC h b0 a b c d u):gn h a b c d u:=by
 obtain ⟨⟨u1,a1,c1,d1⟩,⟨u2,a2,c2,d2⟩,⟨u3,a3,c3,d3⟩,⟨u4,a4,c4,d4⟩⟩:=o;exact ⟨by rw [← a1]; exact KX.at d1 c1,by rw [← a2]; exact KX.at d2 c2,by rw [← a3]; exact Mo.at d3 c3,by rw [← a4]; exact Mm.at d4 c4⟩
def zU:List Value:=[.slice none 0 0,.slice none 0 0,.slice none 0 0,.slice none 0 0]
theorem dO {a b:Nat} (h:(((a:Nat):Int)==((b:Nat):Int))=true):a=b:=by
 have:=eq_of_beq h
 omega
theorem dX {a b:Nat} (h:(((a:Nat):Int)==((b:Nat):Int))=false):¬ a=b:=by
 rintro rfl;simp at h
def si (h:Hp) (w:Value) (e:Option (Nat × Nat)):Prop :=
 match e with
 | none=>w=.nilIface
 | some e=>∃ a,w=.iface 59 (ptr a)∧aO h a 63 [.int .i64 (e.1:Nat),.int .i64 (e.2:Nat)]
theorem uV {L:Lp} {K:Value→Hp→Prop} {h:Hp} {b:Bool} {t u:T} (hu:b=false→u L K h) (ht:b=true→t L K h):(cond b t u) L K h:=af ht hu
def JI (l0 l1:Nat) (body:Int→T→T):T :=
 cond ((l0:Int) != (l1:Int))
 (T.ret (.bool false))
 (T.loop [(false,[.bool]),(false,[.int .i64])] [.bool false,.int .i64 (0:Int)] <| fun (b2:Bool) (n3:Int) =>
 cond (decide (n3<(l0:Int)))
  (body n3 (T.again 0 [.bool b2,.int .i64 (IntKind.wrap .i64 (n3+(1:Int)))]))
  (T.ret (.bool true)))
theorem MW {α:Type} {xs ys:List α} (e:xs=ys) {i:Nat} (h1:i<xs.length) (h2:i<ys.length):xs[i]=ys[i]:=by
 subst e;rfl
theorem nJ {h:Hp} {a:Addr}:∀ (vs:List Value) (o i:Nat),aG h a (o+i) vs→aG h (a.add o) i vs
 | [],_,_,_=>trivial
 | v::vs,o,i,hc=>⟨by rw [add_add]; exact hc.1,nJ vs o (i+1) hc.2⟩
def Mg {α:Type} (x y:α) (h:Hp) (w:Value) (h':Hp):Prop:=∃ b:Bool,w=.bool b∧(b=true↔x=y)∧Ext h h'
theorem GF {α:Type} {xs ys:List α} {l0 l1:Nat} (h0:l0=xs.length) (h1:l1=ys.length) (hm:xs.length≤2^60) {body:Int→T→T} {h:Hp}
  (hb:∀ (L:Lp) (h':Hp) (i:Nat) (hi:i<xs.length) (hj:i<ys.length) (k:T),Ext h h'→(xs[i]=ys[i]→∀ h'',Ext h h''→k L (Mg xs ys h) h'')→(xs[i]≠ys[i]→∀ h'',Ext h h''→Mg xs ys h (.bool false) h'')→body (i:Int) k L (Mg xs ys h) h') :
  JI l0 l1 body [] (Mg xs ys h) h:=by
 subst h0 h1;unfold JI;refine af (fun q=>?_) (fun q=>?_)
 ·refine ⟨false,rfl,⟨fun h=>(by cases h),fun e=>?_⟩,Ch.refl _ _⟩;rw [e] at q;simp at q
 have q:xs.length=ys.length:=by
  have:(((xs.length:Nat):Int)==((ys.length:Nat):Int))=true:=by
   simpa using q
  exact dO this
 refine bh (cs:=[(false,[.bool]),(false,[.int .i64])]) (fun y m h'=>∃ i:Nat,y.1=false∧y.2.1=(i:Int)∧m=xs.length-i∧i≤xs.length∧Ext h h'∧∀ j,(hj:j<i)→(h1:j<xs.length)→(h2:j<ys.length)→xs[j]=ys[j]) (false,(0:Int),()) xs.length rfl
  ⟨0,rfl,rfl,rfl,by omega,Ch.refl _ _,fun j hj=>by omega⟩ ?_
 rintro ⟨b2,n3,⟨⟩⟩ m h1 ⟨i,hy1,hy2,rfl,hi,e1,hj⟩;simp only at hy1 hy2;subst hy1 hy2;dsimp only [flat,az,ah,nA,cA];refine af (fun r=>?_) (fun r=>?_)
 ·have r:=of_decide_eq_true r;refine hb _ h1 i (by omega) (by omega) _ e1 (fun he h2 e2=>?_) (fun hne h2 e2=>?_)
  ·rw [wrap_i64 (by omega) (by omega)];refine aI (cs:=[(false,[.bool]),(false,[.int .i64])]) (false,((i+1:Nat):Int),()) (xs.length-(i+1)) rfl (by omega) rfl ?_;refine ⟨i+1,rfl,rfl,rfl,by omega,e2,fun j hj' a b=>?_⟩
   by_cases hji:j<i
   ·exact hj j hji a b
   ·have:j=i:=by omega
    subst this;exact he
  ·exact ⟨false,rfl,⟨fun h=>(by cases h),fun e=>absurd (MW e (by omega) (by omega)) hne⟩,e2⟩
 ·have r:=of_decide_eq_false r;refine ⟨true,rfl,⟨fun _=>?_,fun _=>rfl⟩,e1⟩;exact List.ext_getElem q fun j a b=>hj j (by omega) a b
theorem Kh (s t:ByteArray):(ByteArray.toList s==ByteArray.toList t)=decide (s=t):=by
 rw [ByteArray.toList_eq,ByteArray.toList_eq]
 by_cases h:s=t
 ·rw [decide_eq_true h,h]; simp
 ·rw [decide_eq_false h]
  have:¬ s.data.toList=t.data.toList:=fun e=>h (mg e)
  simpa using this
theorem CL {h:Hp} {p q:Option Addr} {l c m d:Nat} {xs ys:List ByteArray} (v:FP h p l xs) (w:FP h q m ys):HC Tryz.prog 15 #[.slice p l c,.slice q m d] h (Mg xs ys h):=by
 refine aK (args:=[.slice p l c,.slice q m d]) mixed Tryz.func15 (by kernel_rfl) (gK p l c q m d) ?_;refine GF (body:=fun n3 k=>T.aJ (((0:Int)≤n3)∧(n3<(l:Int))) <|
  T.av p <| fun (a4:Addr) =>
  T.ae (a4.add ((Int.toNat n3)*1)) [.string] <| fun (s5:ByteArray) =>
  T.aJ (((0:Int)≤n3)∧(n3<(m:Int))) <|
  T.av q <| fun (a6:Addr) =>
  T.ae (a6.add ((Int.toNat n3)*1)) [.string] <| fun (s7:ByteArray) =>
  cond (!((ByteArray.toList s5)==(ByteArray.toList s7)))
  (T.ret (.bool false)) k) v.len w.len v.many ?_
 intro L h' i hi hj k e1 hk hn;have vl:=v.len;have wl:=w.len;obtain ⟨a,rfl,hc,_⟩:=(v.ai e1).cells i hi;obtain ⟨b,rfl,hd,_⟩:=(w.ai e1).cells i hj;refine ay ⟨by omega,by omega⟩ ?_;refine aj rfl ?_;refine aE (xs[i],()) hc ?_;dsimp only [flat,az,ah,nA,cA];refine ay ⟨by omega,by omega⟩ ?_;refine aj rfl ?_;refine aE (ys[i],()) hd ?_;dsimp only [flat,az,ah,nA,cA];rw [Kh];refine af (fun r=>?_) (fun r=>?_)
 ·exact hn (by simpa using r) h' e1
 ·exact hk (by simpa using r) h' e1
theorem Iw (x y:Operand) (i j:Ins) (h:Hp) (K:Value→Hp→Prop) (hk:K (.bool (decide (i=j))) h) :
  aH Tryz.prog (Sx.bX (BinOp.eql) 90 x y (.agg (kJ i).toArray) (.agg (kJ j).toArray)) h K:=by
 refine Gb J1 (by kernel_rfl) (by kernel_rfl) (by kernel_rfl) K ?_;have he:(GC Tryz.prog 90).all (HM (kJ i).toArray (kJ j).toArray)=(i.op==j.op && (i.a==j.a && (i.b==j.b && (i.n==j.n && (i.form==j.form && true))))):=by
  rw [← Array.all_toList]
  kernel_rfl
 rw [he,Bool.and_true]
 have:(i.op==j.op && (i.a==j.a && (i.b==j.b && (i.n==j.n && i.form==j.form))))=decide (i=j):=by
  rcases i with ⟨a1,a2,a3,a4,a5⟩
  rcases j with ⟨c1,c2,c3,c4,c5⟩
  simp only [cF,Ins.mk.injEq]
  by_cases h1:a1=c1 <;> by_cases h2:a2=c2 <;> by_cases h3:a3=c3 <;> by_cases h4:a4=c4 <;> by_cases h5:a5=c5 <;> simp [h1,h2,h3,h4,h5]
 rw [this];exact hk
open Go.Proofs Go.Proofs.YtfkjiiapldkoeaaGreatDoor
open Go.ChangeShapes Go.WideShapes Go.ChangeAt Go.WideMaps Go.WideElems Go.RowKit
def oK (P:Program) (t:TypeId):Option (List (TypeId × Nat)):=(P.underlying t).bind fun d=>match d with | .struct fs=>some (fs.toList.map fun f=>(f.type,f.offset)) | _=>none
section
variable {H:Type} {ec:TypeId × Value→H} {P:Program} {W:World} {base fuel:Nat} {sp:Nat→Bool} {held:Bool} {t:TypeId} {cs:List Value} {y:DataW H × List MemPlace}
theorem eA {l:List (TypeId × Nat)} (hu:oK P t=some l) (h:DataW.trod ec P W base sp held fuel t cs=some y) :
  ∃ (xs:List (DataW H × List MemPlace)) (n:Nat),y.1=.agg (xs.map (·.1))∧cs.length=P.cellsOf t∧xs.length=l.length∧∀ (i:Nat) (p:TypeId × Nat),l[i]?=some p→∃ x,xs[i]?=some x∧DataW.trod ec P W base sp held n p.1 ((cs.drop p.2).take (P.cellsOf p.1))=some x:=by
 unfold oK at hu;cases hd:P.underlying t with
 | none=>rw [hd] at hu; cases hu
 | some d =>
  rw [hd] at hu;simp only [Option.bind_some] at hu;split at hu
  ·rename_i fs;simp only [Option.some.injEq] at hu;obtain ⟨xs,n,_,hy,hl,hlen,hf⟩:=DataW.trod_struct hd h;refine ⟨xs,n,by rw [hy],hl,by rw [← hu,List.length_map,hlen,Array.length_toList],fun i p hp=>?_⟩;rw [← hu,List.getElem?_map,Option.map_eq_some_iff] at hp;obtain ⟨f,hf1,rfl⟩:=hp;rw [Array.getElem?_toList] at hf1;have h1:=hf i f hf1;cases hx:xs[i]? with
   | none =>
    rw [List.getElem?_eq_none_iff] at hx
    have:i<fs.size:=by
     by_cases g:i<fs.size
     ·exact g
     ·rw [Array.getElem?_eq_none (by omega)] at hf1;cases hf1
    omega
   | some x=>rw [hx] at h1; exact ⟨x,rfl,h1⟩
  ·cases hu
theorem xg {h:Hp} {a:Addr}:∀ (vs:List Value) (i:Nat),(∀ j,(hj:j<vs.length)→dN h (a.add (i+j))=some vs[j])→aG h a i vs
 | [],_,_=>trivial
 | v::vs,i,hh=>⟨by have:=hh 0 (by simp); rw [Nat.add_zero] at this; exact this,xg vs (i+1) fun j hj=>by
  have:=hh (j+1) (by simpa using hj)
  rw [show i+1+j=i+(j+1) by omega];simpa using this⟩
theorem Kf {a:Addr} {n:Nat} (h:W.cells? base a n=some cs):cs.length=n∧aG W.heap a 0 cs:=by
 unfold World.cells? at h;split at h
 ·have hl:cs.length=n:=by simpa using Lib.mapM_length h
  refine ⟨hl,xg cs 0 fun j hj=>?_⟩;obtain ⟨b,hb,hf⟩:=Lib.mapM_at h j j (List.getElem?_range (by omega));rw [List.getElem?_eq_getElem hj] at hb;cases hb;rw [Nat.zero_add,← dZ];exact hf
 ·cases h
theorem tB {α:Type} (Q:Nat→α→Prop):∀ n,(∀ i,i<n→∃ x,Q i x)→∃ l:List α,l.length=n∧∀ i (hi:i<l.length),Q i l[i]
 | 0,_=>⟨[],rfl,fun i hi=>by simp at hi⟩
 | n+1,h=>by
  obtain ⟨l,hl,hp⟩:=tB Q n (fun i hi=>h i (by omega));obtain ⟨x,hx⟩:=h n (by omega);refine ⟨l++[x],by simp [hl],fun i hi=>?_⟩
  by_cases hin:i<l.length
  ·rw [List.getElem_append_left hin];exact hp i hin
  ·have hi':i=n:=by simp at hi; omega
   subst hi';rw [List.getElem_append_right (by omega)];simpa using hx
theorem GU {ds:List (DataW H)} {ks:List Nat} (hl:ds.length=ks.length) (h:∀ i,(hi:i<ks.length)→(hj:i<ds.length)→ks[i]=Rows.uptoBulk ds[i]):Rows.uptoBulkAll ds=ks.sum:=by
 induction ds generalizing ks with
 | nil =>
  cases ks with
  | nil=>rfl
  | cons k ks=>simp at hl
 | cons d ds ih =>
  cases ks with
  | nil=>simp at hl
  | cons k ks =>
   have h0:=h 0 (by simp) (by simp);simp only [List.getElem_cons_zero] at h0
   have:=ih (ks:=ks) (by simpa using hl) (fun i hi hj=>h (i+1) (by simpa using hi) (by simpa using hj))
   unfold Rows.uptoBulkAll;rw [this,List.sum_cons,h0]
structure B9 {α:Type} (Q:α→List Value→Nat→Prop) (h:Hp) (sz:Nat) (p:Option Addr) (l c:Nat) (us:List α) (ks:List Nat):Prop where
 len:l=us.length
 C':ks.length=us.length
 cells:∀ i,(hi:i<us.length)→(hk:i<ks.length)→∃ a cs,p=some a∧aG h (a.add (i*sz)) 0 cs∧Q us[i] cs ks[i]
 cap:l≤c
 NQ:c≤maxLen
 nil:p=none→c=0
theorem open_slice {α:Type} {e:TypeId} {sz:Nat} (hu:P.underlying t=some (.slice e)) (hc:P.cellsOf e=sz) (Q:α→List Value→Nat→Prop)
  (hel:∀ (cs:List Value) (y:DataW H × List MemPlace) (n:Nat),DataW.trod ec P W base sp held n e cs=some y→∃ x:α,Q x cs (Rows.uptoBulk y.1))
  (h:DataW.trod ec P W base sp held fuel t cs=some y) :
  ∃ (p:Option Addr) (l c:Nat) (us:List α) (ks:List Nat),cs=[.slice p l c]∧B9 Q W.heap sz p l c us ks∧ks.sum+1≤Rows.uptoBulk y.1:=by
 rcases DataW.trod_slice hu h with ⟨e0,hy0⟩ | ⟨a,len,cap,elems,rest,n,_,e0,hy0,hbase,hlc,hcm,hlen,hev,_,_⟩
 ·refine ⟨none,0,0,[],[],e0,⟨rfl,rfl,fun i hi=>by simp at hi,Nat.le_refl _,Nat.zero_le _,fun _=>rfl⟩,?_⟩;rw [hy0];simp only [Rows.uptoBulk];decide
 ·have each:∀ i,i<len→∃ x:α × Nat,∃ cs',aG W.heap (a.add (i*sz)) 0 cs'∧Q x.1 cs' x.2∧∃ y,elems[i]?=some y∧x.2=Rows.uptoBulk y.1:=by
   intro i hi;have he:=hev i hi;cases hy:elems[i]? with
   | none=>rw [List.getElem?_eq_none_iff] at hy; omega
   | some y =>
    rw [hy,hc] at he;simp only [Option.bind_eq_some_iff] at he;obtain ⟨cs',hcs,htr⟩:=he;obtain ⟨hl,dN⟩:=Kf hcs;obtain ⟨x,hx⟩:=hel _ _ _ htr;exact ⟨(x,Rows.uptoBulk y.1),cs',dN,hx,y,rfl,rfl⟩
  obtain ⟨xs,hxl,hxs⟩:=tB _ len each;refine ⟨some a,len,cap,xs.map (·.1),xs.map (·.2),e0,⟨by rw [List.length_map,hxl],by rw [List.length_map,List.length_map],fun i hi hk=>?_,hlc,hcm,fun h=>by cases h⟩,?_⟩
  ·rw [List.length_map] at hi;obtain ⟨cs',h1,h2,_⟩:=hxs i hi;rw [List.getElem_map,List.getElem_map];exact ⟨a,cs',rfl,h1,h2⟩
  ·have:=GU (ds:=elems.map (·.1)) (ks:=xs.map (·.2)) (by rw [List.length_map,List.length_map,hlen,hxl]) (fun i hi hj=>by
    rw [List.length_map] at hi hj;obtain ⟨cs',_,_,y,hy,hk⟩:=hxs i hi;rw [List.getElem?_eq_getElem hj] at hy;rw [List.getElem_map,List.getElem_map,hk,Option.some.inj hy])
   rw [hy0];simp only [Rows.uptoBulk];rw [this];omega
end
theorem Bz {P:Program} {f:FuncId} {args:Array Value} {W:World} {R:Value→Hp→Prop} (h:HC P f args W.heap R) (he:∀ v h',R v h'→Ext W.heap h'):Calls P f args W fun e w'=>∃ v,e=.returned v∧Below W.heap.size W w'∧R v w'.heap:=by
 refine (h W rfl).mono fun e w' ⟨v,hv,hs,hr⟩=>⟨v,hv,⟨hs.os,hs.tape,hs.output,(he v _ hr).size,fun k hk=>(he v _ hr).same k hk (by simp)⟩,hr⟩
theorem Cg {W W':World} (hB:Below W.heap.size W W') {p:MemPlace} (hp:p.block<W.heap.size):W.sameAt W' p:=by
 cases p with
 | cell b off =>
  show W'.cell? _=W.cell? _;unfold World.cell?;rw [hB.block b hp]
 | map b=>exact hB.block b hp
end Go.Sx.Ob
