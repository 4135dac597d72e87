/- Contracts over heaps, part 3. Condition: as each statement says. -/
import Derived.Test.YtfkjiiapldkoeaaGreatDoorP2
import Derived.Test.YtfkjiiapldkoeaaGreatDoorBtF
import Derived.Test.YtfkjiiapldkoeaaGreatDoorBtG
import Derived.Test.YtfkjiiapldkoeaaGreatDoorRows
import Derived.ProofKit
import Derived.LaidMore
import Derived.LaidLaws
import Derived.OpenShut
import Derived.ChangeSame
import Derived.ChangeStays
import Derived.ChangeOld
import Derived.ChangeSlices
import Derived.ChangeMaps5
import Derived.JoinedCond
import Derived.Lib.LaidTab
import Derived.Stop.Joined
set_option linter.all false
set_option maxRecDepth 100000
set_option maxHeartbeats 4000000
namespace Go.Sx.Ob
open Go.Proofs
variable {e2 e1:TypeId} {sec:Nat}
def DY (n:Int):(n==IntKind.wrap .i32 (IntKind.wrap .i8 n))=(decide (-128<=n) && decide (n<=127)):=by
 have h1:IntKind.wrap .i8 n=if n % 256<128 then n % 256 else n % 256-256:=by
  simp only [IntKind.wrap,IntKind.bits,IntKind.signed,Bool.true_and];split <;> rename_i hh
  ·have:=OE hh
   rw [OG ae] <;> rfl
  ·have:¬ _:=fun h=>hh (OK h)
   rw [OH ae] <;> rfl
 have h2:IntKind.wrap .i32 (IntKind.wrap .i8 n)=IntKind.wrap .i8 n:=by
  have:-128<=IntKind.wrap .i8 n/\IntKind.wrap .i8 n<=127:=by rw [h1]; split <;> omega
  generalize IntKind.wrap .i8 n=m at this;simp only [IntKind.wrap,IntKind.bits,IntKind.signed,Bool.true_and];split <;> rename_i hh
  ·have:=OE hh; omega
  ·have:¬ _:=fun h=>hh (OK h); omega
 rw [h2,h1]
 by_cases g:-128<=n/\n<=127
 ·rw [OK g.1,OK g.2]
  simp
  split <;> omega
 ·have:(decide (-128<=n) && decide (n<=127))=false:=by
   rw [Bool.and_eq_false_iff]
   simp
   omega
  rw [this]
  simp
  split <;> omega
def CF (n:Int):(n==IntKind.wrap .i32 (IntKind.wrap .i16 n))=(decide (-32768<=n) && decide (n<=32767)):=by
 have h1:IntKind.wrap .i16 n=if n % 65536<32768 then n % 65536 else n % 65536-65536:=by
  simp only [IntKind.wrap,IntKind.bits,IntKind.signed,Bool.true_and];split <;> rename_i hh
  ·have:=OE hh
   rw [OG ae] <;> rfl
  ·have:¬ _:=fun h=>hh (OK h)
   rw [OH ae] <;> rfl
 have h2:IntKind.wrap .i32 (IntKind.wrap .i16 n)=IntKind.wrap .i16 n:=by
  have:-32768<=IntKind.wrap .i16 n/\IntKind.wrap .i16 n<=32767:=by rw [h1]; split <;> omega
  generalize IntKind.wrap .i16 n=m at this;simp only [IntKind.wrap,IntKind.bits,IntKind.signed,Bool.true_and];split <;> rename_i hh
  ·have:=OE hh; omega
  ·have:¬ _:=fun h=>hh (OK h); omega
 rw [h2,h1]
 by_cases g:-32768<=n/\n<=32767
 ·rw [OK g.1,OK g.2]
  simp
  split <;> omega
 ·have:(decide (-32768<=n) && decide (n<=32767))=false:=by
   rw [Bool.and_eq_false_iff]
   simp
   omega
  rw [this]
  simp
  split <;> omega
def bM (h:Hp) (n f:Int):pO Tryz.prog 173 [.int .i32 n,.int .i64 f] h (.bool (qH n f)):=by
 refine dk mixed Tryz.func173 aB (u' n f) ?_;unfold rW;rw [DY,CF];refine ai (fun q=>?_) (fun q=>?_)
 ·have q:f=1:=by simpa using q
  exact ⟨by unfold qH; rw [OH q],rfl⟩
 have q:¬ f=1:=by simpa using q
 refine ai (fun r=>?_) (fun r=>?_)
 ·have r:f=2:=by simpa using r
  exact ⟨by unfold qH; rw [OG q,OH r],rfl⟩
 have r:¬ f=2:=by simpa using r
 exact ⟨by unfold qH; rw [OG q,OG r]; rfl,rfl⟩
def xW (h:Hp) (n:Int):pO Tryz.prog 79 [.int .i64 n] h (.bool (mv n)):=by
 refine dk mixed Tryz.func79 aB (wG n) ?_;unfold ug aH bE;have hf:¬ (1<=n/\n<=256)->mv n=false:=by
  intro g;cases hp:mv n with
  | false=>rfl
  | true =>
   exfalso;unfold mv at hp;simp only [Bool.or_eq_true,decide_eq_true_eq] at hp;omega
 refine ai (fun q=>?_) (fun q=>?_)
 ·have q:=OE q;refine ai (fun r=>?_) (fun r=>?_)
  ·have r:=OE r;refine ⟨?_,rfl⟩;obtain ⟨k,rfl,hk⟩:∃ k:Nat,n=((k+1:Nat):Int)/\k<256:=⟨(n-1).toNat,ae,ae⟩
   have:∀ k:Fin 256,(IntKind.wrap .i64 (((BitVec.toNat ((BitVec.ofInt 64 ((k.1+1:Nat):Int)) &&& (BitVec.ofInt 64 (IntKind.wrap .i64 (((k.1+1:Nat):Int)-(1:Int)))))):Nat):Int)==(0:Int))=mv ((k.1+1:Nat):Int):=by
    decide +kernel
   rw [this ⟨k,hk⟩]
  ·have r:=OF r;exact ⟨by rw [hf ae],rfl⟩
 ·have q:=OF q;exact ⟨by rw [hf ae],rfl⟩
def cw (h:Hp) (n m:Int):pO Tryz.prog 172 [.int .i64 n,.int .i64 m] h (.bool (re n m)):=by
 refine dk mixed Tryz.func172 aB (yA n m) ?_;unfold vK bE;refine ai (fun q=>?_) (fun q=>?_)
 ·have q:=OE q;refine ⟨?_,rfl⟩;unfold re;rw [OK (show 0<=n from ae)] <;> rfl
 ·have q:=OF q;refine ⟨?_,rfl⟩;unfold re;rw [OL (show ¬ 0<=n from ae)] <;> rfl
def dG (a b:Int):(a==b)=decide (a=b):=rfl
def dz (op a b n form:Int):XB:=.agg #[.int .i64 op,.int .i64 a,.int .i64 b,.int .i32 n,.int .i64 form]
def Iz (h:Hp) (op a b n form:Int):HC Tryz.prog 143 #[dz op a b n form,.int .i64 1] h fun w h'=>w=.bool (cj 1 a b n)/\Ext h h':=by
 refine ba (args:=[dz op a b n form,.int .i64 1]) mixed Tryz.func143 aB (pF op a b n form) ?_;unfold kP bE;refine bm ?_;intro g1 b1 e1 z1
 try simp only [az]
 repeat' (first
  | (refine af b1 (_,()) rfl ?_; refine ao ?_)
  | (refine aM (cw _ _ _) ?_)
  | (refine aM (bM _ _ _) ?_)
  | (refine ai (fun q=>?_) (fun q=>?_)))
 all_goals (refine ⟨?_,e1⟩; first | (simp_all [cj,dG]; done) | (simp_all [cj,dG] <;> simp [re] <;> omega))
def Kl (h:Hp) (op a b n form:Int):HC Tryz.prog 144 #[dz op a b n form,.int .i64 1] h fun w h'=>w=.bool (nR 1 n form)/\Ext h h':=by
 refine ba (args:=[dz op a b n form,.int .i64 1]) mixed Tryz.func144 aB (sK op a b n form) ?_;unfold oY;refine bm ?_;intro g1 b1 e1 z1
 try simp only [az]
 repeat' (first
  | (refine af b1 (_,()) rfl ?_; refine ao ?_)
  | (refine aM (cw _ _ _) ?_)
  | (refine aM (bM _ _ _) ?_)
  | (refine ai (fun q=>?_) (fun q=>?_)))
 all_goals (refine ⟨?_,e1⟩; first | (simp_all [nR,dG]; done) | (simp_all [nR,dG] <;> omega))
def IE (h:Hp) (op a b n form:Int):HC Tryz.prog 143 #[dz op a b n form,.int .i64 2] h fun w h'=>w=.bool (cj 2 a b n)/\Ext h h':=by
 refine ba (args:=[dz op a b n form,.int .i64 2]) mixed Tryz.func143 aB (px op a b n form) ?_;unfold lh aN bE;refine bm ?_;intro g1 b1 e1 z1
 try simp only [az]
 repeat' (first
  | (refine af b1 (_,()) rfl ?_; refine ao ?_)
  | (refine aM (cw _ _ _) ?_)
  | (refine aM (bM _ _ _) ?_)
  | (refine ai (fun q=>?_) (fun q=>?_)))
 all_goals (refine ⟨?_,e1⟩; first | (simp_all [cj,dG]; done) | (simp_all [cj,dG] <;> simp [re] <;> omega))
def Km (h:Hp) (op a b n form:Int):HC Tryz.prog 144 #[dz op a b n form,.int .i64 2] h fun w h'=>w=.bool (nR 2 n form)/\Ext h h':=by
 refine ba (args:=[dz op a b n form,.int .i64 2]) mixed Tryz.func144 aB (sE op a b n form) ?_;unfold oV;refine bm ?_;intro g1 b1 e1 z1
 try simp only [az]
 repeat' (first
  | (refine af b1 (_,()) rfl ?_; refine ao ?_)
  | (refine aM (cw _ _ _) ?_)
  | (refine aM (bM _ _ _) ?_)
  | (refine ai (fun q=>?_) (fun q=>?_)))
 all_goals (refine ⟨?_,e1⟩; first | (simp_all [nR,dG]; done) | (simp_all [nR,dG] <;> omega))
def Ig (h:Hp) (op a b n form:Int):HC Tryz.prog 143 #[dz op a b n form,.int .i64 3] h fun w h'=>w=.bool (cj 3 a b n)/\Ext h h':=by
 refine ba (args:=[dz op a b n form,.int .i64 3]) mixed Tryz.func143 aB (pK op a b n form) ?_;unfold kw aN bE;refine bm ?_;intro g1 b1 e1 z1
 try simp only [az]
 repeat' (first
  | (refine af b1 (_,()) rfl ?_; refine ao ?_)
  | (refine aM (cw _ _ _) ?_)
  | (refine aM (bM _ _ _) ?_)
  | (refine ai (fun q=>?_) (fun q=>?_)))
 all_goals (refine ⟨?_,e1⟩; first | (simp_all [cj,dG]; done) | (simp_all [cj,dG] <;> simp [re] <;> omega))
def Ji (h:Hp) (op a b n form:Int):HC Tryz.prog 144 #[dz op a b n form,.int .i64 3] h fun w h'=>w=.bool (nR 3 n form)/\Ext h h':=by
 refine ba (args:=[dz op a b n form,.int .i64 3]) mixed Tryz.func144 aB (sA op a b n form) ?_;unfold oZ;refine bm ?_;intro g1 b1 e1 z1
 try simp only [az]
 repeat' (first
  | (refine af b1 (_,()) rfl ?_; refine ao ?_)
  | (refine aM (cw _ _ _) ?_)
  | (refine aM (bM _ _ _) ?_)
  | (refine ai (fun q=>?_) (fun q=>?_)))
 all_goals (refine ⟨?_,e1⟩; first | (simp_all [nR,dG]; done) | (simp_all [nR,dG] <;> omega))
def IX (h:Hp) (op a b n form:Int):HC Tryz.prog 143 #[dz op a b n form,.int .i64 4] h fun w h'=>w=.bool (cj 4 a b n)/\Ext h h':=by
 refine ba (args:=[dz op a b n form,.int .i64 4]) mixed Tryz.func143 aB (ph op a b n form) ?_;unfold kn aN bE;refine bm ?_;intro g1 b1 e1 z1
 try simp only [az]
 repeat' (first
  | (refine af b1 (_,()) rfl ?_; refine ao ?_)
  | (refine aM (cw _ _ _) ?_)
  | (refine aM (bM _ _ _) ?_)
  | (refine ai (fun q=>?_) (fun q=>?_)))
 all_goals (refine ⟨?_,e1⟩; first | (simp_all [cj,dG]; done) | (simp_all [cj,dG] <;> simp [re] <;> omega))
def JQ (h:Hp) (op a b n form:Int):HC Tryz.prog 144 #[dz op a b n form,.int .i64 4] h fun w h'=>w=.bool (nR 4 n form)/\Ext h h':=by
 refine ba (args:=[dz op a b n form,.int .i64 4]) mixed Tryz.func144 aB (sH op a b n form) ?_;unfold oX;refine bm ?_;intro g1 b1 e1 z1
 try simp only [az]
 repeat' (first
  | (refine af b1 (_,()) rfl ?_; refine ao ?_)
  | (refine aM (cw _ _ _) ?_)
  | (refine aM (bM _ _ _) ?_)
  | (refine ai (fun q=>?_) (fun q=>?_)))
 all_goals (refine ⟨?_,e1⟩; first | (simp_all [nR,dG]; done) | (simp_all [nR,dG] <;> omega))
def Ia (h:Hp) (op a b n form:Int):HC Tryz.prog 143 #[dz op a b n form,.int .i64 5] h fun w h'=>w=.bool (cj 5 a b n)/\Ext h h':=by
 refine ba (args:=[dz op a b n form,.int .i64 5]) mixed Tryz.func143 aB (pI op a b n form) ?_;unfold kS aN bE;refine bm ?_;intro g1 b1 e1 z1
 try simp only [az]
 repeat' (first
  | (refine af b1 (_,()) rfl ?_; refine ao ?_)
  | (refine aM (cw _ _ _) ?_)
  | (refine aM (bM _ _ _) ?_)
  | (refine ai (fun q=>?_) (fun q=>?_)))
 all_goals (refine ⟨?_,e1⟩; first | (simp_all [cj,dG]; done) | (simp_all [cj,dG] <;> simp [re] <;> omega))
def Ju (h:Hp) (op a b n form:Int):HC Tryz.prog 144 #[dz op a b n form,.int .i64 5] h fun w h'=>w=.bool (nR 5 n form)/\Ext h h':=by
 refine ba (args:=[dz op a b n form,.int .i64 5]) mixed Tryz.func144 aB (su op a b n form) ?_;unfold oU;refine bm ?_;intro g1 b1 e1 z1
 try simp only [az]
 repeat' (first
  | (refine af b1 (_,()) rfl ?_; refine ao ?_)
  | (refine aM (cw _ _ _) ?_)
  | (refine aM (bM _ _ _) ?_)
  | (refine ai (fun q=>?_) (fun q=>?_)))
 all_goals (refine ⟨?_,e1⟩; first | (simp_all [nR,dG]; done) | (simp_all [nR,dG] <;> omega))
def H0 (h:Hp) (op a b n form:Int):HC Tryz.prog 143 #[dz op a b n form,.int .i64 6] h fun w h'=>w=.bool (cj 6 a b n)/\Ext h h':=by
 refine ba (args:=[dz op a b n form,.int .i64 6]) mixed Tryz.func143 aB (pu op a b n form) ?_;unfold kr aN bE;refine bm ?_;intro g1 b1 e1 z1
 try simp only [az]
 repeat' (first
  | (refine af b1 (_,()) rfl ?_; refine ao ?_)
  | (refine aM (cw _ _ _) ?_)
  | (refine aM (bM _ _ _) ?_)
  | (refine ai (fun q=>?_) (fun q=>?_)))
 all_goals (refine ⟨?_,e1⟩; first | (simp_all [cj,dG]; done) | (simp_all [cj,dG] <;> simp [re] <;> omega))
def JJ (h:Hp) (op a b n form:Int):HC Tryz.prog 144 #[dz op a b n form,.int .i64 6] h fun w h'=>w=.bool (nR 6 n form)/\Ext h h':=by
 refine ba (args:=[dz op a b n form,.int .i64 6]) mixed Tryz.func144 aB (sZ op a b n form) ?_;unfold o0;refine bm ?_;intro g1 b1 e1 z1
 try simp only [az]
 repeat' (first
  | (refine af b1 (_,()) rfl ?_; refine ao ?_)
  | (refine aM (cw _ _ _) ?_)
  | (refine aM (bM _ _ _) ?_)
  | (refine ai (fun q=>?_) (fun q=>?_)))
 all_goals (refine ⟨?_,e1⟩; first | (simp_all [nR,dG]; done) | (simp_all [nR,dG] <;> omega))
def Hg (h:Hp) (op a b n form:Int):HC Tryz.prog 143 #[dz op a b n form,.int .i64 7] h fun w h'=>w=.bool (cj 7 a b n)/\Ext h h':=by
 refine ba (args:=[dz op a b n form,.int .i64 7]) mixed Tryz.func143 aB (pH op a b n form) ?_;unfold km aN bE;refine bm ?_;intro g1 b1 e1 z1
 try simp only [az]
 repeat' (first
  | (refine af b1 (_,()) rfl ?_; refine ao ?_)
  | (refine aM (cw _ _ _) ?_)
  | (refine aM (bM _ _ _) ?_)
  | (refine ai (fun q=>?_) (fun q=>?_)))
 all_goals (refine ⟨?_,e1⟩; first | (simp_all [cj,dG]; done) | (simp_all [cj,dG] <;> simp [re] <;> omega))
def KG (h:Hp) (op a b n form:Int):HC Tryz.prog 144 #[dz op a b n form,.int .i64 7] h fun w h'=>w=.bool (nR 7 n form)/\Ext h h':=by
 refine ba (args:=[dz op a b n form,.int .i64 7]) mixed Tryz.func144 aB (tf op a b n form) ?_;unfold pe;refine bm ?_;intro g1 b1 e1 z1
 try simp only [az]
 repeat' (first
  | (refine af b1 (_,()) rfl ?_; refine ao ?_)
  | (refine aM (cw _ _ _) ?_)
  | (refine aM (bM _ _ _) ?_)
  | (refine ai (fun q=>?_) (fun q=>?_)))
 all_goals (refine ⟨?_,e1⟩; first | (simp_all [nR,dG]; done) | (simp_all [nR,dG] <;> omega))
def HH (h:Hp) (op a b n form:Int):HC Tryz.prog 143 #[dz op a b n form,.int .i64 8] h fun w h'=>w=.bool (cj 8 a b n)/\Ext h h':=by
 refine ba (args:=[dz op a b n form,.int .i64 8]) mixed Tryz.func143 aB (pM op a b n form) ?_;unfold kp aN bE;refine bm ?_;intro g1 b1 e1 z1
 try simp only [az]
 repeat' (first
  | (refine af b1 (_,()) rfl ?_; refine ao ?_)
  | (refine aM (cw _ _ _) ?_)
  | (refine aM (bM _ _ _) ?_)
  | (refine ai (fun q=>?_) (fun q=>?_)))
 all_goals (refine ⟨?_,e1⟩; first | (simp_all [cj,dG]; done) | (simp_all [cj,dG] <;> simp [re] <;> omega))
def Ky (h:Hp) (op a b n form:Int):HC Tryz.prog 144 #[dz op a b n form,.int .i64 8] h fun w h'=>w=.bool (nR 8 n form)/\Ext h h':=by
 refine ba (args:=[dz op a b n form,.int .i64 8]) mixed Tryz.func144 aB (sQ op a b n form) ?_;unfold o1 aN;refine bm ?_;intro g1 b1 e1 z1
 try simp only [az]
 repeat' (first
  | (refine af b1 (_,()) rfl ?_; refine ao ?_)
  | (refine aM (cw _ _ _) ?_)
  | (refine aM (bM _ _ _) ?_)
  | (refine ai (fun q=>?_) (fun q=>?_)))
 all_goals (refine ⟨?_,e1⟩; first | (simp_all [nR,dG]; done) | (simp_all [nR,dG] <;> omega))
def I4 (h:Hp) (op a b n form:Int):HC Tryz.prog 143 #[dz op a b n form,.int .i64 9] h fun w h'=>w=.bool (cj 9 a b n)/\Ext h h':=by
 refine ba (args:=[dz op a b n form,.int .i64 9]) mixed Tryz.func143 aB (pn op a b n form) ?_;unfold kN bE;refine bm ?_;intro g1 b1 e1 z1
 try simp only [az]
 repeat' (first
  | (refine af b1 (_,()) rfl ?_; refine ao ?_)
  | (refine aM (cw _ _ _) ?_)
  | (refine aM (bM _ _ _) ?_)
  | (refine ai (fun q=>?_) (fun q=>?_)))
 all_goals (refine ⟨?_,e1⟩; first | (simp_all [cj,dG]; done) | (simp_all [cj,dG] <;> simp [re] <;> omega))
def JD (h:Hp) (op a b n form:Int):HC Tryz.prog 144 #[dz op a b n form,.int .i64 9] h fun w h'=>w=.bool (nR 9 n form)/\Ext h h':=by
 refine ba (args:=[dz op a b n form,.int .i64 9]) mixed Tryz.func144 aB (sB op a b n form) ?_;unfold oT bE;refine bm ?_;intro g1 b1 e1 z1
 try simp only [az]
 repeat' (first
  | (refine af b1 (_,()) rfl ?_; refine ao ?_)
  | (refine aM (cw _ _ _) ?_)
  | (refine aM (bM _ _ _) ?_)
  | (refine ai (fun q=>?_) (fun q=>?_)))
 all_goals (refine ⟨?_,e1⟩; first | (simp_all [nR,dG]; done) | (simp_all [nR,dG] <;> omega))
def Gi (h:Hp) (op a b n form:Int):HC Tryz.prog 143 #[dz op a b n form,.int .i64 10] h fun w h'=>w=.bool (cj 10 a b n)/\Ext h h':=by
 refine ba (args:=[dz op a b n form,.int .i64 10]) mixed Tryz.func143 aB (oK op a b n form) ?_;unfold jQ aN bE;refine bm ?_;intro g1 b1 e1 z1
 try simp only [az]
 repeat' (first
  | (refine af b1 (_,()) rfl ?_; refine ao ?_)
  | (refine aM (cw _ _ _) ?_)
  | (refine aM (bM _ _ _) ?_)
  | (refine ai (fun q=>?_) (fun q=>?_)))
 all_goals (refine ⟨?_,e1⟩; first | (simp_all [cj,dG]; done) | (simp_all [cj,dG] <;> simp [re] <;> omega))
def Ic (h:Hp) (op a b n form:Int):HC Tryz.prog 144 #[dz op a b n form,.int .i64 10] h fun w h'=>w=.bool (nR 10 n form)/\Ext h h':=by
 refine ba (args:=[dz op a b n form,.int .i64 10]) mixed Tryz.func144 aB (rF op a b n form) ?_;unfold mY;refine bm ?_;intro g1 b1 e1 z1
 try simp only [az]
 repeat' (first
  | (refine af b1 (_,()) rfl ?_; refine ao ?_)
  | (refine aM (cw _ _ _) ?_)
  | (refine aM (bM _ _ _) ?_)
  | (refine ai (fun q=>?_) (fun q=>?_)))
 all_goals (refine ⟨?_,e1⟩; first | (simp_all [nR,dG]; done) | (simp_all [nR,dG] <;> omega))
def Fl (h:Hp) (op a b n form:Int):HC Tryz.prog 143 #[dz op a b n form,.int .i64 11] h fun w h'=>w=.bool (cj 11 a b n)/\Ext h h':=by
 refine ba (args:=[dz op a b n form,.int .i64 11]) mixed Tryz.func143 aB (nU op a b n form) ?_;unfold jY aN bE;refine bm ?_;intro g1 b1 e1 z1
 try simp only [az]
 repeat' (first
  | (refine af b1 (_,()) rfl ?_; refine ao ?_)
  | (refine aM (cw _ _ _) ?_)
  | (refine aM (bM _ _ _) ?_)
  | (refine ai (fun q=>?_) (fun q=>?_)))
 all_goals (refine ⟨?_,e1⟩; first | (simp_all [cj,dG]; done) | (simp_all [cj,dG] <;> simp [re] <;> omega))
def GN (h:Hp) (op a b n form:Int):HC Tryz.prog 144 #[dz op a b n form,.int .i64 11] h fun w h'=>w=.bool (nR 11 n form)/\Ext h h':=by
 refine ba (args:=[dz op a b n form,.int .i64 11]) mixed Tryz.func144 aB (rn op a b n form) ?_;unfold ni bE;refine bm ?_;intro g1 b1 e1 z1
 try simp only [az]
 repeat' (first
  | (refine af b1 (_,()) rfl ?_; refine ao ?_)
  | (refine aM (cw _ _ _) ?_)
  | (refine aM (bM _ _ _) ?_)
  | (refine ai (fun q=>?_) (fun q=>?_)))
 all_goals (refine ⟨?_,e1⟩; first | (simp_all [nR,dG]; done) | (simp_all [nR,dG] <;> omega))
def FI (h:Hp) (op a b n form:Int):HC Tryz.prog 143 #[dz op a b n form,.int .i64 12] h fun w h'=>w=.bool (cj 12 a b n)/\Ext h h':=by
 refine ba (args:=[dz op a b n form,.int .i64 12]) mixed Tryz.func143 aB (nK op a b n form) ?_;unfold jX bE;refine bm ?_;intro g1 b1 e1 z1
 try simp only [az]
 repeat' (first
  | (refine af b1 (_,()) rfl ?_; refine ao ?_)
  | (refine aM (cw _ _ _) ?_)
  | (refine aM (bM _ _ _) ?_)
  | (refine ai (fun q=>?_) (fun q=>?_)))
 all_goals (refine ⟨?_,e1⟩; first | (simp_all [cj,dG]; done) | (simp_all [cj,dG] <;> simp [re] <;> omega))
def I0 (h:Hp) (op a b n form:Int):HC Tryz.prog 144 #[dz op a b n form,.int .i64 12] h fun w h'=>w=.bool (nR 12 n form)/\Ext h h':=by
 refine ba (args:=[dz op a b n form,.int .i64 12]) mixed Tryz.func144 aB (rh op a b n form) ?_;unfold mQ aN;refine bm ?_;intro g1 b1 e1 z1
 try simp only [az]
 repeat' (first
  | (refine af b1 (_,()) rfl ?_; refine ao ?_)
  | (refine aM (cw _ _ _) ?_)
  | (refine aM (bM _ _ _) ?_)
  | (refine ai (fun q=>?_) (fun q=>?_)))
 all_goals (refine ⟨?_,e1⟩; first | (simp_all [nR,dG]; done) | (simp_all [nR,dG] <;> omega))
def FJ (h:Hp) (op a b n form:Int):HC Tryz.prog 143 #[dz op a b n form,.int .i64 13] h fun w h'=>w=.bool (cj 13 a b n)/\Ext h h':=by
 refine ba (args:=[dz op a b n form,.int .i64 13]) mixed Tryz.func143 aB (oi op a b n form) ?_;unfold j3 aN bE;refine bm ?_;intro g1 b1 e1 z1
 try simp only [az]
 repeat' (first
  | (refine af b1 (_,()) rfl ?_; refine ao ?_)
  | (refine aM (cw _ _ _) ?_)
  | (refine aM (bM _ _ _) ?_)
  | (refine ai (fun q=>?_) (fun q=>?_)))
 all_goals (refine ⟨?_,e1⟩; first | (simp_all [cj,dG]; done) | (simp_all [cj,dG] <;> simp [re] <;> omega))
def Ij (h:Hp) (op a b n form:Int):HC Tryz.prog 144 #[dz op a b n form,.int .i64 13] h fun w h'=>w=.bool (nR 13 n form)/\Ext h h':=by
 refine ba (args:=[dz op a b n form,.int .i64 13]) mixed Tryz.func144 aB (ri op a b n form) ?_;unfold mB aN;refine bm ?_;intro g1 b1 e1 z1
 try simp only [az]
 repeat' (first
  | (refine af b1 (_,()) rfl ?_; refine ao ?_)
  | (refine aM (cw _ _ _) ?_)
  | (refine aM (bM _ _ _) ?_)
  | (refine ai (fun q=>?_) (fun q=>?_)))
 all_goals (refine ⟨?_,e1⟩; first | (simp_all [nR,dG]; done) | (simp_all [nR,dG] <;> omega))
def Bo (h:Hp) (op a b n form:Int) {s:Nat} (h1:1<=s) (h2:s<=13):HC Tryz.prog 143 #[dz op a b n form,.int .i64 s] h fun w h'=>w=.bool (cj s a b n)/\Ext h h':=by
 have hs:s=1\/s=2\/s=3\/s=4\/s=5\/s=6\/s=7\/s=8\/s=9\/s=10\/s=11\/s=12\/s=13:=ae
 clear h1 h2;rcases hs with rfl | rfl | rfl | rfl | rfl | rfl | rfl | rfl | rfl | rfl | rfl | rfl | rfl
 ·exact Iz h op a b n form
 ·exact IE h op a b n form
 ·exact Ig h op a b n form
 ·exact IX h op a b n form
 ·exact Ia h op a b n form
 ·exact H0 h op a b n form
 ·exact Hg h op a b n form
 ·exact HH h op a b n form
 ·exact I4 h op a b n form
 ·exact Gi h op a b n form
 ·exact Fl h op a b n form
 ·exact FI h op a b n form
 ·exact FJ h op a b n form
def qT (h:Hp) (op a b n form:Int) {s:Nat} (h1:1<=s) (h2:s<=13):HC Tryz.prog 144 #[dz op a b n form,.int .i64 s] h fun w h'=>w=.bool (nR s n form)/\Ext h h':=by
 have hs:s=1\/s=2\/s=3\/s=4\/s=5\/s=6\/s=7\/s=8\/s=9\/s=10\/s=11\/s=12\/s=13:=ae
 clear h1 h2;rcases hs with rfl | rfl | rfl | rfl | rfl | rfl | rfl | rfl | rfl | rfl | rfl | rfl | rfl
 ·exact Kl h op a b n form
 ·exact Km h op a b n form
 ·exact Ji h op a b n form
 ·exact JQ h op a b n form
 ·exact Ju h op a b n form
 ·exact JJ h op a b n form
 ·exact KG h op a b n form
 ·exact Ky h op a b n form
 ·exact JD h op a b n form
 ·exact Ic h op a b n form
 ·exact GN h op a b n form
 ·exact I0 h op a b n form
 ·exact Ij h op a b n form
def Sm (n:Int):Prop:=-9223372036854775808<=n/\n<=9223372036854775807
def Cp {h:Hp} (t:Bs h) (op a b n form:Int) (ho:Sm op) :
  HC Tryz.prog 116 #[dz op a b n form] h fun w h'=>w=.int .i64 (ru ⟨op,a,b,n,form⟩)/\Ext h h':=by
 refine ba (args:=[dz op a b n form]) mixed Tryz.func116 aB (xZ op a b n form) ?_;unfold wc aN aS bh bZ;refine bm ?_;intro g1 b1 e1 z1;refine af b1 (op,()) rfl (ao ?_);refine aK (EW (t.an e1 aj) op ho.1 ho.2) ?_;rintro _ g2 ⟨s,y,rfl,e2⟩;refine ⟨(s,y,((dB op:Nat):Int),decide (dB op≠0),()),rfl,ao ?_⟩;refine bm ?_;intro g3 b3 e3 z3;refine ap b3 rfl aj ?_;intro g4 b4 k4 z4;have b4:bf g4 g2.size 158 [.string s,.int .u8 y,.int .i64 (dB op:Nat)]:=b4;have e4:=((e1.trans e2).trans e3).st k4 (by have:=e1.size; have:=e2.size; omega);have b1:=b1.an ((e2.trans e3).st k4 (by have:=e2.size; omega)) aj;unfold ru;simp only [az];refine ai (fun q=>?_) (fun q=>?_)
 ·have q:dB op=0:=by simpa using q
  exact ⟨by rw [OH q],e4⟩
 have q:¬ dB op=0:=by simpa using q
 rw [OG q];refine af b1 (op,a,b,n,form,()) rfl (ao ?_);refine af b4 (((dB op:Nat):Int),()) rfl (ao ?_);have hs:=uR op;refine aK (Bo g4 op a b n form (s:=dB op) ae ae) ?_;rintro _ g5 ⟨rfl,e5⟩;refine ⟨(cj (dB op) a b n,()),rfl,ao ?_⟩;have e45:=e4.trans e5;refine ai (fun q=>?_) (fun q=>?_)
 ·have q:cj (dB op) a b n=false:=by simpa using q
  exact ⟨by rw [OH q],e45⟩
 have q:cj (dB op) a b n=true:=by simpa using q
 rw [OG (by rw [q]; simp)];have b1:=b1.an e5 aj;have b4:=b4.an e5 aj;refine af b1 (op,()) rfl (ao ?_);refine aK (Cv (t.an e45 aj) op ho.1 ho.2) ?_;rintro _ g6 ⟨rfl,e6⟩;refine ⟨(Ei op,()),rfl,ao ?_⟩;have e46:=e45.trans e6;have b1:=b1.an e6 aj;have b4:=b4.an e6 aj;refine ai (fun q=>?_) (fun q=>?_)
 ·have q:Ei op=false:=by simpa using q
  refine af b1 (form,()) rfl (ao ?_);refine ai (fun r=>?_) (fun r=>?_)
  ·have r:¬ form=0:=by simpa using r
   exact ⟨by rw [q]; simp [r],e46⟩
  have r:form=0:=by simpa using r
  refine af b1 (op,a,b,n,form,()) rfl (ao ?_);refine af b4 (((dB op:Nat):Int),()) rfl (ao ?_);refine aK (qT g6 op a b n form (s:=dB op) ae ae) ?_;rintro _ g7 ⟨rfl,e7⟩;refine ⟨(nR (dB op) n form,()),rfl,ao ?_⟩;refine ai (fun p=>?_) (fun p=>?_)
  ·exact ⟨by rw [q]; simp_all,e46.trans e7⟩
  ·exact ⟨by rw [q]; simp_all,e46.trans e7⟩
 ·have q:Ei op=true:=by simpa using q
  refine af b1 (op,a,b,n,form,()) rfl (ao ?_);refine af b4 (((dB op:Nat):Int),()) rfl (ao ?_);refine aK (qT g6 op a b n form (s:=dB op) ae ae) ?_;rintro _ g7 ⟨rfl,e7⟩;refine ⟨(nR (dB op) n form,()),rfl,ao ?_⟩;refine ai (fun p=>?_) (fun p=>?_)
  ·exact ⟨by rw [q]; simp_all,e46.trans e7⟩
  ·exact ⟨by rw [q]; simp_all,e46.trans e7⟩
def encI (p:Option XC) (l c:Nat) (x:cd):List XB:=[.int .i64 x.kind,.string x.name,.int .i64 x.inst.op,.int .i64 x.inst.a,.int .i64 x.inst.b,.int .i32 x.inst.n,.int .i64 x.inst.form,.slice p l c,.int .u32 x.e.num,.int .i64 x.n]
def sT (p:Option XC) (l c:Nat) (x:cd):XB:=.agg (encI p l c x).toArray
structure pc (h:Hp) (p:Option XC) (l:Nat) (x:fG):Prop where
 vw:tp h p l x.ay
 many:x.ay.length<=2^60
 names:∀ t,t∈x.ay->t.1.size<=maxLen
def pc.an {h h':Hp} {p:Option XC} {l:Nat} {x:fG} (v:pc h p l x) (k:Ext h h'):pc h' p l x:=⟨v.vw.an k aj,v.many,v.names⟩
def tp.none (h:Hp):tp h none 0 []:=⟨rfl,fun i hi=>absurd hi aj⟩
def qp (x:fG):kC x fB=Le x:=by
 unfold kC Le fB;rw [Bool.and_comm]
def EC (g k:Nat):T :=
 T.ah ⟨g,5,none⟩ [.int .i32] <| fun (n16:Int) =>
 cond (n16==(0:Int))
  (T.ah ⟨k,0,none⟩ [.int .i64,.int .i64,.int .i64,.int .i32,.int .i64] <| fun (n17:Int) (n18:Int) (n19:Int) (n20:Int) (n21:Int) =>
  aS 116 [.agg #[.int .i64 n17,.int .i64 n18,.int .i64 n19,.int .i32 n20,.int .i64 n21]] false [aQ] <| fun (n22:Int) =>
  cond (n22==(0:Int))
  (T.ah ⟨g,7,none⟩ [.slice 109,.int .u32] <| fun (p23:Option XC) (l24:Nat) (l25:Nat) (n26:Int) =>
  aS 46 [.agg #[.slice p23 l24 l25,av n26]] false [bZ] <| fun (b27:Bool) =>
  T.ret (.bool b27))
  bE)
  bE
def G4 (g k:Nat):T :=
 T.ah ⟨k,0,none⟩ [.int .i64,.int .i64,.int .i64,.int .i32,.int .i64] <| fun (n16:Int) (n17:Int) (n18:Int) (n19:Int) (n20:Int) =>
 aS 116 [.agg #[.int .i64 n16,.int .i64 n17,.int .i64 n18,.int .i32 n19,.int .i64 n20]] false [aQ] <| fun (n21:Int) =>
 cond (n21==(0:Int))
  (T.ah ⟨g,7,none⟩ [.slice 109,.int .u32] <| fun (p22:Option XC) (l23:Nat) (l24:Nat) (n25:Int) =>
  aS 80 [.agg #[.slice p22 l23 l24,av n25],.agg #[aI,av (0:Int)]] false [bZ] <| fun (b26:Bool) =>
  T.ret (.bool b26))
  bE
def vr (i:Ins):List XB:=[.int .i64 i.op,.int .i64 i.a,.int .i64 i.b,.int .i32 i.n,.int .i64 i.form]
def Cg {L:Lp} {h0 h:Hp} (t:Bs h) {x:cd} {p:Option XC} {l c g k:Nat} {i:Ins} (b1:bf h g e1 (encI p l c x)) (b2:bf h k e2 (vr i)) (v:pc h p l x.e) (ho:Sm i.op) (e:Ext h0 h) :
  EC g k L (fun w h'=>w=.bool (decide (x.inst.n=0) && decide (ru i=0) && vN none x.e.ay)/\Ext h0 h') h:=by
 unfold EC aS av bE aQ bZ;refine af b1 (x.inst.n,()) rfl (ao ?_);refine ai (fun q=>?_) (fun q=>?_)
 ·have q:x.inst.n=0:=by simpa using q
  refine af b2 (i.op,i.a,i.b,i.n,i.form,()) rfl (ao ?_);refine aK (Cp t i.op i.a i.b i.n i.form ho) ?_;rintro _ g2 ⟨rfl,e2⟩;refine ⟨(ru i,()),rfl,ao ?_⟩;refine ai (fun r=>?_) (fun r=>?_)
  ·have r:ru i=0:=by simpa using r
   refine af (b1.an e2 aj) ((p,l,c),(x.e.num:Int),()) rfl (ao ?_);refine aK (sL (c:=c) (v.an e2).vw (by have:=v.many; omega) v.names) ?_;rintro _ g3 ⟨rfl,e3⟩;refine ⟨(vN none x.e.ay,()),rfl,?_⟩;exact ⟨by rw [OK q,OK r]; rfl,(e.trans e2).trans e3⟩
  ·have r:¬ ru i=0:=by simpa using r
   exact ⟨by rw [OL r,Qd]; rfl,e.trans e2⟩
 ·have q:¬ x.inst.n=0:=by simpa using q
  exact ⟨by rw [OL q]; rfl,e⟩
def G6 {L:Lp} {h0 h:Hp} (t:Bs h) {x:cd} {p:Option XC} {l c g k:Nat} {i:Ins} (b1:bf h g e1 (encI p l c x)) (b2:bf h k e2 (vr i)) (v:pc h p l x.e) (ho:Sm i.op) (e:Ext h0 h) :
  G4 g k L (fun w h'=>w=.bool (decide (ru i=0) && Le x.e)/\Ext h0 h') h:=by
 unfold G4 aS av bE aI aQ bZ;refine af b2 (i.op,i.a,i.b,i.n,i.form,()) rfl (ao ?_);refine aK (Cp t i.op i.a i.b i.n i.form ho) ?_;rintro _ g2 ⟨rfl,e2⟩;refine ⟨(ru i,()),rfl,ao ?_⟩;refine ai (fun r=>?_) (fun r=>?_)
 ·have r:ru i=0:=by simpa using r
  refine af (b1.an e2 aj) ((p,l,c),(x.e.num:Int),()) rfl (ao ?_);refine aK (zn (c:=c) (d:=0) (y:=fB) (v.an e2).vw (tp.none g2) v.many) ?_;rintro _ g3 ⟨rfl,e3⟩;refine ⟨(kC x.e fB,()),rfl,?_⟩;exact ⟨by rw [OK r,qp]; rfl,(e.trans e2).trans e3⟩
 ·have r:¬ ru i=0:=by simpa using r
  exact ⟨by rw [OL r]; rfl,e.trans e2⟩
def instruction_hc {h:Hp} (t:Bs h) {x:cd} {p:Option XC} {l c:Nat} (v:pc h p l x.e) (ho:Sm x.inst.op) :
  HC Tryz.prog 78 #[sT p l c x] h fun w h'=>w=.bool (AJ x.inst x.e)/\Ext h h':=by
 refine ba (args:=[sT p l c x]) mixed Tryz.func78 aB (py x.kind x.name x.inst.op x.inst.a x.inst.b x.inst.n x.inst.form p l c x.e.num x.n) ?_;unfold kW aN cU aS av bE aI bh bZ;refine bm ?_;intro g1 b1 e1 z1;have b1:bf g1 h.size 96 (encI p l c x):=b1;simp only [az];refine af b1 (x.inst.op,()) rfl (ao ?_);refine aK (EW (t.an e1 aj) x.inst.op ho.1 ho.2) ?_;rintro _ g2 ⟨s,y,rfl,e2⟩;refine ⟨(s,y,((dB x.inst.op:Nat):Int),decide (dB x.inst.op≠0),()),rfl,ao ?_⟩;refine bm ?_;intro g3 b3 e3 z3;refine ap b3 rfl aj ?_;intro g4 b4 k4 z4;have b4:bf g4 g2.size 158 [.string s,.int .u8 y,.int .i64 (dB x.inst.op:Nat)]:=b4;have s1:=e1.size;have s2:=e2.size;have e14:=(e2.trans e3).st k4 ae;have e4:=e1.trans e14;have b1:=b1.an e14 aj;unfold AJ;refine ai (fun q=>?_) (fun q=>?_)
 ·have q:dB x.inst.op=0:=by simpa using q
  exact ⟨by rw [q]; rfl,e4⟩
 have q:dB x.inst.op≠0:=by simpa using q
 rw [OK q,O3];refine af b1 (x.inst.form,()) rfl (ao ?_);refine ai (fun r=>?_) (fun r=>?_)
 ·have r:¬ x.inst.form=0:=by simpa using r
  exact ⟨by rw [OL r]; rfl,e4⟩
 have r:x.inst.form=0:=by simpa using r
 rw [OK r,O3];refine af b1 (x.inst.op,x.inst.a,x.inst.b,x.inst.n,x.inst.form,()) rfl (ao ?_);refine bm ?_;intro g5 b5 e5 z5;refine ap b5 rfl aj ?_;intro g6 b6 k6 z6;have b6:bf g6 g4.size 90 (vr x.inst):=b6;have e46:=e5.st k6 ae;have e6:=e4.trans e46;have b1:=b1.an e46 aj;have b4:=b4.an e46 aj;simp only [az];have hs:=uR x.inst.op;refine af b4 (((dB x.inst.op:Nat):Int),()) rfl (ao ?_);generalize hB:(if Jg x.inst.op=true then decide (x.inst.n=0) && decide (ru { x.inst with form:=if Ei x.inst.op=true then 1 else 0 }=0) && vN none x.e.ay else decide (ru x.inst=0) && Le x.e)=B;have hF:{ x.inst with form:=0 }=x.inst:=by
  rcases hx:x.inst with ⟨a1,a2,a3,a4,a5⟩
  rw [hx] at r;simp only at r;rw [r]
 have hA:12<=dB x.inst.op->T.ak ⟨g4.size,4,none⟩ [.int .i64 1] (EC h.size g4.size) [] (fun w h'=>w=.bool B/\Ext h h') g6:=by
  intro hh;refine ap b6 rfl (by simp [vr]) ?_;intro g7 b7 k7 z7;have b7:bf g7 g4.size 90 (vr { x.inst with form:=1 }):=b7;have e67:Ext g4 g7:=e46.st k7 ae;have e7:=e4.trans e67;have hw:Jg x.inst.op=true:=OK ae;have hp:Ei x.inst.op=true:=OK hh;rw [OH hw,OH hp] at hB
  have:=Cg (L:=[]) (h0:=h) (t.an e7 aj) (b1.an k7 (by simp; omega)) b7 (v.an e7) ho e7
  rw [hB] at this;exact this
 have hR:dB x.inst.op=10\/dB x.inst.op=11->EC h.size g4.size [] (fun w h'=>w=.bool B/\Ext h h') g6:=by
  intro hh;have hw:Jg x.inst.op=true:=OK ae;have hp:¬ Ei x.inst.op=true:=by unfold Ei; rw [OL ae]; simp
  rw [OH hw,OG hp,hF] at hB
  have:=Cg (L:=[]) (h0:=h) (t.an e6 aj) b1 b6 (v.an e6) ho e6
  rw [hB] at this;exact this
 have hS:dB x.inst.op<10->G4 h.size g4.size [] (fun w h'=>w=.bool B/\Ext h h') g6:=by
  intro hh;have hw:¬ Jg x.inst.op=true:=by unfold Jg; rw [OL ae]; simp
  rw [OG hw] at hB
  have:=G6 (L:=[]) (h0:=h) (t.an e6 aj) b1 b6 (v.an e6) ho e6
  rw [hB] at this;exact this
 clear hB;refine ai (fun q1=>?_) (fun q1=>?_)
 ·have q1:((dB x.inst.op:Nat):Int)=12:=by simpa using q1
  refine ai (fun q2=>hA ae) (fun q2=>?_);have q2:¬ ((dB x.inst.op:Nat):Int)=12:=by simpa using q2
  exact absurd q1 q2
 have q1:¬ ((dB x.inst.op:Nat):Int)=12:=by simpa using q1
 refine ai (fun q2=>?_) (fun q2=>?_)
 ·have q2:((dB x.inst.op:Nat):Int)=13:=by simpa using q2
  exact hA ae
 have q2:¬ ((dB x.inst.op:Nat):Int)=13:=by simpa using q2
 refine ai (fun q3=>?_) (fun q3=>?_)
 ·have q3:((dB x.inst.op:Nat):Int)=10:=by simpa using q3
  refine ai (fun q2=>hR ae) (fun q4=>?_);have q4:¬ ((dB x.inst.op:Nat):Int)=10:=by simpa using q4
  exact absurd q3 q4
 have q3:¬ ((dB x.inst.op:Nat):Int)=10:=by simpa using q3
 refine ai (fun q4=>?_) (fun q4=>?_)
 ·have q4:((dB x.inst.op:Nat):Int)=11:=by simpa using q4
  exact hR ae
 have q4:¬ ((dB x.inst.op:Nat):Int)=11:=by simpa using q4
 exact hS ae
structure wm (h:Hp) (p:Option XC) (l:Nat) (x:cd):Prop where
 jd:pc h p l x.e
 name:x.name.size<=maxLen
 op:Sm x.inst.op
def wm.an {h h':Hp} {p:Option XC} {l:Nat} {x:cd} (v:wm h p l x) (k:Ext h h'):wm h' p l x:=⟨v.jd.an k,v.name,v.op⟩
def j1 (x y:cd):Bool:=decide (x.name=y.name) && decide (x.inst=y.inst) && decide (x.n=y.n) && kC x.e y.e
def KY:Tryz.prog.underlying 90=some (.struct (G0 Tryz.prog 90)):=aB
def Lq (x y:Operand) (i j:Ins) (h:Hp) (K:XB->Hp->Prop) (hk:K (.bool !(decide (i=j))) h) :
  aV Tryz.prog (Sx.df (BinOp.neq) 90 x y (.agg (vr i).toArray) (.agg (vr j).toArray)) h K:=by
 refine Bx KY aB aB aB K ?_;have he:(G0 Tryz.prog 90).all (Jc (vr i).toArray (vr j).toArray)=(i.op==j.op && (i.a==j.a && (i.b==j.b && (i.n==j.n && (i.form==j.form && true))))):=by
  rw [<- P5]
  kernel_rfl
 rw [he,Pz]
 have:(i.op==j.op && (i.a==j.a && (i.b==j.b && (i.n==j.n && i.form==j.form))))=decide (i=j):=by
  rcases i with ⟨a1,a2,a3,a4,a5⟩
  rcases j with ⟨c1,c2,c3,c4,c5⟩
  simp only [dG,Ins.mk.injEq]
  by_cases h1:a1=c1 <;> by_cases h2:a2=c2 <;> by_cases h3:a3=c3 <;> by_cases h4:a4=c4 <;> by_cases h5:a5=c5 <;> simp [h1,h2,h3,h4,h5]
 rw [this];exact hk
def Oi (g k:Nat):T :=
 T.ah ⟨g,1,none⟩ [.string] <| fun (s8:XA) =>
 T.ah ⟨k,1,none⟩ [.string] <| fun (s9:XA) =>
 cond (!((ByteArray.toList s8)==(ByteArray.toList s9)))
  (T.ret (.int .i64 (31:Int)))
  (T.ah ⟨g,2,none⟩ [.int .i64,.int .i64,.int .i64,.int .i32,.int .i64] <| fun (n10:Int) (n11:Int) (n12:Int) (n13:Int) (n14:Int) =>
  T.ah ⟨k,2,none⟩ [.int .i64,.int .i64,.int .i64,.int .i32,.int .i64] <| fun (n15:Int) (n16:Int) (n17:Int) (n18:Int) (n19:Int) =>
  dh (Sx.df (BinOp.neq) 90 (Operand.tmp 109) (Operand.tmp 111) (.agg #[.int .i64 n10,.int .i64 n11,.int .i64 n12,.int .i32 n13,.int .i64 n14]) (.agg #[.int .i64 n15,.int .i64 n16,.int .i64 n17,.int .i32 n18,.int .i64 n19])) false [bZ] <| fun (b20:Bool) =>
  cond b20
  (T.ret (.int .i64 (31:Int)))
  (T.ah ⟨g,9,none⟩ [.int .i64] <| fun (n21:Int) =>
  T.ah ⟨k,9,none⟩ [.int .i64] <| fun (n22:Int) =>
  cond (n21 != n22)
   (T.ret (.int .i64 (31:Int)))
   (T.ah ⟨g,7,none⟩ [.slice 109,.int .u32] <| fun (p23:Option XC) (l24:Nat) (l25:Nat) (n26:Int) =>
   T.ah ⟨k,7,none⟩ [.slice 109,.int .u32] <| fun (p27:Option XC) (l28:Nat) (l29:Nat) (n30:Int) =>
   aS 80 [.agg #[.slice p23 l24 l25,av n26],.agg #[.slice p27 l28 l29,av n30]] false [bZ] <| fun (b31:Bool) =>
   cond (!b31)
   (T.ret (.int .i64 (31:Int)))
   (T.ret (.int .i64 (0:Int))))))
def Kn (b:Bool):XB:=.int .i64 (if b then 0 else 31)
def nV {L:Lp} {h0 h:Hp} {x y:cd} {p q:Option XC} {l c m d g k:Nat} (b1:bf h g e1 (encI p l c x)) (b2:bf h k e2 (encI q m d y)) (v:pc h p l x.e) (w:tp h q m y.e.ay) (e:Ext h0 h) :
  Oi g k L (fun w h'=>w=Kn (j1 x y)/\Ext h0 h') h:=by
 unfold Oi j1 aS dh av bZ;refine af b1 (x.name,()) rfl (ao ?_);refine af b2 (y.name,()) rfl (ao ?_);rw [ByteArray.toList_eq,ByteArray.toList_eq];refine ai (fun r=>?_) (fun r=>?_)
 ·have r:¬ x.name=y.name:=fun he=>by rw [he] at r; simp at r
  exact ⟨by rw [OL r]; rfl,e⟩
 have r:x.name=y.name:=nL (by simpa using r);rw [OK r,O3];refine af b1 (x.inst.op,x.inst.a,x.inst.b,x.inst.n,x.inst.form,()) rfl (ao ?_);refine af b2 (y.inst.op,y.inst.a,y.inst.b,y.inst.n,y.inst.form,()) rfl (ao ?_);refine cI (fun K' hK=>Lq _ _ x.inst y.inst h K' hK) ?_;refine ai (fun r=>?_) (fun r=>?_)
 ·have r:¬ x.inst=y.inst:=by simpa using r
  exact ⟨by rw [OL r]; rfl,e⟩
 have r:x.inst=y.inst:=by simpa using r
 rw [OK r,O3];refine af b1 (x.n,()) rfl (ao ?_);refine af b2 (y.n,()) rfl (ao ?_);refine ai (fun r=>?_) (fun r=>?_)
 ·have r:¬ x.n=y.n:=by simpa using r
  exact ⟨by rw [OL r]; rfl,e⟩
 have r:x.n=y.n:=by simpa using r
 rw [OK r,O3];refine af b1 ((p,l,c),(x.e.num:Int),()) rfl (ao ?_);refine af b2 ((q,m,d),(y.e.num:Int),()) rfl (ao ?_);refine aK (zn (c:=c) (d:=d) v.vw w v.many) ?_;rintro _ g3 ⟨rfl,e3⟩;refine ⟨(kC x.e y.e,()),rfl,ao ?_⟩;refine ai (fun r=>?_) (fun r=>?_)
 ·have r:kC x.e y.e=false:=by simpa using r
  exact ⟨by rw [r]; rfl,e.trans e3⟩
 ·have r:kC x.e y.e=true:=by simpa using r
  exact ⟨by rw [r]; rfl,e.trans e3⟩
def tc (x:fG):kC x x=true:=Fm x
def DP {x:cd} (hk:x.kind=1):dY x sec=(bI x.name.data.toList && j1 x { dA x.kind with name:=x.name }):=by
 unfold dY j1;simp only [hk,dA,tc,qp,z1,z2,z3,z4];simp (decide:=true) only [P1,PR,Qa,O3,Pz]
 try simp only [Bool.and_assoc,Bool.and_comm,Bool.and_left_comm]
def Iw {x:cd} (hk:x.kind=2):dY x sec=(decide (sec=0) && AJ x.inst x.e && j1 x { dA x.kind with inst:=x.inst,e:=x.e }):=by
 unfold dY j1;simp only [hk,dA,tc,qp,z1,z2,z3,z4];simp (decide:=true) only [P1,PR,Qa,O3,Pz]
 try simp only [Bool.and_assoc,Bool.and_comm,Bool.and_left_comm]
def Hw {x:cd} (hk:x.kind=3):dY x sec=(mv x.n && j1 x { dA x.kind with n:=x.n }):=by
 unfold dY j1;simp only [hk,dA,tc,qp,z1,z2,z3,z4];simp (decide:=true) only [P1,PR,Qa,O3,Pz]
 try simp only [Bool.and_assoc,Bool.and_comm,Bool.and_left_comm]
def ID {x:cd} (hk:x.kind=4):dY x sec=(decide (sec=0) && j1 x (dA x.kind)):=by
 unfold dY j1;simp only [hk,dA,tc,qp,z1,z2,z3,z4];simp (decide:=true) only [P1,PR,Qa,O3,Pz]
 try simp only [Bool.and_assoc,Bool.and_comm,Bool.and_left_comm]
def HO {x:cd} (hk:x.kind=5):dY x sec=(decide (sec=1) && decide (-128<=x.n) && decide (x.n<=255) && j1 x { dA x.kind with n:=x.n }):=by
 unfold dY j1;simp only [hk,dA,tc,qp,z1,z2,z3,z4];simp (decide:=true) only [P1,PR,Qa,O3,Pz]
 try simp only [Bool.and_assoc,Bool.and_comm,Bool.and_left_comm]
def GK {x:cd} (hk:x.kind=6):dY x sec=(decide (sec=1) && vN none x.e.ay && j1 x { dA x.kind with e:=x.e }):=by
 unfold dY j1;simp only [hk,dA,tc,qp,z1,z2,z3,z4];simp (decide:=true) only [P1,PR,Qa,O3,Pz]
 try simp only [Bool.and_assoc,Bool.and_comm,Bool.and_left_comm]
def Ix {x:cd} (hk:x.kind=7):dY x sec=(decide (sec=1) && decide (0<=x.n) && decide (x.n<=1048576) && j1 x { dA x.kind with n:=x.n }):=by
 unfold dY j1;simp only [hk,dA,tc,qp,z1,z2,z3,z4];simp (decide:=true) only [P1,PR,Qa,O3,Pz]
 try simp only [Bool.and_assoc,Bool.and_comm,Bool.and_left_comm]
def Er {x:cd} (h1:x.kind≠1) (h2:x.kind≠2) (h3:x.kind≠3) (h4:x.kind≠4) (h5:x.kind≠5) (h6:x.kind≠6) (h7:x.kind≠7):dY x sec=false:=by
 unfold dY;rw [OG h1,OG h2,OG h3,OG h4,OG h5,OG h6,OG h7]
def IP {h:Hp} (t:Bs h) {x:cd} {p:Option XC} {l c:Nat} (v:wm h p l x) :
  HC Tryz.prog 44 #[sT p l c x,.int .i64 0] h fun w h'=>w=Kn (dY x 0)/\Ext h h':=by
 refine ba (args:=[sT p l c x,.int .i64 0]) mixed Tryz.func44 aB (sJ x.kind x.name x.inst.op x.inst.a x.inst.b x.inst.n x.inst.form p l c x.e.num x.n) ?_;unfold oW aN bR av aI bh;refine bm ?_;intro g1 b1 e1 z1;have b1:bf g1 h.size 96 (encI p l c x):=b1;refine af b1 (x.kind,()) rfl (ao ?_);refine bm ?_;intro g2 b2 e2 z2;refine ap b2 rfl aj ?_;intro g3 b3 k3 z3;have b3:bf g3 g1.size 96 (encI none 0 0 (dA x.kind)):=b3;have s1:=e1.size;have e13:=e2.st k3 (OP _);have e3:=e1.trans e13;have b1:=b1.an e13 aj;simp only [az];refine af b1 (x.kind,()) rfl (ao ?_);refine ai (fun q=>?_) (fun q=>?_)
 ·have q:x.kind=1:=by simpa using q
  rw [DP q];refine af b1 (x.name,()) rfl (ao ?_);refine ap b3 rfl (by simp [encI]) ?_;intro g4 b4 k4 z4;have b4:bf g4 g1.size 96 (encI none 0 0 { dA x.kind with name:=x.name }):=b4;have e4:=e3.st k4 ae;have b1:=b1.an k4 (by simp; omega);refine af b1 (x.name,()) rfl (ao ?_);refine aM (my x.name g4 (by have:=v.name; have:maxLen=9223372036854775807:=rfl; omega)) ?_;refine ai (fun r=>?_) (fun r=>?_)
  ·have r:bI x.name.data.toList=false:=by simpa using r
   exact ⟨by rw [r]; rfl,e4⟩
  have r:bI x.name.data.toList=true:=by simpa using r
  rw [r,O3];have hh:=nV (L:=[]) (h0:=h) (y:={ dA x.kind with name:=x.name }) b1 b4 (v.jd.an e4) (tp.none g4) e4;exact hh
 have q1:x.kind≠1:=by simpa using q
 refine ai (fun q=>?_) (fun q=>?_)
 ·have q:x.kind=2:=by simpa using q
  rw [Iw q];refine af b1 (x.inst.op,x.inst.a,x.inst.b,x.inst.n,x.inst.form,()) rfl (ao ?_);refine af b1 ((p,l,c),(x.e.num:Int),()) rfl (ao ?_);refine ap b3 rfl (by simp [encI]) ?_;intro g4 b4 k4 z4;have e4:=e3.st k4 ae;have b1:=b1.an k4 (by simp; omega);refine ⟨⟨b1.cells [.slice p l c,.int .u32 x.e.num] rfl,trivial⟩,?_⟩;refine ap b4 rfl (by simp [encI,j8]) ?_;intro g5 b5 k5 z5;have b5:bf g5 g1.size 96 (encI p l c { dA x.kind with inst:=x.inst,e:=x.e }):=b5;have e5:=e4.st k5 ae;have b1:=b1.an k5 (by simp; omega);refine af b1 (x.kind,x.name,x.inst.op,x.inst.a,x.inst.b,x.inst.n,x.inst.form,(p,l,c),(x.e.num:Int),x.n,()) rfl (ao ?_);refine aK (instruction_hc (c:=c) (t.an e5 aj) (v.jd.an e5) v.op) ?_;rintro _ g6 ⟨rfl,e6'⟩;refine ⟨(AJ x.inst x.e,()),rfl,ao ?_⟩;have e6:=e5.trans e6';refine ai (fun r=>?_) (fun r=>?_)
  ·have r:AJ x.inst x.e=false:=by simpa using r
   exact ⟨by rw [r]; rfl,e6⟩
  have r:AJ x.inst x.e=true:=by simpa using r
  rw [r];have b1:=b1.an e6' aj;have b5:=b5.an e6' aj;have hh:=nV (L:=[]) (h0:=h) (y:={ dA x.kind with inst:=x.inst,e:=x.e }) b1 b5 (v.jd.an e6) (v.jd.an e6).vw e6;exact hh
 have q2:x.kind≠2:=by simpa using q
 refine ai (fun q=>?_) (fun q=>?_)
 ·have q:x.kind=3:=by simpa using q
  rw [Hw q];refine af b1 (x.n,()) rfl (ao ?_);refine ap b3 rfl (by simp [encI]) ?_;intro g4 b4 k4 z4;have b4:bf g4 g1.size 96 (encI none 0 0 { dA x.kind with n:=x.n }):=b4;have e4:=e3.st k4 ae;have b1:=b1.an k4 (by simp; omega);refine af b1 (x.n,()) rfl (ao ?_);refine aM (xW g4 x.n) ?_;refine ai (fun r=>?_) (fun r=>?_)
  ·have r:mv x.n=false:=by simpa using r
   exact ⟨by rw [r]; rfl,e4⟩
  have r:mv x.n=true:=by simpa using r
  rw [r,O3];have hh:=nV (L:=[]) (h0:=h) (y:={ dA x.kind with n:=x.n }) b1 b4 (v.jd.an e4) (tp.none g4) e4;exact hh
 have q3:x.kind≠3:=by simpa using q
 refine ai (fun q=>?_) (fun q=>?_)
 ·have q:x.kind=4:=by simpa using q
  rw [ID q];have hh:=nV (L:=[]) (h0:=h) (y:=(dA x.kind)) b1 b3 (v.jd.an e3) (tp.none g3) e3;exact hh
 have q4:x.kind≠4:=by simpa using q
 refine ai (fun q=>?_) (fun q=>?_)
 ·have q:x.kind=5:=by simpa using q
  rw [HO q];refine af b1 (x.n,()) rfl (ao ?_);refine ap b3 rfl (by simp [encI]) ?_;intro g4 b4 k4 z4;have b4:bf g4 g1.size 96 (encI none 0 0 { dA x.kind with n:=x.n }):=b4;have e4:=e3.st k4 ae;have b1:=b1.an k4 (by simp; omega);exact ⟨rfl,e4⟩
 have q5:x.kind≠5:=by simpa using q
 refine ai (fun q=>?_) (fun q=>?_)
 ·have q:x.kind=6:=by simpa using q
  rw [GK q];refine af b1 ((p,l,c),(x.e.num:Int),()) rfl (ao ?_);refine ap b3 rfl (by simp [encI]) ?_;intro g4 b4 k4 z4;have b4:bf g4 g1.size 96 (encI p l c { dA x.kind with e:=x.e }):=b4;have e4:=e3.st k4 ae;have b1:=b1.an k4 (by simp; omega);exact ⟨rfl,e4⟩
 have q6:x.kind≠6:=by simpa using q
 refine ai (fun q=>?_) (fun q=>?_)
 ·have q:x.kind=7:=by simpa using q
  rw [Ix q];refine af b1 (x.n,()) rfl (ao ?_);refine ap b3 rfl (by simp [encI]) ?_;intro g4 b4 k4 z4;have b4:bf g4 g1.size 96 (encI none 0 0 { dA x.kind with n:=x.n }):=b4;have e4:=e3.st k4 ae;have b1:=b1.an k4 (by simp; omega);exact ⟨rfl,e4⟩
 have q7:x.kind≠7:=by simpa using q
 exact ⟨by rw [Er q1 q2 q3 q4 q5 q6 q7]; rfl,e3⟩
def GS {h:Hp} (t:Bs h) {x:cd} {p:Option XC} {l c:Nat} (v:wm h p l x) :
  HC Tryz.prog 44 #[sT p l c x,.int .i64 1] h fun w h'=>w=Kn (dY x 1)/\Ext h h':=by
 refine ba (args:=[sT p l c x,.int .i64 1]) mixed Tryz.func44 aB (sM x.kind x.name x.inst.op x.inst.a x.inst.b x.inst.n x.inst.form p l c x.e.num x.n) ?_;unfold oS aN bR av aI bh;refine bm ?_;intro g1 b1 e1 z1;have b1:bf g1 h.size 96 (encI p l c x):=b1;refine af b1 (x.kind,()) rfl (ao ?_);refine bm ?_;intro g2 b2 e2 z2;refine ap b2 rfl aj ?_;intro g3 b3 k3 z3;have b3:bf g3 g1.size 96 (encI none 0 0 (dA x.kind)):=b3;have s1:=e1.size;have e13:=e2.st k3 (OP _);have e3:=e1.trans e13;have b1:=b1.an e13 aj;simp only [az];refine af b1 (x.kind,()) rfl (ao ?_);refine ai (fun q=>?_) (fun q=>?_)
 ·have q:x.kind=1:=by simpa using q
  rw [DP q];refine af b1 (x.name,()) rfl (ao ?_);refine ap b3 rfl (by simp [encI]) ?_;intro g4 b4 k4 z4;have b4:bf g4 g1.size 96 (encI none 0 0 { dA x.kind with name:=x.name }):=b4;have e4:=e3.st k4 ae;have b1:=b1.an k4 (by simp; omega);refine af b1 (x.name,()) rfl (ao ?_);refine aM (my x.name g4 (by have:=v.name; have:maxLen=9223372036854775807:=rfl; omega)) ?_;refine ai (fun r=>?_) (fun r=>?_)
  ·have r:bI x.name.data.toList=false:=by simpa using r
   exact ⟨by rw [r]; rfl,e4⟩
  have r:bI x.name.data.toList=true:=by simpa using r
  rw [r,O3];have hh:=nV (L:=[]) (h0:=h) (y:={ dA x.kind with name:=x.name }) b1 b4 (v.jd.an e4) (tp.none g4) e4;exact hh
 have q1:x.kind≠1:=by simpa using q
 refine ai (fun q=>?_) (fun q=>?_)
 ·have q:x.kind=2:=by simpa using q
  rw [Iw q];refine af b1 (x.inst.op,x.inst.a,x.inst.b,x.inst.n,x.inst.form,()) rfl (ao ?_);refine af b1 ((p,l,c),(x.e.num:Int),()) rfl (ao ?_);refine ap b3 rfl (by simp [encI]) ?_;intro g4 b4 k4 z4;have e4:=e3.st k4 ae;have b1:=b1.an k4 (by simp; omega);refine ⟨⟨b1.cells [.slice p l c,.int .u32 x.e.num] rfl,trivial⟩,?_⟩;refine ap b4 rfl (by simp [encI,j8]) ?_;intro g5 b5 k5 z5;have b5:bf g5 g1.size 96 (encI p l c { dA x.kind with inst:=x.inst,e:=x.e }):=b5;have e5:=e4.st k5 ae;have b1:=b1.an k5 (by simp; omega);exact ⟨rfl,e5⟩
 have q2:x.kind≠2:=by simpa using q
 refine ai (fun q=>?_) (fun q=>?_)
 ·have q:x.kind=3:=by simpa using q
  rw [Hw q];refine af b1 (x.n,()) rfl (ao ?_);refine ap b3 rfl (by simp [encI]) ?_;intro g4 b4 k4 z4;have b4:bf g4 g1.size 96 (encI none 0 0 { dA x.kind with n:=x.n }):=b4;have e4:=e3.st k4 ae;have b1:=b1.an k4 (by simp; omega);refine af b1 (x.n,()) rfl (ao ?_);refine aM (xW g4 x.n) ?_;refine ai (fun r=>?_) (fun r=>?_)
  ·have r:mv x.n=false:=by simpa using r
   exact ⟨by rw [r]; rfl,e4⟩
  have r:mv x.n=true:=by simpa using r
  rw [r,O3];have hh:=nV (L:=[]) (h0:=h) (y:={ dA x.kind with n:=x.n }) b1 b4 (v.jd.an e4) (tp.none g4) e4;exact hh
 have q3:x.kind≠3:=by simpa using q
 refine ai (fun q=>?_) (fun q=>?_)
 ·have q:x.kind=4:=by simpa using q
  rw [ID q];exact ⟨rfl,e3⟩
 have q4:x.kind≠4:=by simpa using q
 refine ai (fun q=>?_) (fun q=>?_)
 ·have q:x.kind=5:=by simpa using q
  rw [HO q];refine af b1 (x.n,()) rfl (ao ?_);refine ap b3 rfl (by simp [encI]) ?_;intro g4 b4 k4 z4;have b4:bf g4 g1.size 96 (encI none 0 0 { dA x.kind with n:=x.n }):=b4;have e4:=e3.st k4 ae;have b1:=b1.an k4 (by simp; omega);refine af b1 (x.n,()) rfl (ao ?_);refine ai (fun r=>?_) (fun r=>?_)
  ·have r:=OE r;refine af b1 (x.n,()) rfl (ao ?_);refine ai (fun r2=>?_) (fun r2=>?_)
   ·have r2:¬ x.n<=255:=by simpa using r2
    exact ⟨by rw [OL r2,Qd]; rfl,e4⟩
   have r2:x.n<=255:=by simpa using r2
   rw [OK r2,OK (show -128<=x.n from r)];have hh:=nV (L:=[]) (h0:=h) (y:={ dA x.kind with n:=x.n }) b1 b4 (v.jd.an e4) (tp.none g4) e4;exact hh
  ·have r:=OF r;exact ⟨by rw [OL (show ¬ -128<=x.n from r),Qd]; rfl,e4⟩
 have q5:x.kind≠5:=by simpa using q
 refine ai (fun q=>?_) (fun q=>?_)
 ·have q:x.kind=6:=by simpa using q
  rw [GK q];refine af b1 ((p,l,c),(x.e.num:Int),()) rfl (ao ?_);refine ap b3 rfl (by simp [encI]) ?_;intro g4 b4 k4 z4;have b4:bf g4 g1.size 96 (encI p l c { dA x.kind with e:=x.e }):=b4;have e4:=e3.st k4 ae;have b1:=b1.an k4 (by simp; omega);refine af b1 ((p,l,c),(x.e.num:Int),()) rfl (ao ?_);refine aK (sL (c:=c) (v.jd.an e4).vw (by have:=v.jd.many; omega) v.jd.names) ?_;rintro _ g6 ⟨rfl,e6'⟩;refine ⟨(vN none x.e.ay,()),rfl,ao ?_⟩;have e6:=e4.trans e6';refine ai (fun r=>?_) (fun r=>?_)
  ·have r:vN none x.e.ay=false:=by simpa using r
   exact ⟨by rw [r]; rfl,e6⟩
  have r:vN none x.e.ay=true:=by simpa using r
  rw [r];have b1:=b1.an e6' aj;have b4:=b4.an e6' aj;have hh:=nV (L:=[]) (h0:=h) (y:={ dA x.kind with e:=x.e }) b1 b4 (v.jd.an e6) (v.jd.an e6).vw e6;exact hh
 have q6:x.kind≠6:=by simpa using q
 refine ai (fun q=>?_) (fun q=>?_)
 ·have q:x.kind=7:=by simpa using q
  rw [Ix q];refine af b1 (x.n,()) rfl (ao ?_);refine ap b3 rfl (by simp [encI]) ?_;intro g4 b4 k4 z4;have b4:bf g4 g1.size 96 (encI none 0 0 { dA x.kind with n:=x.n }):=b4;have e4:=e3.st k4 ae;have b1:=b1.an k4 (by simp; omega);refine af b1 (x.n,()) rfl (ao ?_);refine ai (fun r=>?_) (fun r=>?_)
  ·have r:=OE r;refine af b1 (x.n,()) rfl (ao ?_);refine ai (fun r2=>?_) (fun r2=>?_)
   ·have r2:¬ x.n<=1048576:=by simpa using r2
    exact ⟨by rw [OL r2,Qd]; rfl,e4⟩
   have r2:x.n<=1048576:=by simpa using r2
   rw [OK r2,OK (show 0<=x.n from r)];have hh:=nV (L:=[]) (h0:=h) (y:={ dA x.kind with n:=x.n }) b1 b4 (v.jd.an e4) (tp.none g4) e4;exact hh
  ·have r:=OF r;exact ⟨by rw [OL (show ¬ 0<=x.n from r),Qd]; rfl,e4⟩
 have q7:x.kind≠7:=by simpa using q
 exact ⟨by rw [Er q1 q2 q3 q4 q5 q6 q7]; rfl,e3⟩
section
variable {α:Type}
def vE (en:α->XB) (D:List (XA × α)):List (XA × XB):=D.map fun p=>(p.1,en p.2)
def gE (D:List (XA × α)) (s:XA):Option α:=(D.find? fun p=>decide (s=p.1)).map (·.2)
def pE (D:List (XA × α)) (s:XA) (v:α):List (XA × α):=if (gE D s).isSome then D.map fun p=>if s=p.1 then (p.1,v) else p else D++[(s,v)]
def EF (en:α->XB) (D:List (XA × α)) (s:XA):look (vE en D) s=(gE D s).map en:=by
 unfold look gE vE
 induction D with
 | nil=>rfl
 | cons p D ih =>
  by_cases h:s=p.1
  ·simp [h]
  ·simp only [List.map_cons,List.find?_cons,decide_eq_false h];exact ih
def Ly (en:α->XB) (D:List (XA × α)) (s:XA) (v:α):GG (vE en D) s (en v)=vE en (pE D s v):=by
 unfold GG pE;rw [EF];cases h:gE D s with
 | none=>simp [vE]
 | some q =>
  simp only [Option.map_some,Option.isSome_some,if_true,vE,List.map_map];refine List.map_congr_left fun p hp=>?_
  simp only [Function.comp];split <;> simp_all
def FW (D:List (XA × α)) (s:XA) (v:α):(pE D s v).length=if (gE D s).isSome then D.length else D.length+1:=by
 unfold pE;split <;> simp
def F2 (D:List (XA × α)) (s t:XA) (v:α):gE (D++[(s,v)]) t=(gE D t).or (if t=s then some v else none):=by
 unfold gE;rw [List.find?_append];cases h:D.find? (fun p=>decide (t=p.1)) with
 | some q=>simp
 | none =>
  simp only [Option.none_or,Option.map_none,List.find?_cons,List.find?_nil]
  by_cases e:t=s
  ·simp [e]
  ·simp [e]
def Lg (D:List (XA × α)) (s t:XA) (v:α) (hs:(gE D s).isSome):gE (D.map fun p=>if s=p.1 then (p.1,v) else p) t=if t=s then some v else gE D t:=by
 unfold gE at *
 induction D with
 | nil=>simp at hs
 | cons p D ih =>
  by_cases h:s=p.1
  ·by_cases e:t=s
   ·simp [h,e]
   ·have e2:¬ t=p.1:=fun k=>e (k.trans h.symm)
    have hg:∀ l:List (XA × α),(List.find? (fun p=>decide (t=p.1)) (List.map (fun p=>if s=p.1 then (p.1,v) else p) l)).map (·.2)=(List.find? (fun p=>decide (t=p.1)) l).map (·.2):=by
     intro l
     induction l with
     | nil=>rfl
     | cons q l ihl =>
      by_cases hq:s=q.1
      ·have:¬ t=q.1:=fun k=>e (k.trans hq.symm)
       simp only [List.map_cons,List.find?_cons,if_pos hq,decide_eq_false this];exact ihl
      ·simp only [List.map_cons,List.find?_cons,if_neg hq]
       by_cases ht:t=q.1
       ·simp [ht]
       ·simp only [decide_eq_false ht];exact ihl
    simp only [List.map_cons,List.find?_cons,if_pos h,decide_eq_false e2,if_neg e];exact hg D
  ·have hs2:(Option.map (fun x=>x.2) (List.find? (fun p=>decide (s=p.1)) D)).isSome:=by
    simpa [List.find?_cons,decide_eq_false h] using hs
   simp only [List.map_cons,List.find?_cons,if_neg h]
   by_cases ht:t=p.1
   ·have:¬ t=s:=fun k=>h (k.symm.trans ht)
    simp [ht,if_neg (ht▸this)]
   ·simp only [decide_eq_false ht];exact ih hs2
def M8 (D:List (XA × α)) (s:XA) (v:α) (t:XA):gE (pE D s v) t=if t=s then some v else gE D t:=by
 unfold pE;split
 ·rename_i h;exact Lg D s t v h
 ·rename_i h;rw [F2]
  by_cases e:t=s
  ·subst e
   have:gE D t=none:=by simpa using h
   rw [this]; simp
  ·simp [e]
def LO (f:XA->Option α) (s:XA) (v:α):XA->Option α:=fun t=>if t=s then some v else f t
def uX (en:α->XB) (h:Hp) (g:Nat) (f:XA->Option α) (n:Nat):Prop:=∃ D:List (XA × α),fZ h g (vE en D)/\(∀ s,gE D s=f s)/\D.length=n
def uX.an {en:α->XB} {ws:List Nat} {h h':Hp} {g:Nat} {f:XA->Option α} {n:Nat} (m:uX en h g f n) (k:Ch ws h h') (hw:g∉ws):uX en h' g f n:=by
 obtain ⟨D,m,r⟩:=m;exact ⟨D,m.an k hw,r⟩
def uX.lt {en:α->XB} {h:Hp} {g:Nat} {f:XA->Option α} {n:Nat} (m:uX en h g f n):g<h.size:=by
 obtain ⟨D,m,r⟩:=m;exact m.lt
def uX.new {en:α->XB} {h:Hp} {g:Nat} (m:fZ h g []):uX en h g (fun _=>none) 0:=⟨[],m,fun s=>rfl,rfl⟩
def uX.GG {en:α->XB} {h':Hp} {g:Nat} {f:XA->Option α} {n:Nat} {D:List (XA × α)} (hD:∀ s,gE D s=f s) (hn:D.length=n) {s:XA} {v:α} (m:fZ h' g (Sx.GG (vE en D) s (en v))):uX en h' g (LO f s v) (if (f s).isSome then n else n+1):=by
 rw [Ly] at m;refine ⟨_,m,fun t=>?_,?_⟩
 ·rw [M8,hD t]; rfl
 ·rw [FW,hD s,hn]
end
def eB (b:Bool):XB:=.bool b
def Lc:Tryz.prog.underlying 70=some (.map 9 4):=aB
def F8:Tryz.prog.underlying 9=some .string:=aB
def MW:(Tryz.prog.info? 4).bind (·.zero)=some (.bool false):=aB
def rG (h:Hp) (g:Nat) (D:List XA):Prop:=∃ n,uX eB h g (fun s=>if fT D s then some true else none) n
def rG.an {ws:List Nat} {h h':Hp} {g:Nat} {D:List XA} (m:rG h g D) (k:Ch ws h h') (hw:g∉ws):rG h' g D:=by
 obtain ⟨n,m⟩:=m;exact ⟨n,m.an k hw⟩
def rG.lt {h:Hp} {g:Nat} {D:List XA} (m:rG h g D):g<h.size:=by
 obtain ⟨n,m⟩:=m;exact m.lt
section
variable {L:Lp} {K:XB->Hp->Prop} {h:Hp} {g:Nat} {D:List XA}
def yl (m:rG h g D) (s:XA) {k:Bool->T} (hk:k (fT D s) L K h):T.fb Tryz.prog (Instr.lookup 70 (.map (some g)) (.string s) false) false [(false,[.bool])] k L K h:=by
 obtain ⟨n,D',m,hD,hn⟩:=m;refine AG Lc F8 MW m s false _ ?_;refine ⟨(fT D s,()),?_,hk⟩;simp only [Bool.false_eq_true,if_false];rw [EF,hD s];dsimp only
 all_goals (cases fT D s <;> rfl)
def G1 (m:rG h g D) {s:XA} (hs:s.size<=maxLen) {k:T} (hk:∀ h',rG h' g (s::D)->Ch [g] h h'->h'.size=h.size->k L K h') :
  T.pB Tryz.prog (Instr.mapUpdate 70 (.map (some g)) (.string s) (.bool true)) k L K h:=by
 obtain ⟨n,D',m,hD,hn⟩:=m;refine uh Lc F8 m hs _ _ ?_;intro h' m' c' z'
 have:=uX.GG (en:=eB) hD hn (v:=true) m'
 have he:LO (fun t=>if fT D t then some true else none) s true=fun t=>if fT (s::D) t then some true else none:=by
  funext t
  unfold LO fT
  by_cases h1:t=s
  ·rw [OH h1,OH];simp [h1]
  ·rw [OG h1]
   have:¬ s=t:=fun e=>h1 e.symm
   rw [List.any_cons,OL this,P7]
 rw [he] at this;exact hk h' ⟨_,this⟩ c' z'
def K7 {t:TypeId} {k:Option Nat->T} (hk:∀ h',rG h' h.size []->Ext h h'->h'.size=h.size+1->k (some h.size) L K h'):T.fb Tryz.prog (Instr.makeMap t none) false [(false,[.map 0 0])] k L K h:=by
 refine th _ ?_;intro h' m e z;exact ⟨(some h.size,()),rfl,hk h' ⟨0,uX.new m⟩ e z⟩
end
structure J9 (h:Hp) (p:Option XC) (l:Nat) (us:List cd):Prop where
 len:l=us.length
 many:us.length<=2^60
 cells:∀ i,(hi:i<us.length)->∃ a q m c,p=some a/\bk h (a.add (i*10)) 0 (encI q m c us[i])/\wm h q m us[i]
def J9.an {h h':Hp} {p:Option XC} {l:Nat} {us:List cd} (v:J9 h p l us) (k:Ext h h'):J9 h' p l us :=
 ⟨v.len,v.many,fun i hi=>by
  obtain ⟨a,q,m,c,ha,hc,hv⟩:=v.cells i hi;exact ⟨a,q,m,c,ha,bF k aj _ _ hc,hv.an k⟩⟩
def Kx (p:Option XC) (l c:Nat) (x:pP):List XB:=[.string x.1,.slice p l c,.int .u32 x.2.num]
structure Lw (h:Hp) (p:Option XC) (l:Nat) (us:List pP):Prop where
 len:l=us.length
 many:us.length<=2^60
 cells:∀ i,(hi:i<us.length)->∃ a q m c,p=some a/\bk h (a.add (i*3)) 0 (Kx q m c us[i])/\pc h q m us[i].2/\us[i].1.size<=maxLen
def Lw.an {h h':Hp} {p:Option XC} {l:Nat} {us:List pP} (v:Lw h p l us) (k:Ext h h'):Lw h' p l us :=
 ⟨v.len,v.many,fun i hi=>by
  obtain ⟨a,q,m,c,ha,hc,hv,hs⟩:=v.cells i hi;exact ⟨a,q,m,c,ha,bF k aj _ _ hc,hv.an k,hs⟩⟩
structure LY (h:Hp) (p:Option XC) (l:Nat) (us:List XA):Prop where
 len:l=us.length
 many:us.length<=2^60
 cells:∀ i,(hi:i<us.length)->∃ a,p=some a/\bk h (a.add (i*1)) 0 [.string us[i]]/\us[i].size<=maxLen
def LY.an {h h':Hp} {p:Option XC} {l:Nat} {us:List XA} (v:LY h p l us) (k:Ext h h'):LY h' p l us :=
 ⟨v.len,v.many,fun i hi=>by
  obtain ⟨a,ha,hc,hs⟩:=v.cells i hi;exact ⟨a,ha,bF k aj _ _ hc,hs⟩⟩
structure cH where
 p:Option XC
 l:Nat
 c:Nat
def cH.v (s:cH):XB:=.slice s.p s.l s.c
structure sj (h:Hp) (a b c d:cH) (u:pN):Prop where
 text:J9 h a.p a.l u.text
 data:J9 h b.p b.l u.data
 bU:Lw h c.p c.l u.bU
 aP:LY h d.p d.l u.aP
def sj.an {h h':Hp} {a b c d:cH} {u:pN} (v:sj h a b c d u) (k:Ext h h'):sj h' a b c d u:=⟨v.text.an k,v.data.an k,v.bU.an k,v.aP.an k⟩
def tC (a b c d:cH):XB:=.agg #[a.v,b.v,c.v,d.v]
def Ng:Tryz.prog.underlying 100=some (.slice 23):=aB
def Ni:(Tryz.prog.info? 23).map (fun i=>(i.zero,i.size,i.bytes))=some (some (.slice none 0 0),1,24):=aB
def M9 (p1:Option XC) (l1 c1:Nat) (p2:Option XC) (l2 c2:Nat):Instr.fill (fun j=>some (j*1,1)) ((Array.range (2*1)).map ((Value.slice none 0 0).cells[· % (Value.slice none 0 0).cells.size]!)) [(0,.slice p1 l1 c1),(1,.slice p2 l2 c2)]=some ([.slice p1 l1 c1,.slice p2 l2 c2]:List XB).toArray:=aB
def Gx (u:pN) (k:Nat):List cd:=if k=0 then u.text else u.data
def tk (u:pN) (k:Nat):List XA:=if k=0 then [] else if k=1 then di [] u.text else di (di [] u.text) u.data
def x' (u:pN) (k:Nat):Bool:=if k=0 then E' u else if k=1 then (ij 1 (di [] u.text) u.data && (kV (di (di [] u.text) u.data) u.bU && gH u.names ct u.aP)) else (kV (di (di [] u.text) u.data) u.bU && gH u.names ct u.aP)
def Fk (u:pN) {k:Nat} (hk:k<2):x' u k=(ij k (tk u k) (Gx u k) && x' u (k+1)):=by
 have:k=0\/k=1:=ae
 rcases this with rfl | rfl
 ·simp [x',tk,Gx,E',Bool.and_assoc]
 ·simp [x',tk,Gx]
def FU (u:pN) {k:Nat} (hk:k<2):tk u (k+1)=di (tk u k) (Gx u k):=by
 have:k=0\/k=1:=ae
 rcases this with rfl | rfl <;> rfl
def CN (D:List XA) (l:List cd) {i:Nat} (hi:i<l.length):di D (l.take (i+1))=Ca (di D (l.take i)) l[i]:=by
 unfold di;rw [OT hi,PJ] <;> rfl
def Co (D:List XA) (l:List pP) {i:Nat} (hi:i<l.length):ko D (l.take (i+1))=l[i].1::ko D (l.take i):=by
 unfold ko;rw [OT hi,PJ] <;> rfl
def AP (sec:Nat) (D:List XA) (l:List cd) {i:Nat} (hi:i<l.length):ij sec D (l.drop i)=(B7 sec D l[i] && ij sec (Ca D l[i]) (l.drop (i+1))):=by
 rw [OM hi,ij]
def CA (D:List XA) (l:List pP) {i:Nat} (hi:i<l.length):kV D (l.drop i)=(IK D l[i] && kV (l[i].1::D) (l.drop (i+1))):=by
 rw [OM hi,kV]
def tJ (l:List XA) (i:Nat):XA:=if i=0 then ct else l.getD (i-1) ct
def A0 (D:List XA) (l:List XA) {i:Nat} (hi:i<l.length):gH D (tJ l i) (l.drop i)=(N3 D (tJ l i) l[i] && gH D (tJ l (i+1)) (l.drop (i+1))):=by
 rw [OM hi,gH]
 congr 2
 unfold tJ;rw [OG ae,Nat.add_sub_cancel,OV,OO hi] <;> rfl
def CV (h:Hp) (g:Nat) (D:List XA):Prop:=rG h g D/\∀ s,s∈D->bI s.data.toList=true
def CV.an {ws:List Nat} {h h':Hp} {g:Nat} {D:List XA} (m:CV h g D) (k:Ch ws h h') (hw:g∉ws):CV h' g D:=⟨m.1.an k hw,m.2⟩
def Hc {s:XA} (h:bI s.data.toList=true):fQ ct s:=by
 unfold bI at h;simp only [Bool.and_eq_true,decide_eq_true_eq] at h;have h2:=h.1.1.1.1;show (ct.data.toList:List UInt8)<s.data.toList
 have:(ct.data.toList:List UInt8)=[]:=rfl
 rw [this];cases hs:s.data.toList with
 | nil=>rw [hs] at h2; simp at h2
 | cons a l=>exact List.Lex.nil
def JX {D:List XA} {s:XA} (h:fT D s=true):s∈D:=by
 unfold fT at h;simp only [List.any_eq_true,decide_eq_true_eq] at h;obtain ⟨y,hy,rfl⟩:=h;exact hy
def JE {h:Hp} (t:Bs h) {x:cd} {p:Option XC} {l c k:Nat} (v:wm h p l x) (hk:k<2) :
  HC Tryz.prog 44 #[sT p l c x,.int .i64 (k:Int)] h fun w h'=>w=Kn (dY x k)/\Ext h h':=by
 have:k=0\/k=1:=ae
 rcases this with rfl | rfl
 ·exact IP t v
 ·exact GS t v
def uq {h:Hp} (t:Bs h) {a b c d:cH} {u:pN} (v:sj h a b c d u):HC Tryz.prog 18 #[tC a b c d] h fun w h'=>w=.int .i64 (D3 u:Nat)/\Ext h h':=by
 refine ba (args:=[tC a b c d]) mixed Tryz.func18 aB (wN a.p a.l a.c b.p b.l b.c c.p c.l c.c d.p d.l d.c) ?_;unfold uH cv bN dH bW aN cU bR aR dh aH av aI bh aQ;refine bm ?_;intro g1 b1 e1 z1;have b1:bf g1 h.size 27 [a.v,b.v,c.v,d.v]:=b1;have m1:=v.text.many;have m2:=v.data.many;have m3:=v.bU.many;have m4:=v.aP.many;have n1:=v.text.len;have n2:=v.data.len;have n3:=v.bU.len;have n4:=v.aP.len;have s1:=e1.size;simp only [az];refine af b1 ((a.p,a.l,a.c),()) rfl (ao ?_);refine af b1 ((b.p,b.l,b.c),()) rfl (ao ?_);rw [wrap_i64 ae ae];unfold D3 ES;refine ai (fun q=>?_) (fun q=>?_)
 ·have q:=OE q;exact ⟨by rw [OK (show 8192<u.text.length+u.data.length from ae)]; rfl,e1⟩
 have q:=OF q;rw [OL (show ¬ 8192<u.text.length+u.data.length from ae),P7];refine af b1 ((c.p,c.l,c.c),()) rfl (ao ?_);refine ai (fun q=>?_) (fun q=>?_)
 ·have q:=OE q;exact ⟨by rw [OK (show 8192<u.bU.length from ae)]; rfl,e1⟩
 have q:=OF q;rw [OL (show ¬ 8192<u.bU.length from ae),OG aj];refine K7 ?_;intro g2 m e2 z2;have b2:=b1.an e2 aj;refine af b2 ((a.p,a.l,a.c),()) rfl (ao ?_);refine af b2 ((b.p,b.l,b.c),()) rfl (ao ?_);refine eM Ng Ni ae ae (M9 a.p a.l a.c b.p b.l b.c) ?_;intro g3 b3 e3 z3;have m:=m.an e3 (by have:=m.lt; simp);have e03:=(e1.trans e2).trans e3;have b3':=b2.an e3 aj;have s2:=e2.size;clear b1 b2;have hsec:∀ k,k<2->∃ s:cH,([a.v,b.v]:List XB).drop k=s.v::([a.v,b.v]:List XB).drop (k+1)/\J9 h s.p s.l (Gx u k):=by
  intro k hk
  have:k=0\/k=1:=ae
  rcases this with rfl | rfl
  ·exact ⟨a,rfl,v.text⟩
  ·exact ⟨b,rfl,v.data⟩
 have s3:=e3.size;have b3:bf g3 g2.size 23 [a.v,b.v]:=b3;generalize hU:E' u=U;refine bJ (cs:=[(false,[.int .i64]),(false,[.int .i64])]) (fun y w h'=>∃ k:Nat,y.2.1=(k:Int)/\k<=2/\w=2-k/\Ext h h'/\bf h' h.size 27 [a.v,b.v,c.v,d.v]/\bf h' g2.size 23 [a.v,b.v]/\CV h' g1.size (tk u k)/\U=x' u k) ((0:Int),(0:Int),()) 2 rfl
  ⟨0,rfl,ae,ae,e03,b3',b3,⟨m,by simp [tk]⟩,hU.symm⟩ ?_
 rintro ⟨n21,n22,⟨⟩⟩ w h4 ⟨k,hk,hk2,rfl,e4,b1,b2,m,hu⟩;simp only at hk;subst hk;refine ao ?_;refine ai (fun q=>?_) (fun q=>?_)
 ·have q:=OE q;have hk:k<2:=ae
  obtain ⟨sl,hsl,vs⟩:=hsec k hk;refine aC ⟨ae,ae⟩ (au rfl ?_);rw [az];refine af b2 ((sl.p,sl.l,sl.c),()) (by rw [show 0+(k:Int).toNat*1=k from ae,hsl]; rfl) ?_;refine ao ?_;have lk:=vs.len;have mk:=vs.many;generalize hl:Gx u k=l at vs lk mk;have hu2:U=(ij k (di (tk u k) (l.take 0)) (l.drop 0) && x' u (k+1)):=by
   rw [hu,Fk u hk,hl] <;> rfl
  refine bJ (cs:=[(false,[.int .i64]),(false,[.int .i64])]) (fun y w h'=>∃ i:Nat,y.2.1=(i:Int)/\i<=l.length/\w=l.length-i/\Ext h h'/\bf h' h.size 27 [a.v,b.v,c.v,d.v]/\bf h' g2.size 23 [a.v,b.v]/\CV h' g1.size (di (tk u k) (l.take i))/\U=(ij k (di (tk u k) (l.take i)) (l.drop i) && x' u (k+1))) (n21,(0:Int),()) l.length rfl
   ⟨0,rfl,ae,ae,e4,b1,b2,m,hu2⟩ ?_
  clear hu hu2 m b1 b2 e4;rintro ⟨n27,n28,⟨⟩⟩ w h5 ⟨i,hi,hile,rfl,e5,b1,b2,m,hu⟩;simp only at hi;subst hi;refine ao ?_;refine ai (fun q2=>?_) (fun q2=>?_)
  ·have q2:=OE q2;have hil:i<l.length:=ae
   obtain ⟨aa,pp,ll,cc,rfl',hc,va⟩:=(vs.an e5).cells i hil;rw [AP k _ l hil] at hu;have hnt:=CN (tk u k) l hil;generalize l[i]=x at hc va hu hnt;refine aC ⟨ae,ae⟩ (au rfl' ?_);rw [show Int.toNat (i:Int)=i from ae];refine aG (x.kind,x.name,x.inst.op,x.inst.a,x.inst.b,x.inst.n,x.inst.form,(pp,ll,cc),(x.e.num:Int),x.n,()) hc (ao ?_);refine bm ?_;intro h6 b6 e6 z6;refine ap b6 rfl aj ?_;intro h7 b7 k7 z7;have b7:bf h7 h5.size 96 (encI pp ll cc x):=b7;have e57:Ext h5 h7:=e6.st k7 (OP _);have e7:=e5.trans e57;simp only [az];refine af b7 (x.kind,x.name,x.inst.op,x.inst.a,x.inst.b,x.inst.n,x.inst.form,(pp,ll,cc),(x.e.num:Int),x.n,()) rfl (ao ?_);refine aK (JE (c:=cc) (t.an e7 aj) (va.an e57) hk) ?_;rintro _ h8 ⟨rfl,e8⟩;refine ⟨((if dY x k then 0 else 31:Int),()),rfl,ao ?_⟩;have e58:=e57.trans e8;have e08:=e5.trans e58;have b1:=b1.an e58 aj;have b2:=b2.an e58 aj;have m:=m.an e58 aj;have b8:=b7.an e8 aj;refine ai (fun r=>?_) (fun r=>?_)
   ·have r:dY x k=false:=by
     cases hr:dY x k with
     | false=>rfl
     | true=>rw [hr] at r; simp at r
    exact ⟨by rw [hu,B7,r]; rfl,e08⟩
   have r:dY x k=true:=by
    cases hr:dY x k with
    | true=>rfl
    | false=>rw [hr] at r; simp at r
   have hno:∀ D,B7 k D x=!(decide (x.kind=1) && fT D x.name):=fun D=>by rw [B7,r]; rfl
   rw [hno] at hu;refine af b8 (x.kind,()) rfl (ao ?_);refine ai (fun r1=>?_) (fun r1=>?_)
   ·have r1:x.kind=1:=by simpa using r1
    rw [OK r1,O3] at hu;have hle:bI x.name.data.toList=true:=by
     rw [DP r1,Py] at r;exact r.1
    refine af b8 (x.name,()) rfl (ao ?_);refine yl m.1 x.name ?_;refine ai (fun r2=>?_) (fun r2=>?_)
    ·exact ⟨by rw [hu,r2]; rfl,e08⟩
    rw [r2] at hu;refine af b8 (x.kind,()) rfl (ao ?_);refine aX (by simpa using r1) ?_;refine af b8 (x.name,()) rfl (ao ?_);refine G1 m.1 va.name ?_;intro h9 m9 k9 z9;have e09:Ext h h9:=e08.st k9 ae;have s5:=e5.size;have hadd:Ca (di (tk u k) (l.take i)) x=x.name::di (tk u k) (l.take i):=by unfold Ca; rw [OH r1]
    refine aY (cs:=[(false,[.int .i64]),(false,[.int .i64])]) (n27,((i+1:Nat):Int),()) (l.length-(i+1)) rfl ae (by rw [wrap_i64 ae ae]; rfl) ?_;refine ⟨i+1,rfl,ae,rfl,e09,b1.an k9 (by simp; omega),b2.an k9 (by simp; omega),by rw [hnt,hadd]; exact ⟨m9,fun s hs=>(OZ.1 hs).elim (fun e=>by rw [e]; exact hle) (m.2 s)⟩,by rw [hu,hnt]; rfl⟩
   ·have r1:¬ x.kind=1:=by simpa using r1
    rw [OL r1] at hu;refine af b8 (x.kind,()) rfl (ao ?_);refine aW (by simpa using r1) ?_;have hadd:Ca (di (tk u k) (l.take i)) x=di (tk u k) (l.take i):=by unfold Ca; rw [OG r1]
    refine aY (cs:=[(false,[.int .i64]),(false,[.int .i64])]) (n27,((i+1:Nat):Int),()) (l.length-(i+1)) rfl ae (by rw [wrap_i64 ae ae]; rfl) ?_;refine ⟨i+1,rfl,ae,rfl,e08,b1,b2,by rw [hnt,hadd]; exact m,by rw [hu,hnt]; rfl⟩
  ·have q2:=OF q2;have hil:i=l.length:=ae
   subst hil;rw [O8] at m hu;rw [PU,ij,O3] at hu;refine aY (cs:=[(false,[.int .i64]),(false,[.int .i64])]) (n27,((k+1:Nat):Int),()) (2-(k+1)) rfl ae (by rw [wrap_i64 ae ae]; rfl) ?_;refine ⟨k+1,rfl,ae,rfl,e5,b1,b2,by rw [FU u hk,hl]; exact m,hu⟩
 ·have q:=OF q;have hk:k=2:=ae
  subst hk;have hu:U=(kV (di (di [] u.text) u.data) u.bU && gH u.names ct u.aP):=hu;have m:CV h4 g1.size (di (di [] u.text) u.data):=m;generalize hD:di (di [] u.text) u.data=D at hu m;have hN:u.names=ko D u.bU:=by rw [<- hD]; rfl
  rw [hN] at hu;refine af b1 ((c.p,c.l,c.c),()) rfl (ao ?_);have hu2:U=(kV (ko D (u.bU.take 0)) (u.bU.drop 0) && gH (ko D u.bU) ct u.aP):=hu;refine bJ (cs:=[(false,[.int .i64]),(false,[.int .i64])]) (fun y w h'=>∃ i:Nat,y.2.1=(i:Int)/\i<=u.bU.length/\w=u.bU.length-i/\Ext h h'/\bf h' h.size 27 [a.v,b.v,c.v,d.v]/\CV h' g1.size (ko D (u.bU.take i))/\U=(kV (ko D (u.bU.take i)) (u.bU.drop i) && gH (ko D u.bU) ct u.aP)) (n21,(0:Int),()) u.bU.length rfl
   ⟨0,rfl,ae,ae,e4,b1,m,hu2⟩ ?_
  clear hu hu2 m b1 b2 e4;rintro ⟨n27,n28,⟨⟩⟩ w h5 ⟨i,hi,hile,rfl,e5,b1,m,hu⟩;simp only at hi;subst hi;refine ao ?_;have s5:=e5.size;refine ai (fun q2=>?_) (fun q2=>?_)
  ·have q2:=OE q2;have hil:i<u.bU.length:=ae
   obtain ⟨aa,pp,ll,cc,rfl',hc,va,vn⟩:=(v.bU.an e5).cells i hil;rw [CA _ _ hil] at hu;have hnt:=Co D u.bU hil;generalize u.bU[i]=x at hc va vn hu hnt;refine aC ⟨ae,ae⟩ (au rfl' ?_);rw [show Int.toNat (i:Int)=i from ae];refine aG (x.1,(pp,ll,cc),(x.2.num:Int),()) hc (ao ?_);refine bm ?_;intro h6 b6 e6 z6;refine ap b6 rfl aj ?_;intro h7 b7 k7 z7;have b7:bf h7 h5.size 99 (Kx pp ll cc x):=b7;have e57:Ext h5 h7:=e6.st k7 (OP _);have e7:=e5.trans e57;simp only [az];have b1:=b1.an e57 aj;have m:=m.an e57 aj;unfold IK at hu;refine af b7 (x.1,()) rfl (ao ?_);refine yl m.1 x.1 ?_;refine ai (fun r=>?_) (fun r=>?_)
   ·exact ⟨by rw [hu,r]; rfl,e7⟩
   rw [r] at hu;refine af b7 (x.1,()) rfl (ao ?_);refine aM (my x.1 h7 (by have:maxLen=9223372036854775807:=rfl; omega)) ?_;refine ai (fun r=>?_) (fun r=>?_)
   ·have r:bI x.1.data.toList=false:=by simpa using r
    exact ⟨by rw [hu,r]; rfl,e7⟩
   have hle:bI x.1.data.toList=true:=by simpa using r
   rw [hle] at hu;refine af b7 ((pp,ll,cc),(x.2.num:Int),()) rfl (ao ?_);refine aK (sL (c:=cc) (va.an e57).vw (by have:=va.many; omega) va.names) ?_;rintro _ h8 ⟨rfl,e8⟩;refine ⟨(vN none x.2.ay,()),rfl,ao ?_⟩;have e08:=e7.trans e8;have b1:=b1.an e8 aj;have m:=m.an e8 aj;have b8:=b7.an e8 aj;refine ai (fun r=>?_) (fun r=>?_)
   ·have r:vN none x.2.ay=false:=by simpa using r
    exact ⟨by rw [hu,r]; rfl,e08⟩
   have r:vN none x.2.ay=true:=by simpa using r
   rw [r] at hu;refine af b8 (x.1,()) rfl (ao ?_);refine G1 m.1 vn ?_;intro h9 m9 k9 z9;have e09:Ext h h9:=e08.st k9 ae;refine aY (cs:=[(false,[.int .i64]),(false,[.int .i64])]) (n27,((i+1:Nat):Int),()) (u.bU.length-(i+1)) rfl ae (by rw [wrap_i64 ae ae]; rfl) ?_;refine ⟨i+1,rfl,ae,rfl,e09,b1.an k9 (by simp; omega),by rw [hnt]; exact ⟨m9,fun s hs=>(OZ.1 hs).elim (fun e=>by rw [e]; exact hle) (m.2 s)⟩,by rw [hu,hnt]; rfl⟩
  have q2:=OF q2;have hil:i=u.bU.length:=ae
  subst hil;rw [O8] at m hu;rw [PU,kV,O3] at hu;generalize hE:ko D u.bU=E at m hu;refine af b1 ((d.p,d.l,d.c),()) rfl (ao ?_);have hu2:U=gH E (tJ u.aP 0) (u.aP.drop 0):=hu;refine bJ (cs:=[(false,[.int .i64]),(false,[.int .i64])]) (fun y w h'=>∃ i:Nat,y.2.1=(i:Int)/\i<=u.aP.length/\w=u.aP.length-i/\Ext h h'/\bf h' h.size 27 [a.v,b.v,c.v,d.v]/\CV h' g1.size E/\U=gH E (tJ u.aP i) (u.aP.drop i)) (n27,(0:Int),()) u.aP.length rfl
   ⟨0,rfl,ae,ae,e5,b1,m,hu2⟩ ?_
  clear hu hu2 m b1 e5 s5;rintro ⟨n31,n32,⟨⟩⟩ w h6 ⟨i,hi,hile,rfl,e6,b1,m,hu⟩;simp only at hi;subst hi;refine ao ?_;refine ai (fun q3=>?_) (fun q3=>?_)
  ·have q3:=OE q3;have hil:i<u.aP.length:=ae
   obtain ⟨aa,rfl',hc,va⟩:=(v.aP.an e6).cells i hil;rw [A0 _ _ hil] at hu;unfold N3 at hu;refine aC ⟨ae,ae⟩ (au rfl' ?_);rw [show Int.toNat (i:Int)=i from ae];refine aG (u.aP[i],()) hc (ao ?_);refine yl m.1 _ ?_;refine ai (fun r=>?_) (fun r=>?_)
   ·have r:fT E u.aP[i]=false:=by simpa using r
    exact ⟨by rw [hu,r]; rfl,e6⟩
   have r:fT E u.aP[i]=true:=by simpa using r
   rw [r,O3] at hu;refine ai (fun r2=>?_) (fun r2=>?_)
   ·have r2:=OE r2;refine af b1 ((d.p,d.l,d.c),()) rfl (ao ?_);rw [wrap_i64 ae ae];obtain ⟨ab,rfl'',hc',va'⟩:=(v.aP.an e6).cells (i-1) ae;refine aC ⟨ae,ae⟩ (au rfl'' ?_);rw [show Int.toNat ((i:Int)-1)=i-1 from ae];refine aG (u.aP[i-1],()) hc' (ao ?_);have hla:tJ u.aP i=u.aP[i-1]:=by
     unfold tJ;rw [OG ae,OV,OO ae] <;> rfl
    rw [leB];rw [hla] at hu;refine ai (fun r3=>?_) (fun r3=>?_)
    ·have r3:decide (fQ u.aP[i-1] u.aP[i])=false:=by simpa using r3
     exact ⟨by rw [hu,r3]; rfl,e6⟩
    ·have r3:decide (fQ u.aP[i-1] u.aP[i])=true:=by simpa using r3
     rw [r3,O3] at hu;refine aY (cs:=[(false,[.int .i64]),(false,[.int .i64])]) (n31,((i+1:Nat):Int),()) (u.aP.length-(i+1)) rfl ae (by rw [wrap_i64 ae ae]; rfl) ?_;exact ⟨i+1,rfl,ae,rfl,e6,b1,m,hu⟩
   ·have r2:=OF r2;have hi0:i=0:=ae
    subst hi0;have hg:decide (fQ (tJ u.aP 0) u.aP[0])=true:=OK (Hc (m.2 _ (JX r)));rw [hg,O3] at hu;refine aY (cs:=[(false,[.int .i64]),(false,[.int .i64])]) (n31,((0+1:Nat):Int),()) (u.aP.length-(0+1)) rfl ae (by rw [wrap_i64 ae ae]; rfl) ?_;exact ⟨0+1,rfl,ae,rfl,e6,b1,m,hu⟩
  ·have q3:=OF q3;have hil:i=u.aP.length:=ae
   subst hil;rw [PU] at hu;exact ⟨by rw [hu]; rfl,e6⟩
def Bf (l:List UInt8):List (List XB):=l.map fun b=>[.int .u8 (b.toNat:Int)]
def xR (l:List UInt8):(Bf l).length=l.length:=by simp [Bf]
def Fb (l:List UInt8):∀ y,y∈Bf l->y.length=1:=by
 intro y hy;obtain ⟨b,_,rfl⟩:=Pa.1 hy;rfl
def CE (l:List UInt8):(Bf l).flatten=l.map fun b=>.int .u8 (b.toNat:Int):=by
 induction l with
 | nil=>rfl
 | cons a l ih =>
  have:Bf (a::l)=[.int .u8 (a.toNat:Int)]::Bf l:=rfl
  rw [this,List.flatten_cons,ih] <;> rfl
def FY (l:List UInt8):(Bf l).flatten.all fI=true:=by
 rw [CE];simp [fI]
def HP:Tryz.prog.underlying 42=some (.slice 5):=aB
def Oo:(Tryz.prog.info? 5).map (fun i=>(i.zero,i.size,i.bytes))=some (some (.int .u8 0),1,1):=aB
def SL.bH {h:Hp} {b:Nat} {e:TypeId} {sz:Nat} {p:Option XC} {l c:Nat} {xs:List (List XB)} (s:SL h b e sz p l c xs):∀ i,i∈aE p->b<=i/\i<h.size:=by
 intro i hi;cases p with
 | none=>simp [aE] at hi
 | some a =>
  obtain ⟨g,pre,rest,rfl,hb,_,hbox,_⟩:=s.2.2;simp [aE] at hi;exact ⟨ae,by rw [hi]; exact hbox.lt⟩
def Mg (a:Int):Instr.fill (fun j=>some (j*1,1)) ((Array.range (1*1)).map ((Value.int .u8 0).cells[· % (Value.int .u8 0).cells.size]!)) [(0,.int .u8 a)]=some ([.int .u8 a]:List XB).toArray:=aB
def Fv {P:Program} {h:Hp} (a:XC) (l:List UInt8) (cap:Nat) (K:XB->Hp->Prop) (hc:bk h a 0 (l.map j2)) (hk:K (.string ⟨l.toArray⟩) h):aV P (Conv.bytesToString (.slice (some a) l.length cap)) h K:=by
 unfold Conv.bytesToString;simp only;rw [aD];refine fM aj hc _ ?_;rw [aD,<- Array.forIn_toList]
 have key:∀ (l:List UInt8) (s:XA) (K':XA->Hp->Prop),K' ⟨s.data++l.toArray⟩ h->aV P (forIn (l.map j2) s fun c r=>match c with
   | .int .u8 n=>(pure (ForInStep.yield (r.push (UInt8.ofNat n.toNat))):Sem (ForInStep XA))
   | _ => stuck "bytesToString: byte expected") h K' := by
  intro l
  induction l with
  | nil =>
   intro s K' hk;have e:(⟨s.data++([]:List UInt8).toArray⟩:XA)=s:=aj
   rw [e] at hk;exact hk
  | cons c l ih =>
   intro s K' hk;rw [P6,List.forIn_cons];rw [aD];show aV P (forIn (List.map j2 l) (s.push (UInt8.ofNat ((c.toNat:Nat):Int).toNat)) _) h K';have e1:UInt8.ofNat ((c.toNat:Nat):Int).toNat=c:=aj
   rw [e1];refine ih (s.push c) K' ?_
   have:(⟨(s.push c).data++l.toArray⟩:XA)=⟨s.data++(c::l).toArray⟩:=by
    congr 1
    apply O5.1
    simp
   rw [this]; exact hk
 refine key l ByteArray.empty _ ?_;have e:(⟨ByteArray.empty.data++l.toArray⟩:XA)=⟨l.toArray⟩:=by
  congr 1
  apply O5.1
  simp
 rw [e];exact hk
abbrev St:=Except (Nat × Nat) Bt
structure zZ (x:fG):Prop where
 many:x.ay.length<=65535
 ay:∀ u,u∈x.ay->u.1.size<65536/\u.2<4294967296
 num:x.num<4294967296
structure zt (x:cd):Prop where
 jd:zZ x.e
 name:x.name.size<65536
 op:Sm x.inst.op
def zZ.at {h:Hp} {b:Nat} {e:TypeId} {p:Option XC} {l c:Nat} {x:fG} (r:zZ x) (s:SL h b e 2 p l c (x.ay.map cB)):pc h p l x :=
 ⟨Sx.SL.Dl s,by have:=r.many; omega,fun t ht=>by have:=(r.ay t ht).1; unfold maxLen; omega⟩
def zt.at {h:Hp} {b:Nat} {e:TypeId} {p:Option XC} {l c:Nat} {x:cd} (r:zt x) (s:SL h b e 2 p l c (x.e.ay.map cB)):wm h p l x :=
 ⟨r.jd.at s,by have:=r.name; unfold maxLen; omega,r.op⟩
structure Ls {α:Type} (e:TypeId) (sz:Nat) (enc:cH->α->List XB) (tm:α->ec) (ok:α->Prop) (h:Hp) (b:Nat) (p:Option XC) (l c:Nat) (us:List (cH × α)):Prop where
 sl:SL h b e sz p l c (us.map fun u=>enc u.1 u.2)
 own:∀ u,u∈us->SL h b 109 2 u.1.p u.1.l u.1.c ((tm u.2).map cB)
 ok:∀ u,u∈us->ok u.2
section
variable {α:Type} {e:TypeId} {sz:Nat} {enc:cH->α->List XB} {tm:α->ec} {ok:α->Prop} {h h':Hp} {b b':Nat} {p:Option XC} {l c:Nat} {us:List (cH × α)}
def SL.AE {ws:List Nat} {h h':Hp} {b:Nat} {e:TypeId} {sz:Nat} {p:Option XC} {l c:Nat} {xs:List (List XB)} (s:SL h b e sz p l c xs) (k:Ch ws h h') (hw:∀ i,i∈ws->i<h.size->i<b):SL h' b e sz p l c xs :=
 Sx.SL.bd s k (fun i hi hm=>by have:=Sx.SL.bH s hi; have:=hw i hm this.2; omega)
def Ls.len (s:Ls e sz enc tm ok h b p l c us):l=us.length:=by rw [s.sl.1,OI]
end
abbrev ptr (g:Nat):XB:=.pointer (some ⟨g,0,none⟩)
def Mm:Tryz.prog.underlying 25=some (.slice 9):=aB
def NE:(Tryz.prog.info? 9).map (fun i=>(i.zero,i.size,i.bytes))=some (some (.string ⟨#[]⟩),1,16):=aB
section
variable {h0 h:Hp} {g gm:Nat} {bp:Option XC} {bl bc:Nat} {full:Bt} {st:St} {D:List XA}
abbrev L8:=Ls 96 10 (fun s x=>encI s.p s.l s.c x) (fun x=>x.e.ay) zt
abbrev Nn:=Ls 99 3 (fun s (x:pP)=>Kx s.p s.l s.c x) (fun x=>x.2.ay) (fun x=>zZ x.2/\x.1.size<65536)
abbrev Nl:=Ls 9 1 (fun _ (x:XA)=>[.string x]) (fun _=>[]) (fun x=>x.size<65536)
end
def OA (a b:cH):Prop:=∀ i,i∈aE a.p->i∉aE b.p
structure DN (h:Hp) (b0:Nat) (a b c d:cH) (u:pN):Prop where
 text:∃ us,us.map (·.2)=u.text/\us.length<=65535/\L8 h b0 a.p a.l a.c us
 data:∃ us,us.map (·.2)=u.data/\us.length<=65535/\L8 h b0 b.p b.l b.c us
 bU:∃ us,us.map (·.2)=u.bU/\us.length<=65535/\Nn h b0 c.p c.l c.c us
 aP:∃ us,us.map (·.2)=u.aP/\us.length<=65535/\Nl h b0 d.p d.l d.c us
def fA:cH:=⟨none,0,0⟩
def SL.at_ {h:Hp} {b:Nat} {e:TypeId} {sz:Nat} {p:Option XC} {l c:Nat} {xs:List (List XB)} (s:SL h b e sz p l c xs) {i:Nat} (hi:i<xs.length):∃ a,p=some a/\bk h (a.add (i*sz)) 0 xs[i]:=Sx.SL.cells s hi
def L8.at {h:Hp} {b:Nat} {p:Option XC} {l c:Nat} {us:List (cH × cd)} (s:L8 h b p l c us) (hn:us.length<=65535):J9 h p l (us.map (·.2)):=by
 refine ⟨by rw [s.len,OI],by rw [OI]; omega,fun i hi=>?_⟩;rw [OI] at hi;obtain ⟨a,ha,hc⟩:=SL.at_ s.sl (i:=i) (by rw [OI]; exact hi);rw [O4] at hc ⊢;exact ⟨a,_,_,_,ha,hc,(s.ok _ (O2 hi)).at (s.own _ (O2 hi))⟩
def Nn.at {h:Hp} {b:Nat} {p:Option XC} {l c:Nat} {us:List (cH × pP)} (s:Nn h b p l c us) (hn:us.length<=65535):Lw h p l (us.map (·.2)):=by
 refine ⟨by rw [s.len,OI],by rw [OI]; omega,fun i hi=>?_⟩;rw [OI] at hi;obtain ⟨a,ha,hc⟩:=SL.at_ s.sl (i:=i) (by rw [OI]; exact hi);rw [O4] at hc ⊢;have ok:=s.ok _ (O2 hi);exact ⟨a,_,_,_,ha,hc,ok.1.at (s.own _ (O2 hi)),by have:=ok.2; unfold maxLen; omega⟩
def Nl.at {h:Hp} {b:Nat} {p:Option XC} {l c:Nat} {us:List (cH × XA)} (s:Nl h b p l c us) (hn:us.length<=65535):LY h p l (us.map (·.2)):=by
 refine ⟨by rw [s.len,OI],by rw [OI]; omega,fun i hi=>?_⟩;rw [OI] at hi;obtain ⟨a,ha,hc⟩:=SL.at_ s.sl (i:=i) (by rw [OI]; exact hi);rw [O4] at hc ⊢;have ok:=s.ok _ (O2 hi);exact ⟨a,ha,hc,by unfold maxLen; omega⟩
def DN.at {h:Hp} {b0:Nat} {a b c d:cH} {u:pN} (o:DN h b0 a b c d u):sj h a b c d u:=by
 obtain ⟨⟨u1,a1,c1,d1⟩,⟨u2,a2,c2,d2⟩,⟨u3,a3,c3,d3⟩,⟨u4,a4,c4,d4⟩⟩:=o;exact ⟨by rw [<- a1]; exact L8.at d1 c1,by rw [<- a2]; exact L8.at d2 c2,by rw [<- a3]; exact Nn.at d3 c3,by rw [<- a4]; exact Nl.at d4 c4⟩
def zU:List XB:=[.slice none 0 0,.slice none 0 0,.slice none 0 0,.slice none 0 0]
def fe {a b:Nat} (h:(((a:Nat):Int)==((b:Nat):Int))=true):a=b:=by
 have:=eq_of_beq h
 omega
def fy {a b:Nat} (h:(((a:Nat):Int)==((b:Nat):Int))=false):¬ a=b:=by
 rintro rfl;simp at h
def uJ (h:Hp) (w:XB) (e:Option (Nat × Nat)):Prop :=
 match e with
 | none=>w=.nilIface
 | some e=>∃ a,w=.iface 59 (ptr a)/\bf h a 63 [.int .i64 (e.1:Nat),.int .i64 (e.2:Nat)]
def Kh {x y:cd} (r1:x.kind=y.kind) (r2:x.name=y.name) (r3:x.inst=y.inst) (r4:x.e=y.e) (r5:x.n=y.n):x=y:=by
 cases x;cases y
 simp_all
def KI {x y:pN} (r1:x.text=y.text) (r2:x.data=y.data) (r3:x.bU=y.bU) (r4:x.aP=y.aP):x=y:=by
 cases x;cases y
 simp_all
def kb {L:Lp} {K:XB->Hp->Prop} {h:Hp} {b:Bool} {t u:T} (hu:b=false->u L K h) (ht:b=true->t L K h):(cond b t u) L K h:=ai ht hu
def KU (l0 l1:Nat) (body:Int->T->T):T :=
 cond ((l0:Int) != (l1:Int))
 bE
 (T.loop [bZ,aQ] [.bool false,.int .i64 (0:Int)] <| fun (b2:Bool) (n3:Int) =>
 dH n3 l0
  (body n3 (T.again 0 [.bool b2,.int .i64 (aH (n3+(1:Int)))]))
  pj)
def NQ {α:Type} {xs ys:List α} (e:xs=ys) {i:Nat} (h1:i<xs.length) (h2:i<ys.length):xs[i]=ys[i]:=by
 subst e;rfl
theorem qD {h:Hp} {a:XC}:∀ (vs:List XB) (o i:Nat),bk h a (o+i) vs->bk h (a.add o) i vs
 | [],_,_,_=>trivial
 | v::vs,o,i,hc=>⟨by rw [add_add]; exact hc.1,qD vs o (i+1) hc.2⟩
def GU {α:Type} (x y:α) (h:Hp) (w:XB) (h':Hp):Prop:=∃ b:Bool,w=.bool b/\(b=true↔x=y)/\Ext h h'
def xO {α:Type} {xs ys:List α} {l0 l1:Nat} (h0:l0=xs.length) (h1:l1=ys.length) (hm:xs.length<=2^60) {body:Int->T->T} {h:Hp}
  (hb:∀ (L:Lp) (h':Hp) (i:Nat) (hi:i<xs.length) (hj:i<ys.length) (k:T),Ext h h'->(xs[i]=ys[i]->∀ h'',Ext h h''->k L (GU xs ys h) h'')->(xs[i]≠ys[i]->∀ h'',Ext h h''->GU xs ys h (.bool false) h'')->body (i:Int) k L (GU xs ys h) h') :
  KU l0 l1 body [] (GU xs ys h) h:=by
 subst h0 h1;unfold KU dH aH bE pj aQ bZ;refine ai (fun q=>?_) (fun q=>?_)
 ·refine ⟨false,rfl,⟨fun h=>(by cases h),fun e=>?_⟩,Ch.refl _ _⟩;rw [e] at q;simp at q
 have q:xs.length=ys.length:=by
  have:(((xs.length:Nat):Int)==((ys.length:Nat):Int))=true:=by
   simpa using q
  exact fe this
 refine bJ (cs:=[(false,[.bool]),(false,[.int .i64])]) (fun y m h'=>∃ i:Nat,y.1=false/\y.2.1=(i:Int)/\m=xs.length-i/\i<=xs.length/\Ext h h'/\∀ j,(hj:j<i)->(h1:j<xs.length)->(h2:j<ys.length)->xs[j]=ys[j]) (false,(0:Int),()) xs.length rfl
  ⟨0,rfl,rfl,rfl,ae,Ch.refl _ _,fun j hj=>ae⟩ ?_
 rintro ⟨b2,n3,⟨⟩⟩ m h1 ⟨i,hy1,hy2,rfl,hi,e1,hj⟩;simp only at hy1 hy2;subst hy1 hy2;refine ao ?_;refine ai (fun r=>?_) (fun r=>?_)
 ·have r:=OE r;refine hb _ h1 i ae ae _ e1 (fun he h2 e2=>?_) (fun hne h2 e2=>?_)
  ·rw [wrap_i64 ae ae];refine aY (cs:=[(false,[.bool]),(false,[.int .i64])]) (false,((i+1:Nat):Int),()) (xs.length-(i+1)) rfl ae rfl ?_;refine ⟨i+1,rfl,rfl,rfl,ae,e2,fun j hj' a b=>?_⟩
   by_cases hji:j<i
   ·exact hj j hji a b
   ·have:j=i:=ae
    subst this;exact he
  ·exact ⟨false,rfl,⟨fun h=>(by cases h),fun e=>absurd (NQ e ae ae) hne⟩,e2⟩
 ·have r:=OF r;refine ⟨true,rfl,⟨fun _=>?_,fun _=>rfl⟩,e1⟩;exact List.ext_getElem q fun j a b=>hj j ae a b
def Kt (s t:XA):(ByteArray.toList s==ByteArray.toList t)=decide (s=t):=by
 rw [ByteArray.toList_eq,ByteArray.toList_eq]
 by_cases h:s=t
 ·rw [OK h,h]; simp
 ·rw [OL h]
  have:¬ s.data.toList=t.data.toList:=fun e=>h (nL e)
  simpa using this
def uI (x y:fG):kC x y=true↔x=y:=by
 obtain ⟨a,b⟩:=x;obtain ⟨c,d⟩:=y;unfold kC
 simp
 exact and_comm
def Dv {h:Hp} {p q:Option XC} {l c m d:Nat} {xs ys:List XA} (v:LY h p l xs) (w:LY h q m ys):HC Tryz.prog 15 #[.slice p l c,.slice q m d] h (GU xs ys h):=by
 refine ba (args:=[.slice p l c,.slice q m d]) mixed Tryz.func15 aB (iU p l c q m d) ?_;refine xO (body:=fun n3 k=>T.need (((0:Int)<=n3)/\(n3<(l:Int))) <|
  T.aA p <| fun (a4:XC) =>
  T.ah (a4.add ((Int.toNat n3)*1)) [.string] <| fun (s5:XA) =>
  T.need (((0:Int)<=n3)/\(n3<(m:Int))) <|
  T.aA q <| fun (a6:XC) =>
  T.ah (a6.add ((Int.toNat n3)*1)) [.string] <| fun (s7:XA) =>
  cond (!((ByteArray.toList s5)==(ByteArray.toList s7)))
  (T.ret (.bool false)) k) v.len w.len v.many ?_
 intro L h' i hi hj k e1 hk hn;have vl:=v.len;have wl:=w.len;obtain ⟨a,rfl,hc,_⟩:=(v.an e1).cells i hi;obtain ⟨b,rfl,hd,_⟩:=(w.an e1).cells i hj;refine aC ⟨ae,ae⟩ ?_;refine au rfl ?_;refine aG (xs[i],()) hc (ao ?_);refine aC ⟨ae,ae⟩ ?_;refine au rfl ?_;refine aG (ys[i],()) hd (ao ?_);rw [Kt];refine ai (fun r=>?_) (fun r=>?_)
 ·exact hn (by simpa using r) h' e1
 ·exact hk (by simpa using r) h' e1
def BY {h:Hp} {p q:Option XC} {l c m d:Nat} {xs ys:List pP} (v:Lw h p l xs) (w:Lw h q m ys):HC Tryz.prog 41 #[.slice p l c,.slice q m d] h (GU xs ys h):=by
 refine ba (args:=[.slice p l c,.slice q m d]) mixed Tryz.func41 aB (la p l c q m d) ?_;refine xO (body:=fun n3 k=>T.need (((0:Int)<=n3)/\(n3<(l:Int))) <|
  T.aA p <| fun (a4:XC) =>
  T.ah (a4.add ((Int.toNat n3)*3)) [.string] <| fun (s5:XA) =>
  T.need (((0:Int)<=n3)/\(n3<(m:Int))) <|
  T.aA q <| fun (a6:XC) =>
  T.ah (a6.add ((Int.toNat n3)*3)) [.string] <| fun (s7:XA) =>
  cond (!((ByteArray.toList s5)==(ByteArray.toList s7)))
  (T.ret (.bool false))
  (T.need (((0:Int)<=n3)/\(n3<(l:Int))) <|
  T.aA p <| fun (a8:XC) =>
  T.ah ((a8.add ((Int.toNat n3)*3)).add 1) [.slice 109,.int .u32] <| fun (p9:Option XC) (l10:Nat) (l11:Nat) (n12:Int) =>
  T.need (((0:Int)<=n3)/\(n3<(m:Int))) <|
  T.aA q <| fun (a13:XC) =>
  T.ah ((a13.add ((Int.toNat n3)*3)).add 1) [.slice 109,.int .u32] <| fun (p14:Option XC) (l15:Nat) (l16:Nat) (n17:Int) =>
  T.call Tryz.prog 75 [.agg #[.slice p9 l10 l11,.int .u32 n12],.agg #[.slice p14 l15 l16,.int .u32 n17]] false [(false,[.bool])] <| fun (b18:Bool) =>
  T.aT [((a6.add ((Int.toNat n3)*3)),[.string s7]),((a4.add ((Int.toNat n3)*3)),[.string s5])] <|
  cond (!b18)
   (T.ret (.bool false)) k)) v.len w.len v.many ?_
 intro L h' i hi hj k e1 hk hn;have vl:=v.len;have wl:=w.len;obtain ⟨a,p1,l1,c1,rfl,hc,va,_⟩:=(v.an e1).cells i hi;obtain ⟨b,q1,m1,d1,rfl,hd,wa,_⟩:=(w.an e1).cells i hj;refine aC ⟨ae,ae⟩ ?_;refine au rfl ?_;refine aG (xs[i].1,()) ⟨hc.1,trivial⟩ (ao ?_);refine aC ⟨ae,ae⟩ ?_;refine au rfl ?_;refine aG (ys[i].1,()) ⟨hd.1,trivial⟩ (ao ?_);rw [Kt];refine ai (fun r=>?_) (fun r=>?_)
 ·have r:¬ xs[i].1=ys[i].1:=by simpa using r
  exact hn (fun e=>r (by rw [e])) h' e1
 have r:xs[i].1=ys[i].1:=by simpa using r
 refine aC ⟨ae,ae⟩ ?_;refine au rfl ?_;refine aG ((p1,l1,c1),(xs[i].2.num:Int),()) (qD _ 1 0 hc.2) (ao ?_);refine aC ⟨ae,ae⟩ ?_;refine au rfl ?_;refine aG ((q1,m1,d1),(ys[i].2.num:Int),()) (qD _ 1 0 hd.2) (ao ?_);refine aK (zB (c:=c1) (d:=d1) va.vw wa.vw va.many) ?_;rintro _ h2 ⟨rfl,e2⟩;refine ⟨(kC xs[i].2 ys[i].2,()),rfl,ao ?_⟩;refine ⟨⟨⟨dZ hd.1 e2 aj,trivial⟩,⟨dZ hc.1 e2 aj,trivial⟩,trivial⟩,?_⟩;refine ai (fun u=>?_) (fun u=>?_)
 ·have u:kC xs[i].2 ys[i].2=false:=by simpa using u
  refine hn (fun e=>?_) h2 (e1.trans e2);rw [(uI _ _).2 (by rw [e])] at u;cases u
 ·have u:kC xs[i].2 ys[i].2=true:=by simpa using u
  exact hk (Prod.ext r ((uI _ _).1 u)) h2 (e1.trans e2)
def JG (x y:Operand) (i j:Ins) (h:Hp) (K:XB->Hp->Prop) (hk:K (.bool (decide (i=j))) h) :
  aV Tryz.prog (Sx.df (BinOp.eql) 90 x y (.agg (vr i).toArray) (.agg (vr j).toArray)) h K:=by
 refine Hx KY aB aB aB K ?_;have he:(G0 Tryz.prog 90).all (Jc (vr i).toArray (vr j).toArray)=(i.op==j.op && (i.a==j.a && (i.b==j.b && (i.n==j.n && (i.form==j.form && true))))):=by
  rw [<- P5]
  kernel_rfl
 rw [he,Pz]
 have:(i.op==j.op && (i.a==j.a && (i.b==j.b && (i.n==j.n && i.form==j.form))))=decide (i=j):=by
  rcases i with ⟨a1,a2,a3,a4,a5⟩
  rcases j with ⟨c1,c2,c3,c4,c5⟩
  simp only [dG,Ins.mk.injEq]
  by_cases h1:a1=c1 <;> by_cases h2:a2=c2 <;> by_cases h3:a3=c3 <;> by_cases h4:a4=c4 <;> by_cases h5:a5=c5 <;> simp [h1,h2,h3,h4,h5]
 rw [this];exact hk
def CG {h:Hp} {p q:Option XC} {l c m d:Nat} {x y:cd} (v:pc h p l x.e) (w:pc h q m y.e):HC Tryz.prog 61 #[sT p l c x,sT q m d y] h (GU x y h):=by
 refine ba (args:=[sT p l c x,sT q m d y]) mixed Tryz.func61 aB (kM x.kind x.name x.inst.op x.inst.a x.inst.b x.inst.n x.inst.form p l c x.e.num x.n y.kind y.name y.inst.op y.inst.a y.inst.b y.inst.n y.inst.form q m d y.e.num y.n) ?_;unfold gL aN bR av bE;refine bm ?_;intro h1 b1 e1 z1;refine bm ?_;intro h2 b2 e2 z2;have b1:bf h2 h.size 96 (encI p l c x):=b1.an e2 aj;have b2:bf h2 h1.size 96 (encI q m d y):=b2;have e:=e1.trans e2;have no:∀ h',Ext h h'->x≠y->GU x y h (.bool false) h':=fun h' e hn=>⟨false,rfl,⟨fun h=>(by cases h),fun e=>absurd e hn⟩,e⟩
 simp only [az];refine af b1 (x.kind,()) rfl (ao ?_);refine af b2 (y.kind,()) rfl (ao ?_);refine kb (fun r1=>?_) (fun r1=>?_)
 ·have r1:¬ x.kind=y.kind:=by simpa using r1
  exact no h2 e (fun e=>r1 (by rw [e]))
 have r1:x.kind=y.kind:=by simpa using r1
 refine af b1 (x.name,()) rfl (ao ?_);refine af b2 (y.name,()) rfl (ao ?_);rw [Kt];refine kb (fun r2=>?_) (fun r2=>?_)
 ·have r2:¬ x.name=y.name:=by simpa using r2
  exact no h2 e (fun e=>r2 (by rw [e]))
 have r2:x.name=y.name:=by simpa using r2
 refine af b1 (x.inst.op,x.inst.a,x.inst.b,x.inst.n,x.inst.form,()) rfl (ao ?_);refine af b2 (y.inst.op,y.inst.a,y.inst.b,y.inst.n,y.inst.form,()) rfl (ao ?_);refine cI (fun K' hK=>JG _ _ x.inst y.inst h2 K' hK) ?_;refine kb (fun r3=>?_) (fun r3=>?_)
 ·have r3:¬ x.inst=y.inst:=by simpa using r3
  exact no h2 e (fun e=>r3 (by rw [e]))
 have r3:x.inst=y.inst:=by simpa using r3
 refine af b1 ((p,l,c),(x.e.num:Int),()) rfl (ao ?_);refine af b2 ((q,m,d),(y.e.num:Int),()) rfl (ao ?_);refine aK (zB (c:=c) (d:=d) (v.an e).vw (w.an e).vw v.many) ?_;rintro _ h3 ⟨rfl,e3⟩;refine ⟨(kC x.e y.e,()),rfl,ao ?_⟩;refine kb (fun r4=>?_) (fun r4=>?_)
 ·refine no h3 (e.trans e3) (fun e=>?_);rw [(uI _ _).2 (by rw [e])] at r4;cases r4
 have r4:=(uI _ _).1 r4;refine af (b1.an e3 aj) (x.n,()) rfl (ao ?_);refine af (b2.an e3 aj) (y.n,()) rfl ?_;refine ⟨x.n==y.n,rfl,⟨fun r5=>?_,fun e=>by rw [e]; simp⟩,e.trans e3⟩;have r5:x.n=y.n:=by simpa using r5
 exact Kh r1 r2 r3 r4 r5
def tW {h:Hp} {p q:Option XC} {l c m d:Nat} {xs ys:List cd} (v:J9 h p l xs) (w:J9 h q m ys):HC Tryz.prog 31 #[.slice p l c,.slice q m d] h (GU xs ys h):=by
 refine ba (args:=[.slice p l c,.slice q m d]) mixed Tryz.func31 aB (j7 p l c q m d) ?_;refine xO (body:=fun n3 k=>T.need (((0:Int)<=n3)/\(n3<(l:Int))) <|
  T.aA p <| fun (a4:XC) =>
  T.ah (a4.add ((Int.toNat n3)*10)) [.int .i64,.string,.int .i64,.int .i64,.int .i64,.int .i32,.int .i64,.slice 109,.int .u32,.int .i64] <| fun (n5:Int) (s6:XA) (n7:Int) (n8:Int) (n9:Int) (n10:Int) (n11:Int) (p12:Option XC) (l13:Nat) (l14:Nat) (n15:Int) (n16:Int) =>
  T.need (((0:Int)<=n3)/\(n3<(m:Int))) <|
  T.aA q <| fun (a17:XC) =>
  T.ah (a17.add ((Int.toNat n3)*10)) [.int .i64,.string,.int .i64,.int .i64,.int .i64,.int .i32,.int .i64,.slice 109,.int .u32,.int .i64] <| fun (n18:Int) (s19:XA) (n20:Int) (n21:Int) (n22:Int) (n23:Int) (n24:Int) (p25:Option XC) (l26:Nat) (l27:Nat) (n28:Int) (n29:Int) =>
  T.call Tryz.prog 61 [.agg #[.int .i64 n5,.string s6,.int .i64 n7,.int .i64 n8,.int .i64 n9,.int .i32 n10,.int .i64 n11,.slice p12 l13 l14,.int .u32 n15,.int .i64 n16],.agg #[.int .i64 n18,.string s19,.int .i64 n20,.int .i64 n21,.int .i64 n22,.int .i32 n23,.int .i64 n24,.slice p25 l26 l27,.int .u32 n28,.int .i64 n29]] false [(false,[.bool])] <| fun (b30:Bool) =>
  cond (!b30)
  (T.ret (.bool false)) k) v.len w.len v.many ?_
 intro L h' i hi hj k e1 hk hn;have vl:=v.len;have wl:=w.len;obtain ⟨a,p1,l1,c1,rfl,hc,va⟩:=(v.an e1).cells i hi;obtain ⟨b,q1,m1,d1,rfl,hd,wa⟩:=(w.an e1).cells i hj;refine aC ⟨ae,ae⟩ ?_;refine au rfl ?_;refine aG (xs[i].kind,xs[i].name,xs[i].inst.op,xs[i].inst.a,xs[i].inst.b,xs[i].inst.n,xs[i].inst.form,(p1,l1,c1),(xs[i].e.num:Int),xs[i].n,()) hc (ao ?_);refine aC ⟨ae,ae⟩ ?_;refine au rfl ?_;refine aG (ys[i].kind,ys[i].name,ys[i].inst.op,ys[i].inst.a,ys[i].inst.b,ys[i].inst.n,ys[i].inst.form,(q1,m1,d1),(ys[i].e.num:Int),ys[i].n,()) hd (ao ?_);refine aK (CG (c:=c1) (d:=d1) va.jd wa.jd) ?_;rintro _ h2 ⟨b,rfl,hb,e2⟩;refine ⟨(b,()),rfl,ao ?_⟩;refine ai (fun u=>?_) (fun u=>?_)
 ·have u:b=false:=by simpa using u
  refine hn (fun e=>?_) h2 (e1.trans e2);rw [hb.2 e] at u;cases u
 ·have u:b=true:=by simpa using u
  exact hk (hb.1 u) h2 (e1.trans e2)
def BR {h:Hp} {a b c d a' b' c' d':cH} {u v:pN} (x:sj h a b c d u) (y:sj h a' b' c' d' v):HC Tryz.prog 13 #[tC a b c d,tC a' b' c' d'] h (GU u v h):=by
 refine ba (args:=[tC a b c d,tC a' b' c' d']) mixed Tryz.func13 aB (kZ a.p a.l a.c b.p b.l b.c c.p c.l c.c d.p d.l d.c a'.p a'.l a'.c b'.p b'.l b'.c c'.p c'.l c'.c d'.p d'.l d'.c) ?_;unfold gP aN bE;refine bm ?_;intro h1 b1 e1 z1;refine bm ?_;intro h2 b2 e2 z2;have b1:bf h2 h.size 27 [a.v,b.v,c.v,d.v]:=b1.an e2 aj;have b2:bf h2 h1.size 27 [a'.v,b'.v,c'.v,d'.v]:=b2;have e:=e1.trans e2;have no:∀ h',Ext h h'->u≠v->GU u v h (.bool false) h':=fun h' e hn=>⟨false,rfl,⟨fun h=>(by cases h),fun e=>absurd e hn⟩,e⟩
 simp only [az];refine af b1 ((a.p,a.l,a.c),()) rfl (ao ?_);refine af b2 ((a'.p,a'.l,a'.c),()) rfl (ao ?_);refine aK (tW (x.text.an e) (y.text.an e)) ?_;rintro _ h3 ⟨r1,rfl,i1,e3⟩;refine ⟨(r1,()),rfl,ao ?_⟩;have e:=e.trans e3;have b1:=b1.an e3 aj;have b2:=b2.an e3 aj;refine kb (fun q1=>?_) (fun q1=>?_)
 ·refine no _ e (fun e=>?_);rw [i1.2 (by rw [e])] at q1;cases q1
 have i1:=i1.1 q1;refine af b1 ((b.p,b.l,b.c),()) rfl (ao ?_);refine af b2 ((b'.p,b'.l,b'.c),()) rfl (ao ?_);refine aK (tW (x.data.an e) (y.data.an e)) ?_;rintro _ h4 ⟨r2,rfl,i2,e4⟩;refine ⟨(r2,()),rfl,ao ?_⟩;have e:=e.trans e4;have b1:=b1.an e4 aj;have b2:=b2.an e4 aj;refine kb (fun q2=>?_) (fun q2=>?_)
 ·refine no _ e (fun e=>?_);rw [i2.2 (by rw [e])] at q2;cases q2
 have i2:=i2.1 q2;refine af b1 ((c.p,c.l,c.c),()) rfl (ao ?_);refine af b2 ((c'.p,c'.l,c'.c),()) rfl (ao ?_);refine aK (BY (x.bU.an e) (y.bU.an e)) ?_;rintro _ h5 ⟨r3,rfl,i3,e5⟩;refine ⟨(r3,()),rfl,ao ?_⟩;have e:=e.trans e5;have b1:=b1.an e5 aj;have b2:=b2.an e5 aj;refine kb (fun q3=>?_) (fun q3=>?_)
 ·refine no _ e (fun e=>?_);rw [i3.2 (by rw [e])] at q3;cases q3
 have i3:=i3.1 q3;refine af b1 ((d.p,d.l,d.c),()) rfl (ao ?_);refine af b2 ((d'.p,d'.l,d'.c),()) rfl (ao ?_);refine aK (Dv (x.aP.an e) (y.aP.an e)) ?_;rintro _ h6 ⟨r4,rfl,i4,e6⟩;refine ⟨(r4,()),rfl,?_⟩;refine ⟨r4,rfl,⟨fun q=>?_,fun e=>i4.2 (by rw [e])⟩,e.trans e6⟩;have i4:=i4.1 q;exact KI i1 i2 i3 i4
open Go.Proofs Go.Proofs.YtfkjiiapldkoeaaGreatDoor
open Go.ChangeShapes Go.WideShapes Go.ChangeAt Go.WideMaps Go.WideElems Go.RowKit
def Is (P:Program) (t:TypeId):Option (List (TypeId × Nat)):=(P.underlying t).bind fun d=>match d with | .struct fs=>some (fs.toList.map fun f=>(f.type,f.offset)) | _=>none
section
variable {H:Type} {enc:TypeId × XB->H} {P:Program} {W:World} {base fuel:Nat} {sp:Nat->Bool} {held:Bool} {t:TypeId} {cs:List XB} {y:DataW H × List MemPlace}
def CK {l:List (TypeId × Nat)} (hu:Is P t=some l) (h:DataW.trod enc P W base sp held fuel t cs=some y) :
  ∃ (xs:List (DataW H × List MemPlace)) (n:Nat),y.1=.agg (xs.map (·.1))/\cs.length=P.cellsOf t/\xs.length=l.length/\∀ (i:Nat) (p:TypeId × Nat),l[i]?=some p->∃ x,xs[i]?=some x/\DataW.trod enc P W base sp held n p.1 ((cs.drop p.2).take (P.cellsOf p.1))=some x:=by
 unfold Is at hu;cases hd:P.underlying t with
 | none=>rw [hd] at hu; cases hu
 | some d =>
  rw [hd] at hu;simp only [Option.bind_some] at hu;split at hu
  ·rename_i fs;simp only [Option.some.injEq] at hu;obtain ⟨xs,n,_,hy,hl,hlen,hf⟩:=DataW.trod_struct hd h;refine ⟨xs,n,by rw [hy],hl,by rw [<- hu,OI,hlen,Array.length_toList],fun i p hp=>?_⟩;rw [<- hu,Pw,Option.map_eq_some_iff] at hp;obtain ⟨f,hf1,rfl⟩:=hp;rw [PC] at hf1;have h1:=hf i f hf1;cases hx:xs[i]? with
   | none =>
    rw [List.getElem?_eq_none_iff] at hx
    have:i<fs.size:=by
     by_cases g:i<fs.size
     ·exact g
     ·rw [Pv ae] at hf1;cases hf1
    omega
   | some x=>rw [hx] at h1; exact ⟨x,rfl,h1⟩
  ·cases hu
end
def CS {P:Program} {f:FuncId} {args:Array XB} {W:World} {R:XB->Hp->Prop} (h:HC P f args W.heap R) (he:∀ v h',R v h'->Ext W.heap h'):Calls P f args W fun e w'=>∃ v,e=.returned v/\Below W.heap.size W w'/\R v w'.heap:=by
 refine (h W rfl).mono fun e w' ⟨v,hv,hs,hr⟩=>⟨v,hv,⟨hs.os,hs.tape,hs.output,(he v _ hr).size,fun k hk=>(he v _ hr).same k hk aj⟩,hr⟩
def DR {W W':World} (hB:Below W.heap.size W W') {p:MemPlace} (hp:p.block<W.heap.size):W.sameAt W' p:=by
 cases p with
 | cell b off =>
  show W'.cell? _=W.cell? _;unfold World.cell?;rw [hB.block b hp]
 | map b=>exact hB.block b hp
end Go.Sx.Ob
