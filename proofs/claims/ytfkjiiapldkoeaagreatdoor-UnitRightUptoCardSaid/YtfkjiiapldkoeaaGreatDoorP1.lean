/- Contracts over heaps, and plain laws, for the functions that the laws of chapter 9 call, part 1:  Condition: as each statement says. -/
import Derived.Test.YtfkjiiapldkoeaaGreatDoorALexT
import Derived.Test.YtfkjiiapldkoeaaGreatDoorALexU
import Derived.Test.YtfkjiiapldkoeaaGreatDoorALexV
import Derived.Test.YtfkjiiapldkoeaaGreatDoorSxE
import Derived.Test.YtfkjiiapldkoeaaGreatDoorALineT
set_option linter.unusedVariables false
set_option linter.unusedSimpArgs false
set_option linter.deprecated false
set_option maxRecDepth 100000
namespace Go.Sx
open Go.Proofs
variable {h' h2:Hp} {k':Nat} {ws:List Nat} {te es:TypeId}
theorem mixed:Tryz.prog.follows .mixedOrders=true:=by kernel_rfl
theorem Mi : (Tryz.f174.name == "runtime.NumGoroutine") = false := by kernel_rfl
theorem LD:Tryz.f174.body.isNone=true:=by kernel_rfl
theorem LI:Extern.findNext Tryz.f174=none:=by kernel_rfl
theorem LM:Extern.find Tryz.f174=some Extern.BytealgIndexByte.indexByte:=by kernel_rfl
set_option maxHeartbeats 4000000 in
theorem xJ (s:ByteArray) (c:Int) (h:Hp):pQ Tryz.prog 145 [.string s,.int .u8 c] h (.int .i64 (Lib.indexByte s.data.toList c.toNat.toUInt8)):=by
 refine cK mixed Tryz.func145 (by kernel_rfl) (eQ s c) ?_;refine Hl Tryz.func174 Mi LD LI LM ?_;rw [vF];exact ⟨(_,()),rfl,rfl,rfl⟩
theorem rD (s:ByteArray) (c:Int) (h:Hp):pQ Tryz.prog 118 [.string s,.int .u8 c] h (.int .i64 (Lib.indexByte s.data.toList c.toNat.toUInt8)):=by
 refine cK mixed Tryz.func118 (by kernel_rfl) (mw s c) ?_;exact dj (xJ s c h) ⟨rfl,rfl⟩
def aS (s set:List UInt8):Nat:=(s.takeWhile fun c=>set.contains c).length
theorem dB (s set:List UInt8):aS s set≤s.length:=by
 unfold aS;exact (List.takeWhile_prefix _).length_le
theorem jK {p:UInt8→Bool}:∀ (l:List UInt8) (k:Nat),k≤(l.takeWhile p).length→k<l.length→(k<(l.takeWhile p).length↔p (l.getD k 0)=true)
 | [],k,_,h=>by simp at h
 | c::l,0,_,_=>by
  simp only [List.takeWhile_cons,List.getD_cons_zero];cases hp:p c <;> simp
 | c::l,k+1,h,hl=>by
  simp only [List.takeWhile_cons] at h ⊢;cases hp:p c with
  | false=>rw [hp] at h; simp at h
  | true =>
   rw [hp] at h;simp at h hl
   have:=jK l k (by simpa using h) hl
   simpa using this
theorem pc (s set:List UInt8) (k:Nat) (hk:k≤aS s set) (hl:k<s.length):(k<aS s set↔set.contains (s.getD k 0)=true):=jK s k hk hl
theorem HR (s:ByteArray) (n:Int):(bC s n).toNat.toUInt8=s.data.toList.getD n.toNat 0:=by
 unfold bC; simp
theorem lY (s set:ByteArray) (h:Hp) (hs:s.size≤9223372036854775807):pQ Tryz.prog 82 [.string s,.string set] h (.int .i64 (aS s.data.toList set.data.toList)):=by
 refine cK mixed Tryz.func82 (by kernel_rfl) (zq s set) ?_;have hsz:s.data.toList.length=s.size:=by simp
 have hle:=dB s.data.toList set.data.toList;refine bh (cs:=[(false,[.int .i64])]) (fun x n h'=>h'=h∧∃ k:Nat,x.1=(k:Int)∧k≤aS s.data.toList set.data.toList∧n=s.size-k) ((0:Int),()) s.size rfl ⟨rfl,0,rfl,by omega,by omega⟩ ?_;rintro ⟨n,⟨⟩⟩ m h' ⟨rfl,k,hk,hle',rfl⟩;simp only at hk;subst hk;refine af (fun hb=>?_) (fun hb=>?_)
 ·have hlt:(k:Int)<s.size:=of_decide_eq_true hb;have hst:=pc s.data.toList set.data.toList k hle' (by omega);refine ay ⟨by omega,hlt⟩ ?_;refine dj (rD _ _ _) ?_;rw [HR];have hc:=Lib.contains_iff_indexByte set.data.toList (s.data.toList.getD k 0);refine af (fun hb2=>?_) (fun hb2=>?_)
  ·have h2:=of_decide_eq_true hb2;rw [wrap_i64 (by omega) (by omega)];have hin:set.data.toList.contains (s.data.toList.getD k 0)=true:=by rw [hc]; exact decide_eq_true h2
   exact aI (cs:=[(false,[.int .i64])]) ((k:Int)+1,()) (s.size-(k+1)) rfl (by omega) rfl ⟨rfl,k+1,(show ((k:Int)+1)=((k+1:Nat):Int) from by omega),hst.2 hin,rfl⟩
  ·have h2:=of_decide_eq_false hb2;have hin:¬ set.data.toList.contains (s.data.toList.getD k 0)=true:=by rw [hc]; exact fun hh=>h2 (of_decide_eq_true hh)
   have:k=aS s.data.toList set.data.toList:=by
    have:¬ k<aS s.data.toList set.data.toList:=fun hh=>hin (hst.1 hh)
    omega
   exact ⟨by rw [← this],rfl⟩
 ·have hge:¬ (k:Int)<s.size:=of_decide_eq_false hb
  have:k=aS s.data.toList set.data.toList:=by omega
  exact ⟨by rw [← this],rfl⟩
/-! Bytes: letters and digits. -/
def cM (c:UInt8):Bool:=(97≤c.toNat && c.toNat≤122) || (65≤c.toNat && c.toNat≤90) || c.toNat==95
def cR (c:UInt8):Bool:=48≤c.toNat && c.toNat≤57
def bY:List UInt8:=[97,98,99,100,101,102,103,104,105,106,107,108,109,110,111,112,113,114,115,116,117,118,119,120,121,122,65,66,67,68,69,70,71,72,73,74,75,76,77,78,79,80,81,82,83,84,85,86,87,88,89,90,95]
def bi:List UInt8:=[48,49,50,51,52,53,54,55,56,57]
theorem gR (p q:UInt8→Bool) (h:(List.range 256).all (fun n=>p (UInt8.ofNat n)==q (UInt8.ofNat n))=true) (c:UInt8):p c=q c:=by
 have:=List.all_eq_true.1 h c.toNat (List.mem_range.2 (by have:=c.toNat_lt; omega))
 simpa using this
theorem xp (c:UInt8):bY.contains c=cM c:=gR (fun c=>bY.contains c) cM (by decide +kernel) c
theorem ye (c:UInt8):bi.contains c=cR c:=gR (fun c=>bi.contains c) cR (by decide +kernel) c
theorem nT (c:UInt8):(bY++bi).contains c=(cM c || cR c):=gR (fun c=>(bY++bi).contains c) (fun c=>cM c || cR c) (by decide +kernel) c
def cN (c:UInt8):Int:=(c.toNat:Nat)
theorem FC (c:UInt8) (h:Hp):pQ Tryz.prog 88 [.int .u8 (cN c)] h (.bool (cR c)):=by
 refine cK mixed Tryz.func88 (by kernel_rfl) (lg _) ?_;unfold iB cR cN;refine af (fun h1=>?_) (fun h1=>?_)
 ·have h1:=of_decide_eq_true h1;refine ⟨?_,rfl⟩
  congr 1
  rw [show decide (48≤c.toNat)=true from decide_eq_true (by omega),Bool.true_and];exact decide_eq_decide.2 (by omega)
 ·have h1:=of_decide_eq_false h1;refine ⟨?_,rfl⟩
  congr 1
  rw [show decide (48≤c.toNat)=false from decide_eq_false (by omega),Bool.false_and]
theorem EQ (c:UInt8):cM c=true↔(97≤cN c∧cN c≤122)∨(65≤cN c∧cN c≤90)∨cN c=95:=by
 unfold cM cN;simp only [Bool.or_eq_true,Bool.and_eq_true,decide_eq_true_eq,beq_iff_eq];omega
theorem yU (c:UInt8):cR c=true↔48≤cN c∧cN c≤57:=by
 unfold cR cN;simp only [Bool.and_eq_true,decide_eq_true_eq];omega
theorem yO (c:UInt8) (h:Hp):pQ Tryz.prog 87 [.int .u8 (cN c)] h (.bool (cM c)):=by
 refine cK mixed Tryz.func87 (by kernel_rfl) (kq _) ?_;unfold gr;have hl:=EQ c
 repeat' (refine af (fun h1=>?_) (fun h1=>?_) <;> first | replace h1:=of_decide_eq_true h1 | replace h1:=of_decide_eq_false h1)
 all_goals exact ⟨congrArg Value.bool (Bool.eq_iff_iff.2 (by simp only [hl,true_iff,beq_iff_eq]; omega)),rfl⟩
def fI (s:List UInt8):Int × Bool × Bool :=
 match s with
 | [a,b]=>if cN a=114∧48≤cN b∧cN b≤55 then (cN b-48,false,true) else if cN a=122∧48≤cN b∧cN b≤51 then (cN b-48,true,true) else (0,false,false)
 | _=>(0,false,false)
theorem BJ {s:List UInt8} (h:s.length≠2):fI s=(0,false,false):=by
 unfold fI;split
 ·simp at h
 ·rfl
theorem jF (s:ByteArray) (n:Int):bC s n=cN (s.data.toList.getD n.toNat 0):=rfl
theorem two_bytes {s:ByteArray} (h1:(s.size:Int)=2):∃ a b,s.data.toList=[a,b]:=by
 have hsz:s.data.toList.length=s.size:=by simp
 match hl:s.data.toList with
 | [a,b]=>exact ⟨a,b,rfl⟩
 | []=>rw [hl] at hsz; simp at hsz; omega
 | [a]=>rw [hl] at hsz; simp at hsz; omega
 | a::b::c::l=>rw [hl] at hsz; simp at hsz; omega
theorem nX (s:ByteArray) (h:Hp):pQ Tryz.prog 81 [.string s] h (.tuple #[.int .i64 (fI s.data.toList).1,.bool (fI s.data.toList).2.1,.bool (fI s.data.toList).2.2]):=by
 refine cK mixed Tryz.func81 (by kernel_rfl) (rp s) ?_;have hsz:s.data.toList.length=s.size:=by simp
 unfold ob;refine af (fun h1=>?_) (fun h1=>?_)
 ·have h1:(s.size:Int)≠2:=by simpa using h1
  rw [BJ (by omega)];exact ⟨rfl,rfl⟩
 ·have h1:(s.size:Int)=2:=by simpa using h1
  obtain ⟨a,b,hab⟩:=two_bytes h1;have e0:bC s 0=cN a:=by rw [jF,hab]; rfl
  have e1:bC s 1=cN b:=by rw [jF,hab]; rfl
  have hb:=b.toNat_lt;have w1:IntKind.wrap .i64 (IntKind.wrap .i64 (bC s 1)-48)=cN b-48:=by
   rw [e1,wrap_i64 (x:=cN b) (by unfold cN; omega) (by unfold cN; omega),wrap_i64 (by unfold cN; omega) (by unfold cN; omega)]
  rw [w1,e0,hab];unfold fI
  repeat' (first | refine ay ⟨by omega,by omega⟩ ?_ | (refine af (fun h1=>?_) (fun h1=>?_) <;> first | replace h1:=of_decide_eq_true h1 | replace h1:=of_decide_eq_false h1 | replace h1:=eq_of_beq h1 | replace h1:=ne_of_beq_false h1))
  all_goals
   refine ⟨?_,rfl⟩;simp only
   first
    | (exfalso; omega)
    | rw [if_pos (by omega)]
    | rw [if_neg (by omega),if_pos (by omega)]
    | rw [if_neg (by omega),if_neg (by omega)]
theorem zJ (s:ByteArray) (h:Hp):pQ Tryz.prog 89 [.string s] h (.tuple #[.int .i64 (fI s.data.toList).1,.bool (fI s.data.toList).2.1,.bool (fI s.data.toList).2.2]):=by
 refine cK mixed Tryz.func89 (by kernel_rfl) (ju s) ?_;have hsz:s.data.toList.length=s.size:=by simp
 unfold fy;refine af (fun h1=>?_) (fun h1=>?_)
 ·have h1:(s.size:Int)≠2:=by simpa using h1
  rw [BJ (by omega)];exact ⟨rfl,rfl⟩
 ·have h1:(s.size:Int)=2:=by simpa using h1
  obtain ⟨a,b,hab⟩:=two_bytes h1;have e0:bC s 0=cN a:=by rw [jF,hab]; rfl
  have e1:bC s 1=cN b:=by rw [jF,hab]; rfl
  have hb:=b.toNat_lt;have w1:IntKind.wrap .i64 (IntKind.wrap .i64 (bC s 1)-48)=cN b-48:=by
   rw [e1,wrap_i64 (x:=cN b) (by unfold cN; omega) (by unfold cN; omega),wrap_i64 (by unfold cN; omega) (by unfold cN; omega)]
  rw [w1,e0,hab];unfold fI
  repeat' (first | refine ay ⟨by omega,by omega⟩ ?_ | (refine af (fun h1=>?_) (fun h1=>?_) <;> first | replace h1:=of_decide_eq_true h1 | replace h1:=of_decide_eq_false h1 | replace h1:=eq_of_beq h1 | replace h1:=ne_of_beq_false h1))
  all_goals
   refine ⟨?_,rfl⟩;simp only
   first
    | (exfalso; omega)
    | rw [if_pos (by omega)]
    | rw [if_neg (by omega),if_pos (by omega)]
    | rw [if_neg (by omega),if_neg (by omega)]
def bd (s:List UInt8):Bool:=decide (0<s.length) && decide (s.length≤32) && cM (s.getD 0 0) && s.all (fun c=>cM c || cR c) && !(fI s).2.2
theorem nZ {s set:List UInt8} (h:0<s.length):0<aS s set↔set.contains (s.getD 0 0)=true:=pc s set 0 (Nat.zero_le _) h
theorem GY {s set:List UInt8}:aS s set=s.length↔s.all (fun c=>set.contains c)=true:=by
 unfold aS
 induction s with
 | nil=>simp
 | cons c s ih =>
  rw [List.takeWhile_cons,List.all_cons];cases hc:set.contains c with
  | true=>simp only [if_true,List.length_cons,Bool.true_and]; rw [← ih]; omega
  | false=>simp
theorem L9:(⟨#[97,98,99,100,101,102,103,104,105,106,107,108,109,110,111,112,113,114,115,116,117,118,119,120,121,122,65,66,67,68,69,70,71,72,73,74,75,76,77,78,79,80,81,82,83,84,85,86,87,88,89,90,95]⟩:ByteArray).data.toList=bY:=rfl
theorem KD:(⟨#[97,98,99,100,101,102,103,104,105,106,107,108,109,110,111,112,113,114,115,116,117,118,119,120,121,122,65,66,67,68,69,70,71,72,73,74,75,76,77,78,79,80,81,82,83,84,85,86,87,88,89,90,95,48,49,50,51,52,53,54,55,56,57]⟩:ByteArray).data.toList=bY++bi:=rfl
theorem toList_nil {s:ByteArray}:(s.toList==[])=decide (s.size=0):=by
 have:s.toList=s.data.toList:=ByteArray.toList_eq s
 rw [this];have hsz:s.data.toList.length=s.size:=by simp
 cases hl:s.data.toList with
 | nil=>rw [hl] at hsz; simp at hsz; simp [← hsz]
 | cons a l=>rw [hl] at hsz; simp at hsz; simp [← hsz]
theorem kE (s:ByteArray) (h:Hp) (hs:s.size≤9223372036854775807):pQ Tryz.prog 45 [.string s] h (.bool (bd s.data.toList)):=by
 refine cK mixed Tryz.func45 (by kernel_rfl) (vP s) ?_;have hsz:s.data.toList.length=s.size:=by simp
 unfold tZ;refine rR (nX s h) ?_;unfold bd;rw [hsz];refine af (fun h1=>?_) (fun h1=>?_)
 ·have h1:s.size≠0:=by rw [toList_nil] at h1; simpa using h1
  refine af (fun h2=>?_) (fun h2=>?_)
  ·have h2:=of_decide_eq_true h2;refine dj (lY s _ h hs) ?_;rw [L9];have hp:=nZ (set:=bY) (by omega:0<s.data.toList.length);rw [xp] at hp;refine af (fun h3=>?_) (fun h3=>?_)
   ·have h3:=of_decide_eq_true h3;refine dj (lY s _ h hs) ?_;rw [KD];have ha:=GY (s:=s.data.toList) (set:=bY++bi);have hg:(fun c=>(bY++bi).contains c)=(fun c=>cM c || cR c):=funext nT;rw [hg] at ha;rw [show decide (0<s.size)=true from decide_eq_true (by omega),show decide (s.size≤32)=true from decide_eq_true (by omega),hp.1 (by omega)];refine af (fun h4=>?_) (fun h4=>?_)
    ·have h4:=eq_of_beq h4;rw [ha.1 (by omega)];exact ⟨rfl,rfl⟩
    ·have h4:=ne_of_beq_false h4
     have:s.data.toList.all (fun c=>cM c || cR c)=false:=by
      cases hx:s.data.toList.all (fun c=>cM c || cR c) with
      | false=>rfl
      | true=>exact (h4 (by rw [ha.2 hx]; omega)).elim
     rw [this];exact ⟨rfl,rfl⟩
   ·have h3:=of_decide_eq_false h3
    have:cM (s.data.toList.getD 0 0)=false:=by
     cases hx:cM (s.data.toList.getD 0 0) with
     | false=>rfl
     | true=>have:=hp.2 hx; omega
    rw [this];exact ⟨by simp,rfl⟩
  ·have h2:=of_decide_eq_false h2;rw [show decide (s.size≤32)=false from decide_eq_false (by omega)];exact ⟨by simp,rfl⟩
 ·have h1:s.size=0:=by rw [toList_nil] at h1; simpa using h1
  rw [show decide (0<s.size)=false from decide_eq_false (by omega)];exact ⟨by simp,rfl⟩
theorem oJ (p:UInt8→Bool) (l:List UInt8) (k:Nat) (hk:k<l.length):(l.take (k+1)).all p=((l.take k).all p && p (l.getD k 0)):=by
 rw [List.take_succ_eq_append_getElem hk,List.all_append];simp [List.getD,List.getElem?_eq_getElem hk]
theorem oW (s:ByteArray) (h:Hp) (hs:s.size≤9223372036854775807):pQ Tryz.prog 48 [.string s] h (.bool (bd s.data.toList)):=by
 refine cK mixed Tryz.func48 (by kernel_rfl) (kW s) ?_;have hsz:s.data.toList.length=s.size:=by simp
 unfold gW;unfold bd;rw [hsz];refine af (fun h1=>?_) (fun h1=>?_)
 ·have h1:=of_decide_eq_true h1;rw [show decide (0<s.size)=false from decide_eq_false (by omega)];exact ⟨by simp,rfl⟩
 have h1:=of_decide_eq_false h1;refine af (fun h2=>?_) (fun h2=>?_)
 ·have h2:=of_decide_eq_true h2;rw [show decide (s.size≤32)=false from decide_eq_false (by omega)];exact ⟨by simp,rfl⟩
 have h2:=of_decide_eq_false h2;rw [show decide (0<s.size)=true from decide_eq_true (by omega),show decide (s.size≤32)=true from decide_eq_true (by omega)];refine ay ⟨by omega,by omega⟩ ?_;refine aD (yO (s.data.toList.getD 0 0) h) ?_;refine af (fun h3=>?_) (fun h3=>?_)
 ·have h3:cM (s.data.toList.getD 0 0)=false:=by simpa using h3
  rw [h3];exact ⟨by simp,rfl⟩
 have h3:cM (s.data.toList.getD 0 0)=true:=by simpa using h3
 rw [h3];refine bh (cs:=[(false,[.bool]),(false,[.int .i64])]) (fun x n h'=>h'=h∧∃ k:Nat,x.2.1=(k:Int)∧k≤s.size∧n=s.size-k∧(s.data.toList.take k).all (fun c=>cM c || cR c)=true)
  (false,(0:Int),()) s.size rfl ⟨rfl,0,rfl,by omega,by omega,by simp⟩ ?_
 rintro ⟨b,n,⟨⟩⟩ m h' ⟨rfl,k,hk,hle,rfl,hall⟩;simp only at hk;subst hk;refine af (fun hb=>?_) (fun hb=>?_)
 ·have hlt:(k:Int)<s.size:=of_decide_eq_true hb;have hst:=oJ (fun c=>cM c || cR c) s.data.toList k (by omega);rw [hall,Bool.true_and] at hst;have hfalse:∀ k':Nat,(cM (s.data.toList.getD k 0) || cR (s.data.toList.getD k 0))=false→s.data.toList.all (fun c=>cM c || cR c)=false:=by
   intro k' hf;rw [hf] at hst;cases hx:s.data.toList.all (fun c=>cM c || cR c) with
   | false=>rfl
   | true =>
    have:(s.data.toList.take (k+1)).all (fun c=>cM c || cR c)=true:=List.all_eq_true.2 fun c hc=>List.all_eq_true.1 hx c (List.mem_of_mem_take hc)
    rw [this] at hst; cases hst
  have hnext:(cM (s.data.toList.getD k 0) || cR (s.data.toList.getD k 0))=true→T.again 0 [.bool b,.int .i64 (IntKind.wrap .i64 ((k:Int)+1))] ([]++[Jl (cs:=[(false,[.bool]),(false,[.int .i64])]) (fun x n h''=>h''=h'∧∃ k:Nat,x.2.1=(k:Int)∧k≤s.size∧n=s.size-k∧(s.data.toList.take k).all (fun c=>cM c || cR c)=true) (s.size-k)]) (fun v' h''=>v'=.bool (true && true && true && s.data.toList.all (fun c=>cM c || cR c) && !(fI s.data.toList).2.2)∧h''=h') h':=by
   intro ht;rw [wrap_i64 (by omega) (by omega)];exact aI (cs:=[(false,[.bool]),(false,[.int .i64])]) (b,(k:Int)+1,()) (s.size-(k+1)) rfl (by omega) rfl ⟨rfl,k+1,(show ((k:Int)+1)=((k+1:Nat):Int) from by omega),by omega,rfl,by rw [hst,ht]⟩
  refine ay ⟨(by show (0:Int)≤(k:Int); omega),hlt⟩ ?_;refine aD (yO (s.data.toList.getD k 0) h') ?_;refine af (fun h4=>?_) (fun h4=>?_)
  ·have h4:cM (s.data.toList.getD k 0)=false:=by simpa using h4
   refine ay ⟨(by show (0:Int)≤(k:Int); omega),hlt⟩ ?_;refine aD (FC (s.data.toList.getD k 0) h') ?_;refine af (fun h5=>?_) (fun h5=>?_)
   ·have h5:cR (s.data.toList.getD k 0)=false:=by simpa using h5
    rw [hfalse 0 (by rw [h4,h5]; rfl)];exact ⟨by simp,rfl⟩
   ·have h5:cR (s.data.toList.getD k 0)=true:=by simpa using h5
    exact hnext (by rw [h5]; simp)
  ·have h4:cM (s.data.toList.getD k 0)=true:=by simpa using h4
   exact hnext (by rw [h4]; simp)
 ·have hge:¬ (k:Int)<s.size:=of_decide_eq_false hb;have hk:k=s.data.toList.length:=by omega
  rw [hk,List.take_length] at hall;rw [hall];refine rR (zJ s h') ?_;exact ⟨by simp,rfl⟩
theorem BA (s:ByteArray) (h:Hp) (hs:s.size≤2^48):HC Tryz.prog 200 #[.string s] h fun v h'=>v=.string s∧Ext h h':=by
 refine aK (args:=[.string s]) mixed Tryz.func200 (by kernel_rfl) (gb s) ?_;unfold dY;have hsz:s.data.toList.length=s.size:=by simp
 refine af (fun h1=>?_) (fun h1=>?_)
 ·have h1:=eq_of_beq h1
  have:s=⟨#[]⟩:=by
   apply ByteArray.ext;exact Array.eq_empty_of_size_eq_zero (by have:s.data.size=s.size:=rfl; omega)
  rw [this];exact ⟨rfl,Ch.refl _ _⟩
 ·have h1:=ne_of_beq_false h1;obtain ⟨i5,hi5,hz5,hs5,hb5⟩:_:=kj (P:=Tryz.prog) (t:=5) (z:=.int .u8 0) (s:=1) (b:=1) (by kernel_rfl);refine cG ?_;refine y6 (e:=5) (by kernel_rfl) hi5 hz5 (Nat.le_refl _) (by rw [hb5]; omega) (by omega) ?_;intro h1' b1 e1 z1;refine ⟨_,_,_,rfl,?_⟩;show T.bj Tryz.prog (Builtin.copy_ #[42,9] 3 #[.slice (some ⟨h.size,0,none⟩) s.size s.size,.string s]) false [(false,[.int .i64])] _ [] _ h1';refine Co (e:=5) (by kernel_rfl) hi5 b1 rfl (by simp [hs5]) ?_;intro h2 b2 c2 z2;refine ⟨(_,()),rfl,?_⟩;refine ay ⟨by omega,by omega⟩ (aj rfl ?_);have hl:jd ((List.range (s.size*i5.size)).map ((Value.int IntKind.u8 0).cells[· % (Value.int IntKind.u8 0).cells.size]!)) 0 (s.data.toList.map gB)=s.data.toList.map gB:=by
   rw [pd _ _ _ (by simp [hs5])];rw [List.take_zero,List.nil_append,List.drop_of_length_le (by simp [hs5]),List.append_nil]
  rw [hl] at b2;have hne:s.data.toList≠[]:=by
   intro hn; rw [hn] at hsz; simp at hsz; omega
  have h63:s.size≤9223372036854775807:=by omega
  rw [← hsz];refine uw (e:=5) (by kernel_rfl) (by kernel_rfl) b2 s.data.toList hne (by simp) (by omega) (fun i hi=>?_) ?_
  ·rw [b2.cell,List.getElem?_map,List.getElem?_eq_getElem hi]; rfl
  ·intro h3 f' hg3 c3 z3;refine ⟨(_,()),rfl,?_⟩;refine ⟨?_,?_⟩
   ·congr 1
   ·have hv:∀ i,i∈[h.size]→i<h.size→i∈([]:List Nat):=by
     intro i hi hlt; simp at hi; omega
    exact Ch.trans (Ch.trans e1 c2 hv) c3 hv
structure Laid (h:Hp):Prop where
 Nl:∃ v,dN h ⟨4,0,none⟩=some v∧eE v=false
 NB:∃ v,dN h ⟨5,0,none⟩=some v∧eE v=false
theorem Laid.ext {h:Hp} (l:Laid h) (e:Ext h h'):Laid h':=by
 obtain ⟨v,h1,h2⟩:=l.Nl;obtain ⟨u,h3,h4⟩:=l.NB;exact ⟨⟨v,dQ h1 e (by simp),h2⟩,⟨u,dQ h3 e (by simp),h4⟩⟩
theorem oD (fn s:ByteArray) (h:Hp) (hs:s.size≤2^48) (hl:Laid h):HC Tryz.prog 189 #[.string fn,.string s] h fun v h'=>(∃ a,v=.pointer (some a))∧Ext h h':=by
 refine aK (args:=[.string fn,.string s]) mixed Tryz.func189 (by kernel_rfl) (kt fn s) ?_;unfold gC;obtain ⟨v,hv,hva⟩:=hl.Nl;refine aE (v,()) ⟨hv,trivial⟩ ?_;refine aB (BA s h hs) ?_;rintro _ h1 ⟨rfl,e1⟩;refine ⟨(s,()),rfl,?_⟩;refine ⟨⟨⟨dQ hv e1 (by simp),trivial⟩,trivial⟩,?_⟩;refine aU hva ?_;refine aX ?_;intro h2 b2 e2 z2;exact ⟨⟨⟨dQ (dQ hv e1 (by simp)) e2 (by simp),trivial⟩,trivial⟩,⟨_,rfl⟩,e1.trans e2⟩
theorem xG (fn s:ByteArray) (h:Hp) (hs:s.size≤2^48) (hl:Laid h):HC Tryz.prog 190 #[.string fn,.string s] h fun v h'=>(∃ a,v=.pointer (some a))∧Ext h h':=by
 refine aK (args:=[.string fn,.string s]) mixed Tryz.func190 (by kernel_rfl) (lf fn s) ?_;unfold hZ;obtain ⟨v,hv,hva⟩:=hl.NB;refine aE (v,()) ⟨hv,trivial⟩ ?_;refine aB (BA s h hs) ?_;rintro _ h1 ⟨rfl,e1⟩;refine ⟨(s,()),rfl,?_⟩;refine ⟨⟨⟨dQ hv e1 (by simp),trivial⟩,trivial⟩,?_⟩;refine aU hva ?_;refine aX ?_;intro h2 b2 e2 z2;exact ⟨⟨⟨dQ (dQ hv e1 (by simp)) e2 (by simp),trivial⟩,trivial⟩,⟨_,rfl⟩,e1.trans e2⟩
theorem JY (h:Hp) (K:Value→Hp→Prop):aH Tryz.prog (bX (.eql) 29 (.tmp 11) (.tmp 13) (.iface 299 (.int .i64 2)) (.iface 299 (.int .i64 2))) h K=K (.bool true) h:=by kernel_rfl
theorem LF (h:Hp) (K:Value→Hp→Prop):aH Tryz.prog (bX (.eql) 29 (.tmp 11) (.tmp 13) (.iface 299 (.int .i64 1)) (.iface 299 (.int .i64 2))) h K=K (.bool false) h:=by kernel_rfl
theorem Mb (h:Hp) (K:Value→Hp→Prop):aH Tryz.prog (bX (.eql) 29 (.tmp 11) (.tmp 20) (.iface 299 (.int .i64 1)) (.iface 299 (.int .i64 1))) h K=K (.bool true) h:=by kernel_rfl
abbrev E9:ByteArray:=⟨#[80,97,114,115,101,85,105,110,116]⟩
theorem xo (s:ByteArray) (h:Hp) (hs:s.size≤2^48) (hl:Laid h):HC Tryz.prog 178 #[.string E9,.string s,.int .i64 10,.int .i64 32,.iface 299 (.int .i64 2)] h fun v h'=>(∃ a,v=.iface 301 (.pointer (some a)))∧Ext h h':=by
 refine aK (args:=[.string E9,.string s,.int .i64 10,.int .i64 32,.iface 299 (.int .i64 2)]) mixed Tryz.func178 (by kernel_rfl) (kn s) ?_;unfold gk;refine bR (b:=true) (fun K' hk=>by rw [JY]; exact hk) ?_;refine aT rfl (aB (oD _ s h hs hl) ?_);rintro _ h1 ⟨⟨a,rfl⟩,e1⟩;exact ⟨(some a,()),rfl,⟨a,rfl⟩,e1⟩
theorem xm (s:ByteArray) (h:Hp) (hs:s.size≤2^48) (hl:Laid h):HC Tryz.prog 178 #[.string E9,.string s,.int .i64 16,.int .i64 32,.iface 299 (.int .i64 2)] h fun v h'=>(∃ a,v=.iface 301 (.pointer (some a)))∧Ext h h':=by
 refine aK (args:=[.string E9,.string s,.int .i64 16,.int .i64 32,.iface 299 (.int .i64 2)]) mixed Tryz.func178 (by kernel_rfl) (kz s) ?_;unfold gl;refine bR (b:=true) (fun K' hk=>by rw [JY]; exact hk) ?_;refine aT rfl (aB (oD _ s h hs hl) ?_);rintro _ h1 ⟨⟨a,rfl⟩,e1⟩;exact ⟨(some a,()),rfl,⟨a,rfl⟩,e1⟩
theorem xr (s:ByteArray) (h:Hp) (hs:s.size≤2^48) (hl:Laid h):HC Tryz.prog 178 #[.string E9,.string s,.int .i64 10,.int .i64 32,.iface 299 (.int .i64 1)] h fun v h'=>(∃ a,v=.iface 301 (.pointer (some a)))∧Ext h h':=by
 refine aK (args:=[.string E9,.string s,.int .i64 10,.int .i64 32,.iface 299 (.int .i64 1)]) mixed Tryz.func178 (by kernel_rfl) (kA s) ?_;unfold gG;refine bR (b:=false) (fun K' hk=>by rw [LF]; exact hk) (aU rfl ?_);refine bR (b:=true) (fun K' hk=>by rw [Mb]; exact hk) ?_;refine aT rfl (aB (xG _ s h hs hl) ?_);rintro _ h1 ⟨⟨a,rfl⟩,e1⟩;exact ⟨(some a,()),rfl,⟨a,rfl⟩,e1⟩
def dv (c:UInt8):Nat:=if c.toNat<58 then c.toNat-48 else c.toNat-87
def cg (b:Nat) (l:List UInt8):Nat:=l.foldl (fun n c=>n*b+dv c) 0
def rN (c:UInt8):Bool:=cR c || (97≤c.toNat && c.toNat≤102)
theorem x6 (b:Nat) (l:List UInt8) (k:Nat) (hk:k<l.length):cg b (l.take (k+1))=cg b (l.take k)*b+dv (l.getD k 0):=by
 unfold cg;rw [List.take_succ_eq_append_getElem hk,List.foldl_append];simp [List.getD,List.getElem?_eq_getElem hk]
theorem Aj (b:Nat) (hb:0<b):∀ (l:List UInt8) (n:Nat),n≤l.foldl (fun n c=>n*b+dv c) n
 | [],n=>Nat.le_refl _
 | c::l,n=>by
  rw [List.foldl_cons];refine Nat.le_trans ?_ (Aj b hb l _)
  have:=Nat.mul_le_mul_left n hb
  omega
theorem sF (b:Nat) (hb:0<b) (l:List UInt8) (k:Nat):cg b (l.take k)≤cg b l:=by
 conv=>rhs; rw [← List.take_append_drop k l]
 unfold cg;rw [List.foldl_append];exact Aj b hb _ _
theorem Hc (c:UInt8) (h:Hp) (h1:97≤c.toNat) (h2:c.toNat≤122):pQ Tryz.prog 187 [.int .u8 (cN c)] h (.int .u8 (cN c)):=by
 refine cK mixed Tryz.func187 (by kernel_rfl) (iZ _) ?_;refine ⟨?_,rfl⟩
 congr 1
 have:=gR (fun c=>!(decide (97≤c.toNat) && decide (c.toNat≤122)) || decide (IntKind.wrap .u8 ((BitVec.toNat ((BitVec.ofInt 8 (cN c)) ||| (BitVec.ofInt 8 (32:Int)))):Int)=cN c)) (fun _=>true) (by decide +kernel) c
 simp only [h1,h2,decide_true,Bool.and_self,Bool.not_true,Bool.false_or,decide_eq_true_eq] at this;exact this
def xu (b:Nat) (l:List UInt8):Nat × Value:=if l=[] then (0,.iface 299 (.int .i64 2)) else if cg b l<4294967296 then (cg b l,.nilIface) else (4294967295,.iface 299 (.int .i64 1))
theorem u7 (s:ByteArray):s.data.toList=[]↔s.size=0:=by
 have hsz:s.data.toList.length=s.size:=by simp
 constructor
 ·intro h; rw [h] at hsz; simpa using hsz.symm
 ·intro h; exact List.eq_nil_of_length_eq_zero (by omega)
theorem F4 (s:ByteArray) (h:Hp) (hs:s.size≤2^48) (hd:∀ i,i<s.size→cR (s.data.toList.getD i 0)=true) :
  HC Tryz.prog 177 #[.string s,.int .i64 10,.int .i64 32] h fun v h'=>v=.tuple #[.int .u64 (xu 10 s.data.toList).1,(xu 10 s.data.toList).2]∧Ext h h':=by
 refine aK (args:=[.string s,.int .i64 10,.int .i64 32]) mixed Tryz.func177 (by kernel_rfl) (eY s) ?_;unfold dw xu;have hsz:s.data.toList.length=s.size:=by simp
 refine af (fun h1=>?_) (fun h1=>?_)
 ·have h1:s.data.toList=[]:=by rw [toList_nil] at h1; rw [u7]; simpa using h1
  rw [if_pos h1];exact ⟨rfl,Ch.refl _ _⟩
 have h1:s.data.toList≠[]:=by rw [toList_nil] at h1; rw [ne_eq,u7]; simpa using h1
 rw [if_neg h1];refine ay (by omega) (cG ?_);refine vp (e:=5) (by kernel_rfl) (by kernel_rfl) (by kernel_rfl) s ?_;intro cap h1' hcap e1 hcell1;refine ⟨_,_,_,rfl,?_⟩;refine bh (cs:=[(false,[.int .u64]),(false,[.invalid]),(false,[.bool]),(false,[.int .u64]),(false,[.int .i64])])
  (fun x n h'=>h'=h1'∧x.2.2.1=false∧∃ k:Nat,x.2.2.2.2.1=(k:Int)∧x.2.2.2.1=(cg 10 (s.data.toList.take k):Int)∧k≤s.size∧n=s.size-k∧cg 10 (s.data.toList.take k)<4294967296)
  ((0:Int),Value.nilIface,false,(0:Int),(0:Int),()) s.size rfl ⟨rfl,rfl,0,rfl,rfl,by omega,by omega,by simp [cg]⟩ ?_
 rintro ⟨n4,v5,b6,n7,n8,⟨⟩⟩ m h' ⟨rfl,hb6,k,hk,hn7,hle,rfl,hv⟩;simp only at hb6 hk hn7;subst hb6 hk hn7;refine af (fun hb=>?_) (fun hb=>?_)
 ·have hlt:(k:Int)<s.size:=of_decide_eq_true hb;have hkl:k<s.size:=by omega
  refine ay ⟨(by show (0:Int)≤(k:Int); omega),hlt⟩ (aj rfl ?_);have hc:=hcell1 k hkl;have hdk:=(yU _).1 (hd k hkl);refine aE (cN (s.data.toList.getD k 0),()) ⟨?_,trivial⟩ ?_
  ·rw [ao,ao];rw [show 0+Int.toNat (k:Int)*1+0=k by omega];exact hc
  have hst:=x6 10 s.data.toList k (by omega);have hdv:(dv (s.data.toList.getD k 0):Int)=cN (s.data.toList.getD k 0)-48:=by
   unfold dv cN at *;rw [if_pos (by omega)]; omega
  generalize cN (s.data.toList.getD k 0)=c at hdk hdv ⊢;generalize dv (s.data.toList.getD k 0)=d at hst hdv;have hw1:IntKind.wrap .u8 (c-48)=d:=by rw [wrap_u8 (by omega) (by omega)]; omega
  have hw2:IntKind.wrap .u64 (d:Int)=d:=wrap_u64 (by omega) (by omega);have hw3:IntKind.wrap .u64 ((cg 10 (s.data.toList.take k):Int)*10)=(cg 10 (s.data.toList.take k):Int)*10:=wrap_u64 (by omega) (by omega);have hw4:IntKind.wrap .u64 ((cg 10 (s.data.toList.take k):Int)*10+d)=(cg 10 (s.data.toList.take (k+1)):Int):=by rw [wrap_u64 (by omega) (by omega),hst]; omega
  refine aU (show (c==95)=false from by simp; omega) ?_;refine aT (show decide (48≤c)=true from decide_eq_true (by omega)) (aT (show decide (c≤57)=true from decide_eq_true (by omega)) ?_);rw [hw1,hw2];refine aU (show decide ((d:Int)≥10)=false from decide_eq_false (by omega)) ?_;refine aU (show decide ((cg 10 (s.data.toList.take k):Int)≥1844674407370955162)=false from decide_eq_false (by omega)) ?_;rw [hw3,hw4];refine aU (decide_eq_false (by omega)) ?_;have hmono:=sF 10 (by omega) s.data.toList (k+1);refine af (fun h5=>?_) (fun h5=>?_)
  ·have h5:=of_decide_eq_true h5;rw [if_neg (by omega)];exact ⟨rfl,e1⟩
  ·have h5:=of_decide_eq_false h5;have hw5:IntKind.wrap .i64 ((k:Int)+1)=(k:Int)+1:=wrap_i64 (by omega) (by omega);exact aI (cs:=[(false,[.int .u64]),(false,[.invalid]),(false,[.bool]),(false,[.int .u64]),(false,[.int .i64])]) (n4,v5,false,(cg 10 (s.data.toList.take (k+1)):Int),(k:Int)+1,()) (s.size-(k+1)) rfl (by omega) (congrArg (fun z=>[Value.int .u64 n4,v5,.bool false,.int .u64 (cg 10 (s.data.toList.take (k+1)):Int),.int .i64 z]) hw5)
    ⟨rfl,rfl,k+1,(show ((k:Int)+1)=((k+1:Nat):Int) from by omega),rfl,by omega,rfl,by omega⟩
 ·have hge:¬ (k:Int)<s.size:=of_decide_eq_false hb;have hk:k=s.data.toList.length:=by omega
  rw [hk,List.take_length] at hv;refine aU rfl ?_;rw [if_pos hv];refine ⟨?_,e1⟩;show Value.tuple #[.int .u64 (cg 10 (s.data.toList.take k):Int),.nilIface]=_;rw [hk,List.take_length]
theorem yc (c:UInt8):rN c=true↔(48≤cN c∧cN c≤57)∨(97≤cN c∧cN c≤102):=by
 unfold rN;rw [Bool.or_eq_true,yU];unfold cN;simp only [Bool.and_eq_true,decide_eq_true_eq];omega
theorem Cz (c:UInt8) (h:rN c=true):(cN c≤57→(dv c:Int)=cN c-48)∧(57<cN c→(dv c:Int)=cN c-87)∧dv c<16:=by
 have:=(yc c).1 h
 unfold dv cN at *;split <;> omega
theorem Hh (s:ByteArray) (h:Hp) (hs:s.size≤2^48) (hd:∀ i,i<s.size→rN (s.data.toList.getD i 0)=true) :
  HC Tryz.prog 177 #[.string s,.int .i64 16,.int .i64 32] h fun v h'=>v=.tuple #[.int .u64 (xu 16 s.data.toList).1,(xu 16 s.data.toList).2]∧Ext h h':=by
 refine aK (args:=[.string s,.int .i64 16,.int .i64 32]) mixed Tryz.func177 (by kernel_rfl) (fb s) ?_;unfold dz xu;have hsz:s.data.toList.length=s.size:=by simp
 refine af (fun h1=>?_) (fun h1=>?_)
 ·have h1:s.data.toList=[]:=by rw [toList_nil] at h1; rw [u7]; simpa using h1
  rw [if_pos h1];exact ⟨rfl,Ch.refl _ _⟩
 have h1:s.data.toList≠[]:=by rw [toList_nil] at h1; rw [ne_eq,u7]; simpa using h1
 rw [if_neg h1];refine ay (by omega) (cG ?_);refine vp (e:=5) (by kernel_rfl) (by kernel_rfl) (by kernel_rfl) s ?_;intro cap h1' hcap e1 hcell1;refine ⟨_,_,_,rfl,?_⟩;refine bh (cs:=[(false,[.int .u64]),(false,[.invalid]),(false,[.bool]),(false,[.int .u64]),(false,[.int .i64])])
  (fun x n h'=>h'=h1'∧x.2.2.1=false∧∃ k:Nat,x.2.2.2.2.1=(k:Int)∧x.2.2.2.1=(cg 16 (s.data.toList.take k):Int)∧k≤s.size∧n=s.size-k∧cg 16 (s.data.toList.take k)<4294967296)
  ((0:Int),Value.nilIface,false,(0:Int),(0:Int),()) s.size rfl ⟨rfl,rfl,0,rfl,rfl,by omega,by omega,by simp [cg]⟩ ?_
 rintro ⟨n4,v5,b6,n7,n8,⟨⟩⟩ m h' ⟨rfl,hb6,k,hk,hn7,hle,rfl,hv⟩;simp only at hb6 hk hn7;subst hb6 hk hn7;refine af (fun hb=>?_) (fun hb=>?_)
 ·have hlt:(k:Int)<s.size:=of_decide_eq_true hb;have hkl:k<s.size:=by omega
  refine ay ⟨(by show (0:Int)≤(k:Int); omega),hlt⟩ (aj rfl ?_);have hc:=hcell1 k hkl;have hdk:=(yc _).1 (hd k hkl);refine aE (cN (s.data.toList.getD k 0),()) ⟨?_,trivial⟩ ?_
  ·rw [ao,ao];rw [show 0+Int.toNat (k:Int)*1+0=k by omega];exact hc
  have hst:=x6 16 s.data.toList k (by omega);have hdv:=Cz _ (hd k hkl);have hlo:=fun hh=>Hc (s.data.toList.getD k 0) h' hh
  have hcn:((s.data.toList.getD k 0).toNat:Int)=cN (s.data.toList.getD k 0):=rfl;generalize (s.data.toList.getD k 0).toNat=cn at hlo hcn;generalize cN (s.data.toList.getD k 0)=c at hdk hdv hlo hcn ⊢;generalize dv (s.data.toList.getD k 0)=d at hst hdv;have hw2:IntKind.wrap .u64 (d:Int)=d:=wrap_u64 (by omega) (by omega);have hw3:IntKind.wrap .u64 ((cg 16 (s.data.toList.take k):Int)*16)=(cg 16 (s.data.toList.take k):Int)*16:=wrap_u64 (by omega) (by omega);have hw4:IntKind.wrap .u64 ((cg 16 (s.data.toList.take k):Int)*16+d)=(cg 16 (s.data.toList.take (k+1)):Int):=by rw [wrap_u64 (by omega) (by omega),hst]; omega
  have hw5:IntKind.wrap .i64 ((k:Int)+1)=(k:Int)+1:=wrap_i64 (by omega) (by omega);have hmono:=sF 16 (by omega) s.data.toList (k+1);refine aU (show (c==95)=false from by simp; omega) ?_;refine aT (show decide (48≤c)=true from decide_eq_true (by omega)) ?_;refine af (fun h9=>?_) (fun h9=>?_)
  ·have h9:c≤57:=of_decide_eq_true h9;have hw1:IntKind.wrap .u8 (c-48)=d:=by rw [wrap_u8 (by omega) (by omega)]; omega
   rw [hw1,hw2];refine aU (show decide ((d:Int)≥16)=false from decide_eq_false (by omega)) ?_;refine aU (show decide ((cg 16 (s.data.toList.take k):Int)≥1152921504606846976)=false from decide_eq_false (by omega)) ?_;rw [hw3,hw4];refine aU (decide_eq_false (by omega)) ?_;refine af (fun h5=>?_) (fun h5=>?_)
   ·have h5:=of_decide_eq_true h5;rw [if_neg (by omega)];exact ⟨rfl,e1⟩
   ·have h5:=of_decide_eq_false h5;exact aI (cs:=[(false,[.int .u64]),(false,[.invalid]),(false,[.bool]),(false,[.int .u64]),(false,[.int .i64])]) (n4,v5,false,(cg 16 (s.data.toList.take (k+1)):Int),(k:Int)+1,()) (s.size-(k+1)) rfl (by omega) (congrArg (fun z=>[Value.int .u64 n4,v5,.bool false,.int .u64 (cg 16 (s.data.toList.take (k+1)):Int),.int .i64 z]) hw5)
     ⟨rfl,rfl,k+1,(show ((k:Int)+1)=((k+1:Nat):Int) from by omega),rfl,by omega,rfl,by omega⟩
  ·have h9:¬ c≤57:=of_decide_eq_false h9;have hlo:=hlo (by omega) (by omega);refine dj hlo ?_;refine aT (show decide (97≤c)=true from decide_eq_true (by omega)) ?_;refine dj hlo ?_;refine aT (show decide (c≤122)=true from decide_eq_true (by omega)) ?_;refine dj hlo ?_;have hw0:IntKind.wrap .u8 (c-97)=c-97:=wrap_u8 (by omega) (by omega);have hw1:IntKind.wrap .u8 (c-97+10)=d:=by rw [wrap_u8 (by omega) (by omega)]; omega
   rw [hw0,hw1,hw2];refine aU (show decide ((d:Int)≥16)=false from decide_eq_false (by omega)) ?_;refine aU (show decide ((cg 16 (s.data.toList.take k):Int)≥1152921504606846976)=false from decide_eq_false (by omega)) ?_;rw [hw3,hw4];refine aU (decide_eq_false (by omega)) ?_;refine af (fun h5=>?_) (fun h5=>?_)
   ·have h5:=of_decide_eq_true h5;rw [if_neg (by omega)];exact ⟨rfl,e1⟩
   ·have h5:=of_decide_eq_false h5;exact aI (cs:=[(false,[.int .u64]),(false,[.invalid]),(false,[.bool]),(false,[.int .u64]),(false,[.int .i64])]) (n4,v5,false,(cg 16 (s.data.toList.take (k+1)):Int),(k:Int)+1,()) (s.size-(k+1)) rfl (by omega) (congrArg (fun z=>[Value.int .u64 n4,v5,.bool false,.int .u64 (cg 16 (s.data.toList.take (k+1)):Int),.int .i64 z]) hw5)
     ⟨rfl,rfl,k+1,(show ((k:Int)+1)=((k+1:Nat):Int) from by omega),rfl,by omega,rfl,by omega⟩
 ·have hge:¬ (k:Int)<s.size:=of_decide_eq_false hb;have hk:k=s.data.toList.length:=by omega
  rw [hk,List.take_length] at hv;refine aU rfl ?_;rw [if_pos hv];refine ⟨?_,e1⟩;show Value.tuple #[.int .u64 (cg 16 (s.data.toList.take k):Int),.nilIface]=_;rw [hk,List.take_length]
theorem LO (h:Hp) (K:Value→Hp→Prop):aH Tryz.prog (bX (.neq) 29 (.tmp 17) (.const .nilIface) .nilIface .nilIface) h K=K (.bool false) h:=by kernel_rfl
theorem K8 (h:Hp) (K:Value→Hp→Prop):aH Tryz.prog (bX (.neq) 29 (.tmp 17) (.const .nilIface) (.iface 299 (.int .i64 1)) .nilIface) h K=K (.bool true) h:=by kernel_rfl
theorem JJ (h:Hp) (K:Value→Hp→Prop):aH Tryz.prog (bX (.neq) 29 (.tmp 17) (.const .nilIface) (.iface 299 (.int .i64 2)) .nilIface) h K=K (.bool true) h:=by kernel_rfl
theorem LG (h:Hp) (K:Value→Hp→Prop):aH Tryz.prog (bX (.neq) 29 (.tmp 37) (.const .nilIface) .nilIface .nilIface) h K=K (.bool false) h:=by kernel_rfl
theorem JH (a:Addr) (h:Hp) (K:Value→Hp→Prop):aH Tryz.prog (bX (.neq) 29 (.tmp 37) (.const .nilIface) (.iface 301 (.pointer (some a))) .nilIface) h K=K (.bool true) h:=by kernel_rfl
def okB (b:Nat) (l:List UInt8):Prop:=l≠[]∧cg b l<4294967296
def He (b:Nat) (l:List UInt8) (h:Hp) (v:Value) (h':Hp):Prop :=
 ((okB b l∧v=.tuple #[.int .u64 (cg b l),.nilIface])∨(¬ okB b l∧∃ n a,v=.tuple #[.int .u64 n,.iface 301 (.pointer (some a))]))∧Ext h h'
theorem vt (s:ByteArray) (h:Hp) (hs:s.size≤2^48) (hl:Laid h) (hd:∀ i,i<s.size→cR (s.data.toList.getD i 0)=true) :
  HC Tryz.prog 150 #[.string s,.int .i64 10,.int .i64 32] h (He 10 s.data.toList h):=by
 refine aK (args:=[.string s,.int .i64 10,.int .i64 32]) mixed Tryz.func150 (by kernel_rfl) (jm s) ?_;unfold fx;refine aB (F4 s h hs hd) ?_;rintro _ h1 ⟨rfl,e1⟩;refine ⟨(((xu 10 s.data.toList).1:Int),(xu 10 s.data.toList).2,()),rfl,?_⟩;show T.bj Tryz.prog (bX (.neq) 29 (.tmp 17) (.const .nilIface) (xu 10 s.data.toList).2 .nilIface) false [(false,[.bool])] _ _ _ _
 by_cases h0:s.data.toList=[]
 ·have hr:xu 10 s.data.toList=(0,.iface 299 (.int .i64 2)):=by unfold xu; rw [if_pos h0]
  have hno:¬ okB 10 s.data.toList:=fun ho=>ho.1 h0
  rw [hr];refine bR (b:=true) (fun K' hk=>by rw [JJ]; exact hk) (aT rfl ?_);refine aB (xo s h1 hs (hl.ext e1)) ?_;rintro _ h2 ⟨⟨a,rfl⟩,e2⟩;exact ⟨(.iface 301 (.pointer (some a)),()),rfl,.inr ⟨hno,_,a,rfl⟩,e1.trans e2⟩
 ·by_cases hv:cg 10 s.data.toList<4294967296
  ·have hr:xu 10 s.data.toList=(cg 10 s.data.toList,.nilIface):=by unfold xu; rw [if_neg h0,if_pos hv]
   rw [hr];refine bR (b:=false) (fun K' hk=>by rw [LO]; exact hk) (aU rfl ?_);exact ⟨.inl ⟨⟨h0,hv⟩,rfl⟩,e1⟩
  ·have hr:xu 10 s.data.toList=(4294967295,.iface 299 (.int .i64 1)):=by unfold xu; rw [if_neg h0,if_neg hv]
   have hno:¬ okB 10 s.data.toList:=fun ho=>hv ho.2
   rw [hr];refine bR (b:=true) (fun K' hk=>by rw [K8]; exact hk) (aT rfl ?_);refine aB (xr s h1 hs (hl.ext e1)) ?_;rintro _ h2 ⟨⟨a,rfl⟩,e2⟩;exact ⟨(.iface 301 (.pointer (some a)),()),rfl,.inr ⟨hno,_,a,rfl⟩,e1.trans e2⟩
theorem mu:∀ (l:List UInt8) (n:Nat),(∀ c∈l,dv c<16)→l.foldl (fun n c=>n*16+dv c) n<(n+1)*16^l.length
 | [],n,_=>by simp
 | c::l,n,hd=>by
  rw [List.foldl_cons,List.length_cons,Nat.pow_succ];have h1:=mu l (n*16+dv c) (fun x hx=>hd x (by simp [hx]));have h2:=hd c (by simp);have h3:(n*16+dv c+1)*16^l.length≤((n+1)*16)*16^l.length:=Nat.mul_le_mul_right _ (by omega);have h4:((n+1)*16)*16^l.length=(n+1)*(16^l.length*16):=by rw [Nat.mul_assoc,Nat.mul_comm 16]
  omega
theorem vN (s:ByteArray) (h:Hp) (hs:s.size≤8) (hl:Laid h) (hd:∀ i,i<s.size→rN (s.data.toList.getD i 0)=true) :
  HC Tryz.prog 150 #[.string s,.int .i64 16,.int .i64 32] h (He 16 s.data.toList h):=by
 refine aK (args:=[.string s,.int .i64 16,.int .i64 32]) mixed Tryz.func150 (by kernel_rfl) (jk s) ?_;unfold fA;have hsz:s.data.toList.length=s.size:=by simp
 have hv:cg 16 s.data.toList<4294967296:=by
  have h1:=mu s.data.toList 0 (fun c hc=>by
   obtain ⟨i,hi,rfl⟩:=List.getElem_of_mem hc
   have:=hd i (by omega)
   simp only [List.getD,List.getElem?_eq_getElem hi,Option.getD_some] at this;exact (Cz _ this).2.2)
  have h2:16^s.data.toList.length≤16^8:=Nat.pow_le_pow_right (by omega) (by omega);have h3:(16:Nat)^8=4294967296:=rfl;unfold cg;omega
 refine aB (Hh s h (by omega) hd) ?_;rintro _ h1 ⟨rfl,e1⟩;refine ⟨(((xu 16 s.data.toList).1:Int),(xu 16 s.data.toList).2,()),rfl,?_⟩;show T.bj Tryz.prog (bX (.neq) 29 (.tmp 17) (.const .nilIface) (xu 16 s.data.toList).2 .nilIface) false [(false,[.bool])] _ _ _ _
 by_cases h0:s.data.toList=[]
 ·have hr:xu 16 s.data.toList=(0,.iface 299 (.int .i64 2)):=by unfold xu; rw [if_pos h0]
  have hno:¬ okB 16 s.data.toList:=fun ho=>ho.1 h0
  rw [hr];refine bR (b:=true) (fun K' hk=>by rw [JJ]; exact hk) (aT rfl ?_);refine aB (xm s h1 (by omega) (hl.ext e1)) ?_;rintro _ h2 ⟨⟨a,rfl⟩,e2⟩;exact ⟨(.iface 301 (.pointer (some a)),()),rfl,.inr ⟨hno,_,a,rfl⟩,e1.trans e2⟩
 ·have hr:xu 16 s.data.toList=(cg 16 s.data.toList,.nilIface):=by unfold xu; rw [if_neg h0,if_pos hv]
  rw [hr];refine bR (b:=false) (fun K' hk=>by rw [LO]; exact hk) (aU rfl ?_);exact ⟨.inl ⟨⟨h0,hv⟩,rfl⟩,e1⟩
theorem gY (s:ByteArray) (i j:Nat):(s.extract i j).data.toList=(s.data.toList.drop i).take (j-i):=by
 rw [ByteArray.data_extract,Array.toList_extract,List.extract_eq_take_drop]
theorem fh (s:ByteArray) (i j:Nat):(s.extract i j).size=min j s.size-i:=by simp
theorem Jq (a b:List UInt8):(a==b)=decide (a=b):=by
 by_cases h:a=b <;> simp [h]
theorem Al {l:List UInt8} (hl:l.length≤8) (hd:∀ i,i<l.length→rN (l.getD i 0)=true):cg 16 l<4294967296:=by
 have h1:=mu l 0 (fun c hc=>by
  obtain ⟨i,hi,rfl⟩:=List.getElem_of_mem hc
  have:=hd i hi
  simp only [List.getD,List.getElem?_eq_getElem hi,Option.getD_some] at this;exact (Cz _ this).2.2)
 have h2:16^l.length≤16^8:=Nat.pow_le_pow_right (by omega) (by omega);have h3:(16:Nat)^8=4294967296:=rfl;unfold cg;omega
theorem getD_take {l:List UInt8} {n i:Nat} (hi:i<n):(l.take n).getD i 0=l.getD i 0:=by
 rw [List.getD_eq_getElem?_getD,List.getElem?_take,if_pos hi,← List.getD_eq_getElem?_getD]
theorem xL (s t:ByteArray) (h:Hp):pQ Tryz.prog 176 [.string s,.string t] h (.bool (decide (s.data.toList.take t.size=t.data.toList))):=by
 refine cK mixed Tryz.func176 (by kernel_rfl) (ff s t) ?_;unfold dC;have hsz:s.data.toList.length=s.size:=by simp
 have htz:t.data.toList.length=t.size:=by simp
 refine af (fun h1=>?_) (fun h1=>?_)
 ·have h1:=of_decide_eq_true h1;refine ay ⟨by omega,by omega,by omega⟩ ⟨?_,rfl⟩
  congr 1
  rw [ByteArray.toList_eq,ByteArray.toList_eq,gY,Jq,List.drop_zero,show Int.toNat (t.size:Int)-0=t.size by omega]
 ·have h1:=of_decide_eq_false h1;refine ⟨?_,rfl⟩
  congr 1
  symm
  refine decide_eq_false fun he=>?_
  have:=congrArg List.length he
  rw [List.length_take] at this;omega
theorem zO (s t:ByteArray) (h:Hp):pQ Tryz.prog 149 [.string s,.string t] h (.bool (decide (s.data.toList.take t.size=t.data.toList))):=by
 refine cK mixed Tryz.func149 (by kernel_rfl) (lU s t) ?_;exact aD (xL s t h) ⟨rfl,rfl⟩
def di:List UInt8:=[48,49,50,51,52,53,54,55,56,57,97,98,99,100,101,102]
theorem wN (c:UInt8):di.contains c=rN c:=gR (fun c=>di.contains c) rN (by decide +kernel) c
def eh (l:List UInt8):Nat × Nat :=
 if l.take 2=[48,120] then
  (if 8<aS (l.drop 2) di∨aS (l.drop 2) di=0 then (0,0) else (2+aS (l.drop 2) di,cg 16 ((l.drop 2).take (aS (l.drop 2) di))))
 else
  (if (1<aS l bi∧l.getD 0 0=48)∨aS l bi=0∨4294967296≤cg 10 (l.take (aS l bi)) then (0,0) else (aS l bi,cg 10 (l.take (aS l bi))))
theorem rX {s set:List UInt8} {i:Nat} (hi:i<aS s set):set.contains (s.getD i 0)=true:=by
 have hle:=dB s set;exact (pc s set i (by omega) (by omega)).1 hi
theorem ph (s:ByteArray) (h:Hp) (hs:s.size≤2^48) (hl:Laid h) :
  HC Tryz.prog 123 #[.string s] h fun v h'=>v=.tuple #[.int .i64 (eh s.data.toList).1,.int .u32 (eh s.data.toList).2]∧Ext h h':=by
 refine aK (args:=[.string s]) mixed Tryz.func123 (by kernel_rfl) (uq s) ?_;unfold sA eh;have hsz:s.data.toList.length=s.size:=by simp
 have gd:(⟨#[48,49,50,51,52,53,54,55,56,57]⟩:ByteArray).data.toList=bi:=rfl;have gh:(⟨#[48,49,50,51,52,53,54,55,56,57,97,98,99,100,101,102]⟩:ByteArray).data.toList=di:=rfl;have gp:(⟨#[48,120]⟩:ByteArray).data.toList=[48,120]:=rfl;refine dj (lY s _ h (by omega)) ?_;rw [gd];have hr:=dB s.data.toList bi;generalize hn:aS s.data.toList bi=n at hr ⊢;refine aD (zO s _ h) ?_;rw [gp];refine af (fun h1=>?_) (fun h1=>?_)
 ·have h1:s.data.toList.take 2=[48,120]:=of_decide_eq_true h1;rw [if_pos h1];have h2:2≤s.size:=by
   have:=congrArg List.length h1
   rw [List.length_take] at this;simp at this; omega
  refine ay ⟨by omega,by omega,by omega⟩ ?_;have he:(s.extract 2 (Int.toNat (s.size:Int))).data.toList=s.data.toList.drop 2:=by
   rw [gY];exact List.take_of_length_le (by simp)
  refine dj (lY _ _ h (by rw [fh]; omega)) ?_;rw [gh,he];have hr2:=dB (s.data.toList.drop 2) di;have hg2:=fun i=>@rX (s.data.toList.drop 2) di i
  rw [List.length_drop] at hr2;generalize aS (s.data.toList.drop 2) di=m at hr2 hg2 ⊢;refine af (fun h3=>?_) (fun h3=>?_)
  ·have h3:=of_decide_eq_true h3;rw [if_pos (.inl (by omega))];exact ⟨rfl,Ch.refl _ _⟩
  ·have h3:=of_decide_eq_false h3;have hw:IntKind.wrap .i64 (2+(m:Int))=2+(m:Int):=wrap_i64 (by omega) (by omega);rw [hw];refine ay ⟨by omega,by omega,by omega⟩ ?_;have ht:Int.toNat (2+(m:Int))=2+m:=by omega
   rw [ht];have he2:(s.extract 2 (2+m)).data.toList=(s.data.toList.drop 2).take m:=by
    rw [gY,show 2+m-2=m by omega]
   have hsm:(s.extract 2 (2+m)).size=m:=by rw [fh]; omega
   refine aB (vN _ h (by omega) hl (fun i hi=>?_)) ?_
   ·rw [hsm] at hi
    have:=hg2 i hi
    rw [wN] at this;rw [he2];rw [getD_take hi];exact this
   ·rintro v h' ⟨hv,e1⟩;rw [he2] at hv;rcases hv with ⟨ho,rfl⟩ | ⟨hno,nn,a,rfl⟩
    ·have hm0:m≠0:=fun hm=>ho.1 (by rw [hm]; rfl)
     refine ⟨((cg 16 ((s.data.toList.drop 2).take m):Int),.nilIface,()),rfl,?_⟩;refine bR (b:=false) (fun K' hk=>by rw [LG]; exact hk) (aU rfl ?_);rw [if_neg (by omega)]
     have:=ho.2
     refine ⟨?_,e1⟩;rw [show IntKind.wrap .u32 (cg 16 ((s.data.toList.drop 2).take m):Int)=(cg 16 ((s.data.toList.drop 2).take m):Int) from wrap_u32 (by omega) (by omega)]
     simp
    ·refine ⟨(nn,.iface 301 (.pointer (some a)),()),rfl,?_⟩;refine bR (b:=true) (fun K' hk=>by rw [JH]; exact hk) (aT rfl ?_);have hm0:m=0:=by
      rcases Nat.eq_zero_or_pos m with hm | hm
      ·exact hm
      ·refine (hno ⟨fun hh=>?_,?_⟩).elim
       ·have:=congrArg List.length hh
        rw [List.length_take,List.length_drop] at this;simp at this; omega
       ·refine Al (by rw [List.length_take]; omega) (fun i hi=>?_);rw [List.length_take] at hi;rw [getD_take (by omega),← wN];exact hg2 i (by omega)
     rw [if_pos (.inr hm0)];exact ⟨rfl,e1⟩
 ·have h1:¬ s.data.toList.take 2=[48,120]:=of_decide_eq_false h1;rw [if_neg h1];have hg:=fun i=>@rX s.data.toList bi i
  rw [hn] at hg;have hw:IntKind.wrap .i64 (0+(n:Int))=(n:Int):=by rw [Int.zero_add]; exact wrap_i64 (by omega) (by omega)
  have he2:(s.extract 0 n).data.toList=s.data.toList.take n:=by rw [gY,List.drop_zero,Nat.sub_zero]
  have hsm:(s.extract 0 n).size=n:=by rw [fh]; omega
  have hp:=vt (s.extract 0 n) h (by omega) hl (fun i hi=>by
   rw [hsm] at hi;rw [he2,getD_take hi,← ye];exact hg i hi)
  have main:¬ (1<n∧s.data.toList.getD 0 0=48)→T.aJ (((0:Int)≤(0:Int))∧(((0:Int)≤(IntKind.wrap .i64 ((0:Int)+n)))∧((IntKind.wrap .i64 ((0:Int)+n))≤(s.size:Int)))) (
    T.call Tryz.prog 150 [.string (ByteArray.extract s 0 (Int.toNat (IntKind.wrap .i64 ((0 : Int) + n)))), .int .i64 (10 : Int), .int .i64 (32 : Int)] true [(false, [.int .u64]), (false, [.interface #[("Error", 85)]])] <| fun (n3 : Int) (v4 : Value) =>
    T.bj Tryz.prog (Sx.bX (BinOp.neq) 29 (Operand.tmp 37) (Operand.const Value.nilIface) v4 .nilIface) false [(false,[.bool])] <| fun (b5:Bool) =>
    cond b5
     (T.ret (.tuple #[.int .i64 (0:Int),.int .u32 (0:Int)]))
     (T.ret (.tuple #[.int .i64 (IntKind.wrap .i64 ((0:Int)+n)),.int .u32 (IntKind.wrap .u32 n3)]))) []
    (fun v h'=>v=.tuple #[.int .i64 ((if (1<n∧s.data.toList.getD 0 0=48)∨n=0∨4294967296≤cg 10 (s.data.toList.take n) then (0,0) else (n,cg 10 (s.data.toList.take n)):Nat × Nat).1:Int),.int .u32 ((if (1<n∧s.data.toList.getD 0 0=48)∨n=0∨4294967296≤cg 10 (s.data.toList.take n) then (0,0) else (n,cg 10 (s.data.toList.take n)):Nat × Nat).2:Int)]∧Ext h h') h:=by
   intro hz;rw [hw];refine ay ⟨by omega,by omega,by omega⟩ ?_;rw [show Int.toNat (n:Int)=n by omega];refine aB hp ?_;rintro v h' ⟨hv,e1⟩;rw [he2] at hv;have hnil:s.data.toList.take n=[]↔n=0:=by
    constructor
    ·intro hh
     have:=congrArg List.length hh
     rw [List.length_take,Nat.min_eq_left (by omega)] at this;exact this
    ·intro hh; rw [hh]; rfl
   rcases hv with ⟨ho,rfl⟩ | ⟨hno,nn,a,rfl⟩
   ·have h5:n≠0:=fun hh=>ho.1 (hnil.2 hh)
    have h6:=ho.2;refine ⟨((cg 10 (s.data.toList.take n):Int),.nilIface,()),rfl,?_⟩;refine bR (b:=false) (fun K' hk=>by rw [LG]; exact hk) (aU rfl ?_);rw [if_neg (by intro hh; rcases hh with hh | hh | hh <;> first | exact hz hh | omega)];refine ⟨?_,e1⟩;rw [show IntKind.wrap .u32 (cg 10 (s.data.toList.take n):Int)=(cg 10 (s.data.toList.take n):Int) from wrap_u32 (by omega) (by omega)]
   ·refine ⟨(nn,.iface 301 (.pointer (some a)),()),rfl,?_⟩;refine bR (b:=true) (fun K' hk=>by rw [JH]; exact hk) (aT rfl ?_);have h7:n=0∨4294967296≤cg 10 (s.data.toList.take n):=by
     by_cases h8:n=0
     ·exact .inl h8
     ·refine .inr ?_;rcases Nat.lt_or_ge (cg 10 (s.data.toList.take n)) 4294967296 with h9 | h9
      ·exact (hno ⟨fun hh=>h8 (hnil.1 hh),h9⟩).elim
      ·exact h9
    rw [if_pos (.inr h7)];exact ⟨rfl,e1⟩
  refine af (fun h3=>?_) (fun h3=>?_)
  ·have h3:=of_decide_eq_true h3;refine ay ⟨by omega,by omega⟩ ?_;have e0:bC s 0=cN (s.data.toList.getD 0 0):=jF s 0;rw [e0];refine af (fun h4=>?_) (fun h4=>?_)
   ·have h4:=eq_of_beq h4;have h5:s.data.toList.getD 0 0=48:=by
     unfold cN at h4;exact UInt8.toNat_inj.1 (by show _=48; omega)
    rw [if_pos (.inl ⟨by omega,h5⟩)];exact ⟨rfl,Ch.refl _ _⟩
   ·have h4:=ne_of_beq_false h4;exact main fun hh=>h4 (by rw [hh.2]; rfl)
  ·have h3:=of_decide_eq_false h3;exact main fun hh=>h3 (by omega)
structure Tok where
 kind:Nat
 text:ByteArray
 num:Nat
 at_:Nat
def ec (t:Tok):List Value:=[.int .i64 t.kind,.string t.text,.int .u32 t.num,.int .i64 t.at_]
def aN:List UInt8:=[9,13,32]
def bt:List UInt8:=bY++bi
def sL:List UInt8:=[58,44,40,41,43,45,42,61]
inductive Step where
 | stop
 | cI (at_:Nat)
 | tok (t:Tok) (next:Nat)
def kS (s:ByteArray) (a:Nat):Step :=
 if a=s.size then .stop
 else if s.data.toList.getD a 0=59 then .stop
 else if cM (s.data.toList.getD a 0)=true then
  if 32<aS (s.data.toList.drop a) bt then .cI a else .tok ⟨1,s.extract a (a+aS (s.data.toList.drop a) bt),0,a⟩ (a+aS (s.data.toList.drop a) bt)
 else if cR (s.data.toList.getD a 0)=true then
  if (eh (s.data.toList.drop a)).1=0∨0<aS (s.data.toList.drop (a+(eh (s.data.toList.drop a)).1)) bt then .cI a
  else .tok ⟨2,s.extract a (a+(eh (s.data.toList.drop a)).1),(eh (s.data.toList.drop a)).2,a⟩ (a+(eh (s.data.toList.drop a)).1)
 else if s.data.toList.getD a 0=39 then
  if s.size<a+3∨(s.data.toList.getD (a+1) 0).toNat<32∨126<(s.data.toList.getD (a+1) 0).toNat∨s.data.toList.getD (a+1) 0=39∨s.data.toList.getD (a+2) 0≠39 then .cI a
  else .tok ⟨2,s.extract a (a+3),(s.data.toList.getD (a+1) 0).toNat,a⟩ (a+3)
 else if sL.contains (s.data.toList.getD a 0)=true then .tok ⟨3,s.extract a (a+1),0,a⟩ (a+1)
 else .cI a
def dR (s:ByteArray) (k:Nat):Step:=kS s (k+aS (s.data.toList.drop k) aN)
def j7 (s:ByteArray):Nat→Nat→List Tok→List Tok × Nat × Nat
 | 0,_,acc=>(acc,0,0)
 | f+1,k,acc =>
  match dR s k with
  | .stop=>(acc,0,0)
  | .cI a=>([],a,20)
  | .tok t k'=>j7 s f k' (acc++[t])
def eu (s:ByteArray):List Tok × Nat × Nat:=j7 s (s.size+1) 0 []
theorem uZ (l:List UInt8):(eh l).1≤l.length∧(eh l).2<4294967296:=by
 unfold eh;split
 ·rename_i h;have h2:=congrArg List.length h;rw [List.length_take] at h2;simp only [List.length_cons,List.length_nil] at h2;have h3:=dB (l.drop 2) di;rw [List.length_drop] at h3;split
  ·simp
  ·rename_i h4;refine ⟨by simp only; omega,?_⟩;refine Al (by rw [List.length_take]; omega) (fun i hi=>?_);rw [List.length_take] at hi;rw [getD_take (by omega),← wN];exact rX (by omega)
 ·have h3:=dB l bi;split
  ·simp
  ·rename_i h4;exact ⟨h3,by simp only; omega⟩
theorem nU {s:ByteArray} {f k:Nat} {acc:List Tok} {t:Tok} (h:dR s k=.tok t k'):j7 s (f+1) k acc=j7 s f k' (acc++[t]):=by
 show (match dR s k with
  | .stop=>(acc,0,0)
  | .cI a=>([],a,20)
  | .tok t k'=>j7 s f k' (acc++[t]))=_
 rw [h]
theorem sO {s:ByteArray} {f k:Nat} {acc:List Tok} (h:dR s k=.stop):j7 s (f+1) k acc=(acc,0,0):=by
 show (match dR s k with
  | .stop=>(acc,0,0)
  | .cI a=>([],a,20)
  | .tok t k'=>j7 s f k' (acc++[t]))=_
 rw [h]
theorem qi {s:ByteArray} {f k a:Nat} {acc:List Tok} (h:dR s k=.cI a):j7 s (f+1) k acc=([],a,20):=by
 show (match dR s k with
  | .stop=>(acc,0,0)
  | .cI a=>([],a,20)
  | .tok t k'=>j7 s f k' (acc++[t]))=_
 rw [h]
theorem yh {s:ByteArray} {a:Nat} {t:Tok} (ha:a≤s.size) (h:kS s a=.tok t k'):a<k'∧k'≤s.size∧t.at_=a∧t.text=s.extract a k':=by
 have hsz:s.data.toList.length=s.size:=by simp
 unfold kS at h;split at h
 ·cases h
 split at h
 ·cases h
 have hlen:(s.data.toList.drop a).length=s.size-a:=by rw [List.length_drop,hsz]
 split at h
 ·rename_i h1 h2 h3;split at h
  ·cases h
  ·cases h;have h5:=dB (s.data.toList.drop a) bt;have h6:=(nZ (s:=s.data.toList.drop a) (set:=bt) (by omega)).2 (by
    rw [show (s.data.toList.drop a).getD 0 0=s.data.toList.getD a 0 from by simp [List.getD]];show (bY++bi).contains _=true;rw [nT,h3]; rfl)
   exact ⟨by omega,by omega,rfl,rfl⟩
 split at h
 ·split at h
  ·cases h
  ·cases h;have h5:=(uZ (s.data.toList.drop a)).1;exact ⟨by omega,by omega,rfl,rfl⟩
 split at h
 ·split at h
  ·cases h
  ·cases h;exact ⟨by omega,by omega,rfl,rfl⟩
 split at h
 ·cases h;exact ⟨by omega,by omega,rfl,rfl⟩
 ·cases h
inductive Mc where
 | stop
 | cI
 | tok (kind len num:Nat)
def nH (D:List UInt8):Mc :=
 if D=[] then .stop
 else if D.getD 0 0=59 then .stop
 else if cM (D.getD 0 0)=true then
  if 32<aS D bt then .cI else .tok 1 (aS D bt) 0
 else if cR (D.getD 0 0)=true then
  if (eh D).1=0∨0<aS (D.drop (eh D).1) bt then .cI else .tok 2 (eh D).1 (eh D).2
 else if D.getD 0 0=39 then
  if D.length<3∨(D.getD 1 0).toNat<32∨126<(D.getD 1 0).toNat∨D.getD 1 0=39∨D.getD 2 0≠39 then .cI
  else .tok 2 3 (D.getD 1 0).toNat
 else if sL.contains (D.getD 0 0)=true then .tok 3 1 0
 else .cI
def HK (s:ByteArray) (a:Nat):Mc→Step
 | .stop=>.stop
 | .cI=>.cI a
 | .tok k n m=>.tok ⟨k,s.extract a (a+n),m,a⟩ (a+n)
theorem vh (l:List UInt8) (a j:Nat):(l.drop a).getD j 0=l.getD (a+j) 0:=by
 simp [List.getD_eq_getElem?_getD,List.getElem?_drop]
theorem B8 (s:ByteArray) (a:Nat) (ha:a≤s.size):kS s a=HK s a (nH (s.data.toList.drop a)):=by
 unfold kS nH;have hsz:s.data.toList.length=s.size:=by simp
 simp only [vh,Nat.add_zero,List.drop_drop,List.length_drop,hsz]
 by_cases h1:a=s.size
 ·rw [if_pos h1,if_pos (List.drop_eq_nil_of_le (by omega))]; rfl
 have h1':¬ s.data.toList.drop a=[]:=fun hh=>h1 (by have:=List.drop_eq_nil_iff.1 hh; omega)
 rw [if_neg h1,if_neg h1']
 by_cases h2:s.data.toList.getD a 0=59
 ·rw [if_pos h2,if_pos h2]; rfl
 rw [if_neg h2,if_neg h2]
 by_cases h3:cM (s.data.toList.getD a 0)=true
 ·rw [if_pos h3,if_pos h3];split <;> rfl
 rw [if_neg h3,if_neg h3]
 by_cases h4:cR (s.data.toList.getD a 0)=true
 ·rw [if_pos h4,if_pos h4];split <;> rfl
 rw [if_neg h4,if_neg h4]
 by_cases h5:s.data.toList.getD a 0=39
 ·rw [if_pos h5,if_pos h5]
  by_cases h6:s.size<a+3
  ·rw [if_pos (.inl h6),if_pos (.inl (by omega))]; rfl
  ·by_cases h7:(s.data.toList.getD (a+1) 0).toNat<32∨126<(s.data.toList.getD (a+1) 0).toNat∨s.data.toList.getD (a+1) 0=39∨s.data.toList.getD (a+2) 0≠39
   ·rw [if_pos (.inr h7),if_pos (.inr h7)]; rfl
   ·rw [if_neg (by intro hh; rcases hh with hh | hh; exact h6 hh; exact h7 hh),if_neg (by intro hh; rcases hh with hh | hh; omega; exact h7 hh)]; rfl
 rw [if_neg h5,if_neg h5];split <;> rfl
theorem pP {p:UInt8→Bool}:∀ (l:List UInt8) {c:UInt8},c∈l.takeWhile p→p c=true
 | [],c,h=>by simp at h
 | d::l,c,h=>by
  rw [List.takeWhile_cons] at h;cases hd:p d with
  | false=>rw [hd] at h; simp at h
  | true =>
   rw [hd] at h;simp only [if_true,List.mem_cons] at h;rcases h with rfl | h
   ·exact hd
   ·exact pP l h
theorem gN {set D E:List UInt8} (hE:aS E set=0):aS (D.take (aS D set)++E) set=aS D set:=by
 unfold aS at hE ⊢;have h1:E.takeWhile (fun c=>set.contains c)=[]:=List.eq_nil_of_length_eq_zero hE;have h2:D.take (D.takeWhile fun c=>set.contains c).length=D.takeWhile fun c=>set.contains c:=(List.prefix_iff_eq_take.1 (List.takeWhile_prefix _)).symm
 rw [h2,List.takeWhile_append_of_pos,h1,List.append_nil];exact fun c hc=>pP D hc
theorem jj {set D:List UInt8}:aS D set=0↔∀ c r,D=c::r→set.contains c=false:=by
 unfold aS;cases D with
 | nil=>simp
 | cons c r =>
  simp only [List.takeWhile_cons,List.cons.injEq,and_imp];cases h:set.contains c with
  | false=>simp only [Bool.false_eq_true,if_false,List.length_nil,true_iff]; rintro _ _ rfl rfl; exact h
  | true=>simp only [if_true,List.length_cons,Nat.add_one_ne_zero,false_iff]; intro hh; have:=hh c r rfl rfl; rw [h] at this; cases this
theorem ze (c:UInt8) (h:bt.contains c=false):bi.contains c=false:=by
 have:=gR (fun c=>bt.contains c || !bi.contains c) (fun _=>true) (by decide +kernel) c
 simp only [h,Bool.false_or,Bool.not_eq_true'] at this;exact this
theorem AA (c:UInt8) (h:bt.contains c=false):di.contains c=false:=by
 have:=gR (fun c=>bt.contains c || !di.contains c) (fun _=>true) (by decide +kernel) c
 simp only [h,Bool.false_or,Bool.not_eq_true'] at this;exact this
theorem zu {E:List UInt8} (h:aS E bt=0):aS E bi=0:=jj.2 fun c r he=>ze c (jj.1 h c r he)
theorem Au {E:List UInt8} (h:aS E bt=0):aS E di=0:=jj.2 fun c r he=>AA c (jj.1 h c r he)
theorem CD {D E:List UInt8} (h0:(eh D).1≠0) (hE:aS E bt=0):eh (D.take (eh D).1++E)=eh D:=by
 by_cases h1:D.take 2=[48,120]
 ·have hD:eh D=if 8<aS (D.drop 2) di∨aS (D.drop 2) di=0 then (0,0) else (2+aS (D.drop 2) di,cg 16 ((D.drop 2).take (aS (D.drop 2) di))):=by
   unfold eh; rw [if_pos h1]
  have hlen:2≤D.length:=by
   have:=congrArg List.length h1
   rw [List.length_take] at this;simp at this; omega
  by_cases h2:8<aS (D.drop 2) di∨aS (D.drop 2) di=0
  ·rw [if_pos h2] at hD;rw [hD] at h0;exact (h0 rfl).elim
  ·rw [if_neg h2] at hD;rw [hD];have hr:=dB (D.drop 2) di;have hloc:=gN (set:=di) (D:=D.drop 2) (Au hE);generalize aS (D.drop 2) di=r at *;simp only;have e1:D.take (2+r)=[48,120]++(D.drop 2).take r:=by
    rw [← h1,List.take_add]
   rw [e1,List.append_assoc];unfold eh;rw [if_pos (by rfl)];have e2:([48,120]++((D.drop 2).take r++E)).drop 2=(D.drop 2).take r++E:=rfl;rw [e2,hloc,if_neg h2];have e3:((D.drop 2).take r++E).take r=(D.drop 2).take r:=by
    rw [List.take_append_of_le_length (by rw [List.length_take]; omega),List.take_take,Nat.min_self]
   rw [e3]
 ·have hD:eh D=if (1<aS D bi∧D.getD 0 0=48)∨aS D bi=0∨4294967296≤cg 10 (D.take (aS D bi)) then (0,0) else (aS D bi,cg 10 (D.take (aS D bi))):=by
   unfold eh; rw [if_neg h1]
  by_cases h2:(1<aS D bi∧D.getD 0 0=48)∨aS D bi=0∨4294967296≤cg 10 (D.take (aS D bi))
  ·rw [if_pos h2] at hD;rw [hD] at h0;exact (h0 rfl).elim
  ·rw [if_neg h2] at hD;rw [hD];have hr:=dB D bi;have hloc:=gN (set:=bi) (D:=D) (zu hE);generalize aS D bi=r at *;simp only;have hrp:0<r:=by
    rcases Nat.eq_zero_or_pos r with h | h
    ·exact (h2 (.inr (.inl h))).elim
    ·exact h
   have e3:(D.take r++E).take r=D.take r:=by
    rw [List.take_append_of_le_length (by rw [List.length_take]; omega),List.take_take,Nat.min_self]
   have e4:(D.take r++E).getD 0 0=D.getD 0 0:=by
    cases D with
    | nil=>simp at hr; omega
    | cons d D=>obtain ⟨r,rfl⟩:∃ r',r=r'+1:=⟨r-1,by omega⟩; simp
   have e5:¬ (D.take r++E).take 2=[48,120]:=by
    intro hh
    by_cases h3:2≤r
    ·rw [List.take_append_of_le_length (by rw [List.length_take]; omega),List.take_take,Nat.min_eq_left h3] at hh;exact h1 hh
    ·have hr1:r=1:=by omega
     subst hr1;cases D with
     | nil=>simp at hr
     | cons d D =>
      cases E with
      | nil=>simp at hh
      | cons c E =>
       simp at hh
       have:=jj.1 hE c E rfl
       rw [hh.2] at this;revert this; decide +kernel
   unfold eh;rw [if_neg e5,hloc,e3,e4,if_neg h2]
theorem Cr {D E:List UInt8} {k n m:Nat} (h:nH D=.tok k n m) (hE:aS E bt=0∨aS (D.drop n) bt≠0):nH (D.take n++E)=.tok k n m∧0<n∧n≤D.length:=by
 cases D with
 | nil=>simp [nH] at h
 | cons d D =>
  unfold nH at h;rw [if_neg (by simp)] at h;rw [List.getD_cons_zero] at h;have key:0<n→nH ((d::D).take n++E)=(if d=59 then .stop
   else if cM d=true then
    if 32<aS ((d::D).take n++E) bt then .cI else .tok 1 (aS ((d::D).take n++E) bt) 0
   else if cR d=true then
    if (eh ((d::D).take n++E)).1=0∨0<aS (((d::D).take n++E).drop (eh ((d::D).take n++E)).1) bt then .cI else .tok 2 (eh ((d::D).take n++E)).1 (eh ((d::D).take n++E)).2
   else if d=39 then
    if ((d::D).take n++E).length<3∨(((d::D).take n++E).getD 1 0).toNat<32∨126<(((d::D).take n++E).getD 1 0).toNat∨((d::D).take n++E).getD 1 0=39∨((d::D).take n++E).getD 2 0≠39 then .cI
    else .tok 2 3 (((d::D).take n++E).getD 1 0).toNat
   else if sL.contains d=true then .tok 3 1 0
   else .cI):=by
   intro hn;have e0:((d::D).take n++E).getD 0 0=d:=by
    obtain ⟨n,rfl⟩:∃ n',n=n'+1:=⟨n-1,by omega⟩
    simp
   conv=>lhs; unfold nH
   rw [if_neg (by obtain ⟨n,rfl⟩:∃ n',n=n'+1:=⟨n-1,by omega⟩; simp),e0]
  by_cases h2:d=59
  ·rw [if_pos h2] at h; cases h
  rw [if_neg h2] at h
  by_cases h3:cM d=true
  ·rw [if_pos h3] at h;have hpos:=pc (d::D) bt 0 (by omega) (by simp);rw [List.getD_cons_zero,show bt=bY++bi from rfl,nT,h3] at hpos;have hpos:=hpos.2 rfl;rw [← show bt=bY++bi from rfl] at hpos
   by_cases h4:32<aS (d::D) bt
   ·rw [if_pos h4] at h; cases h
   rw [if_neg h4] at h;injection h with a1 a2 a3
   subst a1 a2 a3;have hr:=dB (d::D) bt;have hE0:aS E bt=0:=by
    rcases hE with hE | hE
    ·exact hE
    ·refine (hE ?_).elim;refine jj.2 fun c r he=>?_
     have:=jK (p:=fun c=>bt.contains c) (d::D) (aS (d::D) bt) (Nat.le_refl _) (by
      have:=congrArg List.length he
      rw [List.length_drop] at this; simp at this ⊢; omega)
     have h5:¬ aS (d::D) bt<((d::D).takeWhile fun c=>bt.contains c).length:=Nat.lt_irrefl _;rw [this] at h5;have h6:(d::D).getD (aS (d::D) bt) 0=c:=by
      have:=congrArg (fun l=>l.getD 0 0) he
      simp only [vh,Nat.add_zero,List.getD_cons_zero] at this;exact this
     rw [h6] at h5;simpa using h5
   refine ⟨?_,hpos,hr⟩;rw [key hpos,if_neg h2,if_pos h3,gN hE0,if_neg h4]
  rw [if_neg h3] at h
  by_cases h4:cR d=true
  ·rw [if_pos h4] at h
   by_cases h5:(eh (d::D)).1=0∨0<aS ((d::D).drop (eh (d::D)).1) bt
   ·rw [if_pos h5] at h; cases h
   rw [if_neg h5] at h;injection h with a1 a2 a3
   subst a1 a2 a3;have hE0:aS E bt=0:=by
    rcases hE with hE | hE
    ·exact hE
    ·omega
   have hl:=(uZ (d::D)).1;have hz:(eh (d::D)).1≠0:=fun hh=>h5 (.inl hh)
   have hloc:=CD hz hE0;refine ⟨?_,by omega,hl⟩;rw [key (by omega),if_neg h2,if_neg h3,if_pos h4,hloc];rw [List.drop_append_of_le_length (by rw [List.length_take]; omega),List.drop_take,Nat.sub_self,List.take_zero,List.nil_append,if_neg (by omega)]
  rw [if_neg h4] at h
  by_cases h5:d=39
  ·rw [if_pos h5] at h
   by_cases h6:(d::D).length<3∨((d::D).getD 1 0).toNat<32∨126<((d::D).getD 1 0).toNat∨(d::D).getD 1 0=39∨(d::D).getD 2 0≠39
   ·rw [if_pos h6] at h; cases h
   rw [if_neg h6] at h;injection h with a1 a2 a3
   subst a1 a2 a3;have hlen:3≤(d::D).length:=by omega
   refine ⟨?_,by omega,hlen⟩
   match D,hlen with
   | d1::d2::D,_ =>
    rw [key (by omega),if_neg h2,if_neg h3,if_neg h4,if_pos h5];simp only [List.take_succ_cons,List.take_zero,List.cons_append,List.nil_append,List.getD_cons_succ,List.getD_cons_zero,List.length_cons] at h6 ⊢;rw [if_neg (by intro hh; apply h6; rcases hh with hh | hh; omega; exact .inr hh)]
  rw [if_neg h5] at h
  by_cases h6:sL.contains d=true
  ·rw [if_pos h6] at h;injection h with a1 a2 a3
   subst a1 a2 a3;refine ⟨?_,by omega,by simp⟩;rw [key (by omega),if_neg h2,if_neg h3,if_neg h4,if_neg h5,if_pos h6]
  ·rw [if_neg h6] at h; cases h
abbrev Ae:List gJ:=[(false,[.slice 0]),(false,[.int .i64]),(false,[.int .i64]),(false,[.slice 0]),(false,[.pointer 0]),(false,[.int .i64]),(false,[.int .i64])]
def K3 (s:ByteArray) (h:Hp) (x:qh (flat Ae)) (n:Nat) (h':Hp):Prop :=
 ∃ (k:Nat) (acc:List Tok),x.2.2.2.2.2.2.1=(k:Int)∧x.2.2.2.2.1=some ⟨h.size,0,none⟩∧k≤s.size∧n=s.size-k ∧
  (∃ a b c d,aO h' h.size 178 [.int .i64 a,.string b,.int .u32 c,.int .i64 d])∧SL h' (h.size+1) 178 4 x.2.2.2.1.1 x.2.2.2.1.2.1 x.2.2.2.1.2.2 (acc.map ec)∧Ext h h'∧h.size+1≤h'.size ∧
  (∃ f,s.size-k<f∧eu s=j7 s f k acc)∧acc.length≤k
def zD (s:ByteArray) (h:Hp) (v:Value) (h':Hp):Prop :=
 ∃ p l c,v=.tuple #[.slice p l c,.int .i64 (eu s).2.1,.int .i64 (eu s).2.2]∧SL h' (h.size+1) 178 4 p l c ((eu s).1.map ec)∧Ext h h'
theorem kZ {s:ByteArray} {a:Nat}:(s.extract a (Int.toNat (s.size:Int))).data.toList=s.data.toList.drop a:=by
 rw [gY,show Int.toNat (s.size:Int)=s.size by omega];exact List.take_of_length_le (by simp)
theorem yf (l:List UInt8) (a:Nat):(l.drop a).getD 0 0=l.getD a 0:=by simp [List.getD]
theorem nK {s:ByteArray} {k:Nat} {t:Tok} (hk:k≤s.size) (h:dR s k=.tok t k'):k<k'∧k'≤s.size:=by
 have hsz:s.data.toList.length=s.size:=by simp
 have h1:=dB (s.data.toList.drop k) aN;rw [List.length_drop] at h1
 have:=yh (a:=k+aS (s.data.toList.drop k) aN) (by omega) h
 omega
theorem rE {s : ByteArray} {h h5:Hp} {K : Value → Hp → Prop} {k:Nat} {acc : List Tok} {t : Tok} {p2 p7 : Option Addr} {l3 l4 l8 l9 : Nat} {n5 n6 nn kk : Int} (hs : s.size ≤ 2 ^ 40) (hle : k ≤ s.size)
    (hstep : dR s k = .tok t k') (hkk : kk = (k' : Int)) (hbox : aO h5 h.size 178 (ec t)) (hch : Ch [h.size] h2 h5) (hsl : SL h2 (h.size + 1) 178 4 p7 l8 l9 (acc.map ec)) (hext : Ext h h2) (hsz2 : h.size + 1 ≤ h2.size)
    (hlex : ∃ f, s.size - k < f ∧ eu s = j7 s f k acc) (hacc : acc.length ≤ k) :
    (T.ae ⟨h.size, 0, none⟩ [.int .i64, .string, .int .u32, .int .i64] <| fun (n20 : Int) (s21 : ByteArray) (n22 : Int) (n23 : Int) =>
     T.bj Tryz.prog (Instr.buildSlice 174 1 #[(0, .agg #[.int .i64 n20, .string s21, .int .u32 n22, .int .i64 n23])]) false [(false, [.slice 0])] <| fun (p24 : Option Addr) (l25 : Nat) (l26 : Nat) =>
     T.bj Tryz.prog (Builtin.append_ #[174, 174] 174 #[.slice p7 l8 l9, .slice p24 l25 l26]) false [(false, [.slice 0])] <| fun (p27 : Option Addr) (l28 : Nat) (l29 : Nat) =>
     T.again 0 [.slice p2 l3 l4, .int .i64 n5, .int .i64 n6, .slice p27 l28 l29, .pointer (some ⟨h.size, 0, none⟩), .int .i64 nn, .int .i64 kk]) ([] ++ [Jl (cs := Ae) (K3 s h) (s.size - k)]) K h5 := by
  obtain ⟨hlt, hle'⟩ := nK hle hstep;have hlacc : l8 = acc.length := by rw [hsl.1, List.length_map]
  refine ad hbox ((t.kind : Int), t.text, (t.num : Int), (t.at_ : Int), ()) rfl ?_
  have hpn : ∀ a, p7 = some a → h.size + 1 ≤ a.block := by
    intro a ha;subst ha;obtain ⟨g, pre, rest, rfl, hbg, _⟩ := hsl.2.2;exact hbg
  have hsl5 : SL h5 (h.size + 1) 178 4 p7 l8 l9 (acc.map ec) := hsl.ai hch (fun a ha => by have := hpn a ha; simp; omega);refine rJ (z := .agg #[.int .i64 0, .string ⟨#[]⟩, .int .u32 0, .int .i64 0]) (sz := 4) (by' := 40) (e := 178) (vs := ec t) (by kernel_rfl) (by kernel_rfl) rfl (by omega) (by omega) (by kernel_rfl) rfl rfl hsl5 (by have := hch.size; omega) (by omega) (by omega) ?_;intro p' c' h6 hsl6 hch6 _;refine aI (cs := Ae) ((p2, l3, l4), n5, n6, (p', l8 + 1, c'), some ⟨h.size, 0, none⟩, nn, kk, ()) (s.size - k') rfl (by omega) rfl ?_
  have hnot : h.size ∉ aC p7 := by
    cases p7 with
    | none => simp [aC]
    | some a => have := hpn a rfl; simp [aC]; omega
  refine ⟨k', acc ++ [t], hkk, rfl, hle', rfl, ⟨_, _, _, _, hbox.ai hch6 hnot⟩, ?_, ?_, ?_, ?_, ?_⟩
  · rw [List.map_append]; exact hsl6
  · have e5 : Ext h h5 := Ch.trans hext hch (fun i hi hlt => by simp at hi; omega)
    exact Ch.trans e5 hch6 (fun i hi hlt => by
      cases p7 with
      | none => simp [aC] at hi
      | some a => have := hpn a rfl; simp [aC] at hi; omega)
  · have := hch.size; have := hch6.size; omega
  · obtain ⟨f, hf, hl⟩ := hlex
    refine ⟨f - 1, by omega, ?_⟩;rw [hl, show f = (f - 1) + 1 by omega, nU hstep];rfl
  · rw [List.length_append]; simp; omega
theorem Fi (s:ByteArray) (h:Hp) (hs:s.size≤2^40) (hl:Laid h):HC Tryz.prog 95 #[.string s] h (zD s h):=by
 refine aK (args:=[.string s]) mixed Tryz.func95 (by kernel_rfl) (uo s) ?_;unfold ru;have hsz:s.data.toList.length=s.size:=by simp
 refine aX ?_;intro h1 b1 e1 z1;refine bh (cs:=Ae) (K3 s h) ((none,0,0),(0:Int),(0:Int),(none,0,0),some ⟨h.size,0,none⟩,(0:Int),(0:Int),()) s.size rfl
  ⟨0,[],rfl,rfl,by omega,by omega,⟨0,⟨#[]⟩,0,0,b1⟩,SL.nil _ _ _ _,e1,by omega,⟨s.size+1,by omega,rfl⟩,by simp⟩ ?_
 rintro ⟨⟨p2,l3,l4⟩,n5,n6,⟨p7,l8,l9⟩,p10,n11,n12,⟨⟩⟩ m h2 ⟨k,acc,hk,hp,hle,rfl,⟨x1,x2,x3,x4,hbox⟩,hsl,hext,hsz2,hlex,hacc⟩;simp only at hk hp hsl;subst hk hp;dsimp only [Ae,flat,az,ah,nA,cA];have hr0:=dB (s.data.toList.drop k) aN;rw [List.length_drop] at hr0;obtain ⟨f,hf,hlx⟩:=hlex;obtain ⟨f,rfl⟩:∃ f',f=f'+1:=⟨f-1,by omega⟩
 refine ay ⟨by omega,by omega,by omega⟩ ?_;refine dj (lY _ _ h2 (by rw [fh]; omega)) ?_;rw [show Int.toNat (k:Int)=k by omega,kZ];rw [show (⟨#[9,13,32]⟩:ByteArray).data.toList=aN from rfl];obtain ⟨a,ha⟩:∃ a,a=k+aS (s.data.toList.drop k) aN:=⟨_,rfl⟩
 have hw:IntKind.wrap .i64 ((k:Int)+(aS (s.data.toList.drop k) aN:Int))=(a:Int):=by rw [wrap_i64 (by omega) (by omega)]; omega
 have hstep0:dR s k=kS s a:=by unfold dR; rw [ha]
 have hat:Int.toNat (a:Int)=a:=by omega
 have hale:a≤s.size:=by omega
 rw [hw];clear hw ha;have stop:kS s a=.stop→zD s h (.tuple #[.slice p7 l8 l9,.int .i64 0,.int .i64 0]) h2:=by
  intro hst;have he:eu s=(acc,0,0):=by rw [hlx,sO (hstep0.trans hst)]
  exact ⟨p7,l8,l9,by rw [he]; rfl,by rw [he]; exact hsl,hext⟩
 have cI:∀ h',kS s a=.cI a→Ext h h'→zD s h (.tuple #[.slice none 0 0,.int .i64 a,.int .i64 20]) h':=by
  intro h' hst he';have he:eu s=([],a,20):=by rw [hlx,qi (hstep0.trans hst)]
  exact ⟨none,0,0,by rw [he]; rfl,by rw [he]; exact SL.nil _ _ _ _,he'⟩
 refine af (fun h3=>?_) (fun h3=>?_)
 ·have h3:=eq_of_beq h3;exact stop (by unfold kS; rw [if_pos (by omega)])
 have h3:=ne_of_beq_false h3;have hlt:a<s.size:=by omega
 refine ay ⟨by omega,by omega⟩ ?_;rw [jF,hat];refine af (fun h4=>?_) (fun h4=>?_)
 ·have h4:=eq_of_beq h4;have h4:s.data.toList.getD a 0=59:=UInt8.toNat_inj.1 (by unfold cN at h4; show _=59; omega);exact stop (by unfold kS; rw [if_neg (by omega),if_pos h4])
 have h4:=ne_of_beq_false h4;have h4':¬ s.data.toList.getD a 0=59:=fun hh=>h4 (by rw [hh]; rfl)
 have hA:=kS.eq_def s a;rw [if_neg (by omega),if_neg h4'] at hA;refine aj rfl (an hbox rfl (by simp) ?_);intro h3' hb3 hc3 hz3;refine ay ⟨by omega,by omega⟩ (ay ⟨by omega,by omega,by omega⟩ ?_);have hdl:(s.data.toList.drop a).length=s.size-a:=by rw [List.length_drop,hsz]
 refine dj (lY _ _ h3' (by rw [fh]; omega)) ?_;rw [kZ,L9];have hpos:=nZ (s:=s.data.toList.drop a) (set:=bY) (by omega);rw [xp,yf] at hpos;refine af (fun h5=>?_) (fun h5=>?_)
 ·have h5:=of_decide_eq_true h5;have h5:cM (s.data.toList.getD a 0)=true:=hpos.1 (by omega);rw [if_pos h5] at hA;refine aj rfl (an hb3 rfl (by simp [jd]) ?_);intro h4' hb4 hc4 hz4;refine ay ⟨by omega,by omega,by omega⟩ ?_;refine dj (lY _ _ h4' (by rw [fh]; omega)) ?_;rw [kZ,KD];have hr1:=dB (s.data.toList.drop a) (bY++bi);rw [show bt=bY++bi from rfl] at hA;generalize aS (s.data.toList.drop a) (bY++bi)=n at hA hr1 ⊢;have c34:Ch [h.size] h2 h4':=Ch.trans hc3 hc4 (fun i hi _=>hi);have e4:Ext h h4':=Ch.trans hext c34 (fun i hi hlt=>by simp at hi; omega);refine af (fun h6=>?_) (fun h6=>?_)
  ·have h6:=of_decide_eq_true h6;rw [if_pos (by omega)] at hA;exact cI _ hA e4
  ·have h6:=of_decide_eq_false h6;rw [if_neg (by omega)] at hA;have hw2:IntKind.wrap .i64 ((a:Int)+(n:Int))=((a+n:Nat):Int):=by rw [wrap_i64 (by omega) (by omega)]; omega
   rw [hw2,show Int.toNat ((a+n:Nat):Int)=a+n by omega];refine ay ⟨by omega,by omega,by omega⟩ ?_;refine aj rfl ?_;rw [ao];refine an hb4 rfl (by simp [jd]) ?_;intro h5' hb5 hc5 hz5;refine aj rfl ?_;exact rE (t:=⟨1,s.extract a (a+n),0,a⟩) hs hle (hstep0.trans hA) rfl hb5 (Ch.trans c34 hc5 (fun i hi _=>hi)) hsl hext hsz2 ⟨f+1,hf,hlx⟩ hacc
 have h5:=of_decide_eq_false h5;have h5:¬ cM (s.data.toList.getD a 0)=true:=fun hh=>h5 (by have:=hpos.2 hh; omega)
 rw [if_neg h5] at hA;have e3:Ext h h3':=Ch.trans hext hc3 (fun i hi hlt=>by simp at hi; omega);refine ay ⟨by omega,by omega,by omega⟩ ?_;refine dj (lY _ _ h3' (by rw [fh]; omega)) ?_;rw [kZ,show (⟨#[48,49,50,51,52,53,54,55,56,57]⟩:ByteArray).data.toList=bi from rfl];have hpos2:=nZ (s:=s.data.toList.drop a) (set:=bi) (by omega);rw [ye,yf] at hpos2;refine af (fun h6=>?_) (fun h6=>?_)
 ·have h6:=of_decide_eq_true h6;have h6:cR (s.data.toList.getD a 0)=true:=hpos2.1 (by omega);rw [if_pos h6] at hA;refine aj rfl (an hb3 rfl (by simp [jd]) ?_);intro h4' hb4 hc4 hz4;have c34:Ch [h.size] h2 h4':=Ch.trans hc3 hc4 (fun i hi _=>hi);have e4:Ext h h4':=Ch.trans hext c34 (fun i hi hlt=>by simp at hi; omega);refine ay ⟨by omega,by omega,by omega⟩ ?_;refine aB (ph _ h4' (by rw [fh]; omega) (hl.ext e4)) ?_;rintro v h5' ⟨rfl,e5⟩;rw [kZ];obtain ⟨hn1,hn2⟩:=uZ (s.data.toList.drop a);generalize eh (s.data.toList.drop a)=r at hA hn1 hn2 ⊢;refine ⟨((r.1:Int),(r.2:Int),()),rfl,?_⟩;dsimp only [az,ah,flat,nA,cA];have hb5:=hb4.ai e5 (by simp);refine aj rfl ?_;rw [ao];refine an hb5 rfl (by simp [jd]) ?_;intro h6' hb6 hc6 hz6;have c36:Ch [h.size] h2 h6':=Ch.trans (Ch.trans c34 e5 (by simp)) hc6 (fun i hi _=>hi);have e6:Ext h h6':=Ch.trans hext c36 (fun i hi hlt=>by simp at hi; omega);refine af (fun h7=>?_) (fun h7=>?_)
  ·have h7:(r.1:Int)=0:=eq_of_beq h7;rw [if_pos (.inl (by omega))] at hA;exact cI _ hA e6
  have h7:(r.1:Int)≠0:=ne_of_beq_false h7;have hw2:IntKind.wrap .i64 ((a:Int)+(r.1:Int))=((a+r.1:Nat):Int):=by rw [wrap_i64 (by omega) (by omega)]; omega
  rw [hw2,show Int.toNat ((a+r.1:Nat):Int)=a+r.1 by omega];refine ay ⟨by omega,by omega,by omega⟩ ?_;refine dj (lY _ _ h6' (by rw [fh]; omega)) ?_;rw [kZ,KD];rw [show bt=bY++bi from rfl] at hA;refine af (fun h8=>?_) (fun h8=>?_)
  ·have h8:=of_decide_eq_true h8;rw [if_pos (.inr (by omega))] at hA;exact cI _ hA e6
  ·have h8:=of_decide_eq_false h8;rw [if_neg (by omega)] at hA;refine ay ⟨by omega,by omega,by omega⟩ ?_;refine aj rfl ?_;rw [ao];refine an hb6 rfl (by simp [jd]) ?_;intro h7' hb7 hc7 hz7;refine aj rfl ?_;exact rE (t:=⟨2,s.extract a (a+r.1),r.2,a⟩) hs hle (hstep0.trans hA) rfl hb7 (Ch.trans c36 hc7 (fun i hi _=>hi)) hsl hext hsz2 ⟨f+1,hf,hlx⟩ hacc
 have h6:=of_decide_eq_false h6;have h6:¬ cR (s.data.toList.getD a 0)=true:=fun hh=>h6 (by have:=hpos2.2 hh; omega)
 rw [if_neg h6] at hA;have hsb:∀ j:Nat,bC s ((a+j:Nat):Int)=cN (s.data.toList.getD (a+j) 0):=fun j=>by rw [jF,show Int.toNat ((a+j:Nat):Int)=a+j by omega]
 have hcc:∀ (c:UInt8) (n:Nat),n<256→((cN c=(n:Int))↔c.toNat=n):=fun c n hn=>by unfold cN; omega
 refine af (fun h7=>?_) (fun h7=>?_)
 ·have h7:cN (s.data.toList.getD a 0)=39:=eq_of_beq h7;have h7:s.data.toList.getD a 0=39:=UInt8.toNat_inj.1 (by unfold cN at h7; show _=39; omega);rw [if_pos h7] at hA;have hw3:IntKind.wrap .i64 ((s.size:Int)-(a:Int))=(s.size:Int)-(a:Int):=wrap_i64 (by omega) (by omega);have hw4:IntKind.wrap .i64 ((a:Int)+1)=((a+1:Nat):Int):=by rw [wrap_i64 (by omega) (by omega)]; omega
  have hw5:IntKind.wrap .i64 ((a:Int)+2)=((a+2:Nat):Int):=by rw [wrap_i64 (by omega) (by omega)]; omega
  have hw6:IntKind.wrap .i64 ((a:Int)+3)=((a+3:Nat):Int):=by rw [wrap_i64 (by omega) (by omega)]; omega
  rw [hw3,hw4,hw5,hw6,hsb 1,hsb 2];refine af (fun h8=>?_) (fun h8=>?_)
  ·have h8:=of_decide_eq_true h8;rw [if_pos (.inl (by omega))] at hA;exact cI _ hA e3
  have h8:=of_decide_eq_false h8;have hb1:=(s.data.toList.getD (a+1) 0).toNat_lt;refine ay ⟨by omega,by omega⟩ ?_;refine af (fun h9=>?_) (fun h9=>?_)
  ·have h9:=of_decide_eq_true h9;rw [if_pos (.inr (.inl (by unfold cN at h9; omega)))] at hA;exact cI _ hA e3
  have h9:=of_decide_eq_false h9;refine ay ⟨by omega,by omega⟩ ?_;refine af (fun h10=>?_) (fun h10=>?_)
  ·have h10:=of_decide_eq_true h10;rw [if_pos (.inr (.inr (.inl (by unfold cN at h10; omega))))] at hA;exact cI _ hA e3
  have h10:=of_decide_eq_false h10;refine ay ⟨by omega,by omega⟩ ?_;refine af (fun h11=>?_) (fun h11=>?_)
  ·have h11:=eq_of_beq h11;rw [if_pos (.inr (.inr (.inr (.inl (UInt8.toNat_inj.1 (by unfold cN at h11; show _=39; omega))))))] at hA;exact cI _ hA e3
  have h11:=ne_of_beq_false h11;refine ay ⟨by omega,by omega⟩ ?_;refine af (fun h12=>?_) (fun h12=>?_)
  ·have h12:cN (s.data.toList.getD (a+2) 0)≠39:=by simpa using h12
   rw [if_pos (.inr (.inr (.inr (.inr (fun hh=>h12 (by rw [hh]; rfl))))))] at hA;exact cI _ hA e3
  have h12:cN (s.data.toList.getD (a+2) 0)=39:=by simpa using h12
  have h12:s.data.toList.getD (a+2) 0=39:=UInt8.toNat_inj.1 (by unfold cN at h12; show _=39; omega);rw [if_neg (by
   intro hh;rcases hh with hh | hh | hh | hh | hh
   ·omega
   ·unfold cN at h9; omega
   ·unfold cN at h10; omega
   ·exact h11 (by rw [hh]; rfl)
   ·exact hh h12)] at hA
  refine ay ⟨by omega,by omega⟩ ?_;refine aj rfl (an hb3 rfl (by simp [jd]) ?_);intro h4' hb4 hc4 hz4;refine aj rfl ?_;rw [ao];refine an hb4 rfl (by simp [jd]) ?_;intro h5' hb5 hc5 hz5;refine ay ⟨by omega,by omega,by omega⟩ ?_;refine aj rfl ?_;rw [ao];refine an hb5 rfl (by simp [jd]) ?_;intro h6' hb6 hc6 hz6;refine aj rfl ?_;rw [show Int.toNat ((a+3:Nat):Int)=a+3 by omega] at hb6;rw [show IntKind.wrap .u32 (cN (s.data.toList.getD (a+1) 0))=(((s.data.toList.getD (a+1) 0).toNat:Nat):Int) from wrap_u32 (by unfold cN; omega) (by unfold cN; omega)] at hb6;have c36:Ch [h.size] h2 h6':=Ch.trans (Ch.trans (Ch.trans hc3 hc4 (fun i hi _=>hi)) hc5 (fun i hi _=>hi)) hc6 (fun i hi _=>hi);exact rE (t:=⟨2,s.extract a (a+3),(s.data.toList.getD (a+1) 0).toNat,a⟩) hs hle (hstep0.trans hA) rfl hb6 c36 hsl hext hsz2 ⟨f+1,hf,hlx⟩ hacc
 have h7:=ne_of_beq_false h7;have h7:¬ s.data.toList.getD a 0=39:=fun hh=>h7 (by rw [hh]; rfl)
 rw [if_neg h7] at hA;refine dj (rD _ _ _) ?_;rw [show (⟨#[58,44,40,41,43,45,42,61]⟩:ByteArray).data.toList=sL from rfl];have hcon:=Lib.contains_iff_indexByte sL (s.data.toList.getD a 0);rw [show (cN (s.data.toList.getD a 0)).toNat.toUInt8=s.data.toList.getD a 0 from by unfold cN; simp];refine af (fun h8=>?_) (fun h8=>?_)
 ·have h8:=of_decide_eq_true h8;rw [if_pos (by rw [hcon]; exact decide_eq_true h8)] at hA;refine aj rfl (an hb3 rfl (by simp [jd]) ?_);intro h4' hb4 hc4 hz4;have hw4:IntKind.wrap .i64 ((a:Int)+1)=((a+1:Nat):Int):=by rw [wrap_i64 (by omega) (by omega)]; omega
  rw [hw4];refine ay ⟨by omega,by omega,by omega⟩ ?_;refine aj rfl ?_;rw [ao];refine an hb4 rfl (by simp [jd]) ?_;intro h5' hb5 hc5 hz5;refine aj rfl ?_;rw [show Int.toNat ((a+1:Nat):Int)=a+1 by omega] at hb5;exact rE (t:=⟨3,s.extract a (a+1),0,a⟩) hs hle (hstep0.trans hA) rfl hb5 (Ch.trans (Ch.trans hc3 hc4 (fun i hi _=>hi)) hc5 (fun i hi _=>hi)) hsl hext hsz2 ⟨f+1,hf,hlx⟩ hacc
 ·have h8:=of_decide_eq_false h8;rw [if_neg (by rw [hcon]; exact fun hh=>h8 (of_decide_eq_true hh))] at hA;exact cI _ hA e3
def GC (P:Program) (t:TypeId):Array Field :=
 match P.underlying t with
 | some (.struct fs)=>fs
 | _=>#[]
theorem bytes_beq (t:ByteArray):(t==t)=true:=by
 cases t with | mk d=>show (d==d)=true; simp
def hv (c:UInt8):Int:=if rN c=true then (dv c:Int) else -1
def Aq (D:List UInt8):Nat × Nat :=
 if D.getD 0 0=39 then
  (if D.length<3∨(D.getD 1 0).toNat<32∨126<(D.getD 1 0).toNat∨D.getD 1 0=39∨D.getD 2 0≠39 then (0,0) else ((D.getD 1 0).toNat,3))
 else if (eh D).1=0∨0<aS (D.drop (eh D).1) bt then (0,0) else ((eh D).2,(eh D).1)
inductive iX (s:ByteArray):Nat→List Tok→Prop where
 | stop (k:Nat):k≤s.size→nH (s.data.toList.drop (k+aS (s.data.toList.drop k) aN))=.stop→iX s k []
 | tok (k kind n m:Nat) (ts:List Tok):k≤s.size→nH (s.data.toList.drop (k+aS (s.data.toList.drop k) aN))=.tok kind n m→iX s (k+aS (s.data.toList.drop k) aN+n) ts →
   iX s k (⟨kind,s.extract (k+aS (s.data.toList.drop k) aN) (k+aS (s.data.toList.drop k) aN+n),m,k+aS (s.data.toList.drop k) aN⟩::ts)
theorem nw {s:ByteArray} {k:Nat} (hk:k≤s.size):k+aS (s.data.toList.drop k) aN≤s.size:=by
 have h1:=dB (s.data.toList.drop k) aN;rw [List.length_drop] at h1;have hsz:s.data.toList.length=s.size:=by simp
 omega
theorem fF {s:ByteArray} {k:Nat} (hk:k≤s.size):dR s k=HK s (k+aS (s.data.toList.drop k) aN) (nH (s.data.toList.drop (k+aS (s.data.toList.drop k) aN))):=by
 unfold dR;exact B8 s _ (nw hk)
theorem nG {D:List UInt8} {k n m:Nat} (h:nH D=.tok k n m):0<n∧n≤D.length:=(Cr (E:=[]) h (.inl rfl)).2
theorem Gg:nH []=.stop:=rfl
theorem wP {s:ByteArray}:∀ (f k:Nat) (acc:List Tok),k≤s.size→s.size-k<f →
  (∃ ts,iX s k ts∧j7 s f k acc=(acc++ts,0,0))∨(∃ a,a<s.size∧j7 s f k acc=([],a,20))
 | 0,k,acc,hk,hf=>by omega
 | f+1,k,acc,hk,hf=>by
  have hst:=fF hk;have ha:=nw hk;have hsz:s.data.toList.length=s.size:=by simp
  cases hD:nH (s.data.toList.drop (k+aS (s.data.toList.drop k) aN)) with
  | stop =>
   rw [hD] at hst;exact .inl ⟨[],.stop k hk hD,by rw [sO hst,List.append_nil]⟩
  | cI =>
   rw [hD] at hst;refine .inr ⟨_,?_,qi hst⟩;rcases Nat.lt_or_ge (k+aS (s.data.toList.drop k) aN) s.size with h | h
   ·exact h
   ·rw [List.drop_eq_nil_of_le (by omega),Gg] at hD; cases hD
  | tok kind n m =>
   rw [hD] at hst;obtain ⟨h1,h2⟩:=nG hD;rw [List.length_drop] at h2;rcases wP (s:=s) f (k+aS (s.data.toList.drop k) aN+n) (acc++[⟨kind,s.extract (k+aS (s.data.toList.drop k) aN) (k+aS (s.data.toList.drop k) aN+n),m,k+aS (s.data.toList.drop k) aN⟩]) (by omega) (by omega) with ⟨ts,hc,he⟩ | ⟨a,ha',he⟩
   ·refine .inl ⟨_,.tok k kind n m ts hk hD hc,?_⟩;rw [nU hst,he,List.append_assoc,List.singleton_append]
   ·exact .inr ⟨a,ha',by rw [nU hst,he]⟩
theorem Db {s:ByteArray} {k:Nat} {ts:List Tok} (h:iX s k ts):∀ (f:Nat) (acc:List Tok),s.size-k<f→j7 s f k acc=(acc++ts,0,0):=by
 induction h with
 | stop k hk hD =>
  intro f acc hf;obtain ⟨f,rfl⟩:∃ f',f=f'+1:=⟨f-1,by omega⟩
  have hst:=fF hk;rw [hD] at hst;rw [sO hst,List.append_nil]
 | tok k kind n m ts hk hD hc ih =>
  intro f acc hf;obtain ⟨f,rfl⟩:∃ f',f=f'+1:=⟨f-1,by omega⟩
  have hst:=fF hk;rw [hD] at hst;obtain ⟨h1,h2⟩:=nG hD;have ha:=nw hk;have hsz:s.data.toList.length=s.size:=by simp
  rw [List.length_drop] at h2;rw [nU hst,ih f _ (by omega),List.append_assoc,List.singleton_append]
theorem B' (s:ByteArray):(iX s 0 (eu s).1∧(eu s).2=(0,0))∨(∃ a,a<s.size∧eu s=([],a,20)):=by
 rcases wP (s:=s) (s.size+1) 0 [] (by omega) (by omega) with ⟨ts,hc,he⟩ | ⟨a,ha,he⟩
 ·refine .inl ?_;unfold eu;rw [he];exact ⟨hc,rfl⟩
 ·exact .inr ⟨a,ha,he⟩
theorem wL {s:ByteArray} {ts:List Tok} (h:iX s 0 ts):eu s=(ts,0,0):=by
 unfold eu;rw [Db h _ _ (by omega)]; rfl
theorem mg {s t:ByteArray} (h:s.data.toList=t.data.toList):s=t:=by
 cases s; cases t;simp only at h
 congr 1
 exact Array.toList_inj.1 h
theorem uG {set D E:List UInt8} (h:aS D set=D.length):aS (D++E) set=D.length+aS E set:=by
 unfold aS at h ⊢
 induction D with
 | nil=>simp
 | cons d D ih =>
  simp only [List.cons_append,List.takeWhile_cons] at h ⊢;cases hd:set.contains d with
  | false=>rw [hd] at h; simp at h
  | true =>
   rw [hd] at h;simp only [if_true,List.length_cons] at h ⊢;rw [ih (by omega)];omega
theorem EG {s:ByteArray} {k:Nat} {ts:List Tok} (h:iX s k ts):k+ts.length≤s.size:=by
 induction h with
 | stop k hk _=>simpa using hk
 | tok k kind n m ts hk hD hc ih =>
  have:=(nG hD).1
  rw [List.length_cons];omega
theorem BY (s:ByteArray):(eu s).1.length≤s.size:=by
 rcases B' s with ⟨hc,_⟩ | ⟨a,ha,he⟩
 ·have:=EG hc; omega
 ·rw [he]; simp
structure Ib where
 p:Option Addr
 l:Nat
 c:Nat
 q:Option Addr
 d:Nat
 ts:List Tok
def Ib.one (e:Ib):List Value:=[.slice e.p e.l e.c]
def Ib.two (e:Ib):List Value:=[.slice e.q e.l e.d]
theorem yd (p:Option Addr) (k:Nat):aC (p.map fun a=>a.add k)=aC p:=by
 cases p with
 | none=>rfl
 | some a=>simp [aC,ji]
def iC (b:Nat) (h h':Hp):Prop:=h.size≤h'.size∧∀ i,i<b→i<h.size→h'[i]?=h[i]?
theorem iC.of {b:Nat} {h:Hp} (k:Ch ws h h') (hw:∀ i,i∈ws→i<h.size→b≤i):iC b h h' :=
 ⟨k.size,fun i hi hl=>k.same i hl fun hm=>by have:=hw i hm hl; omega⟩
theorem iC.trans {b:Nat} {h h1:Hp} (a:iC b h h1) (c:iC b h1 h2):iC b h h2 :=
 ⟨Nat.le_trans a.1 c.1,fun i hi hl=>(c.2 i hi (Nat.lt_of_lt_of_le hl a.1)).trans (a.2 i hi hl)⟩
theorem iC.ext {h h1:Hp} (a:Ext h h1) (c:iC h.size h1 h2):Ext h h2 :=
 ⟨Nat.le_trans a.size c.1,fun i hi _=>(c.2 i hi (Nat.lt_of_lt_of_le hi a.size)).trans (a.same i hi (by simp))⟩
def Mw (k j:Nat):List Value:=[.int .i64 (IntKind.wrap .i64 (-100-(k:Int))),.string ⟨#[]⟩,.int .u32 0,.int .i64 (IntKind.wrap .i64 (0-(j:Int)))]
def Room (h:Hp) (b:Nat) (p:Option Addr) (c k m:Nat):Prop :=
 match p with
 | none=>c=0
 | some a=>∃ g o cells,a=⟨g,o,none⟩∧b≤g∧c<9223372036854775808∧aO h g 178 cells∧o+c*4≤cells.length∧∀ j,j<m→(cells.drop (o+j*4)).take 4=Mw k j
theorem Room.ai {h:Hp} {b:Nat} {p:Option Addr} {c k m:Nat} (r:Room h b p c k m) (kk:Ch ws h h') (hw:∀ i,i∈aC p→i∉ws):Room h' b p c k m:=by
 cases p with
 | none=>exact r
 | some a =>
  obtain ⟨g,o,cells,rfl,hbg,hc,hbox,hr,hm⟩:=r;exact ⟨g,o,cells,rfl,hbg,hc,hbox.ai kk (hw g (by simp [aC])),hr,hm⟩
def fC (t:Tok) (c:UInt8):Bool:=t.kind==3 && t.text.data.toList==[c]
def dV (n:Nat):List Tok→List (List Tok)→List Tok→Except Nat (List (List Tok))
 | [],done,cj=>if cj=[] then .error n else .ok (done++[cj])
 | t::ts,done,cj=>if (fC t 58 || (fC t 44 && decide (cj=[])))=true then .error t.at_ else if fC t 44=true then dV n ts (done++[cj]) [] else dV n ts done (cj++[t])
def eU (n:Nat) (ts:List Tok):Except Nat (List (List Tok)):=if ts=[] then .ok [] else dV n ts [] []
structure Ln where
 label:ByteArray
 op:ByteArray
 args:List (List Tok)
def iv:Ln:=⟨⟨#[]⟩,⟨#[]⟩,[]⟩
def AR:List Tok→Bool
 | t::u::_=>decide (t.kind=1) && fC u 58
 | _=>false
def bU (n:Nat) (dH:ByteArray):List Tok→Ln × Nat × Nat
 | []=>(⟨dH,⟨#[]⟩,[]⟩,0,0)
 | t::ts=>if t.kind≠1 then (iv,t.at_,20) else match eU n ts with
  | .error a=>(iv,a,20)
  | .ok l=>(⟨dH,t.text,l⟩,0,0)
def eP (n:Nat) (ts:List Tok):Ln × Nat × Nat :=
 if AR ts=true then bU n ((ts.head?.map (·.text)).getD ⟨#[]⟩) (ts.drop 2) else bU n ⟨#[]⟩ ts
def aL (s:ByteArray):Ln × Nat × Nat:=if (eu s).2.2≠0 then (iv,(eu s).2.1,(eu s).2.2) else eP s.size (eu s).1
theorem Dr {t:Tok} {c:UInt8}:(((t.kind:Int)==3) && (ByteArray.toList t.text==ByteArray.toList ⟨#[c]⟩))=fC t c:=by
 unfold fC;rw [ByteArray.toList_eq,ByteArray.toList_eq]
 congr 1
 by_cases h:t.kind=3
 ·rw [h]; rfl
 ·have h1:((t.kind:Int)==3)=false:=by simp; omega
  have h2:(t.kind==3)=false:=by simp; omega
  rw [h1,h2]
theorem yS (t:Tok) (c:UInt8) (h:Hp):HC Tryz.prog 96 #[.agg #[.int .i64 t.kind,.string t.text,.int .u32 t.num,.int .i64 t.at_],.string ⟨#[c]⟩] h fun v h'=>v=.bool (fC t c)∧Ext h h':=by
 refine aK (args:=[.agg #[.int .i64 t.kind,.string t.text,.int .u32 t.num,.int .i64 t.at_],.string ⟨#[c]⟩]) mixed Tryz.func96 (by kernel_rfl) (zz _ _ _ _ _) ?_;unfold yP;refine aX ?_;intro h1 b1 e1 z1;refine ad b1 ((t.kind:Int),()) rfl ?_;dsimp only [flat,az,ah,nA,cA];rw [← Dr];refine af (fun g1=>?_) (fun g1=>?_)
 ·rw [ao];refine ad b1 (t.text,()) rfl ?_;exact ⟨by rw [g1]; rfl,e1⟩
 ·exact ⟨by rw [g1]; rfl,e1⟩
structure In where
 p:Option Addr
 l:Nat
 c:Nat
 ts:List Tok
def In.val (a:In):List Value:=[.slice a.p a.l a.c]
structure gj (h:Hp) (b:Nat) (te es:TypeId) (p:Option Addr) (c:Nat) (al:List In):Prop where
 out:SL h b te 1 p al.length c (al.map In.val)
 ul:∀ a,a∈al→SL h b es 4 a.p a.l a.c (a.ts.map ec)
 po:∀ a,a∈al→∀ i,i∈aC a.p→i∉aC p
 pp:al.Pairwise fun a a'=>∀ i,i∈aC a.p→i∉aC a'.p
theorem gj.ai {h:Hp} {b:Nat} {p:Option Addr} {c:Nat} {al:List In} (A:gj h b te es p c al) (k:Ch ws h h') (h1:∀ i,i∈aC p→i∉ws) (h2:∀ a,a∈al→∀ i,i∈aC a.p→i∉ws):gj h' b te es p c al :=
 ⟨A.out.bf k h1,fun a ha=>(A.ul a ha).bf k (h2 a ha),A.po,A.pp⟩
theorem gj.mono {h:Hp} {b b':Nat} {p:Option Addr} {c:Nat} {al:List In} (A:gj h b te es p c al) (hb:b'≤b):gj h b' te es p c al :=
 ⟨A.out.mono hb,fun a ha=>(A.ul a ha).mono hb,A.po,A.pp⟩
theorem gj.nil (h:Hp) (b:Nat) (te es:TypeId):gj h b te es none 0 []:=⟨SL.nil _ _ _ _,by simp,by simp,List.Pairwise.nil⟩
theorem gj.snoc {h:Hp} {b:Nat} {p p':Option Addr} {c c':Nat} {al:List In} (A:gj h b te es p c al) {a:In} (hb:b≤h.size) (o:SL h' b te 1 p' (al.length+1) c' (al.map In.val++[a.val])) (k:Ch (aC p) h h') (hp:p'=p∨∃ x,p'=some x∧h.size≤x.block)
  (ha:SL h b es 4 a.p a.l a.c (a.ts.map ec)) (h1:∀ i,i∈aC a.p→i∉aC p) (h2:∀ x,x∈al→∀ i,i∈aC x.p→i∉aC a.p):gj h' b te es p' c' (al++[a]):=by
 have hp':∀ i,i∈aC p'→i∈aC p∨h.size≤i:=by
  intro i hi;rcases hp with rfl | ⟨x,rfl,hx⟩
  ·exact .inl hi
  ·simp [aC] at hi; right; omega
 refine ⟨by rw [List.length_append,List.map_append]; exact o,fun x hx=>?_,fun x hx i hi hh=>?_,List.pairwise_append.2 ⟨A.pp,by simp,fun x hx y hy i hi=>?_⟩⟩
 ·rcases List.mem_append.1 hx with hx | hx
  ·exact (A.ul x hx).bf k fun i hi=>A.po x hx i hi
  ·have hx:x=a:=by simpa using hx
   subst hx;exact ha.bf k h1
 ·rcases List.mem_append.1 hx with hx | hx
  ·rcases hp' i hh with h' | h'
   ·exact A.po x hx i hi h'
   ·have:=((A.ul x hx).bW hi).2; omega
  ·have hx:x=a:=by simpa using hx
   subst hx;rcases hp' i hh with h' | h'
   ·exact h1 i hi h'
   ·have:=(ha.bW hi).2; omega
 ·have hy:y=a:=by simpa using hy
  subst hy;exact h2 x hx i hi
theorem gj.last {h h'':Hp} {b:Nat} {p:Option Addr} {c:Nat} {dn:List In} {a a':In} (A:gj h b te es p c (dn++[a])) (ha:SL h' b es 4 a'.p a'.l a'.c (a'.ts.map ec)) (k:Ch (aC a.p) h h') (hp:a'.p=a.p∨∃ x,a'.p=some x∧h.size≤x.block)
  (o:SL h'' b te 1 p (dn++[a]).length c (((dn++[a]).map In.val).set dn.length a'.val)) (k':Ch (aC p) h' h''):gj h'' b te es p c (dn++[a']):=by
 have hp':∀ i,i∈aC a'.p→i∈aC a.p∨h.size≤i:=by
  intro i hi;rcases hp with hp | ⟨x,hp,hx⟩
  ·rw [hp] at hi; exact .inl hi
  ·rw [hp] at hi; simp [aC] at hi; right; omega
 obtain ⟨A1,A2,A3,A4⟩:=A;have hpp:=List.pairwise_append.1 A4;have jG:((dn++[a]).map In.val).set dn.length a'.val=(dn++[a']).map In.val:=by
  rw [List.map_append,List.map_append,List.set_append_right _ _ (by simp)]
  simp
 rw [jG] at o;have pa:∀ i,i∈aC a.p→i∉aC p:=A3 a (by simp)
 have pa':∀ i,i∈aC a'.p→i∉aC p:=by
  intro i hi hh;rcases hp' i hi with h1 | h1
  ·exact pa i h1 hh
  ·have:=(A1.bW hh).2; omega
 refine ⟨by simpa using o,fun x hx=>?_,fun x hx i hi=>?_,List.pairwise_append.2 ⟨hpp.1,by simp,fun x hx y hy i hi hh=>?_⟩⟩
 ·rcases List.mem_append.1 hx with hx | hx
  ·exact ((A2 x (by simp [hx])).bf k fun i hi=>hpp.2.2 x hx a (by simp) i hi).bf k' fun i hi=>A3 x (by simp [hx]) i hi
  ·have hx:x=a':=by simpa using hx
   subst hx;exact ha.bf k' pa'
 ·rcases List.mem_append.1 hx with hx | hx
  ·exact A3 x (by simp [hx]) i hi
  ·have hx:x=a':=by simpa using hx
   subst hx;exact pa' i hi
 ·have hy:y=a':=by simpa using hy
  subst hy;rcases hp' i hh with h1 | h1
  ·exact hpp.2.2 x hx a (by simp) i hi h1
  ·have:=((A2 x (by simp [hx])).bW hi).2; omega
structure Vw (h:Hp) (p:Option Addr) (l c:Nat) (us:List Tok):Prop where
 len:l=us.length
 cap:l≤c
 cells:∀ i,(hi:i<us.length)→∃ a,p=some a∧aG h (a.add (i*4)) 0 (ec us[i])
theorem Vw.ai {h:Hp} {p:Option Addr} {l c:Nat} {us:List Tok} (v:Vw h p l c us) (k:Ch ws h h') (hw:∀ i,i∈aC p→i∉ws):Vw h' p l c us :=
 ⟨v.len,v.cap,fun i hi=>by
  obtain ⟨a,ha,hc⟩:=v.cells i hi;exact ⟨a,ha,bE k (by rw [ji]; exact hw _ (by rw [ha]; simp [aC])) _ _ hc⟩⟩
theorem SL.vw {h:Hp} {b:Nat} {e:TypeId} {p:Option Addr} {l c:Nat} {us:List Tok} (s:SL h b e 4 p l c (us.map ec)):Vw h p l c us:=by
 refine ⟨by rw [s.1,List.length_map],?_,fun i hi=>?_⟩
 ·cases p with
  | none =>
   have h1:=s.1;rw [s.2.2.2,List.length_nil] at h1;omega
  | some a=>obtain ⟨_,_,_,_,_,hh,_⟩:=s.2.2; exact hh.1
 ·obtain ⟨a,ha,hc⟩:=s.cells (i:=i) (by simpa using hi);rw [List.getElem_map] at hc;exact ⟨a,ha,hc⟩
theorem add_add (a:Addr) (i j:Nat):(a.add i).add j=a.add (i+j):=by
 unfold Addr.add
 by_cases hi:i=0 <;> by_cases hj:j=0 <;> simp [hi,hj] <;> omega
theorem Vw.drop {h:Hp} {p:Option Addr} {l c:Nat} {us:List Tok} (v:Vw h p l c us) {k:Nat} (hk:k≤l):Vw h (if c=k then p else p.map fun a=>a.add (k*4)) (l-k) (c-k) (us.drop k):=by
 have:=v.len
 have:=v.cap
 refine ⟨by rw [List.length_drop]; omega,by omega,fun i hi=>?_⟩;rw [List.length_drop] at hi;rw [if_neg (by omega)];obtain ⟨a,rfl,hc⟩:=v.cells (k+i) (by omega);refine ⟨_,rfl,?_⟩;rw [add_add,← Nat.add_mul,List.getElem_drop];exact hc
theorem lL (p:Option Addr) (c k n:Nat):aC (if c=k then p else p.map fun a=>a.add n)=aC p:=by
 split
 ·rfl
 ·exact yd p n
def FW (n:Nat) (ts:List Tok) (h:Hp) (v:Value) (h':Hp):Prop :=
 Ext h h'∧match eU n ts with
 | .error a=>v=.tuple #[.slice none 0 0,.int .i64 a,.int .i64 20]
 | .ok l=>∃ p c al,v=.tuple #[.slice p al.length c,.int .i64 0,.int .i64 0]∧gj h' h.size 174 178 p c al∧al.map In.ts=l
abbrev Ay:List gJ:=[(false,[.slice 0]),(false,[.int .i64]),(false,[.int .i64]),(false,[.slice 0]),(false,[.int .i64])]
def MI (n:Nat) (us:List Tok) (h:Hp) (x:qh (flat Ay)) (m:Nat) (h':Hp):Prop :=
 ∃ (i:Nat) (dn:List In) (cu:In),x.2.2.2.2.1=(i:Int)∧i≤us.length∧m=us.length-i∧Ext h h'∧x.2.2.2.1.2.1=dn.length+1∧gj h' h.size 174 178 x.2.2.2.1.1 x.2.2.2.1.2.2 (dn++[cu]) ∧
  dV n us [] []=dV n (us.drop i) (dn.map In.ts) cu.ts∧dn.length≤i∧cu.ts.length≤i
theorem MP:(Tryz.prog.info? 178).map (fun i=>(i.zero,i.size,i.bytes))=some (some (.agg #[.int .i64 0,.string ⟨#[]⟩,.int .u32 0,.int .i64 0]),4,40):=by kernel_rfl
theorem Ml:(Tryz.prog.info? 174).map (fun i=>(i.zero,i.size,i.bytes))=some (some (.slice none 0 0),1,24):=by kernel_rfl
theorem JZ:Tryz.prog.underlying 128=some (.slice 174):=by kernel_rfl
theorem LB:Tryz.prog.underlying 174=some (.slice 178):=by kernel_rfl
theorem zC (s:ByteArray) {h:Hp} {pp:Option Addr} {ll cc:Nat} {us:List Tok} (hu:us.length≤2^40) (sl:Vw h pp ll cc us) :
  HC Tryz.prog 97 #[.string s,.slice pp ll cc] h (FW s.size us h):=by
 refine aK (args:=[.string s,.slice pp ll cc]) mixed Tryz.func97 (by kernel_rfl) (pH s pp ll cc) ?_;unfold kL;have hll:ll=us.length:=sl.len;refine af (fun g1=>?_) (fun g1=>?_)
 ·have g1:(ll:Int)=0:=eq_of_beq g1
  have:us=[]:=List.eq_nil_of_length_eq_zero (by omega)
  subst this;exact ⟨Ch.refl _ _,none,0,[],rfl,gj.nil _ _ _ _,rfl⟩
 have g1:(ll:Int)≠0:=ne_of_beq_false g1;have hne:us≠[]:=fun hh=>by rw [hh] at hll; simp at hll; omega
 refine dP (e:=174) (cells:=[.slice none 0 0]) JZ Ml (by omega) (by omega) (by kernel_rfl) ?_;intro h1 b1 e1 z1;have A1:gj h1 h.size 174 178 (some ⟨h.size,0,none⟩) 1 ([]++[⟨none,0,0,[]⟩]):=by
  refine ⟨⟨rfl,by simp [In.val],h.size,[],[],rfl,Nat.le_refl _,⟨by simp,by omega⟩,?_,rfl⟩,?_,?_,by simp⟩
  ·simpa [In.val] using b1
  ·intro a ha;have ha:a=⟨none,0,0,[]⟩:=by simpa using ha
   subst ha;exact SL.nil _ _ _ _
  ·intro a ha i hi;have ha:a=⟨none,0,0,[]⟩:=by simpa using ha
   subst ha;simp [aC] at hi
 refine bh (cs:=Ay) (MI s.size us h) ((none,0,0),(0:Int),(0:Int),(some ⟨h.size,0,none⟩,1,1),(0:Int),()) us.length rfl
  ⟨0,[],⟨none,0,0,[]⟩,rfl,by omega,by omega,e1,rfl,A1,rfl,by simp,by simp⟩ ?_
 clear A1 b1 e1 z1 h1;rintro ⟨⟨p5,l6,l7⟩,n8,n9,⟨p10,l11,l12⟩,n13,⟨⟩⟩ m h2 ⟨i,dn,cu,hi,hile,rfl,e2,hl11,A,hrec,hdn,hcu⟩;simp only at hi hl11 A;subst hi hl11;dsimp only [Ay,flat,az,ah,nA,cA];have hlen:(dn++[cu]).length=dn.length+1:=by simp
 have hwl:IntKind.wrap .i64 (((dn.length+1:Nat):Int)-1)=(dn.length:Int):=by rw [wrap_i64 (by omega) (by omega)]; omega
 rw [hwl];have hlast:∀ {hh:Hp} {p':Option Addr} {c':Nat},gj hh h.size 174 178 p' c' (dn++[cu])→∃ a,p'=some a∧aG hh (a.add (dn.length*1)) 0 [.slice cu.p cu.l cu.c]:=by
  intro hh p' c' A';obtain ⟨a,ha,hc⟩:=A'.out.cells (i:=dn.length) (by simp);refine ⟨a,ha,?_⟩
  have:((dn++[cu]).map In.val)[dn.length]'(by simp)=[.slice cu.p cu.l cu.c]:=by simp [In.val]
  rw [this] at hc;exact hc
 have hcul:cu.l=cu.ts.length:=by have:=(A.ul cu (by simp)).1; rw [this,List.length_map]
 refine af (fun g2=>?_) (fun g2=>?_)
 ·have g2:=of_decide_eq_true g2;have hlt:i<us.length:=by omega
  obtain ⟨a,rfl,dN⟩:=(sl.ai e2 (by simp)).cells i hlt;have hdr:us.drop i=us[i]::us.drop (i+1):=List.drop_eq_getElem_cons hlt;rw [hdr] at hrec;generalize us[i]=t at dN hrec;refine ay ⟨by omega,by omega⟩ (aj rfl ?_);rw [show Int.toNat (i:Int)=i by omega];refine aE ((t.kind:Int),t.text,(t.num:Int),(t.at_:Int),()) dN ?_;dsimp only [flat,az,ah,nA,cA];refine aX ?_;intro h3 b3 e3 z3;refine an b3 rfl (by simp) ?_;intro h4 b4 k4 z4;have b4:aO h4 h2.size 178 (ec t):=b4;have e24:Ext h2 h4:=Ch.trans e3 k4 (fun j hj hjl=>by simp at hj; omega);have A4:=A.ai e24 (by simp) (by simp);have hld:∀ {hh:Hp} {L:Lp} {K:Value→Hp→Prop} {kk:Int→ByteArray→Int→Int→T},Ext h4 hh→kk t.kind t.text t.num t.at_ L K hh→T.ae (⟨h2.size,0,none⟩:Addr) [.int .i64,.string,.int .u32,.int .i64] kk L K hh:=by
   intro hh L K kk e hk;exact ad (b4.ai e (by simp)) ((t.kind:Int),t.text,(t.num:Int),(t.at_:Int),()) rfl hk
  refine cD (cs:=[(false,[.bool])]) (fun y h'=>y.1=(fC t 58 || (fC t 44 && decide (cu.ts=[])))∧Ext h4 h') ?_ ?_
  ·refine hld (Ch.refl _ _) ?_;refine dk (yS t 58 h4) ?_;intro h5 e5;refine af (fun g3=>?_) (fun g3=>?_)
   ·exact aY (cs:=[(false,[.bool])]) (true,()) rfl rfl ⟨by rw [g3]; rfl,e5⟩
   ·refine hld e5 ?_;refine dk (yS t 44 h5) ?_;intro h6 e6;refine af (fun g4=>?_) (fun g4=>?_)
    ·obtain ⟨a',ha',hc'⟩:=hlast (A4.ai (e5.trans e6) (by simp) (by simp));refine ay ⟨by omega,by omega⟩ (aj ha' ?_);rw [show Int.toNat (dn.length:Int)=dn.length by omega];refine aE ((cu.p,cu.l,cu.c),()) hc' ?_;dsimp only [flat,az,ah,nA,cA];refine aY (cs:=[(false,[.bool])]) (((cu.l:Int)==0),()) rfl rfl ⟨?_,e5.trans e6⟩;show ((cu.l:Int)==0)=_;rw [g3,g4,Bool.false_or,Bool.true_and,hcul]
     by_cases hh:cu.ts=[]
     ·rw [hh]; rfl
     ·have:cu.ts.length≠0:=fun h0=>hh (List.eq_nil_of_length_eq_zero h0)
      rw [decide_eq_false hh];simp only [beq_eq_false_iff_ne,ne_eq];omega
    ·exact aY (cs:=[(false,[.bool])]) (false,()) rfl rfl ⟨by rw [g3,g4]; rfl,e5.trans e6⟩
  ·rintro ⟨b20,⟨⟩⟩ h5 ⟨hb20,e5⟩;simp only at hb20;subst hb20;dsimp only [flat,az,ah,nA,cA];have e25:=e2.trans (e24.trans e5);refine af (fun g3=>?_) (fun g3=>?_)
   ·rw [ao];refine ad (b4.ai e5 (by simp)) ((t.at_:Int),()) rfl ?_;refine ⟨⟨(b4.ai e5 (by simp)).cells _ rfl,trivial⟩,?_⟩;refine ⟨e25,?_⟩
    have:eU s.size us=.error t.at_:=by
     unfold eU;rw [if_neg hne,hrec];unfold dV;rw [if_pos g3]
    rw [this]
   ·rw [show dV s.size (t::us.drop (i+1)) (dn.map In.ts) cu.ts=if fC t 44=true then dV s.size (us.drop (i+1)) (dn.map In.ts++[cu.ts]) [] else dV s.size (us.drop (i+1)) (dn.map In.ts) (cu.ts++[t]) by
     conv=>lhs; unfold dV
     rw [if_neg (by rw [g3]; simp)]] at hrec
    refine hld e5 ?_;refine dk (yS t 44 h5) ?_;intro h6 e6;have hw:IntKind.wrap .i64 ((i:Int)+1)=((i+1:Nat):Int):=by rw [wrap_i64 (by omega) (by omega)]; omega
    have A6:=A4.ai (e5.trans e6) (by simp) (by simp);have e26:Ext h h6:=e25.trans e6;have hs6:=e26.size;refine af (fun g4=>?_) (fun g4=>?_)
    ·rw [if_pos g4] at hrec;refine rJ (e:=174) (vs:=[.slice none 0 0]) JZ Ml rfl (by omega) (by omega) (by kernel_rfl) rfl rfl (by rw [← hlen]; exact A6.out) hs6 (by omega) (by omega) ?_;intro p' c' h7 o7 k7 hp7;refine aI (cs:=Ay) ((p5,l6,l7),n8,n9,(p',dn.length+1+1,c'),((i+1:Nat):Int),()) (us.length-(i+1)) rfl (by omega) (by rw [hw]; rfl) ?_;refine ⟨i+1,dn++[cu],⟨none,0,0,[]⟩,rfl,by omega,rfl,?_,by simp,A6.snoc hs6 (by rw [hlen]; exact o7) k7 hp7 (SL.nil _ _ _ _) (by simp [aC]) (by simp [aC]),?_,by simp; omega,by simp⟩
     ·exact Ch.trans e26 k7 (fun j hj hjl=>by have:=(A6.out.bW hj).1; omega)
     ·rw [hrec,List.map_append]; rfl
    ·rw [if_neg (by rw [g4]; simp)] at hrec;obtain ⟨a',rfl,hc'⟩:=hlast A6;refine ay ⟨by omega,by omega⟩ (aj rfl ?_);rw [show Int.toNat (dn.length:Int)=dn.length by omega];refine aE ((cu.p,cu.l,cu.c),()) hc' ?_;dsimp only [flat,az,ah,nA,cA];refine hld (e5.trans e6) ?_;have ab:a'.block∈aC (some a'):=by simp [aC]
     refine zm (e:=178) (vs:=ec t) LB MP rfl (by omega) (by omega) (by kernel_rfl) rfl rfl (A6.ul cu (by simp)) hs6 (by omega) (by omega) (fun h' e=>⟨bE e (by simp) _ _ hc',trivial⟩) ?_;intro p7 c7 h7 o7 k7 hp7;have hch7:h2.size∉aC cu.p:=fun hh=>by have:=((A.ul cu (by simp)).bW hh).2; omega
     refine ⟨⟨((b4.ai (e5.trans e6) (by simp)).ai k7 hch7).cells _ rfl,trivial⟩,?_⟩;refine ay ⟨by omega,by omega⟩ (aj rfl ?_);have o6:=A6.out.bf k7 (fun j hj hh=>A6.po cu (by simp) j hh hj);refine o6.store (P:=Tryz.prog) (i:=dn.length) (by simp) (vs:=[.slice p7 (cu.l+1) c7]) rfl rfl rfl ?_;intro h8 o8 k8 z8;refine aI (cs:=Ay) ((p5,l6,l7),n8,n9,(some a',dn.length+1,l12),((i+1:Nat):Int),()) (us.length-(i+1)) rfl (by omega) (by rw [hw]; rfl) ?_;refine ⟨i+1,dn,⟨p7,cu.l+1,c7,cu.ts++[t]⟩,rfl,by omega,rfl,?_,rfl,?_,hrec,by omega,by simp; omega⟩
     ·refine Ch.trans (Ch.trans e26 k7 (fun j hj hjl=>by have:=((A6.ul cu (by simp)).bW hj).1; omega)) k8 (fun j hj hjl=>by have:=(A6.out.bW hj).1; omega)
     ·exact A6.last (a':=⟨p7,cu.l+1,c7,cu.ts++[t]⟩) (by rw [List.map_append]; exact o7) k7 hp7 o8 k8
 ·have g2:=of_decide_eq_false g2;have hi:i=us.length:=by omega
  subst hi;rw [List.drop_length] at hrec;obtain ⟨a',rfl,hc'⟩:=hlast A;refine ay ⟨by omega,by omega⟩ (aj rfl ?_);rw [show Int.toNat (dn.length:Int)=dn.length by omega];refine aE ((cu.p,cu.l,cu.c),()) hc' ?_;dsimp only [flat,az,ah,nA,cA];have hA:eU s.size us=if cu.ts=[] then .error s.size else .ok (dn.map In.ts++[cu.ts]):=by
   unfold eU;rw [if_neg hne,hrec];rfl
  refine af (fun g3=>?_) (fun g3=>?_)
  ·have g3:(cu.l:Int)=0:=eq_of_beq g3;refine ⟨e2,?_⟩;rw [hA,if_pos (List.eq_nil_of_length_eq_zero (by omega))]
  ·have g3:(cu.l:Int)≠0:=ne_of_beq_false g3;refine ⟨e2,?_⟩;rw [hA,if_neg (fun hh=>by rw [hh] at hcul; simp at hcul; omega)];exact ⟨some a',l12,dn++[cu],by rw [hlen],A,by simp⟩
end Go.Sx
