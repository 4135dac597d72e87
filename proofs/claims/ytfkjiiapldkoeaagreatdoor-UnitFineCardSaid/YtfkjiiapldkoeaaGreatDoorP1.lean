/- Contracts over heaps, and plain laws, for the functions that the laws of chapter 9 call, part 1: The library's contracts on strings.Join, on decimal numerals and on strings.Cut, Condition: as each statement says. -/
import Derived.Test.YtfkjiiapldkoeaaGreatDoorALexT
import Derived.Test.YtfkjiiapldkoeaaGreatDoorALexU
import Derived.Test.YtfkjiiapldkoeaaGreatDoorALexV
import Derived.Test.YtfkjiiapldkoeaaGreatDoorSxE
import Derived.Test.YtfkjiiapldkoeaaGreatDoorALineT
import Derived.Test.YtfkjiiapldkoeaaGreatDoorAShelf
import Derived.Test.YtfkjiiapldkoeaaGreatDoorSxG
import Derived.Test.YtfkjiiapldkoeaaGreatDoorAExprT
import Derived.Shelf.Strings.OnBuilder
import Derived.Shelf.Strconv.Itoa1
import Derived.Shelf.LaysM
import Derived.Shelf.Strconv.Itoa2
import Derived.Shelf.Strings.Cut
import Derived.RangeFuncNested
import Derived.RangeFuncBound
import Derived.RangeFuncCalls
import Derived.RangeFuncLeaves
import Derived.Shelf.Abstract
import Derived.Shelf.RegionOpen
import Derived.OwnWalkIn
import Derived.TacticsInMore
import Derived.LoopNIn
import Derived.LoopIn
set_option linter.unusedVariables false
set_option linter.unusedSimpArgs false
set_option linter.deprecated false
set_option maxRecDepth 100000
namespace Go.Sx
open Go.Proofs
theorem mixed:Tryz.prog.follows .mixedOrders=true:=by kernel_rfl
theorem Lg : (Tryz.f174.name == "runtime.NumGoroutine") = false := by kernel_rfl
theorem Lh:Tryz.f174.body.isNone=true:=by kernel_rfl
theorem Lf:Extern.findNext Tryz.f174=none:=by kernel_rfl
theorem Lb:Extern.find Tryz.f174=some Extern.BytealgIndexByte.indexByte:=by kernel_rfl
set_option maxHeartbeats 4000000 in
theorem xh (s:ByteArray) (c:Int) (h:Hp):ur Tryz.prog 145 [.string s,.int .u8 c] h (.int .i64 (Lib.indexByte s.data.toList c.toNat.toUInt8)):=by
 refine ec mixed Tryz.func145 (by kernel_rfl) (eX s c) ?_
 refine F' Tryz.func174 Lg Lh Lf Lb ?_
 rw [uJ]
 exact ⟨(_,()),rfl,rfl,rfl⟩
theorem qU (s:ByteArray) (c:Int) (h:Hp):ur Tryz.prog 118 [.string s,.int .u8 c] h (.int .i64 (Lib.indexByte s.data.toList c.toNat.toUInt8)):=by
 refine ec mixed Tryz.func118 (by kernel_rfl) (kX s c) ?_
 exact cX (xh s c h) ⟨rfl,rfl⟩
def aK (s set:List UInt8):Nat:=(s.takeWhile fun c=>set.contains c).length
theorem bY (s set:List UInt8):aK s set≤s.length:=by
 unfold aK
 exact (List.takeWhile_prefix _).length_le
theorem jg {p:UInt8→Bool}:∀ (l:List UInt8) (k:Nat),k≤(l.takeWhile p).length→k<l.length→(k<(l.takeWhile p).length↔p (l.getD k 0)=true)
 | [],k,_,h=>by simp at h
 | c::l,0,_,_=>by
  simp only [List.takeWhile_cons,List.getD_cons_zero]
  cases hp:p c <;> simp
 | c::l,k+1,h,hl=>by
  simp only [List.takeWhile_cons] at h ⊢
  cases hp:p c with
  | false=>rw [hp] at h; simp at h
  | true =>
   rw [hp] at h
   simp at h hl
   have:=jg l k (by simpa using h) hl
   simpa using this
theorem oC (s set:List UInt8) (k:Nat) (hk:k≤aK s set) (hl:k<s.length):(k<aK s set↔set.contains (s.getD k 0)=true):=jg s k hk hl
theorem Fy (s:ByteArray) (n:Int):(bN s n).toNat.toUInt8=s.data.toList.getD n.toNat 0:=by
 unfold bN; simp
theorem lG (s set:ByteArray) (h:Hp) (hs:s.size≤9223372036854775807):ur Tryz.prog 82 [.string s,.string set] h (.int .i64 (aK s.data.toList set.data.toList)):=by
 refine ec mixed Tryz.func82 (by kernel_rfl) (zl s set) ?_
 have hsz:s.data.toList.length=s.size:=by simp
 have hle:=bY s.data.toList set.data.toList
 refine bm (cs:=[(false,[.int .i64])]) (fun x n h'=>h'=h∧∃ k:Nat,x.1=(k:Int)∧k≤aK s.data.toList set.data.toList∧n=s.size-k) ((0:Int),()) s.size rfl ⟨rfl,0,rfl,by omega,by omega⟩ ?_
 rintro ⟨n,⟨⟩⟩ m h' ⟨rfl,k,hk,hle',rfl⟩
 simp only at hk
 subst hk
 refine af (fun hb=>?_) (fun hb=>?_)
 ·have hlt:(k:Int)<s.size:=of_decide_eq_true hb
  have hst:=oC s.data.toList set.data.toList k hle' (by omega)
  refine aA ⟨by omega,hlt⟩ ?_
  refine cX (qU _ _ _) ?_
  rw [Fy]
  have hc:=Lib.contains_iff_indexByte set.data.toList (s.data.toList.getD k 0)
  refine af (fun hb2=>?_) (fun hb2=>?_)
  ·have h2:=of_decide_eq_true hb2
   rw [wrap_i64 (by omega) (by omega)]
   have hin:set.data.toList.contains (s.data.toList.getD k 0)=true:=by rw [hc]; exact decide_eq_true h2
   exact aM (cs:=[(false,[.int .i64])]) ((k:Int)+1,()) (s.size-(k+1)) rfl (by omega) rfl ⟨rfl,k+1,(show ((k:Int)+1)=((k+1:Nat):Int) from by omega),hst.2 hin,rfl⟩
  ·have h2:=of_decide_eq_false hb2
   have hin:¬ set.data.toList.contains (s.data.toList.getD k 0)=true:=by rw [hc]; exact fun hh=>h2 (of_decide_eq_true hh)
   have:k=aK s.data.toList set.data.toList:=by
    have:¬ k<aK s.data.toList set.data.toList:=fun hh=>hin (hst.1 hh)
    omega
   exact ⟨by rw [← this],rfl⟩
 ·have hge:¬ (k:Int)<s.size:=of_decide_eq_false hb
  have:k=aK s.data.toList set.data.toList:=by omega
  exact ⟨by rw [← this],rfl⟩
/-! Bytes: letters and digits. -/
def eW (c:UInt8):Bool:=(97≤c.toNat && c.toNat≤122) || (65≤c.toNat && c.toNat≤90) || c.toNat==95
def eu (c:UInt8):Bool:=48≤c.toNat && c.toNat≤57
def bV:List UInt8:=[97,98,99,100,101,102,103,104,105,106,107,108,109,110,111,112,113,114,115,116,117,118,119,120,121,122,65,66,67,68,69,70,71,72,73,74,75,76,77,78,79,80,81,82,83,84,85,86,87,88,89,90,95]
def aS:List UInt8:=[48,49,50,51,52,53,54,55,56,57]
theorem gK (p q:UInt8→Bool) (h:(List.range 256).all (fun n=>p (UInt8.ofNat n)==q (UInt8.ofNat n))=true) (c:UInt8):p c=q c:=by
 have:=List.all_eq_true.1 h c.toNat (List.mem_range.2 (by have:=c.toNat_lt; omega))
 simpa using this
theorem vt (c:UInt8):bV.contains c=eW c:=gK (fun c=>bV.contains c) eW (by decide +kernel) c
theorem xK (c:UInt8):aS.contains c=eu c:=gK (fun c=>aS.contains c) eu (by decide +kernel) c
theorem nF (c:UInt8):(bV++aS).contains c=(eW c || eu c):=gK (fun c=>(bV++aS).contains c) (fun c=>eW c || eu c) (by decide +kernel) c
def cN (c:UInt8):Int:=(c.toNat:Nat)
theorem xz (c:UInt8):eu c=true↔48≤cN c∧cN c≤57:=by
 unfold eu cN
 simp only [Bool.and_eq_true,decide_eq_true_eq]
 omega
def iG (s:List UInt8):Int × Bool × Bool :=
 match s with
 | [a,b]=>if cN a=114∧48≤cN b∧cN b≤55 then (cN b-48,false,true) else if cN a=122∧48≤cN b∧cN b≤51 then (cN b-48,true,true) else (0,false,false)
 | _=>(0,false,false)
theorem GK {s:List UInt8} (h:s.length≠2):iG s=(0,false,false):=by
 unfold iG
 split
 ·simp at h
 ·rfl
theorem kn (s:ByteArray) (n:Int):bN s n=cN (s.data.toList.getD n.toNat 0):=rfl
theorem two_bytes {s:ByteArray} (h1:(s.size:Int)=2):∃ a b,s.data.toList=[a,b]:=by
 have hsz:s.data.toList.length=s.size:=by simp
 match hl:s.data.toList with
 | [a,b]=>exact ⟨a,b,rfl⟩
 | []=>rw [hl] at hsz; simp at hsz; omega
 | [a]=>rw [hl] at hsz; simp at hsz; omega
 | a::b::c::l=>rw [hl] at hsz; simp at hsz; omega
theorem mH (s:ByteArray) (h:Hp):ur Tryz.prog 81 [.string s] h (.tuple #[.int .i64 (iG s.data.toList).1,.bool (iG s.data.toList).2.1,.bool (iG s.data.toList).2.2]):=by
 refine ec mixed Tryz.func81 (by kernel_rfl) (re s) ?_
 have hsz:s.data.toList.length=s.size:=by simp
 unfold mZ
 refine af (fun h1=>?_) (fun h1=>?_)
 ·have h1:(s.size:Int)≠2:=by simpa using h1
  rw [GK (by omega)]
  exact ⟨rfl,rfl⟩
 ·have h1:(s.size:Int)=2:=by simpa using h1
  obtain ⟨a,b,hab⟩:=two_bytes h1
  have e0:bN s 0=cN a:=by rw [kn,hab]; rfl
  have e1:bN s 1=cN b:=by rw [kn,hab]; rfl
  have hb:=b.toNat_lt
  have w1:IntKind.wrap .i64 (IntKind.wrap .i64 (bN s 1)-48)=cN b-48:=by
   rw [e1,wrap_i64 (x:=cN b) (by unfold cN; omega) (by unfold cN; omega),wrap_i64 (by unfold cN; omega) (by unfold cN; omega)]
  rw [w1,e0,hab]
  unfold iG
  repeat' (first | refine aA ⟨by omega,by omega⟩ ?_ | (refine af (fun h1=>?_) (fun h1=>?_) <;> first | replace h1:=of_decide_eq_true h1 | replace h1:=of_decide_eq_false h1 | replace h1:=eq_of_beq h1 | replace h1:=ne_of_beq_false h1))
  all_goals
   refine ⟨?_,rfl⟩
   simp only
   first
    | (exfalso; omega)
    | rw [if_pos (by omega)]
    | rw [if_neg (by omega),if_pos (by omega)]
    | rw [if_neg (by omega),if_neg (by omega)]
def bh (s:List UInt8):Bool:=decide (0<s.length) && decide (s.length≤32) && eW (s.getD 0 0) && s.all (fun c=>eW c || eu c) && !(iG s).2.2
theorem mL {s set:List UInt8} (h:0<s.length):0<aK s set↔set.contains (s.getD 0 0)=true:=oC s set 0 (Nat.zero_le _) h
theorem Hc {s set:List UInt8}:aK s set=s.length↔s.all (fun c=>set.contains c)=true:=by
 unfold aK
 induction s with
 | nil=>simp
 | cons c s ih =>
  rw [List.takeWhile_cons,List.all_cons]
  cases hc:set.contains c with
  | true=>simp only [if_true,List.length_cons,Bool.true_and]; rw [← ih]; omega
  | false=>simp
theorem KP:(⟨#[97,98,99,100,101,102,103,104,105,106,107,108,109,110,111,112,113,114,115,116,117,118,119,120,121,122,65,66,67,68,69,70,71,72,73,74,75,76,77,78,79,80,81,82,83,84,85,86,87,88,89,90,95]⟩:ByteArray).data.toList=bV:=rfl
theorem JF:(⟨#[97,98,99,100,101,102,103,104,105,106,107,108,109,110,111,112,113,114,115,116,117,118,119,120,121,122,65,66,67,68,69,70,71,72,73,74,75,76,77,78,79,80,81,82,83,84,85,86,87,88,89,90,95,48,49,50,51,52,53,54,55,56,57]⟩:ByteArray).data.toList=bV++aS:=rfl
theorem toList_nil {s:ByteArray}:(s.toList==[])=decide (s.size=0):=by
 have:s.toList=s.data.toList:=ByteArray.toList_eq s
 rw [this]
 have hsz:s.data.toList.length=s.size:=by simp
 cases hl:s.data.toList with
 | nil=>rw [hl] at hsz; simp at hsz; simp [← hsz]
 | cons a l=>rw [hl] at hsz; simp at hsz; simp [← hsz]
theorem kz (s:ByteArray) (h:Hp) (hs:s.size≤9223372036854775807):ur Tryz.prog 45 [.string s] h (.bool (bh s.data.toList)):=by
 refine ec mixed Tryz.func45 (by kernel_rfl) (vN s) ?_
 have hsz:s.data.toList.length=s.size:=by simp
 unfold sO
 refine wb (mH s h) ?_
 unfold bh
 rw [hsz]
 refine af (fun h1=>?_) (fun h1=>?_)
 ·have h1:s.size≠0:=by rw [toList_nil] at h1; simpa using h1
  refine af (fun h2=>?_) (fun h2=>?_)
  ·have h2:=of_decide_eq_true h2
   refine cX (lG s _ h hs) ?_
   rw [KP]
   have hp:=mL (set:=bV) (by omega:0<s.data.toList.length)
   rw [vt] at hp
   refine af (fun h3=>?_) (fun h3=>?_)
   ·have h3:=of_decide_eq_true h3
    refine cX (lG s _ h hs) ?_
    rw [JF]
    have ha:=Hc (s:=s.data.toList) (set:=bV++aS)
    have hg:(fun c=>(bV++aS).contains c)=(fun c=>eW c || eu c):=funext nF
    rw [hg] at ha
    rw [show decide (0<s.size)=true from decide_eq_true (by omega),show decide (s.size≤32)=true from decide_eq_true (by omega),hp.1 (by omega)]
    refine af (fun h4=>?_) (fun h4=>?_)
    ·have h4:=eq_of_beq h4
     rw [ha.1 (by omega)]
     exact ⟨rfl,rfl⟩
    ·have h4:=ne_of_beq_false h4
     have:s.data.toList.all (fun c=>eW c || eu c)=false:=by
      cases hx:s.data.toList.all (fun c=>eW c || eu c) with
      | false=>rfl
      | true=>exact (h4 (by rw [ha.2 hx]; omega)).elim
     rw [this]
     exact ⟨rfl,rfl⟩
   ·have h3:=of_decide_eq_false h3
    have:eW (s.data.toList.getD 0 0)=false:=by
     cases hx:eW (s.data.toList.getD 0 0) with
     | false=>rfl
     | true=>have:=hp.2 hx; omega
    rw [this]
    exact ⟨by simp,rfl⟩
  ·have h2:=of_decide_eq_false h2
   rw [show decide (s.size≤32)=false from decide_eq_false (by omega)]
   exact ⟨by simp,rfl⟩
 ·have h1:s.size=0:=by rw [toList_nil] at h1; simpa using h1
  rw [show decide (0<s.size)=false from decide_eq_false (by omega)]
  exact ⟨by simp,rfl⟩
theorem Br (s:ByteArray) (h:Hp) (hs:s.size≤2^48):HC Tryz.prog 200 #[.string s] h fun v h'=>v=.string s∧Ext h h':=by
 refine aL (args:=[.string s]) mixed Tryz.func200 (by kernel_rfl) (fY s) ?_
 unfold dP
 have hsz:s.data.toList.length=s.size:=by simp
 refine af (fun h1=>?_) (fun h1=>?_)
 ·have h1:=eq_of_beq h1
  have:s=⟨#[]⟩:=by
   apply ByteArray.ext
   exact Array.eq_empty_of_size_eq_zero (by have:s.data.size=s.size:=rfl; omega)
  rw [this]
  exact ⟨rfl,Ch.refl _ _⟩
 ·have h1:=ne_of_beq_false h1
  obtain ⟨i5,hi5,hz5,hs5,hb5⟩:_:=nI (P:=Tryz.prog) (t:=5) (z:=.int .u8 0) (s:=1) (b:=1) (by kernel_rfl)
  refine cV ?_
  refine zn (e:=5) (by kernel_rfl) hi5 hz5 (Nat.le_refl _) (by rw [hb5]; omega) (by omega) ?_
  intro h1' b1 e1 z1
  refine ⟨_,_,_,rfl,?_⟩
  show T.aY Tryz.prog (Builtin.copy_ #[42,9] 3 #[.slice (some ⟨h.size,0,none⟩) s.size s.size,.string s]) false [(false,[.int .i64])] _ [] _ h1'
  refine BN (e:=5) (by kernel_rfl) hi5 b1 rfl (by simp [hs5]) ?_
  intro h2 b2 c2 z2
  refine ⟨(_,()),rfl,?_⟩
  refine aA ⟨by omega,by omega⟩ (an rfl ?_)
  have hl:iK ((List.range (s.size*i5.size)).map ((Value.int IntKind.u8 0).cells[· % (Value.int IntKind.u8 0).cells.size]!)) 0 (s.data.toList.map gw)=s.data.toList.map gw:=by
   rw [ol _ _ _ (by simp [hs5])]
   rw [List.take_zero,List.nil_append,List.drop_of_length_le (by simp [hs5]),List.append_nil]
  rw [hl] at b2
  have hne:s.data.toList≠[]:=by
   intro hn; rw [hn] at hsz; simp at hsz; omega
  have h63:s.size≤9223372036854775807:=by omega
  rw [← hsz]
  refine tG (e:=5) (by kernel_rfl) (by kernel_rfl) b2 s.data.toList hne (by simp) (by omega) (fun i hi=>?_) ?_
  ·rw [b2.cell,List.getElem?_map,List.getElem?_eq_getElem hi]; rfl
  ·intro h3 f' hg3 c3 z3
   refine ⟨(_,()),rfl,?_⟩
   refine ⟨?_,?_⟩
   ·congr 1
   ·have hv:∀ i,i∈[h.size]→i<h.size→i∈([]:List Nat):=by
     intro i hi hlt; simp at hi; omega
    exact Ch.trans (Ch.trans e1 c2 hv) c3 hv
structure Laid (h:Hp):Prop where
 ML:∃ v,ew h ⟨4,0,none⟩=some v∧eF v=false
 MD:∃ v,ew h ⟨5,0,none⟩=some v∧eF v=false
theorem Laid.ext {h h':Hp} (l:Laid h) (e:Ext h h'):Laid h':=by
 obtain ⟨v,h1,h2⟩:=l.ML
 obtain ⟨u,h3,h4⟩:=l.MD
 exact ⟨⟨v,dc h1 e (by simp),h2⟩,⟨u,dc h3 e (by simp),h4⟩⟩
theorem nr (fn s:ByteArray) (h:Hp) (hs:s.size≤2^48) (hl:Laid h):HC Tryz.prog 189 #[.string fn,.string s] h fun v h'=>(∃ a,v=.pointer (some a))∧Ext h h':=by
 refine aL (args:=[.string fn,.string s]) mixed Tryz.func189 (by kernel_rfl) (j4 fn s) ?_
 unfold ga
 obtain ⟨v,hv,hva⟩:=hl.ML
 refine aG (v,()) ⟨hv,trivial⟩ ?_
 refine aC (Br s h hs) ?_
 rintro _ h1 ⟨rfl,e1⟩
 refine ⟨(s,()),rfl,?_⟩
 refine ⟨⟨⟨dc hv e1 (by simp),trivial⟩,trivial⟩,?_⟩
 refine bo hva ?_
 refine aW ?_
 intro h2 b2 e2 z2
 exact ⟨⟨⟨dc (dc hv e1 (by simp)) e2 (by simp),trivial⟩,trivial⟩,⟨_,rfl⟩,e1.trans e2⟩
theorem xg (fn s:ByteArray) (h:Hp) (hs:s.size≤2^48) (hl:Laid h):HC Tryz.prog 190 #[.string fn,.string s] h fun v h'=>(∃ a,v=.pointer (some a))∧Ext h h':=by
 refine aL (args:=[.string fn,.string s]) mixed Tryz.func190 (by kernel_rfl) (kt fn s) ?_
 unfold gS
 obtain ⟨v,hv,hva⟩:=hl.MD
 refine aG (v,()) ⟨hv,trivial⟩ ?_
 refine aC (Br s h hs) ?_
 rintro _ h1 ⟨rfl,e1⟩
 refine ⟨(s,()),rfl,?_⟩
 refine ⟨⟨⟨dc hv e1 (by simp),trivial⟩,trivial⟩,?_⟩
 refine bo hva ?_
 refine aW ?_
 intro h2 b2 e2 z2
 exact ⟨⟨⟨dc (dc hv e1 (by simp)) e2 (by simp),trivial⟩,trivial⟩,⟨_,rfl⟩,e1.trans e2⟩
theorem Jw (h:Hp) (K:Value→Hp→Prop):aD Tryz.prog (bM (.eql) 29 (.tmp 11) (.tmp 13) (.iface 299 (.int .i64 2)) (.iface 299 (.int .i64 2))) h K=K (.bool true) h:=by kernel_rfl
theorem KN (h:Hp) (K:Value→Hp→Prop):aD Tryz.prog (bM (.eql) 29 (.tmp 11) (.tmp 13) (.iface 299 (.int .i64 1)) (.iface 299 (.int .i64 2))) h K=K (.bool false) h:=by kernel_rfl
theorem KB (h:Hp) (K:Value→Hp→Prop):aD Tryz.prog (bM (.eql) 29 (.tmp 11) (.tmp 20) (.iface 299 (.int .i64 1)) (.iface 299 (.int .i64 1))) h K=K (.bool true) h:=by kernel_rfl
abbrev Et:ByteArray:=⟨#[80,97,114,115,101,85,105,110,116]⟩
theorem wm (s:ByteArray) (h:Hp) (hs:s.size≤2^48) (hl:Laid h):HC Tryz.prog 178 #[.string Et,.string s,.int .i64 10,.int .i64 32,.iface 299 (.int .i64 2)] h fun v h'=>(∃ a,v=.iface 301 (.pointer (some a)))∧Ext h h':=by
 refine aL (args:=[.string Et,.string s,.int .i64 10,.int .i64 32,.iface 299 (.int .i64 2)]) mixed Tryz.func178 (by kernel_rfl) (j2 s) ?_
 unfold gj
 refine bw (b:=true) (fun K' hk=>by rw [Jw]; exact hk) ?_
 refine bd rfl (aC (nr _ s h hs hl) ?_)
 rintro _ h1 ⟨⟨a,rfl⟩,e1⟩
 exact ⟨(some a,()),rfl,⟨a,rfl⟩,e1⟩
theorem v7 (s:ByteArray) (h:Hp) (hs:s.size≤2^48) (hl:Laid h):HC Tryz.prog 178 #[.string Et,.string s,.int .i64 16,.int .i64 32,.iface 299 (.int .i64 2)] h fun v h'=>(∃ a,v=.iface 301 (.pointer (some a)))∧Ext h h':=by
 refine aL (args:=[.string Et,.string s,.int .i64 16,.int .i64 32,.iface 299 (.int .i64 2)]) mixed Tryz.func178 (by kernel_rfl) (j' s) ?_
 unfold gu
 refine bw (b:=true) (fun K' hk=>by rw [Jw]; exact hk) ?_
 refine bd rfl (aC (nr _ s h hs hl) ?_)
 rintro _ h1 ⟨⟨a,rfl⟩,e1⟩
 exact ⟨(some a,()),rfl,⟨a,rfl⟩,e1⟩
theorem vH (s:ByteArray) (h:Hp) (hs:s.size≤2^48) (hl:Laid h):HC Tryz.prog 178 #[.string Et,.string s,.int .i64 10,.int .i64 32,.iface 299 (.int .i64 1)] h fun v h'=>(∃ a,v=.iface 301 (.pointer (some a)))∧Ext h h':=by
 refine aL (args:=[.string Et,.string s,.int .i64 10,.int .i64 32,.iface 299 (.int .i64 1)]) mixed Tryz.func178 (by kernel_rfl) (j5 s) ?_
 unfold gD
 refine bw (b:=false) (fun K' hk=>by rw [KN]; exact hk) (bo rfl ?_)
 refine bw (b:=true) (fun K' hk=>by rw [KB]; exact hk) ?_
 refine bd rfl (aC (xg _ s h hs hl) ?_)
 rintro _ h1 ⟨⟨a,rfl⟩,e1⟩
 exact ⟨(some a,()),rfl,⟨a,rfl⟩,e1⟩
def dv (c:UInt8):Nat:=if c.toNat<58 then c.toNat-48 else c.toNat-87
def bX (b:Nat) (l:List UInt8):Nat:=l.foldl (fun n c=>n*b+dv c) 0
def qu (c:UInt8):Bool:=eu c || (97≤c.toNat && c.toNat≤102)
theorem xD (b:Nat) (l:List UInt8) (k:Nat) (hk:k<l.length):bX b (l.take (k+1))=bX b (l.take k)*b+dv (l.getD k 0):=by
 unfold bX
 rw [List.take_succ_eq_append_getElem hk,List.foldl_append]
 simp [List.getD,List.getElem?_eq_getElem hk]
theorem Be (b:Nat) (hb:0<b):∀ (l:List UInt8) (n:Nat),n≤l.foldl (fun n c=>n*b+dv c) n
 | [],n=>Nat.le_refl _
 | c::l,n=>by
  rw [List.foldl_cons]
  refine Nat.le_trans ?_ (Be b hb l _)
  have:=Nat.mul_le_mul_left n hb
  omega
theorem qO (b:Nat) (hb:0<b) (l:List UInt8) (k:Nat):bX b (l.take k)≤bX b l:=by
 conv=>rhs; rw [← List.take_append_drop k l]
 unfold bX
 rw [List.foldl_append]
 exact Be b hb _ _
theorem GZ (c:UInt8) (h:Hp) (h1:97≤c.toNat) (h2:c.toNat≤122):ur Tryz.prog 187 [.int .u8 (cN c)] h (.int .u8 (cN c)):=by
 refine ec mixed Tryz.func187 (by kernel_rfl) (iF _) ?_
 refine ⟨?_,rfl⟩
 congr 1
 have:=gK (fun c=>!(decide (97≤c.toNat) && decide (c.toNat≤122)) || decide (IntKind.wrap .u8 ((BitVec.toNat ((BitVec.ofInt 8 (cN c)) ||| (BitVec.ofInt 8 (32:Int)))):Int)=cN c)) (fun _=>true) (by decide +kernel) c
 simp only [h1,h2,decide_true,Bool.and_self,Bool.not_true,Bool.false_or,decide_eq_true_eq] at this
 exact this
def xa (b:Nat) (l:List UInt8):Nat × Value:=if l=[] then (0,.iface 299 (.int .i64 2)) else if bX b l<4294967296 then (bX b l,.nilIface) else (4294967295,.iface 299 (.int .i64 1))
theorem ul (s:ByteArray):s.data.toList=[]↔s.size=0:=by
 have hsz:s.data.toList.length=s.size:=by simp
 constructor
 ·intro h; rw [h] at hsz; simpa using hsz.symm
 ·intro h; exact List.eq_nil_of_length_eq_zero (by omega)
theorem GU (s:ByteArray) (h:Hp) (hs:s.size≤2^48) (hd:∀ i,i<s.size→eu (s.data.toList.getD i 0)=true) :
  HC Tryz.prog 177 #[.string s,.int .i64 10,.int .i64 32] h fun v h'=>v=.tuple #[.int .u64 (xa 10 s.data.toList).1,(xa 10 s.data.toList).2]∧Ext h h':=by
 refine aL (args:=[.string s,.int .i64 10,.int .i64 32]) mixed Tryz.func177 (by kernel_rfl) (fe s) ?_
 unfold dm xa
 have hsz:s.data.toList.length=s.size:=by simp
 refine af (fun h1=>?_) (fun h1=>?_)
 ·have h1:s.data.toList=[]:=by rw [toList_nil] at h1; rw [ul]; simpa using h1
  rw [if_pos h1]
  exact ⟨rfl,Ch.refl _ _⟩
 have h1:s.data.toList≠[]:=by rw [toList_nil] at h1; rw [ne_eq,ul]; simpa using h1
 rw [if_neg h1]
 refine aA (by omega) (cV ?_)
 refine vA (e:=5) (by kernel_rfl) (by kernel_rfl) (by kernel_rfl) s ?_
 intro cap h1' hcap e1 hcell1
 refine ⟨_,_,_,rfl,?_⟩
 refine bm (cs:=[(false,[.int .u64]),(false,[.invalid]),(false,[.bool]),(false,[.int .u64]),(false,[.int .i64])])
  (fun x n h'=>h'=h1'∧x.2.2.1=false∧∃ k:Nat,x.2.2.2.2.1=(k:Int)∧x.2.2.2.1=(bX 10 (s.data.toList.take k):Int)∧k≤s.size∧n=s.size-k∧bX 10 (s.data.toList.take k)<4294967296)
  ((0:Int),Value.nilIface,false,(0:Int),(0:Int),()) s.size rfl ⟨rfl,rfl,0,rfl,rfl,by omega,by omega,by simp [bX]⟩ ?_
 rintro ⟨n4,v5,b6,n7,n8,⟨⟩⟩ m h' ⟨rfl,hb6,k,hk,hn7,hle,rfl,hv⟩
 simp only at hb6 hk hn7
 subst hb6 hk hn7
 refine af (fun hb=>?_) (fun hb=>?_)
 ·have hlt:(k:Int)<s.size:=of_decide_eq_true hb
  have hkl:k<s.size:=by omega
  refine aA ⟨(by show (0:Int)≤(k:Int); omega),hlt⟩ (an rfl ?_)
  have hc:=hcell1 k hkl
  have hdk:=(xz _).1 (hd k hkl)
  refine aG (cN (s.data.toList.getD k 0),()) ⟨?_,trivial⟩ ?_
  ·rw [ao,ao]
   rw [show 0+Int.toNat (k:Int)*1+0=k by omega]
   exact hc
  have hst:=xD 10 s.data.toList k (by omega)
  have hdv:(dv (s.data.toList.getD k 0):Int)=cN (s.data.toList.getD k 0)-48:=by
   unfold dv cN at *
   rw [if_pos (by omega)]; omega
  generalize cN (s.data.toList.getD k 0)=c at hdk hdv ⊢
  generalize dv (s.data.toList.getD k 0)=d at hst hdv
  have hw1:IntKind.wrap .u8 (c-48)=d:=by rw [wrap_u8 (by omega) (by omega)]; omega
  have hw2:IntKind.wrap .u64 (d:Int)=d:=wrap_u64 (by omega) (by omega)
  have hw3:IntKind.wrap .u64 ((bX 10 (s.data.toList.take k):Int)*10)=(bX 10 (s.data.toList.take k):Int)*10:=wrap_u64 (by omega) (by omega)
  have hw4:IntKind.wrap .u64 ((bX 10 (s.data.toList.take k):Int)*10+d)=(bX 10 (s.data.toList.take (k+1)):Int):=by rw [wrap_u64 (by omega) (by omega),hst]; omega
  refine bo (show (c==95)=false from by simp; omega) ?_
  refine bd (show decide (48≤c)=true from decide_eq_true (by omega)) (bd (show decide (c≤57)=true from decide_eq_true (by omega)) ?_)
  rw [hw1,hw2]
  refine bo (show decide ((d:Int)≥10)=false from decide_eq_false (by omega)) ?_
  refine bo (show decide ((bX 10 (s.data.toList.take k):Int)≥1844674407370955162)=false from decide_eq_false (by omega)) ?_
  rw [hw3,hw4]
  refine bo (decide_eq_false (by omega)) ?_
  have hmono:=qO 10 (by omega) s.data.toList (k+1)
  refine af (fun h5=>?_) (fun h5=>?_)
  ·have h5:=of_decide_eq_true h5
   rw [if_neg (by omega)]
   exact ⟨rfl,e1⟩
  ·have h5:=of_decide_eq_false h5
   have hw5:IntKind.wrap .i64 ((k:Int)+1)=(k:Int)+1:=wrap_i64 (by omega) (by omega)
   exact aM (cs:=[(false,[.int .u64]),(false,[.invalid]),(false,[.bool]),(false,[.int .u64]),(false,[.int .i64])]) (n4,v5,false,(bX 10 (s.data.toList.take (k+1)):Int),(k:Int)+1,()) (s.size-(k+1)) rfl (by omega) (congrArg (fun z=>[Value.int .u64 n4,v5,.bool false,.int .u64 (bX 10 (s.data.toList.take (k+1)):Int),.int .i64 z]) hw5)
    ⟨rfl,rfl,k+1,(show ((k:Int)+1)=((k+1:Nat):Int) from by omega),rfl,by omega,rfl,by omega⟩
 ·have hge:¬ (k:Int)<s.size:=of_decide_eq_false hb
  have hk:k=s.data.toList.length:=by omega
  rw [hk,List.take_length] at hv
  refine bo rfl ?_
  rw [if_pos hv]
  refine ⟨?_,e1⟩
  show Value.tuple #[.int .u64 (bX 10 (s.data.toList.take k):Int),.nilIface]=_
  rw [hk,List.take_length]
theorem xL (c:UInt8):qu c=true↔(48≤cN c∧cN c≤57)∨(97≤cN c∧cN c≤102):=by
 unfold qu
 rw [Bool.or_eq_true,xz]
 unfold cN
 simp only [Bool.and_eq_true,decide_eq_true_eq]
 omega
theorem B7 (c:UInt8) (h:qu c=true):(cN c≤57→(dv c:Int)=cN c-48)∧(57<cN c→(dv c:Int)=cN c-87)∧dv c<16:=by
 have:=(xL c).1 h
 unfold dv cN at *
 split <;> omega
theorem Fa (s:ByteArray) (h:Hp) (hs:s.size≤2^48) (hd:∀ i,i<s.size→qu (s.data.toList.getD i 0)=true) :
  HC Tryz.prog 177 #[.string s,.int .i64 16,.int .i64 32] h fun v h'=>v=.tuple #[.int .u64 (xa 16 s.data.toList).1,(xa 16 s.data.toList).2]∧Ext h h':=by
 refine aL (args:=[.string s,.int .i64 16,.int .i64 32]) mixed Tryz.func177 (by kernel_rfl) (fa s) ?_
 unfold dk xa
 have hsz:s.data.toList.length=s.size:=by simp
 refine af (fun h1=>?_) (fun h1=>?_)
 ·have h1:s.data.toList=[]:=by rw [toList_nil] at h1; rw [ul]; simpa using h1
  rw [if_pos h1]
  exact ⟨rfl,Ch.refl _ _⟩
 have h1:s.data.toList≠[]:=by rw [toList_nil] at h1; rw [ne_eq,ul]; simpa using h1
 rw [if_neg h1]
 refine aA (by omega) (cV ?_)
 refine vA (e:=5) (by kernel_rfl) (by kernel_rfl) (by kernel_rfl) s ?_
 intro cap h1' hcap e1 hcell1
 refine ⟨_,_,_,rfl,?_⟩
 refine bm (cs:=[(false,[.int .u64]),(false,[.invalid]),(false,[.bool]),(false,[.int .u64]),(false,[.int .i64])])
  (fun x n h'=>h'=h1'∧x.2.2.1=false∧∃ k:Nat,x.2.2.2.2.1=(k:Int)∧x.2.2.2.1=(bX 16 (s.data.toList.take k):Int)∧k≤s.size∧n=s.size-k∧bX 16 (s.data.toList.take k)<4294967296)
  ((0:Int),Value.nilIface,false,(0:Int),(0:Int),()) s.size rfl ⟨rfl,rfl,0,rfl,rfl,by omega,by omega,by simp [bX]⟩ ?_
 rintro ⟨n4,v5,b6,n7,n8,⟨⟩⟩ m h' ⟨rfl,hb6,k,hk,hn7,hle,rfl,hv⟩
 simp only at hb6 hk hn7
 subst hb6 hk hn7
 refine af (fun hb=>?_) (fun hb=>?_)
 ·have hlt:(k:Int)<s.size:=of_decide_eq_true hb
  have hkl:k<s.size:=by omega
  refine aA ⟨(by show (0:Int)≤(k:Int); omega),hlt⟩ (an rfl ?_)
  have hc:=hcell1 k hkl
  have hdk:=(xL _).1 (hd k hkl)
  refine aG (cN (s.data.toList.getD k 0),()) ⟨?_,trivial⟩ ?_
  ·rw [ao,ao]
   rw [show 0+Int.toNat (k:Int)*1+0=k by omega]
   exact hc
  have hst:=xD 16 s.data.toList k (by omega)
  have hdv:=B7 _ (hd k hkl)
  have hlo:=fun hh=>GZ (s.data.toList.getD k 0) h' hh
  have hcn:((s.data.toList.getD k 0).toNat:Int)=cN (s.data.toList.getD k 0):=rfl
  generalize (s.data.toList.getD k 0).toNat=cn at hlo hcn
  generalize cN (s.data.toList.getD k 0)=c at hdk hdv hlo hcn ⊢
  generalize dv (s.data.toList.getD k 0)=d at hst hdv
  have hw2:IntKind.wrap .u64 (d:Int)=d:=wrap_u64 (by omega) (by omega)
  have hw3:IntKind.wrap .u64 ((bX 16 (s.data.toList.take k):Int)*16)=(bX 16 (s.data.toList.take k):Int)*16:=wrap_u64 (by omega) (by omega)
  have hw4:IntKind.wrap .u64 ((bX 16 (s.data.toList.take k):Int)*16+d)=(bX 16 (s.data.toList.take (k+1)):Int):=by rw [wrap_u64 (by omega) (by omega),hst]; omega
  have hw5:IntKind.wrap .i64 ((k:Int)+1)=(k:Int)+1:=wrap_i64 (by omega) (by omega)
  have hmono:=qO 16 (by omega) s.data.toList (k+1)
  refine bo (show (c==95)=false from by simp; omega) ?_
  refine bd (show decide (48≤c)=true from decide_eq_true (by omega)) ?_
  refine af (fun h9=>?_) (fun h9=>?_)
  ·have h9:c≤57:=of_decide_eq_true h9
   have hw1:IntKind.wrap .u8 (c-48)=d:=by rw [wrap_u8 (by omega) (by omega)]; omega
   rw [hw1,hw2]
   refine bo (show decide ((d:Int)≥16)=false from decide_eq_false (by omega)) ?_
   refine bo (show decide ((bX 16 (s.data.toList.take k):Int)≥1152921504606846976)=false from decide_eq_false (by omega)) ?_
   rw [hw3,hw4]
   refine bo (decide_eq_false (by omega)) ?_
   refine af (fun h5=>?_) (fun h5=>?_)
   ·have h5:=of_decide_eq_true h5
    rw [if_neg (by omega)]
    exact ⟨rfl,e1⟩
   ·have h5:=of_decide_eq_false h5
    exact aM (cs:=[(false,[.int .u64]),(false,[.invalid]),(false,[.bool]),(false,[.int .u64]),(false,[.int .i64])]) (n4,v5,false,(bX 16 (s.data.toList.take (k+1)):Int),(k:Int)+1,()) (s.size-(k+1)) rfl (by omega) (congrArg (fun z=>[Value.int .u64 n4,v5,.bool false,.int .u64 (bX 16 (s.data.toList.take (k+1)):Int),.int .i64 z]) hw5)
     ⟨rfl,rfl,k+1,(show ((k:Int)+1)=((k+1:Nat):Int) from by omega),rfl,by omega,rfl,by omega⟩
  ·have h9:¬ c≤57:=of_decide_eq_false h9
   have hlo:=hlo (by omega) (by omega)
   refine cX hlo ?_
   refine bd (show decide (97≤c)=true from decide_eq_true (by omega)) ?_
   refine cX hlo ?_
   refine bd (show decide (c≤122)=true from decide_eq_true (by omega)) ?_
   refine cX hlo ?_
   have hw0:IntKind.wrap .u8 (c-97)=c-97:=wrap_u8 (by omega) (by omega)
   have hw1:IntKind.wrap .u8 (c-97+10)=d:=by rw [wrap_u8 (by omega) (by omega)]; omega
   rw [hw0,hw1,hw2]
   refine bo (show decide ((d:Int)≥16)=false from decide_eq_false (by omega)) ?_
   refine bo (show decide ((bX 16 (s.data.toList.take k):Int)≥1152921504606846976)=false from decide_eq_false (by omega)) ?_
   rw [hw3,hw4]
   refine bo (decide_eq_false (by omega)) ?_
   refine af (fun h5=>?_) (fun h5=>?_)
   ·have h5:=of_decide_eq_true h5
    rw [if_neg (by omega)]
    exact ⟨rfl,e1⟩
   ·have h5:=of_decide_eq_false h5
    exact aM (cs:=[(false,[.int .u64]),(false,[.invalid]),(false,[.bool]),(false,[.int .u64]),(false,[.int .i64])]) (n4,v5,false,(bX 16 (s.data.toList.take (k+1)):Int),(k:Int)+1,()) (s.size-(k+1)) rfl (by omega) (congrArg (fun z=>[Value.int .u64 n4,v5,.bool false,.int .u64 (bX 16 (s.data.toList.take (k+1)):Int),.int .i64 z]) hw5)
     ⟨rfl,rfl,k+1,(show ((k:Int)+1)=((k+1:Nat):Int) from by omega),rfl,by omega,rfl,by omega⟩
 ·have hge:¬ (k:Int)<s.size:=of_decide_eq_false hb
  have hk:k=s.data.toList.length:=by omega
  rw [hk,List.take_length] at hv
  refine bo rfl ?_
  rw [if_pos hv]
  refine ⟨?_,e1⟩
  show Value.tuple #[.int .u64 (bX 16 (s.data.toList.take k):Int),.nilIface]=_
  rw [hk,List.take_length]
theorem K3 (h:Hp) (K:Value→Hp→Prop):aD Tryz.prog (bM (.neq) 29 (.tmp 17) (.const .nilIface) .nilIface .nilIface) h K=K (.bool false) h:=by kernel_rfl
theorem K0 (h:Hp) (K:Value→Hp→Prop):aD Tryz.prog (bM (.neq) 29 (.tmp 17) (.const .nilIface) (.iface 299 (.int .i64 1)) .nilIface) h K=K (.bool true) h:=by kernel_rfl
theorem Jv (h:Hp) (K:Value→Hp→Prop):aD Tryz.prog (bM (.neq) 29 (.tmp 17) (.const .nilIface) (.iface 299 (.int .i64 2)) .nilIface) h K=K (.bool true) h:=by kernel_rfl
theorem Lm (h:Hp) (K:Value→Hp→Prop):aD Tryz.prog (bM (.neq) 29 (.tmp 37) (.const .nilIface) .nilIface .nilIface) h K=K (.bool false) h:=by kernel_rfl
theorem Js (a:Addr) (h:Hp) (K:Value→Hp→Prop):aD Tryz.prog (bM (.neq) 29 (.tmp 37) (.const .nilIface) (.iface 301 (.pointer (some a))) .nilIface) h K=K (.bool true) h:=by kernel_rfl
def okB (b:Nat) (l:List UInt8):Prop:=l≠[]∧bX b l<4294967296
def Ff (b:Nat) (l:List UInt8) (h:Hp) (v:Value) (h':Hp):Prop :=
 ((okB b l∧v=.tuple #[.int .u64 (bX b l),.nilIface])∨(¬ okB b l∧∃ n a,v=.tuple #[.int .u64 n,.iface 301 (.pointer (some a))]))∧Ext h h'
theorem ux (s:ByteArray) (h:Hp) (hs:s.size≤2^48) (hl:Laid h) (hd:∀ i,i<s.size→eu (s.data.toList.getD i 0)=true) :
  HC Tryz.prog 150 #[.string s,.int .i64 10,.int .i64 32] h (Ff 10 s.data.toList h):=by
 refine aL (args:=[.string s,.int .i64 10,.int .i64 32]) mixed Tryz.func150 (by kernel_rfl) (js s) ?_
 unfold fB
 refine aC (GU s h hs hd) ?_
 rintro _ h1 ⟨rfl,e1⟩
 refine ⟨(((xa 10 s.data.toList).1:Int),(xa 10 s.data.toList).2,()),rfl,?_⟩
 show T.aY Tryz.prog (bM (.neq) 29 (.tmp 17) (.const .nilIface) (xa 10 s.data.toList).2 .nilIface) false [(false,[.bool])] _ _ _ _
 by_cases h0:s.data.toList=[]
 ·have hr:xa 10 s.data.toList=(0,.iface 299 (.int .i64 2)):=by unfold xa; rw [if_pos h0]
  have hno:¬ okB 10 s.data.toList:=fun ho=>ho.1 h0
  rw [hr]
  refine bw (b:=true) (fun K' hk=>by rw [Jv]; exact hk) (bd rfl ?_)
  refine aC (wm s h1 hs (hl.ext e1)) ?_
  rintro _ h2 ⟨⟨a,rfl⟩,e2⟩
  exact ⟨(.iface 301 (.pointer (some a)),()),rfl,.inr ⟨hno,_,a,rfl⟩,e1.trans e2⟩
 ·by_cases hv:bX 10 s.data.toList<4294967296
  ·have hr:xa 10 s.data.toList=(bX 10 s.data.toList,.nilIface):=by unfold xa; rw [if_neg h0,if_pos hv]
   rw [hr]
   refine bw (b:=false) (fun K' hk=>by rw [K3]; exact hk) (bo rfl ?_)
   exact ⟨.inl ⟨⟨h0,hv⟩,rfl⟩,e1⟩
  ·have hr:xa 10 s.data.toList=(4294967295,.iface 299 (.int .i64 1)):=by unfold xa; rw [if_neg h0,if_neg hv]
   have hno:¬ okB 10 s.data.toList:=fun ho=>hv ho.2
   rw [hr]
   refine bw (b:=true) (fun K' hk=>by rw [K0]; exact hk) (bd rfl ?_)
   refine aC (vH s h1 hs (hl.ext e1)) ?_
   rintro _ h2 ⟨⟨a,rfl⟩,e2⟩
   exact ⟨(.iface 301 (.pointer (some a)),()),rfl,.inr ⟨hno,_,a,rfl⟩,e1.trans e2⟩
theorem lI:∀ (l:List UInt8) (n:Nat),(∀ c∈l,dv c<16)→l.foldl (fun n c=>n*16+dv c) n<(n+1)*16^l.length
 | [],n,_=>by simp
 | c::l,n,hd=>by
  rw [List.foldl_cons,List.length_cons,Nat.pow_succ]
  have h1:=lI l (n*16+dv c) (fun x hx=>hd x (by simp [hx]))
  have h2:=hd c (by simp)
  have h3:(n*16+dv c+1)*16^l.length≤((n+1)*16)*16^l.length:=Nat.mul_le_mul_right _ (by omega)
  have h4:((n+1)*16)*16^l.length=(n+1)*(16^l.length*16):=by rw [Nat.mul_assoc,Nat.mul_comm 16]
  omega
theorem vF (s:ByteArray) (h:Hp) (hs:s.size≤8) (hl:Laid h) (hd:∀ i,i<s.size→qu (s.data.toList.getD i 0)=true) :
  HC Tryz.prog 150 #[.string s,.int .i64 16,.int .i64 32] h (Ff 16 s.data.toList h):=by
 refine aL (args:=[.string s,.int .i64 16,.int .i64 32]) mixed Tryz.func150 (by kernel_rfl) (iX s) ?_
 unfold fA
 have hsz:s.data.toList.length=s.size:=by simp
 have hv:bX 16 s.data.toList<4294967296:=by
  have h1:=lI s.data.toList 0 (fun c hc=>by
   obtain ⟨i,hi,rfl⟩:=List.getElem_of_mem hc
   have:=hd i (by omega)
   simp only [List.getD,List.getElem?_eq_getElem hi,Option.getD_some] at this
   exact (B7 _ this).2.2)
  have h2:16^s.data.toList.length≤16^8:=Nat.pow_le_pow_right (by omega) (by omega)
  have h3:(16:Nat)^8=4294967296:=rfl
  unfold bX
  omega
 refine aC (Fa s h (by omega) hd) ?_
 rintro _ h1 ⟨rfl,e1⟩
 refine ⟨(((xa 16 s.data.toList).1:Int),(xa 16 s.data.toList).2,()),rfl,?_⟩
 show T.aY Tryz.prog (bM (.neq) 29 (.tmp 17) (.const .nilIface) (xa 16 s.data.toList).2 .nilIface) false [(false,[.bool])] _ _ _ _
 by_cases h0:s.data.toList=[]
 ·have hr:xa 16 s.data.toList=(0,.iface 299 (.int .i64 2)):=by unfold xa; rw [if_pos h0]
  have hno:¬ okB 16 s.data.toList:=fun ho=>ho.1 h0
  rw [hr]
  refine bw (b:=true) (fun K' hk=>by rw [Jv]; exact hk) (bd rfl ?_)
  refine aC (v7 s h1 (by omega) (hl.ext e1)) ?_
  rintro _ h2 ⟨⟨a,rfl⟩,e2⟩
  exact ⟨(.iface 301 (.pointer (some a)),()),rfl,.inr ⟨hno,_,a,rfl⟩,e1.trans e2⟩
 ·have hr:xa 16 s.data.toList=(bX 16 s.data.toList,.nilIface):=by unfold xa; rw [if_neg h0,if_pos hv]
  rw [hr]
  refine bw (b:=false) (fun K' hk=>by rw [K3]; exact hk) (bo rfl ?_)
  exact ⟨.inl ⟨⟨h0,hv⟩,rfl⟩,e1⟩
theorem ff (s:ByteArray) (i j:Nat):(s.extract i j).data.toList=(s.data.toList.drop i).take (j-i):=by
 rw [ByteArray.data_extract,Array.toList_extract,List.extract_eq_take_drop]
theorem eU (s:ByteArray) (i j:Nat):(s.extract i j).size=min j s.size-i:=by simp
theorem Il (a b:List UInt8):(a==b)=decide (a=b):=by
 by_cases h:a=b <;> simp [h]
theorem Aj {l:List UInt8} (hl:l.length≤8) (hd:∀ i,i<l.length→qu (l.getD i 0)=true):bX 16 l<4294967296:=by
 have h1:=lI l 0 (fun c hc=>by
  obtain ⟨i,hi,rfl⟩:=List.getElem_of_mem hc
  have:=hd i hi
  simp only [List.getD,List.getElem?_eq_getElem hi,Option.getD_some] at this
  exact (B7 _ this).2.2)
 have h2:16^l.length≤16^8:=Nat.pow_le_pow_right (by omega) (by omega)
 have h3:(16:Nat)^8=4294967296:=rfl
 unfold bX
 omega
theorem getD_take {l:List UInt8} {n i:Nat} (hi:i<n):(l.take n).getD i 0=l.getD i 0:=by
 rw [List.getD_eq_getElem?_getD,List.getElem?_take,if_pos hi,← List.getD_eq_getElem?_getD]
theorem xm (s t:ByteArray) (h:Hp):ur Tryz.prog 176 [.string s,.string t] h (.bool (decide (s.data.toList.take t.size=t.data.toList))):=by
 refine ec mixed Tryz.func176 (by kernel_rfl) (eZ s t) ?_
 unfold dp
 have hsz:s.data.toList.length=s.size:=by simp
 have htz:t.data.toList.length=t.size:=by simp
 refine af (fun h1=>?_) (fun h1=>?_)
 ·have h1:=of_decide_eq_true h1
  refine aA ⟨by omega,by omega,by omega⟩ ⟨?_,rfl⟩
  congr 1
  rw [ByteArray.toList_eq,ByteArray.toList_eq,ff,Il,List.drop_zero,show Int.toNat (t.size:Int)-0=t.size by omega]
 ·have h1:=of_decide_eq_false h1
  refine ⟨?_,rfl⟩
  congr 1
  symm
  refine decide_eq_false fun he=>?_
  have:=congrArg List.length he
  rw [List.length_take] at this
  omega
theorem y8 (s t:ByteArray) (h:Hp):ur Tryz.prog 149 [.string s,.string t] h (.bool (decide (s.data.toList.take t.size=t.data.toList))):=by
 refine ec mixed Tryz.func149 (by kernel_rfl) (lc s t) ?_
 exact aE (xm s t h) ⟨rfl,rfl⟩
def cE:List UInt8:=[48,49,50,51,52,53,54,55,56,57,97,98,99,100,101,102]
theorem wq (c:UInt8):cE.contains c=qu c:=gK (fun c=>cE.contains c) qu (by decide +kernel) c
def cZ (l:List UInt8):Nat × Nat :=
 if l.take 2=[48,120] then
  (if 8<aK (l.drop 2) cE∨aK (l.drop 2) cE=0 then (0,0) else (2+aK (l.drop 2) cE,bX 16 ((l.drop 2).take (aK (l.drop 2) cE))))
 else
  (if (1<aK l aS∧l.getD 0 0=48)∨aK l aS=0∨4294967296≤bX 10 (l.take (aK l aS)) then (0,0) else (aK l aS,bX 10 (l.take (aK l aS))))
theorem qQ {s set:List UInt8} {i:Nat} (hi:i<aK s set):set.contains (s.getD i 0)=true:=by
 have hle:=bY s set
 exact (oC s set i (by omega) (by omega)).1 hi
theorem nU (s:ByteArray) (h:Hp) (hs:s.size≤2^48) (hl:Laid h) :
  HC Tryz.prog 123 #[.string s] h fun v h'=>v=.tuple #[.int .i64 (cZ s.data.toList).1,.int .u32 (cZ s.data.toList).2]∧Ext h h':=by
 refine aL (args:=[.string s]) mixed Tryz.func123 (by kernel_rfl) (tW s) ?_
 unfold rE cZ
 have hsz:s.data.toList.length=s.size:=by simp
 have gd:(⟨#[48,49,50,51,52,53,54,55,56,57]⟩:ByteArray).data.toList=aS:=rfl
 have gh:(⟨#[48,49,50,51,52,53,54,55,56,57,97,98,99,100,101,102]⟩:ByteArray).data.toList=cE:=rfl
 have gp:(⟨#[48,120]⟩:ByteArray).data.toList=[48,120]:=rfl
 refine cX (lG s _ h (by omega)) ?_
 rw [gd]
 have hr:=bY s.data.toList aS
 generalize hn:aK s.data.toList aS=n at hr ⊢
 refine aE (y8 s _ h) ?_
 rw [gp]
 refine af (fun h1=>?_) (fun h1=>?_)
 ·have h1:s.data.toList.take 2=[48,120]:=of_decide_eq_true h1
  rw [if_pos h1]
  have h2:2≤s.size:=by
   have:=congrArg List.length h1
   rw [List.length_take] at this
   simp at this; omega
  refine aA ⟨by omega,by omega,by omega⟩ ?_
  have he:(s.extract 2 (Int.toNat (s.size:Int))).data.toList=s.data.toList.drop 2:=by
   rw [ff]
   exact List.take_of_length_le (by simp)
  refine cX (lG _ _ h (by rw [eU]; omega)) ?_
  rw [gh,he]
  have hr2:=bY (s.data.toList.drop 2) cE
  have hg2:=fun i=>@qQ (s.data.toList.drop 2) cE i
  rw [List.length_drop] at hr2
  generalize aK (s.data.toList.drop 2) cE=m at hr2 hg2 ⊢
  refine af (fun h3=>?_) (fun h3=>?_)
  ·have h3:=of_decide_eq_true h3
   rw [if_pos (.inl (by omega))]
   exact ⟨rfl,Ch.refl _ _⟩
  ·have h3:=of_decide_eq_false h3
   have hw:IntKind.wrap .i64 (2+(m:Int))=2+(m:Int):=wrap_i64 (by omega) (by omega)
   rw [hw]
   refine aA ⟨by omega,by omega,by omega⟩ ?_
   have ht:Int.toNat (2+(m:Int))=2+m:=by omega
   rw [ht]
   have he2:(s.extract 2 (2+m)).data.toList=(s.data.toList.drop 2).take m:=by
    rw [ff,show 2+m-2=m by omega]
   have hsm:(s.extract 2 (2+m)).size=m:=by rw [eU]; omega
   refine aC (vF _ h (by omega) hl (fun i hi=>?_)) ?_
   ·rw [hsm] at hi
    have:=hg2 i hi
    rw [wq] at this
    rw [he2]
    rw [getD_take hi]
    exact this
   ·rintro v h' ⟨hv,e1⟩
    rw [he2] at hv
    rcases hv with ⟨ho,rfl⟩ | ⟨hno,nn,a,rfl⟩
    ·have hm0:m≠0:=fun hm=>ho.1 (by rw [hm]; rfl)
     refine ⟨((bX 16 ((s.data.toList.drop 2).take m):Int),.nilIface,()),rfl,?_⟩
     refine bw (b:=false) (fun K' hk=>by rw [Lm]; exact hk) (bo rfl ?_)
     rw [if_neg (by omega)]
     have:=ho.2
     refine ⟨?_,e1⟩
     rw [show IntKind.wrap .u32 (bX 16 ((s.data.toList.drop 2).take m):Int)=(bX 16 ((s.data.toList.drop 2).take m):Int) from wrap_u32 (by omega) (by omega)]
     simp
    ·refine ⟨(nn,.iface 301 (.pointer (some a)),()),rfl,?_⟩
     refine bw (b:=true) (fun K' hk=>by rw [Js]; exact hk) (bd rfl ?_)
     have hm0:m=0:=by
      rcases Nat.eq_zero_or_pos m with hm | hm
      ·exact hm
      ·refine (hno ⟨fun hh=>?_,?_⟩).elim
       ·have:=congrArg List.length hh
        rw [List.length_take,List.length_drop] at this
        simp at this; omega
       ·refine Aj (by rw [List.length_take]; omega) (fun i hi=>?_)
        rw [List.length_take] at hi
        rw [getD_take (by omega),← wq]
        exact hg2 i (by omega)
     rw [if_pos (.inr hm0)]
     exact ⟨rfl,e1⟩
 ·have h1:¬ s.data.toList.take 2=[48,120]:=of_decide_eq_false h1
  rw [if_neg h1]
  have hg:=fun i=>@qQ s.data.toList aS i
  rw [hn] at hg
  have hw:IntKind.wrap .i64 (0+(n:Int))=(n:Int):=by rw [Int.zero_add]; exact wrap_i64 (by omega) (by omega)
  have he2:(s.extract 0 n).data.toList=s.data.toList.take n:=by rw [ff,List.drop_zero,Nat.sub_zero]
  have hsm:(s.extract 0 n).size=n:=by rw [eU]; omega
  have hp:=ux (s.extract 0 n) h (by omega) hl (fun i hi=>by
   rw [hsm] at hi
   rw [he2,getD_take hi,← xK]
   exact hg i hi)
  have main:¬ (1<n∧s.data.toList.getD 0 0=48)→T.need (((0:Int)≤(0:Int))∧(((0:Int)≤(IntKind.wrap .i64 ((0:Int)+n)))∧((IntKind.wrap .i64 ((0:Int)+n))≤(s.size:Int)))) (
    T.call Tryz.prog 150 [.string (ByteArray.extract s 0 (Int.toNat (IntKind.wrap .i64 ((0 : Int) + n)))), .int .i64 (10 : Int), .int .i64 (32 : Int)] true [(false, [.int .u64]), (false, [.interface #[("Error", 85)]])] fun (n3 : Int) (v4 : Value) =>
    T.aY Tryz.prog (Sx.bM (BinOp.neq) 29 (Operand.tmp 37) (Operand.const Value.nilIface) v4 .nilIface) false [(false,[.bool])] fun (b5:Bool) =>
    cond b5
     (T.ret (.tuple #[.int .i64 (0:Int),.int .u32 (0:Int)]))
     (T.ret (.tuple #[.int .i64 (IntKind.wrap .i64 ((0:Int)+n)),.int .u32 (IntKind.wrap .u32 n3)]))) []
    (fun v h'=>v=.tuple #[.int .i64 ((if (1<n∧s.data.toList.getD 0 0=48)∨n=0∨4294967296≤bX 10 (s.data.toList.take n) then (0,0) else (n,bX 10 (s.data.toList.take n)):Nat × Nat).1:Int),.int .u32 ((if (1<n∧s.data.toList.getD 0 0=48)∨n=0∨4294967296≤bX 10 (s.data.toList.take n) then (0,0) else (n,bX 10 (s.data.toList.take n)):Nat × Nat).2:Int)]∧Ext h h') h:=by
   intro hz
   rw [hw]
   refine aA ⟨by omega,by omega,by omega⟩ ?_
   rw [show Int.toNat (n:Int)=n by omega]
   refine aC hp ?_
   rintro v h' ⟨hv,e1⟩
   rw [he2] at hv
   have hnil:s.data.toList.take n=[]↔n=0:=by
    constructor
    ·intro hh
     have:=congrArg List.length hh
     rw [List.length_take,Nat.min_eq_left (by omega)] at this
     exact this
    ·intro hh; rw [hh]; rfl
   rcases hv with ⟨ho,rfl⟩ | ⟨hno,nn,a,rfl⟩
   ·have h5:n≠0:=fun hh=>ho.1 (hnil.2 hh)
    have h6:=ho.2
    refine ⟨((bX 10 (s.data.toList.take n):Int),.nilIface,()),rfl,?_⟩
    refine bw (b:=false) (fun K' hk=>by rw [Lm]; exact hk) (bo rfl ?_)
    rw [if_neg (by intro hh; rcases hh with hh | hh | hh <;> first | exact hz hh | omega)]
    refine ⟨?_,e1⟩
    rw [show IntKind.wrap .u32 (bX 10 (s.data.toList.take n):Int)=(bX 10 (s.data.toList.take n):Int) from wrap_u32 (by omega) (by omega)]
   ·refine ⟨(nn,.iface 301 (.pointer (some a)),()),rfl,?_⟩
    refine bw (b:=true) (fun K' hk=>by rw [Js]; exact hk) (bd rfl ?_)
    have h7:n=0∨4294967296≤bX 10 (s.data.toList.take n):=by
     by_cases h8:n=0
     ·exact .inl h8
     ·refine .inr ?_
      rcases Nat.lt_or_ge (bX 10 (s.data.toList.take n)) 4294967296 with h9 | h9
      ·exact (hno ⟨fun hh=>h8 (hnil.1 hh),h9⟩).elim
      ·exact h9
    rw [if_pos (.inr h7)]
    exact ⟨rfl,e1⟩
  refine af (fun h3=>?_) (fun h3=>?_)
  ·have h3:=of_decide_eq_true h3
   refine aA ⟨by omega,by omega⟩ ?_
   have e0:bN s 0=cN (s.data.toList.getD 0 0):=kn s 0
   rw [e0]
   refine af (fun h4=>?_) (fun h4=>?_)
   ·have h4:=eq_of_beq h4
    have h5:s.data.toList.getD 0 0=48:=by
     unfold cN at h4
     exact UInt8.toNat_inj.1 (by show _=48; omega)
    rw [if_pos (.inl ⟨by omega,h5⟩)]
    exact ⟨rfl,Ch.refl _ _⟩
   ·have h4:=ne_of_beq_false h4
    exact main fun hh=>h4 (by rw [hh.2]; rfl)
  ·have h3:=of_decide_eq_false h3
   exact main fun hh=>h3 (by omega)
structure Tok where
 kind:Nat
 text:ByteArray
 num:Nat
 at_:Nat
def enc (t:Tok):List Value:=[.int .i64 t.kind,.string t.text,.int .u32 t.num,.int .i64 t.at_]
def aI:List UInt8:=[9,13,32]
def aU:List UInt8:=bV++aS
def mM:List UInt8:=[58,44,40,41,43,45,42,61]
inductive Step where
 | stop
 | bS (at_:Nat)
 | tok (t:Tok) (next:Nat)
def kh (s:ByteArray) (a:Nat):Step :=
 if a=s.size then .stop
 else if s.data.toList.getD a 0=59 then .stop
 else if eW (s.data.toList.getD a 0)=true then
  if 32<aK (s.data.toList.drop a) aU then .bS a else .tok ⟨1,s.extract a (a+aK (s.data.toList.drop a) aU),0,a⟩ (a+aK (s.data.toList.drop a) aU)
 else if eu (s.data.toList.getD a 0)=true then
  if (cZ (s.data.toList.drop a)).1=0∨0<aK (s.data.toList.drop (a+(cZ (s.data.toList.drop a)).1)) aU then .bS a
  else .tok ⟨2,s.extract a (a+(cZ (s.data.toList.drop a)).1),(cZ (s.data.toList.drop a)).2,a⟩ (a+(cZ (s.data.toList.drop a)).1)
 else if s.data.toList.getD a 0=39 then
  if s.size<a+3∨(s.data.toList.getD (a+1) 0).toNat<32∨126<(s.data.toList.getD (a+1) 0).toNat∨s.data.toList.getD (a+1) 0=39∨s.data.toList.getD (a+2) 0≠39 then .bS a
  else .tok ⟨2,s.extract a (a+3),(s.data.toList.getD (a+1) 0).toNat,a⟩ (a+3)
 else if mM.contains (s.data.toList.getD a 0)=true then .tok ⟨3,s.extract a (a+1),0,a⟩ (a+1)
 else .bS a
def dO (s:ByteArray) (k:Nat):Step:=kh s (k+aK (s.data.toList.drop k) aI)
def jG (s:ByteArray):Nat→Nat→List Tok→List Tok × Nat × Nat
 | 0,_,acc=>(acc,0,0)
 | f+1,k,acc =>
  match dO s k with
  | .stop=>(acc,0,0)
  | .bS a=>([],a,20)
  | .tok t k'=>jG s f k' (acc++[t])
def dZ (s:ByteArray):List Tok × Nat × Nat:=jG s (s.size+1) 0 []
theorem qR (l:List UInt8):(cZ l).1≤l.length∧(cZ l).2<4294967296:=by
 unfold cZ
 split
 ·rename_i h
  have h2:=congrArg List.length h
  rw [List.length_take] at h2
  simp only [List.length_cons,List.length_nil] at h2
  have h3:=bY (l.drop 2) cE
  rw [List.length_drop] at h3
  split
  ·simp
  ·rename_i h4
   refine ⟨by simp only; omega,?_⟩
   refine Aj (by rw [List.length_take]; omega) (fun i hi=>?_)
   rw [List.length_take] at hi
   rw [getD_take (by omega),← wq]
   exact qQ (by omega)
 ·have h3:=bY l aS
  split
  ·simp
  ·rename_i h4
   exact ⟨h3,by simp only; omega⟩
theorem nG {s:ByteArray} {f k k':Nat} {acc:List Tok} {t:Tok} (h:dO s k=.tok t k'):jG s (f+1) k acc=jG s f k' (acc++[t]):=by
 show (match dO s k with
  | .stop=>(acc,0,0)
  | .bS a=>([],a,20)
  | .tok t k'=>jG s f k' (acc++[t]))=_
 rw [h]
theorem rZ {s:ByteArray} {f k:Nat} {acc:List Tok} (h:dO s k=.stop):jG s (f+1) k acc=(acc,0,0):=by
 show (match dO s k with
  | .stop=>(acc,0,0)
  | .bS a=>([],a,20)
  | .tok t k'=>jG s f k' (acc++[t]))=_
 rw [h]
theorem pJ {s:ByteArray} {f k a:Nat} {acc:List Tok} (h:dO s k=.bS a):jG s (f+1) k acc=([],a,20):=by
 show (match dO s k with
  | .stop=>(acc,0,0)
  | .bS a=>([],a,20)
  | .tok t k'=>jG s f k' (acc++[t]))=_
 rw [h]
theorem x5 {s:ByteArray} {a k':Nat} {t:Tok} (ha:a≤s.size) (h:kh s a=.tok t k'):a<k'∧k'≤s.size∧t.at_=a∧t.text=s.extract a k':=by
 have hsz:s.data.toList.length=s.size:=by simp
 unfold kh at h
 split at h
 ·cases h
 split at h
 ·cases h
 have hlen:(s.data.toList.drop a).length=s.size-a:=by rw [List.length_drop,hsz]
 split at h
 ·rename_i h1 h2 h3
  split at h
  ·cases h
  ·cases h
   have h5:=bY (s.data.toList.drop a) aU
   have h6:=(mL (s:=s.data.toList.drop a) (set:=aU) (by omega)).2 (by
    rw [show (s.data.toList.drop a).getD 0 0=s.data.toList.getD a 0 from by simp [List.getD]]
    show (bV++aS).contains _=true
    rw [nF,h3]; rfl)
   exact ⟨by omega,by omega,rfl,rfl⟩
 split at h
 ·split at h
  ·cases h
  ·cases h
   have h5:=(qR (s.data.toList.drop a)).1
   exact ⟨by omega,by omega,rfl,rfl⟩
 split at h
 ·split at h
  ·cases h
  ·cases h
   exact ⟨by omega,by omega,rfl,rfl⟩
 split at h
 ·cases h
  exact ⟨by omega,by omega,rfl,rfl⟩
 ·cases h
inductive KA where
 | stop
 | bS
 | tok (kind len num:Nat)
def ij (D:List UInt8):KA :=
 if D=[] then .stop
 else if D.getD 0 0=59 then .stop
 else if eW (D.getD 0 0)=true then
  if 32<aK D aU then .bS else .tok 1 (aK D aU) 0
 else if eu (D.getD 0 0)=true then
  if (cZ D).1=0∨0<aK (D.drop (cZ D).1) aU then .bS else .tok 2 (cZ D).1 (cZ D).2
 else if D.getD 0 0=39 then
  if D.length<3∨(D.getD 1 0).toNat<32∨126<(D.getD 1 0).toNat∨D.getD 1 0=39∨D.getD 2 0≠39 then .bS
  else .tok 2 3 (D.getD 1 0).toNat
 else if mM.contains (D.getD 0 0)=true then .tok 3 1 0
 else .bS
def Fz (s:ByteArray) (a:Nat):KA→Step
 | .stop=>.stop
 | .bS=>.bS a
 | .tok k n m=>.tok ⟨k,s.extract a (a+n),m,a⟩ (a+n)
theorem vC (l:List UInt8) (a j:Nat):(l.drop a).getD j 0=l.getD (a+j) 0:=by
 simp [List.getD_eq_getElem?_getD,List.getElem?_drop]
theorem CC (s:ByteArray) (a:Nat) (ha:a≤s.size):kh s a=Fz s a (ij (s.data.toList.drop a)):=by
 unfold kh ij
 have hsz:s.data.toList.length=s.size:=by simp
 simp only [vC,Nat.add_zero,List.drop_drop,List.length_drop,hsz]
 by_cases h1:a=s.size
 ·rw [if_pos h1,if_pos (List.drop_eq_nil_of_le (by omega))]; rfl
 have h1':¬ s.data.toList.drop a=[]:=fun hh=>h1 (by have:=List.drop_eq_nil_iff.1 hh; omega)
 rw [if_neg h1,if_neg h1']
 by_cases h2:s.data.toList.getD a 0=59
 ·rw [if_pos h2,if_pos h2]; rfl
 rw [if_neg h2,if_neg h2]
 by_cases h3:eW (s.data.toList.getD a 0)=true
 ·rw [if_pos h3,if_pos h3]
  split <;> rfl
 rw [if_neg h3,if_neg h3]
 by_cases h4:eu (s.data.toList.getD a 0)=true
 ·rw [if_pos h4,if_pos h4]
  split <;> rfl
 rw [if_neg h4,if_neg h4]
 by_cases h5:s.data.toList.getD a 0=39
 ·rw [if_pos h5,if_pos h5]
  by_cases h6:s.size<a+3
  ·rw [if_pos (.inl h6),if_pos (.inl (by omega))]; rfl
  ·by_cases h7:(s.data.toList.getD (a+1) 0).toNat<32∨126<(s.data.toList.getD (a+1) 0).toNat∨s.data.toList.getD (a+1) 0=39∨s.data.toList.getD (a+2) 0≠39
   ·rw [if_pos (.inr h7),if_pos (.inr h7)]; rfl
   ·rw [if_neg (by intro hh; rcases hh with hh | hh; exact h6 hh; exact h7 hh),if_neg (by intro hh; rcases hh with hh | hh; omega; exact h7 hh)]; rfl
 rw [if_neg h5,if_neg h5]
 split <;> rfl
theorem oX {p:UInt8→Bool}:∀ (l:List UInt8) {c:UInt8},c∈l.takeWhile p→p c=true
 | [],c,h=>by simp at h
 | d::l,c,h=>by
  rw [List.takeWhile_cons] at h
  cases hd:p d with
  | false=>rw [hd] at h; simp at h
  | true =>
   rw [hd] at h
   simp only [if_true,List.mem_cons] at h
   rcases h with rfl | h
   ·exact hd
   ·exact oX l h
theorem gL {set D E:List UInt8} (hE:aK E set=0):aK (D.take (aK D set)++E) set=aK D set:=by
 unfold aK at hE ⊢
 have h1:E.takeWhile (fun c=>set.contains c)=[]:=List.eq_nil_of_length_eq_zero hE
 have h2:D.take (D.takeWhile fun c=>set.contains c).length=D.takeWhile fun c=>set.contains c:=(List.prefix_iff_eq_take.1 (List.takeWhile_prefix _)).symm
 rw [h2,List.takeWhile_append_of_pos,h1,List.append_nil]
 exact fun c hc=>oX D hc
theorem eK {set D:List UInt8}:aK D set=0↔∀ c r,D=c::r→set.contains c=false:=by
 unfold aK
 cases D with
 | nil=>simp
 | cons c r =>
  simp only [List.takeWhile_cons,List.cons.injEq,and_imp]
  cases h:set.contains c with
  | false=>simp only [Bool.false_eq_true,if_false,List.length_nil,true_iff]; rintro _ _ rfl rfl; exact h
  | true=>simp only [if_true,List.length_cons,Nat.add_one_ne_zero,false_iff]; intro hh; have:=hh c r rfl rfl; rw [h] at this; cases this
theorem zh (c:UInt8) (h:aU.contains c=false):aS.contains c=false:=by
 have:=gK (fun c=>aU.contains c || !aS.contains c) (fun _=>true) (by decide +kernel) c
 simp only [h,Bool.false_or,Bool.not_eq_true'] at this
 exact this
theorem By (c:UInt8) (h:aU.contains c=false):cE.contains c=false:=by
 have:=gK (fun c=>aU.contains c || !cE.contains c) (fun _=>true) (by decide +kernel) c
 simp only [h,Bool.false_or,Bool.not_eq_true'] at this
 exact this
theorem rR {E:List UInt8} (h:aK E aU=0):aK E aS=0:=eK.2 fun c r he=>zh c (eK.1 h c r he)
theorem tc {E:List UInt8} (h:aK E aU=0):aK E cE=0:=eK.2 fun c r he=>By c (eK.1 h c r he)
theorem CJ {D E:List UInt8} (h0:(cZ D).1≠0) (hE:aK E aU=0):cZ (D.take (cZ D).1++E)=cZ D:=by
 by_cases h1:D.take 2=[48,120]
 ·have hD:cZ D=if 8<aK (D.drop 2) cE∨aK (D.drop 2) cE=0 then (0,0) else (2+aK (D.drop 2) cE,bX 16 ((D.drop 2).take (aK (D.drop 2) cE))):=by
   unfold cZ; rw [if_pos h1]
  have hlen:2≤D.length:=by
   have:=congrArg List.length h1
   rw [List.length_take] at this
   simp at this; omega
  by_cases h2:8<aK (D.drop 2) cE∨aK (D.drop 2) cE=0
  ·rw [if_pos h2] at hD
   rw [hD] at h0
   exact (h0 rfl).elim
  ·rw [if_neg h2] at hD
   rw [hD]
   have hr:=bY (D.drop 2) cE
   have hloc:=gL (set:=cE) (D:=D.drop 2) (tc hE)
   generalize aK (D.drop 2) cE=r at *
   simp only
   have e1:D.take (2+r)=[48,120]++(D.drop 2).take r:=by
    rw [← h1,List.take_add]
   rw [e1,List.append_assoc]
   unfold cZ
   rw [if_pos (by rfl)]
   have e2:([48,120]++((D.drop 2).take r++E)).drop 2=(D.drop 2).take r++E:=rfl
   rw [e2,hloc,if_neg h2]
   have e3:((D.drop 2).take r++E).take r=(D.drop 2).take r:=by
    rw [List.take_append_of_le_length (by rw [List.length_take]; omega),List.take_take,Nat.min_self]
   rw [e3]
 ·have hD:cZ D=if (1<aK D aS∧D.getD 0 0=48)∨aK D aS=0∨4294967296≤bX 10 (D.take (aK D aS)) then (0,0) else (aK D aS,bX 10 (D.take (aK D aS))):=by
   unfold cZ; rw [if_neg h1]
  by_cases h2:(1<aK D aS∧D.getD 0 0=48)∨aK D aS=0∨4294967296≤bX 10 (D.take (aK D aS))
  ·rw [if_pos h2] at hD
   rw [hD] at h0
   exact (h0 rfl).elim
  ·rw [if_neg h2] at hD
   rw [hD]
   have hr:=bY D aS
   have hloc:=gL (set:=aS) (D:=D) (rR hE)
   generalize aK D aS=r at *
   simp only
   have hrp:0<r:=by
    rcases Nat.eq_zero_or_pos r with h | h
    ·exact (h2 (.inr (.inl h))).elim
    ·exact h
   have e3:(D.take r++E).take r=D.take r:=by
    rw [List.take_append_of_le_length (by rw [List.length_take]; omega),List.take_take,Nat.min_self]
   have e4:(D.take r++E).getD 0 0=D.getD 0 0:=by
    cases D with
    | nil=>simp at hr; omega
    | cons d D=>obtain ⟨r,rfl⟩:∃ r',r=r'+1:=⟨r-1,by omega⟩; simp
   have e5:¬ (D.take r++E).take 2=[48,120]:=by
    intro hh
    by_cases h3:2≤r
    ·rw [List.take_append_of_le_length (by rw [List.length_take]; omega),List.take_take,Nat.min_eq_left h3] at hh
     exact h1 hh
    ·have hr1:r=1:=by omega
     subst hr1
     cases D with
     | nil=>simp at hr
     | cons d D =>
      cases E with
      | nil=>simp at hh
      | cons c E =>
       simp at hh
       have:=eK.1 hE c E rfl
       rw [hh.2] at this
       revert this; decide +kernel
   unfold cZ
   rw [if_neg e5,hloc,e3,e4,if_neg h2]
theorem qn {D E:List UInt8} {k n m:Nat} (h:ij D=.tok k n m) (hE:aK E aU=0∨aK (D.drop n) aU≠0):ij (D.take n++E)=.tok k n m∧0<n∧n≤D.length:=by
 cases D with
 | nil=>simp [ij] at h
 | cons d D =>
  unfold ij at h
  rw [if_neg (by simp)] at h
  rw [List.getD_cons_zero] at h
  have key:0<n→ij ((d::D).take n++E)=(if d=59 then .stop
   else if eW d=true then
    if 32<aK ((d::D).take n++E) aU then .bS else .tok 1 (aK ((d::D).take n++E) aU) 0
   else if eu d=true then
    if (cZ ((d::D).take n++E)).1=0∨0<aK (((d::D).take n++E).drop (cZ ((d::D).take n++E)).1) aU then .bS else .tok 2 (cZ ((d::D).take n++E)).1 (cZ ((d::D).take n++E)).2
   else if d=39 then
    if ((d::D).take n++E).length<3∨(((d::D).take n++E).getD 1 0).toNat<32∨126<(((d::D).take n++E).getD 1 0).toNat∨((d::D).take n++E).getD 1 0=39∨((d::D).take n++E).getD 2 0≠39 then .bS
    else .tok 2 3 (((d::D).take n++E).getD 1 0).toNat
   else if mM.contains d=true then .tok 3 1 0
   else .bS):=by
   intro hn
   have e0:((d::D).take n++E).getD 0 0=d:=by
    obtain ⟨n,rfl⟩:∃ n',n=n'+1:=⟨n-1,by omega⟩
    simp
   conv=>lhs; unfold ij
   rw [if_neg (by obtain ⟨n,rfl⟩:∃ n',n=n'+1:=⟨n-1,by omega⟩; simp),e0]
  by_cases h2:d=59
  ·rw [if_pos h2] at h; cases h
  rw [if_neg h2] at h
  by_cases h3:eW d=true
  ·rw [if_pos h3] at h
   have hpos:=oC (d::D) aU 0 (by omega) (by simp)
   rw [List.getD_cons_zero,show aU=bV++aS from rfl,nF,h3] at hpos
   have hpos:=hpos.2 rfl
   rw [← show aU=bV++aS from rfl] at hpos
   by_cases h4:32<aK (d::D) aU
   ·rw [if_pos h4] at h; cases h
   rw [if_neg h4] at h
   injection h with a1 a2 a3
   subst a1 a2 a3
   have hr:=bY (d::D) aU
   have hE0:aK E aU=0:=by
    rcases hE with hE | hE
    ·exact hE
    ·refine (hE ?_).elim
     refine eK.2 fun c r he=>?_
     have:=jg (p:=fun c=>aU.contains c) (d::D) (aK (d::D) aU) (Nat.le_refl _) (by
      have:=congrArg List.length he
      rw [List.length_drop] at this; simp at this ⊢; omega)
     have h5:¬ aK (d::D) aU<((d::D).takeWhile fun c=>aU.contains c).length:=Nat.lt_irrefl _
     rw [this] at h5
     have h6:(d::D).getD (aK (d::D) aU) 0=c:=by
      have:=congrArg (fun l=>l.getD 0 0) he
      simp only [vC,Nat.add_zero,List.getD_cons_zero] at this
      exact this
     rw [h6] at h5
     simpa using h5
   refine ⟨?_,hpos,hr⟩
   rw [key hpos,if_neg h2,if_pos h3,gL hE0,if_neg h4]
  rw [if_neg h3] at h
  by_cases h4:eu d=true
  ·rw [if_pos h4] at h
   by_cases h5:(cZ (d::D)).1=0∨0<aK ((d::D).drop (cZ (d::D)).1) aU
   ·rw [if_pos h5] at h; cases h
   rw [if_neg h5] at h
   injection h with a1 a2 a3
   subst a1 a2 a3
   have hE0:aK E aU=0:=by
    rcases hE with hE | hE
    ·exact hE
    ·omega
   have hl:=(qR (d::D)).1
   have hz:(cZ (d::D)).1≠0:=fun hh=>h5 (.inl hh)
   have hloc:=CJ hz hE0
   refine ⟨?_,by omega,hl⟩
   rw [key (by omega),if_neg h2,if_neg h3,if_pos h4,hloc]
   rw [List.drop_append_of_le_length (by rw [List.length_take]; omega),List.drop_take,Nat.sub_self,List.take_zero,List.nil_append,if_neg (by omega)]
  rw [if_neg h4] at h
  by_cases h5:d=39
  ·rw [if_pos h5] at h
   by_cases h6:(d::D).length<3∨((d::D).getD 1 0).toNat<32∨126<((d::D).getD 1 0).toNat∨(d::D).getD 1 0=39∨(d::D).getD 2 0≠39
   ·rw [if_pos h6] at h; cases h
   rw [if_neg h6] at h
   injection h with a1 a2 a3
   subst a1 a2 a3
   have hlen:3≤(d::D).length:=by omega
   refine ⟨?_,by omega,hlen⟩
   match D,hlen with
   | d1::d2::D,_ =>
    rw [key (by omega),if_neg h2,if_neg h3,if_neg h4,if_pos h5]
    simp only [List.take_succ_cons,List.take_zero,List.cons_append,List.nil_append,List.getD_cons_succ,List.getD_cons_zero,List.length_cons] at h6 ⊢
    rw [if_neg (by intro hh; apply h6; rcases hh with hh | hh; omega; exact .inr hh)]
  rw [if_neg h5] at h
  by_cases h6:mM.contains d=true
  ·rw [if_pos h6] at h
   injection h with a1 a2 a3
   subst a1 a2 a3
   refine ⟨?_,by omega,by simp⟩
   rw [key (by omega),if_neg h2,if_neg h3,if_neg h4,if_neg h5,if_pos h6]
  ·rw [if_neg h6] at h; cases h
abbrev A5:List gH:=[(false,[.slice 0]),(false,[.int .i64]),(false,[.int .i64]),(false,[.slice 0]),(false,[.pointer 0]),(false,[.int .i64]),(false,[.int .i64])]
def Kv (s:ByteArray) (h:Hp) (x:rQ (flat A5)) (n:Nat) (h':Hp):Prop :=
 ∃ (k:Nat) (acc:List Tok),x.2.2.2.2.2.2.1=(k:Int)∧x.2.2.2.2.1=some ⟨h.size,0,none⟩∧k≤s.size∧n=s.size-k ∧
  (∃ a b c d,aO h' h.size 178 [.int .i64 a,.string b,.int .u32 c,.int .i64 d])∧SL h' (h.size+1) 178 4 x.2.2.2.1.1 x.2.2.2.1.2.1 x.2.2.2.1.2.2 (acc.map enc)∧Ext h h'∧h.size+1≤h'.size ∧
  (∃ f,s.size-k<f∧dZ s=jG s f k acc)∧acc.length≤k
def yW (s:ByteArray) (h:Hp) (v:Value) (h':Hp):Prop :=
 ∃ p l c,v=.tuple #[.slice p l c,.int .i64 (dZ s).2.1,.int .i64 (dZ s).2.2]∧SL h' (h.size+1) 178 4 p l c ((dZ s).1.map enc)∧Ext h h'
theorem kO {s:ByteArray} {a:Nat}:(s.extract a (Int.toNat (s.size:Int))).data.toList=s.data.toList.drop a:=by
 rw [ff,show Int.toNat (s.size:Int)=s.size by omega]
 exact List.take_of_length_le (by simp)
theorem yG (l:List UInt8) (a:Nat):(l.drop a).getD 0 0=l.getD a 0:=by simp [List.getD]
theorem mP {s:ByteArray} {k k':Nat} {t:Tok} (hk:k≤s.size) (h:dO s k=.tok t k'):k<k'∧k'≤s.size:=by
 have hsz:s.data.toList.length=s.size:=by simp
 have h1:=bY (s.data.toList.drop k) aI
 rw [List.length_drop] at h1
 have:=x5 (a:=k+aK (s.data.toList.drop k) aI) (by omega) h
 omega
theorem rp {s : ByteArray} {h h2 h5 : Hp} {K : Value → Hp → Prop} {k k' : Nat} {acc : List Tok} {t : Tok} {p2 p7 : Option Addr} {l3 l4 l8 l9 : Nat} {n5 n6 nn kk : Int} (hs : s.size ≤ 2 ^ 40) (hle : k ≤ s.size)
    (hstep : dO s k = .tok t k') (hkk : kk = (k' : Int)) (hbox : aO h5 h.size 178 (enc t)) (hch : Ch [h.size] h2 h5) (hsl : SL h2 (h.size + 1) 178 4 p7 l8 l9 (acc.map enc)) (hext : Ext h h2) (hsz2 : h.size + 1 ≤ h2.size)
    (hlex : ∃ f, s.size - k < f ∧ dZ s = jG s f k acc) (hacc : acc.length ≤ k) :
    (T.ae ⟨h.size, 0, none⟩ [.int .i64, .string, .int .u32, .int .i64] fun (n20 : Int) (s21 : ByteArray) (n22 : Int) (n23 : Int) =>
     T.aY Tryz.prog (Instr.buildSlice 174 1 #[(0, .agg #[.int .i64 n20, .string s21, .int .u32 n22, .int .i64 n23])]) false [(false, [.slice 0])] fun (p24 : Option Addr) (l25 : Nat) (l26 : Nat) =>
     T.aY Tryz.prog (Builtin.append_ #[174, 174] 174 #[.slice p7 l8 l9, .slice p24 l25 l26]) false [(false, [.slice 0])] fun (p27 : Option Addr) (l28 : Nat) (l29 : Nat) =>
     T.again 0 [.slice p2 l3 l4, .int .i64 n5, .int .i64 n6, .slice p27 l28 l29, .pointer (some ⟨h.size, 0, none⟩), .int .i64 nn, .int .i64 kk]) ([] ++ [Jl (cs := A5) (Kv s h) (s.size - k)]) K h5 := by
  obtain ⟨hlt, hle'⟩ := mP hle hstep
  have hlacc : l8 = acc.length := by rw [hsl.1, List.length_map]
  refine ad hbox ((t.kind : Int), t.text, (t.num : Int), (t.at_ : Int), ()) rfl ?_
  have hpn : ∀ a, p7 = some a → h.size + 1 ≤ a.block := by
    intro a ha
    subst ha
    obtain ⟨g, pre, rest, rfl, hbg, _⟩ := hsl.2.2
    exact hbg
  have hsl5 : SL h5 (h.size + 1) 178 4 p7 l8 l9 (acc.map enc) := hsl.ah hch (fun a ha => by have := hpn a ha; simp; omega)
  refine nS (z := .agg #[.int .i64 0, .string ⟨#[]⟩, .int .u32 0, .int .i64 0]) (sz := 4) (by' := 40) (e := 178) (vs := enc t) (by kernel_rfl) (by kernel_rfl) rfl (by omega) (by omega) (by kernel_rfl) rfl rfl hsl5 (by have := hch.size; omega) (by omega) (by omega) ?_
  intro p' c' h6 hsl6 hch6 _
  refine aM (cs := A5) ((p2, l3, l4), n5, n6, (p', l8 + 1, c'), some ⟨h.size, 0, none⟩, nn, kk, ()) (s.size - k') rfl (by omega) rfl ?_
  have hnot : h.size ∉ az p7 := by
    cases p7 with
    | none => simp [az]
    | some a => have := hpn a rfl; simp [az]; omega
  refine ⟨k', acc ++ [t], hkk, rfl, hle', rfl, ⟨_, _, _, _, hbox.ah hch6 hnot⟩, ?_, ?_, ?_, ?_, ?_⟩
  · rw [List.map_append]; exact hsl6
  · have e5 : Ext h h5 := Ch.trans hext hch (fun i hi hlt => by simp at hi; omega)
    exact Ch.trans e5 hch6 (fun i hi hlt => by
      cases p7 with
      | none => simp [az] at hi
      | some a => have := hpn a rfl; simp [az] at hi; omega)
  · have := hch.size; have := hch6.size; omega
  · obtain ⟨f, hf, hl⟩ := hlex
    refine ⟨f - 1, by omega, ?_⟩
    rw [hl, show f = (f - 1) + 1 by omega, nG hstep]
    rfl
  · rw [List.length_append]; simp; omega
theorem EG (s:ByteArray) (h:Hp) (hs:s.size≤2^40) (hl:Laid h):HC Tryz.prog 95 #[.string s] h (yW s h):=by
 refine aL (args:=[.string s]) mixed Tryz.func95 (by kernel_rfl) (tH s) ?_
 unfold qH
 have hsz:s.data.toList.length=s.size:=by simp
 refine aW ?_
 intro h1 b1 e1 z1
 refine bm (cs:=A5) (Kv s h) ((none,0,0),(0:Int),(0:Int),(none,0,0),some ⟨h.size,0,none⟩,(0:Int),(0:Int),()) s.size rfl
  ⟨0,[],rfl,rfl,by omega,by omega,⟨0,⟨#[]⟩,0,0,b1⟩,SL.nil _ _ _ _,e1,by omega,⟨s.size+1,by omega,rfl⟩,by simp⟩ ?_
 rintro ⟨⟨p2,l3,l4⟩,n5,n6,⟨p7,l8,l9⟩,p10,n11,n12,⟨⟩⟩ m h2 ⟨k,acc,hk,hp,hle,rfl,⟨x1,x2,x3,x4,hbox⟩,hsl,hext,hsz2,hlex,hacc⟩
 simp only at hk hp hsl
 subst hk hp
 dsimp only [A5,flat,aB,ai,nA,cA]
 have hr0:=bY (s.data.toList.drop k) aI
 rw [List.length_drop] at hr0
 obtain ⟨f,hf,hlx⟩:=hlex
 obtain ⟨f,rfl⟩:∃ f',f=f'+1:=⟨f-1,by omega⟩
 refine aA ⟨by omega,by omega,by omega⟩ ?_
 refine cX (lG _ _ h2 (by rw [eU]; omega)) ?_
 rw [show Int.toNat (k:Int)=k by omega,kO]
 rw [show (⟨#[9,13,32]⟩:ByteArray).data.toList=aI from rfl]
 obtain ⟨a,ha⟩:∃ a,a=k+aK (s.data.toList.drop k) aI:=⟨_,rfl⟩
 have hw:IntKind.wrap .i64 ((k:Int)+(aK (s.data.toList.drop k) aI:Int))=(a:Int):=by rw [wrap_i64 (by omega) (by omega)]; omega
 have hstep0:dO s k=kh s a:=by unfold dO; rw [ha]
 have hat:Int.toNat (a:Int)=a:=by omega
 have hale:a≤s.size:=by omega
 rw [hw]
 clear hw ha
 have stop:kh s a=.stop→yW s h (.tuple #[.slice p7 l8 l9,.int .i64 0,.int .i64 0]) h2:=by
  intro hst
  have he:dZ s=(acc,0,0):=by rw [hlx,rZ (hstep0.trans hst)]
  exact ⟨p7,l8,l9,by rw [he]; rfl,by rw [he]; exact hsl,hext⟩
 have bS:∀ h',kh s a=.bS a→Ext h h'→yW s h (.tuple #[.slice none 0 0,.int .i64 a,.int .i64 20]) h':=by
  intro h' hst he'
  have he:dZ s=([],a,20):=by rw [hlx,pJ (hstep0.trans hst)]
  exact ⟨none,0,0,by rw [he]; rfl,by rw [he]; exact SL.nil _ _ _ _,he'⟩
 refine af (fun h3=>?_) (fun h3=>?_)
 ·have h3:=eq_of_beq h3
  exact stop (by unfold kh; rw [if_pos (by omega)])
 have h3:=ne_of_beq_false h3
 have hlt:a<s.size:=by omega
 refine aA ⟨by omega,by omega⟩ ?_
 rw [kn,hat]
 refine af (fun h4=>?_) (fun h4=>?_)
 ·have h4:=eq_of_beq h4
  have h4:s.data.toList.getD a 0=59:=UInt8.toNat_inj.1 (by unfold cN at h4; show _=59; omega)
  exact stop (by unfold kh; rw [if_neg (by omega),if_pos h4])
 have h4:=ne_of_beq_false h4
 have h4':¬ s.data.toList.getD a 0=59:=fun hh=>h4 (by rw [hh]; rfl)
 have hA:=kh.eq_def s a
 rw [if_neg (by omega),if_neg h4'] at hA
 refine an rfl (ak hbox rfl (by simp) ?_)
 intro h3' hb3 hc3 hz3
 refine aA ⟨by omega,by omega⟩ (aA ⟨by omega,by omega,by omega⟩ ?_)
 have hdl:(s.data.toList.drop a).length=s.size-a:=by rw [List.length_drop,hsz]
 refine cX (lG _ _ h3' (by rw [eU]; omega)) ?_
 rw [kO,KP]
 have hpos:=mL (s:=s.data.toList.drop a) (set:=bV) (by omega)
 rw [vt,yG] at hpos
 refine af (fun h5=>?_) (fun h5=>?_)
 ·have h5:=of_decide_eq_true h5
  have h5:eW (s.data.toList.getD a 0)=true:=hpos.1 (by omega)
  rw [if_pos h5] at hA
  refine an rfl (ak hb3 rfl (by simp [iK]) ?_)
  intro h4' hb4 hc4 hz4
  refine aA ⟨by omega,by omega,by omega⟩ ?_
  refine cX (lG _ _ h4' (by rw [eU]; omega)) ?_
  rw [kO,JF]
  have hr1:=bY (s.data.toList.drop a) (bV++aS)
  rw [show aU=bV++aS from rfl] at hA
  generalize aK (s.data.toList.drop a) (bV++aS)=n at hA hr1 ⊢
  have c34:Ch [h.size] h2 h4':=Ch.trans hc3 hc4 (fun i hi _=>hi)
  have e4:Ext h h4':=Ch.trans hext c34 (fun i hi hlt=>by simp at hi; omega)
  refine af (fun h6=>?_) (fun h6=>?_)
  ·have h6:=of_decide_eq_true h6
   rw [if_pos (by omega)] at hA
   exact bS _ hA e4
  ·have h6:=of_decide_eq_false h6
   rw [if_neg (by omega)] at hA
   have hw2:IntKind.wrap .i64 ((a:Int)+(n:Int))=((a+n:Nat):Int):=by rw [wrap_i64 (by omega) (by omega)]; omega
   rw [hw2,show Int.toNat ((a+n:Nat):Int)=a+n by omega]
   refine aA ⟨by omega,by omega,by omega⟩ ?_
   refine an rfl ?_
   rw [ao]
   refine ak hb4 rfl (by simp [iK]) ?_
   intro h5' hb5 hc5 hz5
   refine an rfl ?_
   exact rp (t:=⟨1,s.extract a (a+n),0,a⟩) hs hle (hstep0.trans hA) rfl hb5 (Ch.trans c34 hc5 (fun i hi _=>hi)) hsl hext hsz2 ⟨f+1,hf,hlx⟩ hacc
 have h5:=of_decide_eq_false h5
 have h5:¬ eW (s.data.toList.getD a 0)=true:=fun hh=>h5 (by have:=hpos.2 hh; omega)
 rw [if_neg h5] at hA
 have e3:Ext h h3':=Ch.trans hext hc3 (fun i hi hlt=>by simp at hi; omega)
 refine aA ⟨by omega,by omega,by omega⟩ ?_
 refine cX (lG _ _ h3' (by rw [eU]; omega)) ?_
 rw [kO,show (⟨#[48,49,50,51,52,53,54,55,56,57]⟩:ByteArray).data.toList=aS from rfl]
 have hpos2:=mL (s:=s.data.toList.drop a) (set:=aS) (by omega)
 rw [xK,yG] at hpos2
 refine af (fun h6=>?_) (fun h6=>?_)
 ·have h6:=of_decide_eq_true h6
  have h6:eu (s.data.toList.getD a 0)=true:=hpos2.1 (by omega)
  rw [if_pos h6] at hA
  refine an rfl (ak hb3 rfl (by simp [iK]) ?_)
  intro h4' hb4 hc4 hz4
  have c34:Ch [h.size] h2 h4':=Ch.trans hc3 hc4 (fun i hi _=>hi)
  have e4:Ext h h4':=Ch.trans hext c34 (fun i hi hlt=>by simp at hi; omega)
  refine aA ⟨by omega,by omega,by omega⟩ ?_
  refine aC (nU _ h4' (by rw [eU]; omega) (hl.ext e4)) ?_
  rintro v h5' ⟨rfl,e5⟩
  rw [kO]
  obtain ⟨hn1,hn2⟩:=qR (s.data.toList.drop a)
  generalize cZ (s.data.toList.drop a)=r at hA hn1 hn2 ⊢
  refine ⟨((r.1:Int),(r.2:Int),()),rfl,?_⟩
  dsimp only [aB,ai,flat,nA,cA]
  have hb5:=hb4.ah e5 (by simp)
  refine an rfl ?_
  rw [ao]
  refine ak hb5 rfl (by simp [iK]) ?_
  intro h6' hb6 hc6 hz6
  have c36:Ch [h.size] h2 h6':=Ch.trans (Ch.trans c34 e5 (by simp)) hc6 (fun i hi _=>hi)
  have e6:Ext h h6':=Ch.trans hext c36 (fun i hi hlt=>by simp at hi; omega)
  refine af (fun h7=>?_) (fun h7=>?_)
  ·have h7:(r.1:Int)=0:=eq_of_beq h7
   rw [if_pos (.inl (by omega))] at hA
   exact bS _ hA e6
  have h7:(r.1:Int)≠0:=ne_of_beq_false h7
  have hw2:IntKind.wrap .i64 ((a:Int)+(r.1:Int))=((a+r.1:Nat):Int):=by rw [wrap_i64 (by omega) (by omega)]; omega
  rw [hw2,show Int.toNat ((a+r.1:Nat):Int)=a+r.1 by omega]
  refine aA ⟨by omega,by omega,by omega⟩ ?_
  refine cX (lG _ _ h6' (by rw [eU]; omega)) ?_
  rw [kO,JF]
  rw [show aU=bV++aS from rfl] at hA
  refine af (fun h8=>?_) (fun h8=>?_)
  ·have h8:=of_decide_eq_true h8
   rw [if_pos (.inr (by omega))] at hA
   exact bS _ hA e6
  ·have h8:=of_decide_eq_false h8
   rw [if_neg (by omega)] at hA
   refine aA ⟨by omega,by omega,by omega⟩ ?_
   refine an rfl ?_
   rw [ao]
   refine ak hb6 rfl (by simp [iK]) ?_
   intro h7' hb7 hc7 hz7
   refine an rfl ?_
   exact rp (t:=⟨2,s.extract a (a+r.1),r.2,a⟩) hs hle (hstep0.trans hA) rfl hb7 (Ch.trans c36 hc7 (fun i hi _=>hi)) hsl hext hsz2 ⟨f+1,hf,hlx⟩ hacc
 have h6:=of_decide_eq_false h6
 have h6:¬ eu (s.data.toList.getD a 0)=true:=fun hh=>h6 (by have:=hpos2.2 hh; omega)
 rw [if_neg h6] at hA
 have hsb:∀ j:Nat,bN s ((a+j:Nat):Int)=cN (s.data.toList.getD (a+j) 0):=fun j=>by rw [kn,show Int.toNat ((a+j:Nat):Int)=a+j by omega]
 have hcc:∀ (c:UInt8) (n:Nat),n<256→((cN c=(n:Int))↔c.toNat=n):=fun c n hn=>by unfold cN; omega
 refine af (fun h7=>?_) (fun h7=>?_)
 ·have h7:cN (s.data.toList.getD a 0)=39:=eq_of_beq h7
  have h7:s.data.toList.getD a 0=39:=UInt8.toNat_inj.1 (by unfold cN at h7; show _=39; omega)
  rw [if_pos h7] at hA
  have hw3:IntKind.wrap .i64 ((s.size:Int)-(a:Int))=(s.size:Int)-(a:Int):=wrap_i64 (by omega) (by omega)
  have hw4:IntKind.wrap .i64 ((a:Int)+1)=((a+1:Nat):Int):=by rw [wrap_i64 (by omega) (by omega)]; omega
  have hw5:IntKind.wrap .i64 ((a:Int)+2)=((a+2:Nat):Int):=by rw [wrap_i64 (by omega) (by omega)]; omega
  have hw6:IntKind.wrap .i64 ((a:Int)+3)=((a+3:Nat):Int):=by rw [wrap_i64 (by omega) (by omega)]; omega
  rw [hw3,hw4,hw5,hw6,hsb 1,hsb 2]
  refine af (fun h8=>?_) (fun h8=>?_)
  ·have h8:=of_decide_eq_true h8
   rw [if_pos (.inl (by omega))] at hA
   exact bS _ hA e3
  have h8:=of_decide_eq_false h8
  have hb1:=(s.data.toList.getD (a+1) 0).toNat_lt
  refine aA ⟨by omega,by omega⟩ ?_
  refine af (fun h9=>?_) (fun h9=>?_)
  ·have h9:=of_decide_eq_true h9
   rw [if_pos (.inr (.inl (by unfold cN at h9; omega)))] at hA
   exact bS _ hA e3
  have h9:=of_decide_eq_false h9
  refine aA ⟨by omega,by omega⟩ ?_
  refine af (fun h10=>?_) (fun h10=>?_)
  ·have h10:=of_decide_eq_true h10
   rw [if_pos (.inr (.inr (.inl (by unfold cN at h10; omega))))] at hA
   exact bS _ hA e3
  have h10:=of_decide_eq_false h10
  refine aA ⟨by omega,by omega⟩ ?_
  refine af (fun h11=>?_) (fun h11=>?_)
  ·have h11:=eq_of_beq h11
   rw [if_pos (.inr (.inr (.inr (.inl (UInt8.toNat_inj.1 (by unfold cN at h11; show _=39; omega))))))] at hA
   exact bS _ hA e3
  have h11:=ne_of_beq_false h11
  refine aA ⟨by omega,by omega⟩ ?_
  refine af (fun h12=>?_) (fun h12=>?_)
  ·have h12:cN (s.data.toList.getD (a+2) 0)≠39:=by simpa using h12
   rw [if_pos (.inr (.inr (.inr (.inr (fun hh=>h12 (by rw [hh]; rfl))))))] at hA
   exact bS _ hA e3
  have h12:cN (s.data.toList.getD (a+2) 0)=39:=by simpa using h12
  have h12:s.data.toList.getD (a+2) 0=39:=UInt8.toNat_inj.1 (by unfold cN at h12; show _=39; omega)
  rw [if_neg (by
   intro hh
   rcases hh with hh | hh | hh | hh | hh
   ·omega
   ·unfold cN at h9; omega
   ·unfold cN at h10; omega
   ·exact h11 (by rw [hh]; rfl)
   ·exact hh h12)] at hA
  refine aA ⟨by omega,by omega⟩ ?_
  refine an rfl (ak hb3 rfl (by simp [iK]) ?_)
  intro h4' hb4 hc4 hz4
  refine an rfl ?_
  rw [ao]
  refine ak hb4 rfl (by simp [iK]) ?_
  intro h5' hb5 hc5 hz5
  refine aA ⟨by omega,by omega,by omega⟩ ?_
  refine an rfl ?_
  rw [ao]
  refine ak hb5 rfl (by simp [iK]) ?_
  intro h6' hb6 hc6 hz6
  refine an rfl ?_
  rw [show Int.toNat ((a+3:Nat):Int)=a+3 by omega] at hb6
  rw [show IntKind.wrap .u32 (cN (s.data.toList.getD (a+1) 0))=(((s.data.toList.getD (a+1) 0).toNat:Nat):Int) from wrap_u32 (by unfold cN; omega) (by unfold cN; omega)] at hb6
  have c36:Ch [h.size] h2 h6':=Ch.trans (Ch.trans (Ch.trans hc3 hc4 (fun i hi _=>hi)) hc5 (fun i hi _=>hi)) hc6 (fun i hi _=>hi)
  exact rp (t:=⟨2,s.extract a (a+3),(s.data.toList.getD (a+1) 0).toNat,a⟩) hs hle (hstep0.trans hA) rfl hb6 c36 hsl hext hsz2 ⟨f+1,hf,hlx⟩ hacc
 have h7:=ne_of_beq_false h7
 have h7:¬ s.data.toList.getD a 0=39:=fun hh=>h7 (by rw [hh]; rfl)
 rw [if_neg h7] at hA
 refine cX (qU _ _ _) ?_
 rw [show (⟨#[58,44,40,41,43,45,42,61]⟩:ByteArray).data.toList=mM from rfl]
 have hcon:=Lib.contains_iff_indexByte mM (s.data.toList.getD a 0)
 rw [show (cN (s.data.toList.getD a 0)).toNat.toUInt8=s.data.toList.getD a 0 from by unfold cN; simp]
 refine af (fun h8=>?_) (fun h8=>?_)
 ·have h8:=of_decide_eq_true h8
  rw [if_pos (by rw [hcon]; exact decide_eq_true h8)] at hA
  refine an rfl (ak hb3 rfl (by simp [iK]) ?_)
  intro h4' hb4 hc4 hz4
  have hw4:IntKind.wrap .i64 ((a:Int)+1)=((a+1:Nat):Int):=by rw [wrap_i64 (by omega) (by omega)]; omega
  rw [hw4]
  refine aA ⟨by omega,by omega,by omega⟩ ?_
  refine an rfl ?_
  rw [ao]
  refine ak hb4 rfl (by simp [iK]) ?_
  intro h5' hb5 hc5 hz5
  refine an rfl ?_
  rw [show Int.toNat ((a+1:Nat):Int)=a+1 by omega] at hb5
  exact rp (t:=⟨3,s.extract a (a+1),0,a⟩) hs hle (hstep0.trans hA) rfl hb5 (Ch.trans (Ch.trans hc3 hc4 (fun i hi _=>hi)) hc5 (fun i hi _=>hi)) hsl hext hsz2 ⟨f+1,hf,hlx⟩ hacc
 ·have h8:=of_decide_eq_false h8
  rw [if_neg (by rw [hcon]; exact fun hh=>h8 (of_decide_eq_true hh))] at hA
  exact bS _ hA e3
def FB (P:Program) (t:TypeId):Array Field :=
 match P.underlying t with
 | some (.struct fs)=>fs
 | _=>#[]
theorem bytes_beq (t:ByteArray):(t==t)=true:=by
 cases t with | mk d=>show (d==d)=true; simp
def hv (c:UInt8):Int:=if qu c=true then (dv c:Int) else -1
def zQ (D:List UInt8):Nat × Nat :=
 if D.getD 0 0=39 then
  (if D.length<3∨(D.getD 1 0).toNat<32∨126<(D.getD 1 0).toNat∨D.getD 1 0=39∨D.getD 2 0≠39 then (0,0) else ((D.getD 1 0).toNat,3))
 else if (cZ D).1=0∨0<aK (D.drop (cZ D).1) aU then (0,0) else ((cZ D).2,(cZ D).1)
inductive fG (s:ByteArray):Nat→List Tok→Prop where
 | stop (k:Nat):k≤s.size→ij (s.data.toList.drop (k+aK (s.data.toList.drop k) aI))=.stop→fG s k []
 | tok (k kind n m:Nat) (ts:List Tok):k≤s.size→ij (s.data.toList.drop (k+aK (s.data.toList.drop k) aI))=.tok kind n m→fG s (k+aK (s.data.toList.drop k) aI+n) ts →
   fG s k (⟨kind,s.extract (k+aK (s.data.toList.drop k) aI) (k+aK (s.data.toList.drop k) aI+n),m,k+aK (s.data.toList.drop k) aI⟩::ts)
theorem iY {s:ByteArray} {k:Nat} (hk:k≤s.size):k+aK (s.data.toList.drop k) aI≤s.size:=by
 have h1:=bY (s.data.toList.drop k) aI
 rw [List.length_drop] at h1
 have hsz:s.data.toList.length=s.size:=by simp
 omega
theorem fI {s:ByteArray} {k:Nat} (hk:k≤s.size):dO s k=Fz s (k+aK (s.data.toList.drop k) aI) (ij (s.data.toList.drop (k+aK (s.data.toList.drop k) aI))):=by
 unfold dO
 exact CC s _ (iY hk)
theorem jn {D:List UInt8} {k n m:Nat} (h:ij D=.tok k n m):0<n∧n≤D.length:=(qn (E:=[]) h (.inl rfl)).2
theorem Gn:ij []=.stop:=rfl
theorem vz {s:ByteArray}:∀ (f k:Nat) (acc:List Tok),k≤s.size→s.size-k<f →
  (∃ ts,fG s k ts∧jG s f k acc=(acc++ts,0,0))∨(∃ a,a<s.size∧jG s f k acc=([],a,20))
 | 0,k,acc,hk,hf=>by omega
 | f+1,k,acc,hk,hf=>by
  have hst:=fI hk
  have ha:=iY hk
  have hsz:s.data.toList.length=s.size:=by simp
  cases hD:ij (s.data.toList.drop (k+aK (s.data.toList.drop k) aI)) with
  | stop =>
   rw [hD] at hst
   exact .inl ⟨[],.stop k hk hD,by rw [rZ hst,List.append_nil]⟩
  | bS =>
   rw [hD] at hst
   refine .inr ⟨_,?_,pJ hst⟩
   rcases Nat.lt_or_ge (k+aK (s.data.toList.drop k) aI) s.size with h | h
   ·exact h
   ·rw [List.drop_eq_nil_of_le (by omega),Gn] at hD; cases hD
  | tok kind n m =>
   rw [hD] at hst
   obtain ⟨h1,h2⟩:=jn hD
   rw [List.length_drop] at h2
   rcases vz (s:=s) f (k+aK (s.data.toList.drop k) aI+n) (acc++[⟨kind,s.extract (k+aK (s.data.toList.drop k) aI) (k+aK (s.data.toList.drop k) aI+n),m,k+aK (s.data.toList.drop k) aI⟩]) (by omega) (by omega) with ⟨ts,hc,he⟩ | ⟨a,ha',he⟩
   ·refine .inl ⟨_,.tok k kind n m ts hk hD hc,?_⟩
    rw [nG hst,he,List.append_assoc,List.singleton_append]
   ·exact .inr ⟨a,ha',by rw [nG hst,he]⟩
theorem Ca {s:ByteArray} {k:Nat} {ts:List Tok} (h:fG s k ts):∀ (f:Nat) (acc:List Tok),s.size-k<f→jG s f k acc=(acc++ts,0,0):=by
 induction h with
 | stop k hk hD =>
  intro f acc hf
  obtain ⟨f,rfl⟩:∃ f',f=f'+1:=⟨f-1,by omega⟩
  have hst:=fI hk
  rw [hD] at hst
  rw [rZ hst,List.append_nil]
 | tok k kind n m ts hk hD hc ih =>
  intro f acc hf
  obtain ⟨f,rfl⟩:∃ f',f=f'+1:=⟨f-1,by omega⟩
  have hst:=fI hk
  rw [hD] at hst
  obtain ⟨h1,h2⟩:=jn hD
  have ha:=iY hk
  have hsz:s.data.toList.length=s.size:=by simp
  rw [List.length_drop] at h2
  rw [nG hst,ih f _ (by omega),List.append_assoc,List.singleton_append]
theorem BL (s:ByteArray):(fG s 0 (dZ s).1∧(dZ s).2=(0,0))∨(∃ a,a<s.size∧dZ s=([],a,20)):=by
 rcases vz (s:=s) (s.size+1) 0 [] (by omega) (by omega) with ⟨ts,hc,he⟩ | ⟨a,ha,he⟩
 ·refine .inl ?_
  unfold dZ
  rw [he]
  exact ⟨hc,rfl⟩
 ·exact .inr ⟨a,ha,he⟩
theorem pB {s:ByteArray} {ts:List Tok} (h:fG s 0 ts):dZ s=(ts,0,0):=by
 unfold dZ
 rw [Ca h _ _ (by omega)]; rfl
theorem j8 {s t:ByteArray} (h:s.data.toList=t.data.toList):s=t:=by
 cases s; cases t
 simp only at h
 congr 1
 exact Array.toList_inj.1 h
theorem fV {set D E:List UInt8} (h:aK D set<D.length):aK (D++E) set=aK D set:=by
 unfold aK at h ⊢
 induction D with
 | nil=>simp at h
 | cons d D ih =>
  simp only [List.cons_append,List.takeWhile_cons] at h ⊢
  cases hd:set.contains d with
  | false=>rfl
  | true =>
   rw [hd] at h
   simp only [if_true,List.length_cons] at h ⊢
   rw [ih (by omega)]
theorem fj {set D E:List UInt8} (h:aK D set=D.length):aK (D++E) set=D.length+aK E set:=by
 unfold aK at h ⊢
 induction D with
 | nil=>simp
 | cons d D ih =>
  simp only [List.cons_append,List.takeWhile_cons] at h ⊢
  cases hd:set.contains d with
  | false=>rw [hd] at h; simp at h
  | true =>
   rw [hd] at h
   simp only [if_true,List.length_cons] at h ⊢
   rw [ih (by omega)]
   omega
theorem Ex {D:List UInt8} (h:ij D=.stop):D=[]∨D.getD 0 0=59:=by
 unfold ij at h
 by_cases h1:D=[]
 ·exact .inl h1
 rw [if_neg h1] at h
 by_cases h2:D.getD 0 0=59
 ·exact .inr h2
 rw [if_neg h2] at h
 repeat' (split at h)
 all_goals cases h
theorem jX {D E:List UInt8} (hE:aK E aU=0):aK (D++E) aU=0∨aK D aU≠0:=by
 cases D with
 | nil=>exact .inl (by simpa using hE)
 | cons d D =>
  by_cases h:aU.contains d=true
  ·right
   unfold aK
   rw [List.takeWhile_cons,h]
   simp
  ·left
   refine eK.2 fun c r he=>?_
   injection he with a1 a2
   rw [← a1]
   simpa using h
theorem y5 {s s':ByteArray} {u:List UInt8} (hs':s'.data.toList=s.data.toList++(32::59::u)) {k:Nat} {ts:List Tok} (h:fG s k ts):fG s' k ts:=by
 have hsz:s.data.toList.length=s.size:=by simp
 have hsz':s'.size=s.size+(u.length+2):=by
  have:=congrArg List.length hs'
  simp at this; omega
 induction h with
 | stop k hk hD =>
  refine .stop k (by omega) ?_
  have e0:s'.data.toList.drop k=s.data.toList.drop k++(32::59::u):=by rw [hs',List.drop_append_of_le_length (by omega)]
  rw [e0]
  have hr:=bY (s.data.toList.drop k) aI
  rcases Nat.lt_or_ge (aK (s.data.toList.drop k) aI) (s.data.toList.drop k).length with h1 | h1
  ·rw [fV h1]
   rw [List.length_drop] at h1
   rw [hs',List.drop_append_of_le_length (by omega)]
   rcases Ex hD with h2 | h2
   ·have:=List.drop_eq_nil_iff.1 h2; omega
   ·cases h3:s.data.toList.drop (k+aK (s.data.toList.drop k) aI) with
    | nil=>have:=List.drop_eq_nil_iff.1 h3; omega
    | cons d D =>
     rw [h3] at h2
     simp only [List.getD_cons_zero] at h2
     subst h2
     rfl
  ·rw [fj (by omega)]
   rw [show aK ((32:UInt8)::59::u) aI=1 from rfl]
   rw [List.length_drop] at h1 ⊢
   rw [hs',show k+(s.data.toList.length-k+1)=s.data.toList.length+1 by omega,List.drop_append]
   rw [List.drop_eq_nil_of_le (by omega),show s.data.toList.length+1-s.data.toList.length=1 by omega]
   rfl
 | tok k kind n m ts hk hD hc ih =>
  have hr:=bY (s.data.toList.drop k) aI
  obtain ⟨h1,h2⟩:=jn hD
  have hlt:aK (s.data.toList.drop k) aI<(s.data.toList.drop k).length:=by
   rw [List.length_drop] at h2 ⊢; omega
  have e1:aK (s'.data.toList.drop k) aI=aK (s.data.toList.drop k) aI:=by
   rw [hs',List.drop_append_of_le_length (by omega),fV hlt]
  rw [List.length_drop] at hlt h2
  have hD':ij (s'.data.toList.drop (k+aK (s'.data.toList.drop k) aI))=.tok kind n m:=by
   rw [e1,hs',List.drop_append_of_le_length (by omega)]
   conv=>lhs; rw [← List.take_append_drop n (s.data.toList.drop _),List.append_assoc]
   exact (qn hD (jX rfl)).1
  have:=fG.tok (s:=s') k kind n m ts (by omega) hD' (by rw [e1]; exact ih)
  rw [e1] at this
  have e2:s'.extract (k+aK (s.data.toList.drop k) aI) (k+aK (s.data.toList.drop k) aI+n)=s.extract (k+aK (s.data.toList.drop k) aI) (k+aK (s.data.toList.drop k) aI+n):=by
   refine j8 ?_
   rw [ff,ff,hs',List.drop_append_of_le_length (by omega),List.take_append_of_le_length (by rw [List.length_drop]; omega)]
  rw [e2] at this
  exact this
theorem EM {s:ByteArray} {k:Nat} {ts:List Tok} (h:fG s k ts):k+ts.length≤s.size:=by
 induction h with
 | stop k hk _=>simpa using hk
 | tok k kind n m ts hk hD hc ih =>
  have:=(jn hD).1
  rw [List.length_cons]
  omega
theorem Ai (s:ByteArray):(dZ s).1.length≤s.size:=by
 rcases BL s with ⟨hc,_⟩ | ⟨a,ha,he⟩
 ·have:=EM hc; omega
 ·rw [he]; simp
structure rS where
 p:Option Addr
 l:Nat
 c:Nat
 q:Option Addr
 d:Nat
 ts:List Tok
def rS.one (e:rS):List Value:=[.slice e.p e.l e.c]
def rS.two (e:rS):List Value:=[.slice e.q e.l e.d]
def rS.Bq (e:rS):List Nat:=az e.p++az e.q
theorem sn (p:Option Addr) (k:Nat):az (p.map fun a=>a.add k)=az p:=by
 cases p with
 | none=>rfl
 | some a=>simp [az,gN]
def dK (b:Nat) (h h':Hp):Prop:=h.size≤h'.size∧∀ i,i<b→i<h.size→h'[i]?=h[i]?
theorem dK.of {ws:List Nat} {b:Nat} {h h':Hp} (k:Ch ws h h') (hw:∀ i,i∈ws→i<h.size→b≤i):dK b h h' :=
 ⟨k.size,fun i hi hl=>k.same i hl fun hm=>by have:=hw i hm hl; omega⟩
theorem dK.trans {b:Nat} {h h1 h2:Hp} (a:dK b h h1) (c:dK b h1 h2):dK b h h2 :=
 ⟨Nat.le_trans a.1 c.1,fun i hi hl=>(c.2 i hi (Nat.lt_of_lt_of_le hl a.1)).trans (a.2 i hi hl)⟩
theorem dK.ext {h h1 h2:Hp} (a:Ext h h1) (c:dK h.size h1 h2):Ext h h2 :=
 ⟨Nat.le_trans a.size c.1,fun i hi _=>(c.2 i hi (Nat.lt_of_lt_of_le hi a.size)).trans (a.same i hi (by simp))⟩
def KE (k j:Nat):List Value:=[.int .i64 (IntKind.wrap .i64 (-100-(k:Int))),.string ⟨#[]⟩,.int .u32 0,.int .i64 (IntKind.wrap .i64 (0-(j:Int)))]
def Room (h:Hp) (b:Nat) (p:Option Addr) (c k m:Nat):Prop :=
 match p with
 | none=>c=0
 | some a=>∃ g o cells,a=⟨g,o,none⟩∧b≤g∧c<9223372036854775808∧aO h g 178 cells∧o+c*4≤cells.length∧∀ j,j<m→(cells.drop (o+j*4)).take 4=KE k j
theorem Room.ah {ws:List Nat} {h h':Hp} {b:Nat} {p:Option Addr} {c k m:Nat} (r:Room h b p c k m) (kk:Ch ws h h') (hw:∀ i,i∈az p→i∉ws):Room h' b p c k m:=by
 cases p with
 | none=>exact r
 | some a =>
  obtain ⟨g,o,cells,rfl,hbg,hc,hbox,hr,hm⟩:=r
  exact ⟨g,o,cells,rfl,hbg,hc,hbox.ah kk (hw g (by simp [az])),hr,hm⟩
def fE (t:Tok) (c:UInt8):Bool:=t.kind==3 && t.text.data.toList==[c]
def dS (n:Nat):List Tok→List (List Tok)→List Tok→Except Nat (List (List Tok))
 | [],done,bW=>if bW=[] then .error n else .ok (done++[bW])
 | t::ts,done,bW=>if (fE t 58 || (fE t 44 && decide (bW=[])))=true then .error t.at_ else if fE t 44=true then dS n ts (done++[bW]) [] else dS n ts done (bW++[t])
def fg (n:Nat) (ts:List Tok):Except Nat (List (List Tok)):=if ts=[] then .ok [] else dS n ts [] []
structure Ln where
 label:ByteArray
 op:ByteArray
 args:List (List Tok)
def fN:Ln:=⟨⟨#[]⟩,⟨#[]⟩,[]⟩
def AF:List Tok→Bool
 | t::u::_=>decide (t.kind=1) && fE u 58
 | _=>false
def bP (n:Nat) (dG:ByteArray):List Tok→Ln × Nat × Nat
 | []=>(⟨dG,⟨#[]⟩,[]⟩,0,0)
 | t::ts=>if t.kind≠1 then (fN,t.at_,20) else match fg n ts with
  | .error a=>(fN,a,20)
  | .ok l=>(⟨dG,t.text,l⟩,0,0)
def dX (n:Nat) (ts:List Tok):Ln × Nat × Nat :=
 if AF ts=true then bP n ((ts.head?.map (·.text)).getD ⟨#[]⟩) (ts.drop 2) else bP n ⟨#[]⟩ ts
def aJ (s:ByteArray):Ln × Nat × Nat:=if (dZ s).2.2≠0 then (fN,(dZ s).2.1,(dZ s).2.2) else dX s.size (dZ s).1
theorem Dw {t:Tok} {c:UInt8}:(((t.kind:Int)==3) && (ByteArray.toList t.text==ByteArray.toList ⟨#[c]⟩))=fE t c:=by
 unfold fE
 rw [ByteArray.toList_eq,ByteArray.toList_eq]
 congr 1
 by_cases h:t.kind=3
 ·rw [h]; rfl
 ·have h1:((t.kind:Int)==3)=false:=by simp; omega
  have h2:(t.kind==3)=false:=by simp; omega
  rw [h1,h2]
theorem xV (t:Tok) (c:UInt8) (h:Hp):HC Tryz.prog 96 #[.agg #[.int .i64 t.kind,.string t.text,.int .u32 t.num,.int .i64 t.at_],.string ⟨#[c]⟩] h fun v h'=>v=.bool (fE t c)∧Ext h h':=by
 refine aL (args:=[.agg #[.int .i64 t.kind,.string t.text,.int .u32 t.num,.int .i64 t.at_],.string ⟨#[c]⟩]) mixed Tryz.func96 (by kernel_rfl) (zj _ _ _ _ _) ?_
 unfold xX
 refine aW ?_
 intro h1 b1 e1 z1
 refine ad b1 ((t.kind:Int),()) rfl ?_
 dsimp only [flat,aB,ai,nA,cA]
 rw [← Dw]
 refine af (fun g1=>?_) (fun g1=>?_)
 ·rw [ao]
  refine ad b1 (t.text,()) rfl ?_
  exact ⟨by rw [g1]; rfl,e1⟩
 ·exact ⟨by rw [g1]; rfl,e1⟩
structure In where
 p:Option Addr
 l:Nat
 c:Nat
 ts:List Tok
def In.val (a:In):List Value:=[.slice a.p a.l a.c]
structure fX (h:Hp) (b:Nat) (te es:TypeId) (p:Option Addr) (c:Nat) (al:List In):Prop where
 out:SL h b te 1 p al.length c (al.map In.val)
 uc:∀ a,a∈al→SL h b es 4 a.p a.l a.c (a.ts.map enc)
 po:∀ a,a∈al→∀ i,i∈az a.p→i∉az p
 pp:al.Pairwise fun a a'=>∀ i,i∈az a.p→i∉az a'.p
theorem fX.ah {ws:List Nat} {h h':Hp} {b:Nat} {te es:TypeId} {p:Option Addr} {c:Nat} {al:List In} (A:fX h b te es p c al) (k:Ch ws h h') (h1:∀ i,i∈az p→i∉ws) (h2:∀ a,a∈al→∀ i,i∈az a.p→i∉ws):fX h' b te es p c al :=
 ⟨A.out.aT k h1,fun a ha=>(A.uc a ha).aT k (h2 a ha),A.po,A.pp⟩
theorem fX.mono {h:Hp} {b b':Nat} {te es:TypeId} {p:Option Addr} {c:Nat} {al:List In} (A:fX h b te es p c al) (hb:b'≤b):fX h b' te es p c al :=
 ⟨A.out.mono hb,fun a ha=>(A.uc a ha).mono hb,A.po,A.pp⟩
theorem fX.nil (h:Hp) (b:Nat) (te es:TypeId):fX h b te es none 0 []:=⟨SL.nil _ _ _ _,by simp,by simp,List.Pairwise.nil⟩
theorem fX.snoc {h h':Hp} {b:Nat} {te es:TypeId} {p p':Option Addr} {c c':Nat} {al:List In} (A:fX h b te es p c al) {a:In} (hb:b≤h.size) (o:SL h' b te 1 p' (al.length+1) c' (al.map In.val++[a.val])) (k:Ch (az p) h h') (hp:p'=p∨∃ x,p'=some x∧h.size≤x.block)
  (ha:SL h b es 4 a.p a.l a.c (a.ts.map enc)) (h1:∀ i,i∈az a.p→i∉az p) (h2:∀ x,x∈al→∀ i,i∈az x.p→i∉az a.p):fX h' b te es p' c' (al++[a]):=by
 have hp':∀ i,i∈az p'→i∈az p∨h.size≤i:=by
  intro i hi
  rcases hp with rfl | ⟨x,rfl,hx⟩
  ·exact .inl hi
  ·simp [az] at hi; right; omega
 refine ⟨by rw [List.length_append,List.map_append]; exact o,fun x hx=>?_,fun x hx i hi hh=>?_,List.pairwise_append.2 ⟨A.pp,by simp,fun x hx y hy i hi=>?_⟩⟩
 ·rcases List.mem_append.1 hx with hx | hx
  ·exact (A.uc x hx).aT k fun i hi=>A.po x hx i hi
  ·have hx:x=a:=by simpa using hx
   subst hx
   exact ha.aT k h1
 ·rcases List.mem_append.1 hx with hx | hx
  ·rcases hp' i hh with h' | h'
   ·exact A.po x hx i hi h'
   ·have:=((A.uc x hx).bO hi).2; omega
  ·have hx:x=a:=by simpa using hx
   subst hx
   rcases hp' i hh with h' | h'
   ·exact h1 i hi h'
   ·have:=(ha.bO hi).2; omega
 ·have hy:y=a:=by simpa using hy
  subst hy
  exact h2 x hx i hi
theorem fX.last {h h' h'':Hp} {b:Nat} {te es:TypeId} {p:Option Addr} {c:Nat} {dn:List In} {a a':In} (A:fX h b te es p c (dn++[a])) (ha:SL h' b es 4 a'.p a'.l a'.c (a'.ts.map enc)) (k:Ch (az a.p) h h') (hp:a'.p=a.p∨∃ x,a'.p=some x∧h.size≤x.block)
  (o:SL h'' b te 1 p (dn++[a]).length c (((dn++[a]).map In.val).set dn.length a'.val)) (k':Ch (az p) h' h''):fX h'' b te es p c (dn++[a']):=by
 have hp':∀ i,i∈az a'.p→i∈az a.p∨h.size≤i:=by
  intro i hi
  rcases hp with hp | ⟨x,hp,hx⟩
  ·rw [hp] at hi; exact .inl hi
  ·rw [hp] at hi; simp [az] at hi; right; omega
 obtain ⟨A1,A2,A3,A4⟩:=A
 have hpp:=List.pairwise_append.1 A4
 have iI:((dn++[a]).map In.val).set dn.length a'.val=(dn++[a']).map In.val:=by
  rw [List.map_append,List.map_append,List.set_append_right _ _ (by simp)]
  simp
 rw [iI] at o
 have pa:∀ i,i∈az a.p→i∉az p:=A3 a (by simp)
 have pa':∀ i,i∈az a'.p→i∉az p:=by
  intro i hi hh
  rcases hp' i hi with h1 | h1
  ·exact pa i h1 hh
  ·have:=(A1.bO hh).2; omega
 refine ⟨by simpa using o,fun x hx=>?_,fun x hx i hi=>?_,List.pairwise_append.2 ⟨hpp.1,by simp,fun x hx y hy i hi hh=>?_⟩⟩
 ·rcases List.mem_append.1 hx with hx | hx
  ·exact ((A2 x (by simp [hx])).aT k fun i hi=>hpp.2.2 x hx a (by simp) i hi).aT k' fun i hi=>A3 x (by simp [hx]) i hi
  ·have hx:x=a':=by simpa using hx
   subst hx
   exact ha.aT k' pa'
 ·rcases List.mem_append.1 hx with hx | hx
  ·exact A3 x (by simp [hx]) i hi
  ·have hx:x=a':=by simpa using hx
   subst hx
   exact pa' i hi
 ·have hy:y=a':=by simpa using hy
  subst hy
  rcases hp' i hh with h1 | h1
  ·exact hpp.2.2 x hx a (by simp) i hi h1
  ·have:=((A2 x (by simp [hx])).bO hi).2; omega
structure Vw (h:Hp) (p:Option Addr) (l c:Nat) (us:List Tok):Prop where
 len:l=us.length
 cap:l≤c
 cells:∀ i,(hi:i<us.length)→∃ a,p=some a∧aH h (a.add (i*4)) 0 (enc us[i])
theorem Vw.ah {ws:List Nat} {h h':Hp} {p:Option Addr} {l c:Nat} {us:List Tok} (v:Vw h p l c us) (k:Ch ws h h') (hw:∀ i,i∈az p→i∉ws):Vw h' p l c us :=
 ⟨v.len,v.cap,fun i hi=>by
  obtain ⟨a,ha,hc⟩:=v.cells i hi
  exact ⟨a,ha,bt k (by rw [gN]; exact hw _ (by rw [ha]; simp [az])) _ _ hc⟩⟩
theorem SL.vw {h:Hp} {b:Nat} {e:TypeId} {p:Option Addr} {l c:Nat} {us:List Tok} (s:SL h b e 4 p l c (us.map enc)):Vw h p l c us:=by
 refine ⟨by rw [s.1,List.length_map],?_,fun i hi=>?_⟩
 ·cases p with
  | none =>
   have h1:=s.1
   rw [s.2.2.2,List.length_nil] at h1
   omega
  | some a=>obtain ⟨_,_,_,_,_,hh,_⟩:=s.2.2; exact hh.1
 ·obtain ⟨a,ha,hc⟩:=s.cells (i:=i) (by simpa using hi)
  rw [List.getElem_map] at hc
  exact ⟨a,ha,hc⟩
theorem add_add (a:Addr) (i j:Nat):(a.add i).add j=a.add (i+j):=by
 unfold Addr.add
 by_cases hi:i=0 <;> by_cases hj:j=0 <;> simp [hi,hj] <;> omega
theorem Vw.drop {h:Hp} {p:Option Addr} {l c:Nat} {us:List Tok} (v:Vw h p l c us) {k:Nat} (hk:k≤l):Vw h (if c=k then p else p.map fun a=>a.add (k*4)) (l-k) (c-k) (us.drop k):=by
 have:=v.len
 have:=v.cap
 refine ⟨by rw [List.length_drop]; omega,by omega,fun i hi=>?_⟩
 rw [List.length_drop] at hi
 rw [if_neg (by omega)]
 obtain ⟨a,rfl,hc⟩:=v.cells (k+i) (by omega)
 refine ⟨_,rfl,?_⟩
 rw [add_add,← Nat.add_mul,List.getElem_drop]
 exact hc
theorem kG (p:Option Addr) (c k n:Nat):az (if c=k then p else p.map fun a=>a.add n)=az p:=by
 split
 ·rfl
 ·exact sn p n
def Hi (n:Nat) (ts:List Tok) (h:Hp) (v:Value) (h':Hp):Prop :=
 Ext h h'∧match fg n ts with
 | .error a=>v=.tuple #[.slice none 0 0,.int .i64 a,.int .i64 20]
 | .ok l=>∃ p c al,v=.tuple #[.slice p al.length c,.int .i64 0,.int .i64 0]∧fX h' h.size 174 178 p c al∧al.map In.ts=l
abbrev zK:List gH:=[(false,[.slice 0]),(false,[.int .i64]),(false,[.int .i64]),(false,[.slice 0]),(false,[.int .i64])]
def L6 (n:Nat) (us:List Tok) (h:Hp) (x:rQ (flat zK)) (m:Nat) (h':Hp):Prop :=
 ∃ (i:Nat) (dn:List In) (cu:In),x.2.2.2.2.1=(i:Int)∧i≤us.length∧m=us.length-i∧Ext h h'∧x.2.2.2.1.2.1=dn.length+1∧fX h' h.size 174 178 x.2.2.2.1.1 x.2.2.2.1.2.2 (dn++[cu]) ∧
  dS n us [] []=dS n (us.drop i) (dn.map In.ts) cu.ts∧dn.length≤i∧cu.ts.length≤i
theorem LQ:(Tryz.prog.info? 178).map (fun i=>(i.zero,i.size,i.bytes))=some (some (.agg #[.int .i64 0,.string ⟨#[]⟩,.int .u32 0,.int .i64 0]),4,40):=by kernel_rfl
theorem LM:(Tryz.prog.info? 174).map (fun i=>(i.zero,i.size,i.bytes))=some (some (.slice none 0 0),1,24):=by kernel_rfl
theorem Jo:Tryz.prog.underlying 128=some (.slice 174):=by kernel_rfl
theorem KU:Tryz.prog.underlying 174=some (.slice 178):=by kernel_rfl
theorem zf (s:ByteArray) {h:Hp} {pp:Option Addr} {ll cc:Nat} {us:List Tok} (hu:us.length≤2^40) (sl:Vw h pp ll cc us) :
  HC Tryz.prog 97 #[.string s,.slice pp ll cc] h (Hi s.size us h):=by
 refine aL (args:=[.string s,.slice pp ll cc]) mixed Tryz.func97 (by kernel_rfl) (oV s pp ll cc) ?_
 unfold kC
 have hll:ll=us.length:=sl.len
 refine af (fun g1=>?_) (fun g1=>?_)
 ·have g1:(ll:Int)=0:=eq_of_beq g1
  have:us=[]:=List.eq_nil_of_length_eq_zero (by omega)
  subst this
  exact ⟨Ch.refl _ _,none,0,[],rfl,fX.nil _ _ _ _,rfl⟩
 have g1:(ll:Int)≠0:=ne_of_beq_false g1
 have hne:us≠[]:=fun hh=>by rw [hh] at hll; simp at hll; omega
 refine eA (e:=174) (cells:=[.slice none 0 0]) Jo LM (by omega) (by omega) (by kernel_rfl) ?_
 intro h1 b1 e1 z1
 have A1:fX h1 h.size 174 178 (some ⟨h.size,0,none⟩) 1 ([]++[⟨none,0,0,[]⟩]):=by
  refine ⟨⟨rfl,by simp [In.val],h.size,[],[],rfl,Nat.le_refl _,⟨by simp,by omega⟩,?_,rfl⟩,?_,?_,by simp⟩
  ·simpa [In.val] using b1
  ·intro a ha
   have ha:a=⟨none,0,0,[]⟩:=by simpa using ha
   subst ha
   exact SL.nil _ _ _ _
  ·intro a ha i hi
   have ha:a=⟨none,0,0,[]⟩:=by simpa using ha
   subst ha
   simp [az] at hi
 refine bm (cs:=zK) (L6 s.size us h) ((none,0,0),(0:Int),(0:Int),(some ⟨h.size,0,none⟩,1,1),(0:Int),()) us.length rfl
  ⟨0,[],⟨none,0,0,[]⟩,rfl,by omega,by omega,e1,rfl,A1,rfl,by simp,by simp⟩ ?_
 clear A1 b1 e1 z1 h1
 rintro ⟨⟨p5,l6,l7⟩,n8,n9,⟨p10,l11,l12⟩,n13,⟨⟩⟩ m h2 ⟨i,dn,cu,hi,hile,rfl,e2,hl11,A,hrec,hdn,hcu⟩
 simp only at hi hl11 A
 subst hi hl11
 dsimp only [zK,flat,aB,ai,nA,cA]
 have hlen:(dn++[cu]).length=dn.length+1:=by simp
 have hwl:IntKind.wrap .i64 (((dn.length+1:Nat):Int)-1)=(dn.length:Int):=by rw [wrap_i64 (by omega) (by omega)]; omega
 rw [hwl]
 have hlast:∀ {hh:Hp} {p':Option Addr} {c':Nat},fX hh h.size 174 178 p' c' (dn++[cu])→∃ a,p'=some a∧aH hh (a.add (dn.length*1)) 0 [.slice cu.p cu.l cu.c]:=by
  intro hh p' c' A'
  obtain ⟨a,ha,hc⟩:=A'.out.cells (i:=dn.length) (by simp)
  refine ⟨a,ha,?_⟩
  have:((dn++[cu]).map In.val)[dn.length]'(by simp)=[.slice cu.p cu.l cu.c]:=by simp [In.val]
  rw [this] at hc
  exact hc
 have hcul:cu.l=cu.ts.length:=by have:=(A.uc cu (by simp)).1; rw [this,List.length_map]
 refine af (fun g2=>?_) (fun g2=>?_)
 ·have g2:=of_decide_eq_true g2
  have hlt:i<us.length:=by omega
  obtain ⟨a,rfl,ew⟩:=(sl.ah e2 (by simp)).cells i hlt
  have hdr:us.drop i=us[i]::us.drop (i+1):=List.drop_eq_getElem_cons hlt
  rw [hdr] at hrec
  generalize us[i]=t at ew hrec
  refine aA ⟨by omega,by omega⟩ (an rfl ?_)
  rw [show Int.toNat (i:Int)=i by omega]
  refine aG ((t.kind:Int),t.text,(t.num:Int),(t.at_:Int),()) ew ?_
  dsimp only [flat,aB,ai,nA,cA]
  refine aW ?_
  intro h3 b3 e3 z3
  refine ak b3 rfl (by simp) ?_
  intro h4 b4 k4 z4
  have b4:aO h4 h2.size 178 (enc t):=b4
  have e24:Ext h2 h4:=Ch.trans e3 k4 (fun j hj hjl=>by simp at hj; omega)
  have A4:=A.ah e24 (by simp) (by simp)
  have hld:∀ {hh:Hp} {L:Lp} {K:Value→Hp→Prop} {kk:Int→ByteArray→Int→Int→T},Ext h4 hh→kk t.kind t.text t.num t.at_ L K hh→T.ae (⟨h2.size,0,none⟩:Addr) [.int .i64,.string,.int .u32,.int .i64] kk L K hh:=by
   intro hh L K kk e hk
   exact ad (b4.ah e (by simp)) ((t.kind:Int),t.text,(t.num:Int),(t.at_:Int),()) rfl hk
  refine dL (cs:=[(false,[.bool])]) (fun y h'=>y.1=(fE t 58 || (fE t 44 && decide (cu.ts=[])))∧Ext h4 h') ?_ ?_
  ·refine hld (Ch.refl _ _) ?_
   refine lK (xV t 58 h4) ?_
   intro h5 e5
   refine af (fun g3=>?_) (fun g3=>?_)
   ·exact bi (cs:=[(false,[.bool])]) (true,()) rfl rfl ⟨by rw [g3]; rfl,e5⟩
   ·refine hld e5 ?_
    refine lK (xV t 44 h5) ?_
    intro h6 e6
    refine af (fun g4=>?_) (fun g4=>?_)
    ·obtain ⟨a',ha',hc'⟩:=hlast (A4.ah (e5.trans e6) (by simp) (by simp))
     refine aA ⟨by omega,by omega⟩ (an ha' ?_)
     rw [show Int.toNat (dn.length:Int)=dn.length by omega]
     refine aG ((cu.p,cu.l,cu.c),()) hc' ?_
     dsimp only [flat,aB,ai,nA,cA]
     refine bi (cs:=[(false,[.bool])]) (((cu.l:Int)==0),()) rfl rfl ⟨?_,e5.trans e6⟩
     show ((cu.l:Int)==0)=_
     rw [g3,g4,Bool.false_or,Bool.true_and,hcul]
     by_cases hh:cu.ts=[]
     ·rw [hh]; rfl
     ·have:cu.ts.length≠0:=fun h0=>hh (List.eq_nil_of_length_eq_zero h0)
      rw [decide_eq_false hh]
      simp only [beq_eq_false_iff_ne,ne_eq]
      omega
    ·exact bi (cs:=[(false,[.bool])]) (false,()) rfl rfl ⟨by rw [g3,g4]; rfl,e5.trans e6⟩
  ·rintro ⟨b20,⟨⟩⟩ h5 ⟨hb20,e5⟩
   simp only at hb20
   subst hb20
   dsimp only [flat,aB,ai,nA,cA]
   have e25:=e2.trans (e24.trans e5)
   refine af (fun g3=>?_) (fun g3=>?_)
   ·rw [ao]
    refine ad (b4.ah e5 (by simp)) ((t.at_:Int),()) rfl ?_
    refine ⟨⟨(b4.ah e5 (by simp)).cells _ rfl,trivial⟩,?_⟩
    refine ⟨e25,?_⟩
    have:fg s.size us=.error t.at_:=by
     unfold fg
     rw [if_neg hne,hrec]
     unfold dS
     rw [if_pos g3]
    rw [this]
   ·rw [show dS s.size (t::us.drop (i+1)) (dn.map In.ts) cu.ts=if fE t 44=true then dS s.size (us.drop (i+1)) (dn.map In.ts++[cu.ts]) [] else dS s.size (us.drop (i+1)) (dn.map In.ts) (cu.ts++[t]) by
     conv=>lhs; unfold dS
     rw [if_neg (by rw [g3]; simp)]] at hrec
    refine hld e5 ?_
    refine lK (xV t 44 h5) ?_
    intro h6 e6
    have hw:IntKind.wrap .i64 ((i:Int)+1)=((i+1:Nat):Int):=by rw [wrap_i64 (by omega) (by omega)]; omega
    have A6:=A4.ah (e5.trans e6) (by simp) (by simp)
    have e26:Ext h h6:=e25.trans e6
    have hs6:=e26.size
    refine af (fun g4=>?_) (fun g4=>?_)
    ·rw [if_pos g4] at hrec
     refine nS (e:=174) (vs:=[.slice none 0 0]) Jo LM rfl (by omega) (by omega) (by kernel_rfl) rfl rfl (by rw [← hlen]; exact A6.out) hs6 (by omega) (by omega) ?_
     intro p' c' h7 o7 k7 hp7
     refine aM (cs:=zK) ((p5,l6,l7),n8,n9,(p',dn.length+1+1,c'),((i+1:Nat):Int),()) (us.length-(i+1)) rfl (by omega) (by rw [hw]; rfl) ?_
     refine ⟨i+1,dn++[cu],⟨none,0,0,[]⟩,rfl,by omega,rfl,?_,by simp,A6.snoc hs6 (by rw [hlen]; exact o7) k7 hp7 (SL.nil _ _ _ _) (by simp [az]) (by simp [az]),?_,by simp; omega,by simp⟩
     ·exact Ch.trans e26 k7 (fun j hj hjl=>by have:=(A6.out.bO hj).1; omega)
     ·rw [hrec,List.map_append]; rfl
    ·rw [if_neg (by rw [g4]; simp)] at hrec
     obtain ⟨a',rfl,hc'⟩:=hlast A6
     refine aA ⟨by omega,by omega⟩ (an rfl ?_)
     rw [show Int.toNat (dn.length:Int)=dn.length by omega]
     refine aG ((cu.p,cu.l,cu.c),()) hc' ?_
     dsimp only [flat,aB,ai,nA,cA]
     refine hld (e5.trans e6) ?_
     have ab:a'.block∈az (some a'):=by simp [az]
     refine yN (e:=178) (vs:=enc t) KU LQ rfl (by omega) (by omega) (by kernel_rfl) rfl rfl (A6.uc cu (by simp)) hs6 (by omega) (by omega) (fun h' e=>⟨bt e (by simp) _ _ hc',trivial⟩) ?_
     intro p7 c7 h7 o7 k7 hp7
     have hch7:h2.size∉az cu.p:=fun hh=>by have:=((A.uc cu (by simp)).bO hh).2; omega
     refine ⟨⟨((b4.ah (e5.trans e6) (by simp)).ah k7 hch7).cells _ rfl,trivial⟩,?_⟩
     refine aA ⟨by omega,by omega⟩ (an rfl ?_)
     have o6:=A6.out.aT k7 (fun j hj hh=>A6.po cu (by simp) j hh hj)
     refine o6.store (P:=Tryz.prog) (i:=dn.length) (by simp) (vs:=[.slice p7 (cu.l+1) c7]) rfl rfl rfl ?_
     intro h8 o8 k8 z8
     refine aM (cs:=zK) ((p5,l6,l7),n8,n9,(some a',dn.length+1,l12),((i+1:Nat):Int),()) (us.length-(i+1)) rfl (by omega) (by rw [hw]; rfl) ?_
     refine ⟨i+1,dn,⟨p7,cu.l+1,c7,cu.ts++[t]⟩,rfl,by omega,rfl,?_,rfl,?_,hrec,by omega,by simp; omega⟩
     ·refine Ch.trans (Ch.trans e26 k7 (fun j hj hjl=>by have:=((A6.uc cu (by simp)).bO hj).1; omega)) k8 (fun j hj hjl=>by have:=(A6.out.bO hj).1; omega)
     ·exact A6.last (a':=⟨p7,cu.l+1,c7,cu.ts++[t]⟩) (by rw [List.map_append]; exact o7) k7 hp7 o8 k8
 ·have g2:=of_decide_eq_false g2
  have hi:i=us.length:=by omega
  subst hi
  rw [List.drop_length] at hrec
  obtain ⟨a',rfl,hc'⟩:=hlast A
  refine aA ⟨by omega,by omega⟩ (an rfl ?_)
  rw [show Int.toNat (dn.length:Int)=dn.length by omega]
  refine aG ((cu.p,cu.l,cu.c),()) hc' ?_
  dsimp only [flat,aB,ai,nA,cA]
  have hA:fg s.size us=if cu.ts=[] then .error s.size else .ok (dn.map In.ts++[cu.ts]):=by
   unfold fg
   rw [if_neg hne,hrec]
   rfl
  refine af (fun g3=>?_) (fun g3=>?_)
  ·have g3:(cu.l:Int)=0:=eq_of_beq g3
   refine ⟨e2,?_⟩
   rw [hA,if_pos (List.eq_nil_of_length_eq_zero (by omega))]
  ·have g3:(cu.l:Int)≠0:=ne_of_beq_false g3
   refine ⟨e2,?_⟩
   rw [hA,if_neg (fun hh=>by rw [hh] at hcul; simp at hcul; omega)]
   exact ⟨some a',l12,dn++[cu],by rw [hlen],A,by simp⟩
def yp (te es:TypeId) (s:ByteArray) (h:Hp) (v:Value) (h':Hp):Prop :=
 Ext h h'∧∃ p c al,v=.tuple #[.agg #[.string (aJ s).1.label,.string (aJ s).1.op,.slice p al.length c],.int .i64 (aJ s).2.1,.int .i64 (aJ s).2.2]∧fX h' h.size te es p c al∧al.map In.ts=(aJ s).1.args
theorem pU {ts:List Tok} (hh:∀ t u r,ts=t::u::r→t.kind=1→fE u 58=true→False):AF ts=false:=by
 match ts,hh with
 | [],_=>rfl
 | [_],_=>rfl
 | t::u::r,hh =>
  cases hl:AF (t::u::r) with
  | false=>rfl
  | true =>
   simp only [AF,Bool.and_eq_true,decide_eq_true_eq] at hl
   exact (hh t u r rfl hl.1 hl.2).elim
theorem Gc (s:ByteArray) (h:Hp) (hs:s.size≤2^40) (hl:Laid h):HC Tryz.prog 64 #[.string s] h (yp 174 178 s h):=by
 refine aL (args:=[.string s]) mixed Tryz.func64 (by kernel_rfl) (tS s) ?_
 unfold rO
 refine aW ?_
 intro h1 b1 e1 z1
 refine aC (EG s h1 hs (hl.ext e1)) ?_
 rintro _ h2 ⟨p2,l3,l4,rfl,sl,e2⟩
 refine ⟨((p2,l3,l4),((dZ s).2.1:Int),((dZ s).2.2:Int),()),rfl,?_⟩
 dsimp only [aB,ai,flat,nA,cA]
 have b2:=b1.ah e2 (by simp)
 have e12:=e1.trans e2
 have hlen:=Ai s
 have hz2:=e2.size
 have hE:∀ {hh h':Hp},Ext h hh→Ch [h.size] hh h'→Ext h h':=fun e k=>Ch.trans e k (fun i hi hl=>by simp at hi; omega)
 refine af (fun g1=>?_) (fun g1=>?_)
 ·have g1:((dZ s).2.2:Int)≠0:=by simpa using g1
  have hp:aJ s=(fN,(dZ s).2.1,(dZ s).2.2):=by unfold aJ; rw [if_pos (by omega)]
  refine ak b2 rfl (by simp) ?_
  intro h3 b3 k3 z3
  have b3:aO h3 h.size 130 [.string ⟨#[]⟩,.string ⟨#[]⟩,.slice none 0 0]:=b3
  refine ad b3 ((⟨#[]⟩:ByteArray),(⟨#[]⟩:ByteArray),(none,0,0),()) rfl ?_
  exact ⟨hE e12 k3,none,0,[],by rw [hp]; rfl,fX.nil _ _ _ _,by rw [hp]; rfl⟩
 have g1:((dZ s).2.2:Int)=0:=by simpa using g1
 have hp:aJ s=dX s.size (dZ s).1:=by unfold aJ; rw [if_neg (by omega)]
 have vw:=sl.vw
 have hblk:∀ i,i∈az p2→h1.size+1≤i∧i<h2.size:=fun i hi=>sl.bO hi
 clear sl
 generalize (dZ s).1=ts at hp vw hlen
 unfold yp
 rw [hp]
 refine aW ?_
 intro h3 b7 e3 z3
 have hz1:=z1
 have vw3:=vw.ah e3 (by simp)
 have hl3:=vw.len
 have hcap:=vw.cap
 refine dL (cs:=[(false,[.slice 0])]) (fun y h'=>∃ lb us,dX s.size ts=bP s.size lb us∧us.length≤s.size∧Vw h' y.1.1 y.1.2.1 y.1.2.2 us∧(∀ i,i∈az y.1.1→h1.size+1≤i∧i<h2.size)∧aO h' h2.size 130 [.string lb,.string ⟨#[]⟩,.slice none 0 0]∧Ch [h2.size] h3 h') ?_ ?_
 ·have plain:∀ {L:Lp} {K:Value→Hp→Prop} {h':Hp},Ext h3 h'→AF ts=false→(T.again 0 [.slice p2 l3 l4]) ((fun vs h'=>∃ y:rQ (flat [(false,[.slice 0])]),vs=parts [(false,[.slice 0])] (fw _ y)∧∃ lb us,dX s.size ts=bP s.size lb us∧us.length≤s.size∧Vw h' y.1.1 y.1.2.1 y.1.2.2 us∧(∀ i,i∈az y.1.1→h1.size+1≤i∧i<h2.size)∧aO h' h2.size 130 [.string lb,.string ⟨#[]⟩,.slice none 0 0]∧Ch [h2.size] h3 h')::L) K h':=by
   intro L K h' e hlab
   refine bi (cs:=[(false,[.slice 0])]) ((p2,l3,l4),()) rfl rfl ⟨⟨#[]⟩,ts,?_,hlen,vw3.ah e (by simp),hblk,b7.ah e (by simp),e.mono (by simp)⟩
   unfold dX
   rw [if_neg (by rw [hlab]; simp)]
  refine af (fun g2=>?_) (fun g2=>?_)
  ·have g2:=of_decide_eq_true g2
   match ts,hl3 with
   | [],hl3=>simp at hl3; omega
   | [_],hl3=>simp at hl3; omega
   | t::u::r,hl3 =>
    obtain ⟨a,rfl,c0⟩:=vw3.cells 0 (by simp)
    obtain ⟨a',ha',c1⟩:=vw3.cells 1 (by simp)
    cases ha'
    have c0:aH h3 (a.add (0*4)) 0 (enc t):=c0
    have c1:aH h3 (a.add (1*4)) 0 (enc u):=c1
    have ab:a.block∈az (some a):=by simp [az]
    refine aA ⟨by omega,by omega⟩ (an rfl (aG ((t.kind:Int),()) ⟨c0.1,trivial⟩ ?_))
    dsimp only [aB,ai,flat,nA,cA]
    refine af (fun g3=>?_) (fun g3=>?_)
    ·have g3:(t.kind:Int)=1:=eq_of_beq g3
     refine aA ⟨by omega,by omega⟩ (an rfl (aG ((u.kind:Int),u.text,(u.num:Int),(u.at_:Int),()) c1 ?_))
     refine lK (xV u 58 h3) ?_
     intro h4 e4
     refine af (fun g4=>?_) (fun g4=>?_)
     ·have c0':=bt e4 (by simp) _ _ c0
      refine aA ⟨by omega,by omega⟩ (an rfl (aG (t.text,()) ⟨c0'.2.1,trivial⟩ ?_))
      refine ak (b7.ah e4 (by simp)) rfl (by simp) ?_
      intro h5 b5 k5 z5
      refine aA ⟨by omega,by omega,by omega⟩ ?_
      have e35:Ch [h2.size] h3 h5:=Ch.trans (e4.mono (by simp)) k5 (fun i hi _=>hi)
      have vd:=((vw3.ah e4 (by simp)).ah k5 (fun i hi=>by have:=(hblk i hi).2; simp; omega)).drop (k:=2) (by omega)
      refine bi (cs:=[(false,[.slice 0])]) ((if l4=2 then some a else (some a).map fun a=>a.add (2*4),l3-2,l4-2),()) rfl ?_ ⟨t.text,r,?_,by simp at hlen; omega,vd,?_,b5,e35⟩
      ·show [Value.slice _ (Int.toNat (l3:Int)-2) (l4-2)]=_
       rw [show Int.toNat (l3:Int)=l3 by omega]
       rfl
      ·unfold dX
       rw [if_pos (by show (decide (t.kind=1) && fE u 58)=true; rw [g4,decide_eq_true (by omega)]; rfl)]
       rfl
      ·intro i hi
       rw [show az (if l4=2 then some a else (some a).map fun a=>a.add (2*4))=az (some a) from kG _ _ _ _] at hi
       exact hblk i hi
     ·exact plain e4 (pU (by rintro _ _ _ hh h1 h2; injection hh with q1 q2; injection q2 with q2 _; subst q1 q2; rw [h2] at g4; cases g4))
    ·have g3:(t.kind:Int)≠1:=ne_of_beq_false g3
     exact plain (Ch.refl _ _) (pU (by rintro _ _ _ hh h1 h2; injection hh with q1 q2; subst q1; omega))
  ·have g2:=of_decide_eq_false g2
   exact plain (Ch.refl _ _) (pU (by rintro t u r rfl h1 h2; simp at hl3; omega))
 ·rintro ⟨⟨p8,l9,l10⟩,⟨⟩⟩ h4 ⟨lb,us,hpl,hus,v4,hb4,b4,k4⟩
  simp only at v4 hb4
  dsimp only [aB,ai,flat,nA,cA]
  rw [hpl]
  have hl9:=v4.len
  have hc9:=v4.cap
  have hne:h.size≠h2.size:=by omega
  have a4:aO h4 h.size 130 [.string ⟨#[]⟩,.string ⟨#[]⟩,.slice none 0 0]:=(b2.ah e3 (by simp)).ah k4 (by simp; omega)
  have e04:Ext h h4:=Ch.trans (e12.trans e3) k4 (fun i hi hl=>by simp at hi; omega)
  have hz4:=k4.size
  have hz3:=e3.size
  have out:∀ {hh:Hp} {L:Lp} {op:ByteArray} {al:List In} {p:Option Addr} {c:Nat},(∃ v w u,aO hh h.size 130 [v,w,u])→aO hh h2.size 130 [.string lb,.string op,.slice p al.length c]→Ext h hh→fX hh h4.size 174 178 p c al→bP s.size lb us=(⟨lb,op,al.map In.ts⟩,0,0) →
    (T.ae ⟨h2.size,0,none⟩ [.string,.string,.slice 174] fun (s11:ByteArray) (s12:ByteArray) (p13:Option Addr) (l14:Nat) (l15:Nat) =>
     T.ap ⟨h.size,0,none⟩ [.string s11,.string s12,.slice p13 l14 l15] <|
     T.ae ⟨h.size,0,none⟩ [.string,.string,.slice 174] fun (MC:ByteArray) (s17:ByteArray) (p18:Option Addr) (l19:Nat) (l20:Nat) =>
     T.ret (.tuple #[.agg #[.string MC,.string s17,.slice p18 l19 l20],.int .i64 (0:Int),.int .i64 (0:Int)])) L
     (fun v h'=>Ext h h'∧∃ p c al,v=.tuple #[.agg #[.string (bP s.size lb us).1.label,.string (bP s.size lb us).1.op,.slice p al.length c],.int .i64 (bP s.size lb us).2.1,.int .i64 (bP s.size lb us).2.2]∧fX h' h.size 174 178 p c al∧al.map In.ts=(bP s.size lb us).1.args) hh:=by
   rintro hh L op al p c ⟨v,w,u,bb⟩ b7' e A hpt
   refine ad b7' (lb,op,(p,al.length,c),()) rfl ?_
   refine ak bb rfl (by simp) ?_
   intro h' b' k' z'
   have b':aO h' h.size 130 [.string lb,.string op,.slice p al.length c]:=b'
   refine ad b' (lb,op,(p,al.length,c),()) rfl ?_
   rw [hpt]
   exact ⟨hE e k',p,c,al,rfl,(A.ah k' (fun i hi=>by have:=(A.out.bO hi).1; simp; omega) (fun x hx i hi=>by have:=((A.uc x hx).bO hi).1; simp; omega)).mono (by omega),rfl⟩
  refine af (fun g2=>?_) (fun g2=>?_)
  ·have g2:(l9:Int)=0:=eq_of_beq g2
   have:us=[]:=List.eq_nil_of_length_eq_zero (by omega)
   subst this
   exact out (al:=[]) ⟨_,_,_,a4⟩ b4 e04 (fX.nil _ _ _ _) rfl
  have g2:(l9:Int)≠0:=ne_of_beq_false g2
  cases us with
  | nil=>simp at hl9; omega
  | cons t us =>
   obtain ⟨a,rfl,c0⟩:=v4.cells 0 (by simp)
   have c0:aH h4 (a.add (0*4)) 0 (enc t):=c0
   have ab:=hb4 a.block (by simp [az])
   refine aA ⟨by omega,by omega⟩ (an rfl (aG ((t.kind:Int),()) ⟨c0.1,trivial⟩ ?_))
   dsimp only [aB,ai,flat,nA,cA]
   refine af (fun g3=>?_) (fun g3=>?_)
   ·have g3:(t.kind:Int)≠1:=by simpa using g3
    have hpt:bP s.size lb (t::us)=(fN,t.at_,20):=by simp only [bP]; rw [if_pos (by omega)]
    refine aA ⟨by omega,by omega⟩ (an rfl (aG ((t.at_:Int),()) ⟨c0.2.2.2.1,trivial⟩ ?_))
    dsimp only [aB,ai,flat,nA,cA]
    refine ak a4 rfl (by simp) ?_
    intro h5 b5 k5 z5
    have b5:aO h5 h.size 130 [.string ⟨#[]⟩,.string ⟨#[]⟩,.slice none 0 0]:=b5
    have c5:=bt k5 (by rw [gN]; simp; omega) _ _ c0
    refine ⟨⟨⟨c5.2.2.2.1,trivial⟩,trivial⟩,?_⟩
    refine ad b5 ((⟨#[]⟩:ByteArray),(⟨#[]⟩:ByteArray),(none,0,0),()) rfl ?_
    rw [hpt]
    exact ⟨hE e04 k5,none,0,[],rfl,fX.nil _ _ _ _,rfl⟩
   have g3:(t.kind:Int)=1:=by simpa using g3
   have hpt:bP s.size lb (t::us)=match fg s.size us with
     | .error a=>(fN,a,20)
     | .ok l=>(⟨lb,t.text,l⟩,0,0):=by simp only [bP]; rw [if_neg (by omega)]; all_goals (cases fg s.size us <;> rfl)
   refine aA ⟨by omega,by omega⟩ (an rfl (aG (t.text,()) ⟨c0.2.1,trivial⟩ ?_))
   dsimp only [aB,ai,flat,nA,cA]
   rw [ao]
   refine ak b4 rfl (by simp) ?_
   intro h5 b5 k5 z5
   have b5:aO h5 h2.size 130 [.string lb,.string t.text,.slice none 0 0]:=b5
   have a5:=a4.ah k5 (by simp; omega)
   have e05:Ext h h5:=Ch.trans e04 k5 (fun i hi hl=>by simp at hi; omega)
   refine aA ⟨by omega,by omega,by omega⟩ ?_
   have vd:=(v4.ah k5 (fun i hi=>by have:=(hb4 i hi).2; simp; omega)).drop (k:=1) (by omega)
   refine aC (args:=[.string s,.slice _ _ _]) (zf s (us:=us) (by simp at hus; omega) ?vv) ?_
   case vv=>rw [show Int.toNat (l9:Int)=l9 by omega]; exact vd
   rintro v h6 ⟨e6,hv⟩
   have a6:=a5.ah e6 (by simp)
   have b6:=b5.ah e6 (by simp)
   have e06:=e05.trans e6
   cases hA:fg s.size us with
   | error aa =>
    rw [hA] at hv hpt
    simp only at hv hpt
    subst hv
    refine ⟨((none,0,0),(aa:Int),(20:Int),()),rfl,?_⟩
    dsimp only [aB,ai,flat,nA,cA]
    refine bd rfl ?_
    refine ak a6 rfl (by simp) ?_
    intro h7 b7 k7 z7
    have b7:aO h7 h.size 130 [.string ⟨#[]⟩,.string ⟨#[]⟩,.slice none 0 0]:=b7
    refine ad b7 ((⟨#[]⟩:ByteArray),(⟨#[]⟩:ByteArray),(none,0,0),()) rfl ?_
    rw [hpt]
    exact ⟨hE e06 k7,none,0,[],rfl,fX.nil _ _ _ _,rfl⟩
   | ok ll =>
    rw [hA] at hv hpt
    simp only at hv hpt
    obtain ⟨p,c,al,rfl,A,hal⟩:=hv
    refine ⟨((p,al.length,c),(0:Int),(0:Int),()),rfl,?_⟩
    dsimp only [aB,ai,flat,nA,cA]
    refine bo rfl ?_
    rw [ao]
    refine ak b6 rfl (by simp) ?_
    intro h7 b7 k7 z7
    have b7:aO h7 h2.size 130 [.string lb,.string t.text,.slice p al.length c]:=b7
    have hz5:=k5.size
    refine out (op:=t.text) (al:=al) ⟨_,_,_,a6.ah k7 (by simp; omega)⟩ b7 (Ch.trans e06 k7 (fun i hi hl=>by simp at hi; omega)) ((A.ah k7 (fun i hi=>by have:=(A.out.bO hi).1; simp; omega) (fun x hx i hi=>by have:=((A.uc x hx).bO hi).1; simp; omega)).mono (by omega)) (by rw [hpt,hal])
theorem nO (n N:Nat):∀ (ts:List Tok) (done:List (List Tok)) (bW:List Tok) (r:List (List Tok)),dS n ts done bW=.ok r→(∀ l,l∈done→l.length≤N)→bW.length+ts.length≤N →
  (∀ l,l∈r→l.length≤N)∧r.length≤done.length+1+ts.length
 | [],done,bW,r,h,hd,hc=>by
  simp only [dS] at h
  split at h
  ·cases h
  ·injection h with h
   subst h
   refine ⟨fun l hl=>?_,by simp⟩
   rcases List.mem_append.1 hl with hl | hl
   ·exact hd l hl
   ·have:l=bW:=by simpa using hl
    subst this
    simpa using hc
 | t::ts,done,bW,r,h,hd,hc=>by
  simp only [dS] at h
  simp only [List.length_cons] at hc
  split at h
  ·cases h
  ·split at h
   ·have:=nO n N ts (done++[bW]) [] r h (fun l hl=>by
     rcases List.mem_append.1 hl with hl | hl
     ·exact hd l hl
     ·have:l=bW:=by simpa using hl
      subst this
      omega) (by simp; omega)
    refine ⟨this.1,?_⟩
    have h2:=this.2
    simp at h2 ⊢
    omega
   ·have:=nO n N ts done (bW++[t]) r h hd (by simp; omega)
    refine ⟨this.1,?_⟩
    have h2:=this.2
    simp at h2 ⊢
    omega
theorem rf (n N:Nat) (lb:ByteArray) (us:List Tok) (h:us.length≤N):(∀ l,l∈(bP n lb us).1.args→l.length≤N)∧(bP n lb us).1.args.length≤N+1:=by
 cases us with
 | nil=>simp [bP]
 | cons t us =>
  simp only [List.length_cons] at h
  simp only [bP]
  split
  ·simp [fN]
  ·cases hA:fg n us with
   | error a=>simp [fN]
   | ok l =>
    unfold fg at hA
    split at hA
    ·injection hA with hA
     subst hA
     simp
    ·have:=nO n N us [] [] l hA (by simp) (by simp; omega)
     refine ⟨this.1,?_⟩
     have h2:=this.2
     simp at h2 ⊢
     omega
theorem eN (s:ByteArray):(∀ l,l∈(aJ s).1.args→l.length≤s.size)∧(aJ s).1.args.length≤s.size+1:=by
 have hlen:=Ai s
 unfold aJ
 split
 ·simp [fN]
 ·unfold dX
  split
  ·exact rf _ _ _ _ (by rw [List.length_drop]; omega)
  ·exact rf _ _ _ _ hlen
def uR (a:ByteArray):T :=
 T.new [.string a] 9 fun (b:Addr) =>
 T.ret (.func (Fn.func 62) #[] #[.pointer (some b)])
theorem xr (a:ByteArray):aX Tryz.prog [] Tryz.f32 [.string a]=uR a:=by kernel_rfl
end Go.Sx
set_option linter.unusedVariables false
set_option maxRecDepth 100000
namespace Go.Proofs
open Go.Shelf
open Go.Lib in
open Go.RowKit Go.Sort Go.Lib in
def Tryz.BF:Go.Shelf.Ren:=⟨fun | 145=>63 | 220=>94 | 219=>122 | 217=>145 | 225=>146 | 224=>147 | 267=>148 | 266=>174 | 314=>175 | n=>n,fun | 9=>9 | 4=>4 | 59=>126 | 3=>3 | 5=>5 | 46=>111 | 146=>283 | 51=>92 | n=>n,fun | 1=>2 | n=>n⟩
theorem Tryz.HT:Go.Proofs.Lays.n145 Tryz.prog Tryz.BF:={
 mixed:=by kernel_rfl
 f145:=Tryz.func63.trans (congrArg some (by kernel_rfl))
 f217:=Tryz.func145.trans (congrArg some (by kernel_rfl))
 f219:=Tryz.func122.trans (congrArg some (by kernel_rfl))
 f220:=Tryz.func94.trans (congrArg some (by kernel_rfl))
 f224:=Tryz.func147.trans (congrArg some (by kernel_rfl))
 f225:=Tryz.func146.trans (congrArg some (by kernel_rfl))
 f266:=Tryz.func174.trans (congrArg some (by kernel_rfl))
 f267:=Tryz.func148.trans (congrArg some (by kernel_rfl))
 f314:=Tryz.func175.trans (congrArg some (by kernel_rfl))
 t3:=Tryz.underlying3
 a3:=Tryz.isAgg3
 z3:=Tryz.sizeOf3
 v3:=Tryz.zeroValue3
 t4:=Tryz.underlying4
 a4:=Tryz.isAgg4
 z4:=Tryz.sizeOf4
 v4:=Tryz.zeroValue4
 t5:=Tryz.underlying5
 a5:=Tryz.isAgg5
 z5:=Tryz.sizeOf5
 v5:=Tryz.zeroValue5
 t9:=Tryz.underlying9
 a9:=Tryz.isAgg9
 z9:=Tryz.sizeOf9
 v9:=Tryz.zeroValue9
 t46:=Tryz.underlying111
 a46:=Tryz.isAgg111
 z46:=Tryz.sizeOf111
 v46:=Tryz.zeroValue111
 t51:=Tryz.underlying92
 a51:=Tryz.isAgg92
 z51:=Tryz.sizeOf92
 v51:=Tryz.zeroValue92
 t59:=Tryz.underlying126
 a59:=Tryz.isAgg126
 z59:=Tryz.sizeOf126
 v59:=Tryz.zeroValue126
 t146:=Tryz.underlying283
 a146:=Tryz.isAgg283
 z146:=Tryz.sizeOf283
 v146:=Tryz.zeroValue283
 g1:=by kernel_rfl }
open Go.RowKit Go.Lib in
theorem Tryz.strings_Cut (s sep:ByteArray) (m:Int) (w:World) (hs:s.size<4294967281) (hm:w.cell? ⟨2,0,none⟩=some (.int .i64 m)) :
  Calls Tryz.prog 63 #[.string s,.string sep] w fun e w'=>e=.returned (.tuple #[.string ⟨(Lib.cut s.data.toList sep.data.toList).1.toArray⟩,.string ⟨(Lib.cut s.data.toList sep.data.toList).2.1.toArray⟩,.bool (Lib.cut s.data.toList sep.data.toList).2.2])∧∃ n,w'=w.drewN n:=Any.strings_Cut Tryz.HT s sep m w hs hm
end Go.Proofs
set_option linter.unusedVariables false
set_option maxRecDepth 100000
namespace Go.Proofs
open Go.RowKit Go.Shelf
attribute [local go_sem] Oper.semAt_some
def yU (s:ByteArray):ByteArray:=⟨(Lib.cut s.data.toList [10]).1.toArray⟩
def nH (s:ByteArray):ByteArray:=⟨(Lib.cut s.data.toList [10]).2.1.toArray⟩
def aP:Nat→Nat→ByteArray→List (Nat × ByteArray)
 | 0,_,_=>[]
 | f+1,n,s=>if s.size=0 then [] else (n,yU s)::aP f (n+1) (nH s)
def DM (x:Nat × ByteArray):Array Value:=#[.int .i64 x.1,.string x.2]
theorem zW (l B n0:Nat) (s:ByteArray) (hs:s.size<2^31) (N:Nat) (J Jx:List (Nat × ByteArray)→World→Prop)
  (hcut:∀ t:ByteArray,t.size≠0→(nH t).size<t.size)
  (hY:∀ pre x W,J pre W→pre++[x] <+: aP (s.size+1) 1 s→pre.length<N→YieldAt Fence.wide 5 Tryz.prog l (DM x) W fun e W' =>
   (e=.returned (.bool true)∧J (pre++[x]) W'∧Below n0 W W')∨(e=.returned (.bool false)∧Jx (pre++[x]) W'))
  (hN:(aP (s.size+1) 1 s).length≤N)
  (hJ:∀ pre W k,J pre W→J pre (W.drewN k))
  (m:Int) (W:World) (hm:W.cell? ⟨2,0,none⟩=some (.int .i64 m)) (hn0:2<n0) (hB:W.cell? ⟨B,0,none⟩=some (.string s)) (h0:J [] W) :
  CallsIn Fence.wide 6 Tryz.prog 62 #[.func (.yield l) #[] #[],.pointer (some ⟨B,0,none⟩)] W fun e W'=>(∃ v,e=.returned v) ∧
   ((∃ ys,ys=aP (s.size+1) 1 s∧J ys W')∨(∃ pre,pre <+: aP (s.size+1) 1 s∧Jx pre W')):=by
 refine callsIn_of_wp Tryz.func62 rfl trivial ?_ rfl
 simp only [Tryz.ntmps62,List.size_toArray,List.length_cons,List.length_nil,Nat.reduceAdd,Nat.reduceSub,Array.replicate_succ,Array.replicate_zero,List.push_toArray,List.append_toArray,List.nil_append,List.cons_append]
 gi_wp2
 gi_loopw [3,4] (fun vl vn wr=>∃ (pre:List (Nat × ByteArray)) (k f:Nat) (t:ByteArray),vl=.string t∧vn=.int .i64 (k:Int)∧k+t.size≤s.size+1∧1≤k∧t.size<f∧aP (s.size+1) 1 s=pre++aP f k t∧J pre wr∧Below n0 W wr)
  (fun vl _ _=>match vl with | .string t=>t.size | _=>0)
 case atStart=>exact ⟨[],1,s.size+1,s,rfl,rfl,by omega,by omega,by omega,rfl,h0,Below.refl _ _⟩
 case round =>
  obtain ⟨pre,k,f,t,rfl,rfl,hk,hk1,hf,hl,hJs,hb⟩:=hrel
  by_cases h0:t.size=0
  ·have ht:t=⟨#[]⟩:=by
    obtain ⟨a⟩:=t
    have:a.size=0:=h0
    rw [Array.size_eq_zero_iff.1 this]
   subst ht
   gi_wp2
   go_end0
   refine ⟨⟨_,rfl⟩,.inl ⟨pre,?_,hJs⟩⟩
   rw [hl]
   have:aP f k (⟨#[]⟩:ByteArray)=[]:=by
    cases f with
    | zero=>rfl
    | succ f=>unfold aP; rw [if_pos h0]
   rw [this,List.append_nil]
  ·have hne:¬ t=⟨#[]⟩:=fun e=>h0 (by rw [e]; rfl)
   obtain ⟨f,rfl⟩:∃ g,f=g+1:=⟨f-1,by omega⟩
   have hlt:aP (f+1) k t=(k,yU t)::aP f (k+1) (nH t):=by
    conv=>lhs; unfold aP
    rw [if_neg h0]
   have ew:wr.cell? ⟨2,0,none⟩=some (.int .i64 m):=(hb.cell (p:=⟨2,0,none⟩) hn0).trans hm
   have hlen:pre.length<N:=by
    have:=congrArg List.length hl
    rw [hlt,List.length_append,List.length_cons] at this
    omega
   have hsz:=hcut t h0
   have hemp:t.toList.isEmpty=false:=by
    rw [ByteArray.toList_eq]
    cases hh:t.data.toList with
    | nil=>exfalso; apply h0; show t.data.size=0; rw [← Array.length_toList,hh]; rfl
    | cons a b=>rfl
   gi_wp2_with (refine ⟨trivial,?_⟩; gi_at_call 63; refine (callsIn_wide.2 (Tryz.strings_Cut t ⟨#[10]⟩ m _ (by omega) ew)).mono ?_; rintro e w' ⟨rfl,n1,rfl⟩; obtain ⟨fn,tmps,assign,body,hy,hR⟩:=hY pre (k,yU t) (wr.drewN n1) (hJ _ _ _ hJs) ⟨aP f (k+1) (nH t),by rw [hl,hlt]; simp⟩ hlen; dsimp only [DM,yU] at hy)
   refine hR.mono ?_
   rintro e W3 (⟨rfl,hJ3,hk3⟩ | ⟨rfl,hJx3⟩)
   ·gi_wp2
    go_roundw
    case rel =>
     refine ⟨pre++[(k,yU t)],k+1,f,nH t,rfl,?_,by omega,by omega,by omega,by rw [hl,hlt]; simp,hJ3,?_⟩
     ·simp
     ·exact (hb.trans (⟨rfl,rfl,rfl,Nat.le_refl _,fun _ _=>rfl⟩:Below n0 wr (wr.drewN n1))).trans hk3
    case measure=>exact hsz
   ·gi_wp2
    refine bodyPost_ret (results_none rfl _ _ _) rfl ?_
    exact ⟨⟨_,rfl⟩,.inr ⟨pre++[(k,yU t)],⟨aP f (k+1) (nH t),by rw [hl,hlt]; simp⟩,hJx3⟩⟩
theorem Bs (B n0:Nat) (s:ByteArray) (hs:s.size<2^31) (hcut:∀ t:ByteArray,t.size≠0→(nH t).size<t.size) (m:Int) (w:World) (hm:w.cell? ⟨2,0,none⟩=some (.int .i64 m)) (hn0:2<n0) (hn1:n0≤w.heap.size) (hB:w.cell? ⟨B,0,none⟩=some (.string s)) :
  SeqStopsK Fence.wide 6 Tryz.prog 62 #[.pointer (some ⟨B,0,none⟩)] DM (Below n0) (fun xs=>xs=aP (s.size+1) 1 s) (fun pre=>pre <+: aP (s.size+1) 1 s) (aP (s.size+1) 1 s).length w:=by
 intro l J Jx W hW hJ hJx hY h0
 have hlt:∀ (a:Addr) (v:Value),w.cell? a=some v→a.block<w.heap.size:=by
  intro a v h
  unfold World.cell? at h
  split at h
  ·rename_i hg; exact (Array.getElem?_eq_some_iff.1 hg).1
  ·cases h
 exact zW l B n0 s hs _ J Jx hcut (fun pre x W h _ h'=>hY pre x W h h') (Nat.le_refl _) (fun pre W k h=>hJ pre W _ none h ⟨rfl,rfl,rfl,Nat.le_refl _,fun _ _ _=>rfl⟩ (fun r e=>by cases e)) m W ((hW.cell (p:=⟨2,0,none⟩) (hlt _ _ hm)).trans hm) hn0 ((hW.cell (p:=⟨B,0,none⟩) (hlt _ _ hB)).trans hB) h0
theorem EU (B n0:Nat) (s:ByteArray) (hs:s.size<2^31) (hcut:∀ t:ByteArray,t.size≠0→(nH t).size<t.size) (m:Int) (w:World) (hm:w.cell? ⟨2,0,none⟩=some (.int .i64 m)) (hn0:2<n0) (hn1:n0≤w.heap.size) (hB:w.cell? ⟨B,0,none⟩=some (.string s)) :
  SeqStopsK Fence.wide 6 Tryz.prog 62 #[.pointer (some ⟨B,0,none⟩)] (fun x:{ x // x∈aP (s.size+1) 1 s }=>DM x.1) (Below n0) (fun xs=>xs.map (·.1)=aP (s.size+1) 1 s) (fun pre=>pre.map (·.1) <+: aP (s.size+1) 1 s) (aP (s.size+1) 1 s).length w:=by
 intro l J Jx W hW hJ hJx hY h0
 have hlt:∀ (a:Addr) (v:Value),w.cell? a=some v→a.block<w.heap.size:=by
  intro a v h
  unfold World.cell? at h
  split at h
  ·rename_i hg; exact (Array.getElem?_eq_some_iff.1 hg).1
  ·cases h
 refine (zW l B n0 s hs _ (fun pre W=>∃ q:List { x // x∈aP (s.size+1) 1 s },q.map (·.1)=pre∧J q W) (fun pre W=>∃ q:List { x // x∈aP (s.size+1) 1 s },q.map (·.1)=pre∧Jx q W) hcut ?_ (Nat.le_refl _) ?_ m W ((hW.cell (p:=⟨2,0,none⟩) (hlt _ _ hm)).trans hm) hn0 ((hW.cell (p:=⟨B,0,none⟩) (hlt _ _ hB)).trans hB) ⟨[],rfl,h0⟩).mono ?_
 ·rintro pre x W' ⟨q,rfl,hq⟩ ⟨t,ht⟩ hl
  have hx:x∈aP (s.size+1) 1 s:=by rw [← ht]; simp
  refine (hY q ⟨x,hx⟩ W' hq (by simpa using hl)).mono ?_
  rintro e W2 (⟨rfl,h1,h2⟩ | ⟨rfl,h1⟩)
  ·exact .inl ⟨rfl,⟨q++[⟨x,hx⟩],by simp,h1⟩,h2⟩
  ·exact .inr ⟨rfl,⟨q++[⟨x,hx⟩],by simp,h1⟩⟩
 ·rintro pre W' k ⟨q,rfl,hq⟩
  exact ⟨q,rfl,hJ q W' _ none hq ⟨rfl,rfl,rfl,Nat.le_refl _,fun _ _ _=>rfl⟩ (fun r e=>by cases e)⟩
 ·rintro e W' ⟨hv,h⟩
  refine ⟨hv,?_⟩
  rcases h with ⟨ys,rfl,q,hq,hJq⟩ | ⟨pre,hp,q,rfl,hJq⟩
  ·exact .inl ⟨q,hq,hJq⟩
  ·exact .inr ⟨q,hp,hJq⟩
end Go.Proofs
set_option linter.unusedVariables false
set_option maxRecDepth 100000
namespace Go.Sx
open Go.Proofs
def dB:List UInt8→List UInt8→List (List UInt8)
 | bW,[]=>if bW=[] then [] else [bW]
 | bW,b::l=>if b=10 then bW::dB [] l else dB (bW++[b]) l
theorem BZ (bW:List UInt8):dB bW []=if bW=[] then [] else [bW]:=rfl
theorem np (bW:List UInt8) (b:UInt8) (l:List UInt8):dB bW (b::l)=if b=10 then bW::dB [] l else dB (bW++[b]) l:=rfl
theorem wU:∀ (l bW:List UInt8),dB bW l=if Lib.index l [10]=-1 then (if bW++l=[] then [] else [bW++l]) else (bW++l.take (Lib.index l [10]).toNat)::dB [] (l.drop ((Lib.index l [10]).toNat+1))
 | [],bW=>by simp [dB,Lib.index]
 | b::l,bW=>by
  have ih:=wU l (bW++[b])
  have e1:dB bW (b::l)=if b=10 then bW::dB [] l else dB (bW++[b]) l:=rfl
  have e2:Lib.index (b::l) [10]=if List.isPrefixOf [10] (b::l) then 0 else if Lib.index l [10]==-1 then -1 else Lib.index l [10]+1:=rfl
  rw [e1,e2]
  by_cases hb:b=10
  ·subst hb
   simp
  ·have hp:List.isPrefixOf [10] (b::l)=false:=by
    simp [List.isPrefixOf]; exact fun h=>hb h.symm
   rw [if_neg hb,ih,hp]
   by_cases hi:Lib.index l [10]=-1
   ·simp [hi]
   ·have hg:=Lib.index_ge l [10]
    have h1:(Lib.index l [10]==-1)=false:=by simpa using hi
    have h2:¬ Lib.index l [10]+1=-1:=by omega
    have h3:(Lib.index l [10]+1).toNat=(Lib.index l [10]).toNat+1:=by omega
    simp only [hi,h1,if_false,Bool.false_eq_true,h2,h3,List.take_succ_cons,List.drop_succ_cons,List.append_assoc,List.singleton_append]
theorem yY (t:ByteArray) (ht:t.size≠0):(nH t).size<t.size:=by
 have hsz:t.data.toList.length=t.size:=by simp
 have:(nH t).size=(Lib.cut t.data.toList [10]).2.1.length:=by simp [nH,ByteArray.size]
 rw [this]
 unfold Lib.cut
 split
 ·rw [List.length_drop]; simp; omega
 ·simp; omega
theorem rj:∀ (f n:Nat) (s:ByteArray),s.size<f→(aP f n s).map (fun x=>x.2.data.toList)=dB [] s.data.toList
 | 0,_,_,h=>by omega
 | f+1,n,s,h=>by
  unfold aP
  by_cases h0:s.size=0
  ·have:s.data.toList=[]:=List.eq_nil_of_length_eq_zero (by simpa using h0)
   rw [if_pos h0,this]
   rfl
  ·have hne:s.data.toList≠[]:=fun e=>h0 (by have:=congrArg List.length e; simpa using this)
   have ih:=rj f (n+1) (nH s) (by have:=yY s h0; omega)
   rw [if_neg h0,List.map_cons,ih,wU s.data.toList []]
   have hg:=Lib.index_ge s.data.toList [10]
   by_cases hi:Lib.index s.data.toList [10]=-1
   ·have:¬ 0≤Lib.index s.data.toList [10]:=by omega
    simp [hi,yU,nH,Lib.cut,dB,hne]
   ·have:0≤Lib.index s.data.toList [10]:=by omega
    simp [hi,yU,nH,Lib.cut,this]
theorem wR:∀ (f n:Nat) (s:ByteArray) (k:Nat) (x:Nat × ByteArray),(aP f n s)[k]?=some x→x.1=n+k
 | 0,_,_,_,_,h=>by simp [aP] at h
 | f+1,n,s,k,x,h=>by
  unfold aP at h
  split at h
  ·simp at h
  ·cases k with
   | zero=>simp at h; rw [← h]; rfl
   | succ k =>
    simp at h
    rw [wR f (n+1) (nH s) k x h]
    omega
def Ic (s:ByteArray):List ByteArray:=(aP (s.size+1) 1 s).map (·.2)
theorem Ec (s:ByteArray):(Ic s).map (·.data.toList)=dB [] s.data.toList:=by
 unfold Ic
 rw [List.map_map]
 exact rj _ _ _ (by omega)
theorem JI {s:ByteArray} {l:List ByteArray} (h:l.map (·.data.toList)=dB [] s.data.toList):l=Ic s:=by
 have h2:=h.trans (Ec s).symm
 have:∀ (a b:List ByteArray),a.map (·.data.toList)=b.map (·.data.toList)→a=b:=by
  intro a
  induction a with
  | nil=>intro b hb; cases b with
   | nil=>rfl
   | cons y b=>simp at hb
  | cons x a ih=>intro b hb; cases b with
   | nil=>simp at hb
   | cons y b =>
    simp only [List.map_cons,List.cons.injEq] at hb
    rw [ih b hb.2,j8 hb.1]
 exact this _ _ h2
theorem CD (s:ByteArray) (h:Hp):HC Tryz.prog 32 #[.string s] h fun v h'=>v=.func (.func 62) #[] #[.pointer (some ⟨h.size,0,none⟩)]∧aO h' h.size 9 [.string s]∧Ext h h'∧h'.size=h.size+1:=by
 refine aL (args:=[.string s]) mixed Tryz.func32 (by kernel_rfl) (xr s) ?_
 unfold uR
 refine aW ?_
 intro h1 b1 e1 z1
 exact ⟨rfl,b1,e1,z1⟩
open Go.Proofs Go.MapKept Go.WideAt Go.WideMaps Go.Maps Go.RowKit Go.WideElems Go.WideElems
def CP:Value→Option (DataW Unit × List MemPlace):=fun _=>some (.nil,[])
theorem Ei:Tryz.prog.underlying 9=some .string:=by kernel_rfl
theorem Jm:Tryz.prog.underlying 286=some (.map 9 92):=by kernel_rfl
def keysOf (D:List (ByteArray × Value)):List (List UInt8):=(D.map fun p=>p.1.data.toList).mergeSort fun x y=>decide (x≤y)
theorem Ge {x:MapEntry} {s:ByteArray} (hk:x.key=.string s) (hs:s.size≤maxLen):WideElems.rd Tryz.prog 9 CP x=some (.string s.data.toList,.nil):=by
 unfold WideElems.rd
 rw [hk,keyOf_string_mk Ei hs]
 rfl
theorem eP.owns {W:World} {g:Nat} {D:List (ByteArray × Value)} (m:eP W.heap g D) (hl:D.length≤maxLen) :
  ∃ D0:DataW Unit,W.ownsMap Tryz.prog 9 CP g D.length D0∧(strKeys D0).Perm (D.map fun p=>p.1.data.toList)∧Maps.size D0=D.length:=by
 obtain ⟨es,clock,hg,he,hs,hd⟩:=m
 have hlen:es.size=D.length:=by
  have:=congrArg List.length he
  simpa using this
 have hrd:es.toList.map (WideElems.rg Tryz.prog 9 CP)=D.map fun p=>(Lit.string p.1.data.toList,DataW.nil):=by
  apply List.ext_getElem?
  intro i
  have h1:(es.toList.map (fun e=>(e.key,e.val)))[i]?=(D.map (fun p=>(Value.string p.1,p.2)))[i]?:=by rw [he]
  simp only [List.getElem?_map] at h1 ⊢
  rcases Nat.lt_or_ge i D.length with hi | hi
  ·rw [List.getElem?_eq_getElem hi,List.getElem?_eq_getElem (show i<es.toList.length by simp; omega)] at h1 ⊢
   simp only [Option.map_some,Option.some.injEq,Prod.mk.injEq] at h1 ⊢
   exact WideElems.rg_of (Ge h1.1 (hd _ (List.getElem_mem hi)))
  ·rw [List.getElem?_eq_none hi,List.getElem?_eq_none (show es.toList.length≤i by simp; omega)]
   rfl
 refine ⟨_,⟨es,clock,hg,⟨by omega,hs,?_⟩,by omega,rfl⟩,?_,?_⟩
 ·intro x hx
  obtain ⟨i,hi,rfl⟩:=List.getElem_of_mem hx
  have hi':i<D.length:=by simp at hi; omega
  have h1:(es.toList.map (fun e=>(e.key,e.val)))[i]?=(D.map (fun p=>(Value.string p.1,p.2)))[i]?:=by rw [he]
  simp only [List.getElem?_map,List.getElem?_eq_getElem hi',List.getElem?_eq_getElem hi,Option.map_some,Option.some.injEq,Prod.mk.injEq] at h1
  exact ⟨_,Ge h1.1 (hd _ (List.getElem_mem hi'))⟩
 ·show List.Perm (((es.toList.map (WideElems.rg Tryz.prog 9 CP)).foldr DataW.insert []).map fun p=>strOf p.1) _
  rw [hrd]
  refine ((WideShapes.sorted_perm _).map _).trans ?_
  rw [List.map_map]
  exact List.Perm.refl _
 ·show ((es.toList.map (WideElems.rg Tryz.prog 9 CP)).foldr DataW.insert []).length=D.length
  rw [hrd,length_sorted,List.length_map]
theorem World.Bk {W:World} {h:Hp} {o:Obj} (hW:W.heap=h.push o):({ W with heap:=h }:World).alloc o=W:=by
 cases W
 simp only at hW
 subst hW
 rfl
theorem bR.alloc (w:World) (o:Obj):bR w (w.alloc o):=⟨rfl,rfl,rfl⟩
theorem HR (r:Option Nat) (h:Hp):HC Tryz.prog 193 #[.map r] h fun v h'=>v=.func (.func 202) #[] #[.pointer (some ⟨h.size,0,none⟩)]∧h'=h.push (.cells #[.map r] 286):=by
 intro W hW
 subst hW
 exact (callsIn_wide.1 (Tryz.xt r W)).mono fun e w' ⟨he,hw⟩=>⟨_,he,by rw [hw]; exact bR.alloc _ _,rfl,by rw [hw]; rfl⟩
theorem SL.Fc {W:World} {b:Nat} {e:TypeId} {v:Value} {xs:List Value} (r:W.ownsRow b e 1 v xs.length xs):∃ p l c,v=.slice p l c∧SL W.heap b e 1 p l c (xs.map fun x=>[x]):=by
 have hfl:∀ ys:List Value,(ys.map fun x=>[x]).flatten=ys:=by
  intro ys
  induction ys with
  | nil=>rfl
  | cons y ys ih=>simp [ih]
 obtain ⟨h1,h2⟩:=r
 rcases h2 with ⟨hv,hn⟩ | ⟨g,cap,bW,hv,hb,hg,hle,hc,hs,ht⟩
 ·have:xs=[]:=List.eq_nil_of_length_eq_zero hn
  subst this
  exact ⟨none,0,0,hv,SL.nil _ _ _ _⟩
 ·refine ⟨some ⟨g,0,none⟩,xs.length,cap,hv,by simp,by simp,g,[],bW.toList.drop xs.length,rfl,hb,⟨hle,by unfold maxLen at hc; omega⟩,?_,?_⟩
  ·rw [hfl,List.nil_append]
   have:xs=bW.toList.take xs.length:=by rw [← ht]; simp
   unfold aO
   rw [hg]
   congr 2
   conv=>lhs; rw [← Array.toArray_toList (xs:=bW),← List.take_append_drop xs.length bW.toList]
   rw [← this]
  ·rw [List.length_drop,Array.length_toList,hs]; omega
theorem yJ {h:Hp} {g:Nat} {D:List (ByteArray × Value)} (m:eP h g D) (hl:D.length≤2^40) :
  HC Tryz.prog 34 #[.func (.func 202) #[] #[.pointer (some ⟨h.size,0,none⟩)]] (h.push (.cells #[.map (some g)] 286)) fun v h'=>∃ p l c,v=.slice p l c∧SL h' (h.size+1) 9 1 p l c ((keysOf D).map fun k=>[encStr k]) ∧
   Ext (h.push (.cells #[.map (some g)] 286)) h':=by
 intro W hW
 obtain ⟨D0,hown,hperm,hsize⟩:=eP.owns (W:={ W with heap:=h }) m (by unfold maxLen; omega)
 have hc:=callsIn_wide.1 (Tryz.jt g D.length D0 CP { W with heap:=h } hown (by rw [hsize]; unfold maxLen; omega) (by rw [hsize]; omega))
 rw [World.Bk hW] at hc
 refine hc.mono fun e w' hr=>?_
 obtain ⟨v,ss,he,hp,hrow,_,hb⟩:=hr
 have hss:ss.mergeSort (fun x y=>decide (x≤y))=keysOf D:=mergeSort_of_perm (hp.trans hperm)
 have hlen:ss.length=((ss.mergeSort (fun x y=>decide (x≤y))).map encStr).length:=by rw [List.length_map,List.length_mergeSort]
 rw [hlen,hss] at hrow
 obtain ⟨p,l,c,hv,hsl⟩:=SL.Fc hrow
 refine ⟨v,he,⟨hb.os,hb.tape,hb.output⟩,p,l,c,hv,?_,?_⟩
 ·rw [List.map_map] at hsl
  have:W.heap.size=h.size+1:=by rw [hW]; simp
  rw [this] at hsl
  exact hsl
 ·rw [← hW]
  exact ⟨hb.size,fun i hi _=>hb.block i hi⟩
end Go.Sx
