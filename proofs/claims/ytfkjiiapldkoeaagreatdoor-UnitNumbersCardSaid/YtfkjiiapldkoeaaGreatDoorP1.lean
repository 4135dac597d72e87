/- Contracts over heaps, and plain laws, for the functions that the laws of chapter 9 call, part 1:  Condition: as each statement says. -/
import Derived.Test.YtfkjiiapldkoeaaGreatDoorALexT
import Derived.Test.YtfkjiiapldkoeaaGreatDoorALexU
import Derived.Test.YtfkjiiapldkoeaaGreatDoorALexV
import Derived.Test.YtfkjiiapldkoeaaGreatDoorSxE
import Derived.Test.YtfkjiiapldkoeaaGreatDoorALineT
set_option linter.unusedVariables false
set_option linter.unusedSimpArgs false
set_option linter.deprecated false
set_option maxRecDepth 100000
namespace Go.Sx
open Go.Proofs
theorem mixed:Tryz.prog.follows .mixedOrders=true:=by kernel_rfl
theorem nm106 : (Tryz.f174.name == "runtime.NumGoroutine") = false := by kernel_rfl
theorem nb106:Tryz.f174.body.isNone=true:=by kernel_rfl
theorem en106:Extern.findNext Tryz.f174=none:=by kernel_rfl
theorem ef106:Extern.find Tryz.f174=some Extern.BytealgIndexByte.indexByte:=by kernel_rfl
set_option maxHeartbeats 4000000 in
theorem indexByte0_hc (s:ByteArray) (c:Int) (h:Hp):HCp Tryz.prog 145 [.string s,.int .u8 c] h (.int .i64 (Lib.indexByte s.data.toList c.toNat.toUInt8)):=by
 refine hcp_of mixed Tryz.func145 (by kernel_rfl) (t_internal_stringslite_IndexByte_eq s c) ?_
 refine semW_ext Tryz.func174 nm106 nb106 en106 ef106 ?_
 rw [semW_indexByte]
 exact ⟨(_,()),rfl,rfl,rfl⟩
theorem indexByte_hc (s:ByteArray) (c:Int) (h:Hp):HCp Tryz.prog 118 [.string s,.int .u8 c] h (.int .i64 (Lib.indexByte s.data.toList c.toNat.toUInt8)):=by
 refine hcp_of mixed Tryz.func118 (by kernel_rfl) (t_strings_IndexByte_eq s c) ?_
 exact call_int (indexByte0_hc s c h) ⟨rfl,rfl⟩
def rowN (s set:List UInt8):Nat:=(s.takeWhile fun c=>set.contains c).length
theorem rowN_le (s set:List UInt8):rowN s set≤s.length:=by
 unfold rowN
 exact (List.takeWhile_prefix _).length_le
theorem takeWhile_step {p:UInt8→Bool}:∀ (l:List UInt8) (k:Nat),k≤(l.takeWhile p).length→k<l.length→(k<(l.takeWhile p).length↔p (l.getD k 0)=true)
 | [],k,_,h=>by simp at h
 | c::l,0,_,_=>by
  simp only [List.takeWhile_cons,List.getD_cons_zero]
  cases hp:p c <;> simp
 | c::l,k+1,h,hl=>by
  simp only [List.takeWhile_cons] at h ⊢
  cases hp:p c with
  | false=>rw [hp] at h; simp at h
  | true =>
   rw [hp] at h
   simp at h hl
   have:=takeWhile_step l k (by simpa using h) hl
   simpa using this
theorem rowN_step (s set:List UInt8) (k:Nat) (hk:k≤rowN s set) (hl:k<s.length):(k<rowN s set↔set.contains (s.getD k 0)=true):=takeWhile_step s k hk hl
theorem sbyte_u8 (s:ByteArray) (n:Int):(sbyte s n).toNat.toUInt8=s.data.toList.getD n.toNat 0:=by
 unfold sbyte; simp
theorem row_hc (s set:ByteArray) (h:Hp) (hs:s.size≤9223372036854775807):HCp Tryz.prog 82 [.string s,.string set] h (.int .i64 (rowN s.data.toList set.data.toList)):=by
 refine hcp_of mixed Tryz.func82 (by kernel_rfl) (t_lex_row_eq s set) ?_
 have hsz:s.data.toList.length=s.size:=by simp
 have hle:=rowN_le s.data.toList set.data.toList
 refine loop_of (cs:=[(false,[.int .i64])]) (fun x n h'=>h'=h∧∃ k:Nat,x.1=(k:Int)∧k≤rowN s.data.toList set.data.toList∧n=s.size-k) ((0:Int),()) s.size rfl ⟨rfl,0,rfl,by omega,by omega⟩ ?_
 rintro ⟨n,⟨⟩⟩ m h' ⟨rfl,k,hk,hle',rfl⟩
 simp only at hk
 subst hk
 refine cond_mk (fun hb=>?_) (fun hb=>?_)
 ·have hlt:(k:Int)<s.size:=of_decide_eq_true hb
  have hst:=rowN_step s.data.toList set.data.toList k hle' (by omega)
  refine need_of ⟨by omega,hlt⟩ ?_
  refine call_int (indexByte_hc _ _ _) ?_
  rw [sbyte_u8]
  have hc:=Lib.contains_iff_indexByte set.data.toList (s.data.toList.getD k 0)
  refine cond_mk (fun hb2=>?_) (fun hb2=>?_)
  ·have h2:=of_decide_eq_true hb2
   rw [wrap_i64 (by omega) (by omega)]
   have hin:set.data.toList.contains (s.data.toList.getD k 0)=true:=by rw [hc]; exact decide_eq_true h2
   exact again_mk (cs:=[(false,[.int .i64])]) ((k:Int)+1,()) (s.size-(k+1)) rfl (by omega) rfl ⟨rfl,k+1,(show ((k:Int)+1)=((k+1:Nat):Int) from by omega),hst.2 hin,rfl⟩
  ·have h2:=of_decide_eq_false hb2
   have hin:¬ set.data.toList.contains (s.data.toList.getD k 0)=true:=by rw [hc]; exact fun hh=>h2 (of_decide_eq_true hh)
   have:k=rowN s.data.toList set.data.toList:=by
    have:¬ k<rowN s.data.toList set.data.toList:=fun hh=>hin (hst.1 hh)
    omega
   exact ⟨by rw [← this],rfl⟩
 ·have hge:¬ (k:Int)<s.size:=of_decide_eq_false hb
  have:k=rowN s.data.toList set.data.toList:=by omega
  exact ⟨by rw [← this],rfl⟩
/-! Bytes: letters and digits. -/
def isLet (c:UInt8):Bool:=(97≤c.toNat && c.toNat≤122) || (65≤c.toNat && c.toNat≤90) || c.toNat==95
def isDig (c:UInt8):Bool:=48≤c.toNat && c.toNat≤57
def lettersL:List UInt8:=[97,98,99,100,101,102,103,104,105,106,107,108,109,110,111,112,113,114,115,116,117,118,119,120,121,122,65,66,67,68,69,70,71,72,73,74,75,76,77,78,79,80,81,82,83,84,85,86,87,88,89,90,95]
def digitsL:List UInt8:=[48,49,50,51,52,53,54,55,56,57]
theorem all_bytes (p q:UInt8→Bool) (h:(List.range 256).all (fun n=>p (UInt8.ofNat n)==q (UInt8.ofNat n))=true) (c:UInt8):p c=q c:=by
 have:=List.all_eq_true.1 h c.toNat (List.mem_range.2 (by have:=c.toNat_lt; omega))
 simpa using this
theorem letters_is (c:UInt8):lettersL.contains c=isLet c:=all_bytes (fun c=>lettersL.contains c) isLet (by decide +kernel) c
theorem digits_is (c:UInt8):digitsL.contains c=isDig c:=all_bytes (fun c=>digitsL.contains c) isDig (by decide +kernel) c
theorem glued_is (c:UInt8):(lettersL++digitsL).contains c=(isLet c || isDig c):=all_bytes (fun c=>(lettersL++digitsL).contains c) (fun c=>isLet c || isDig c) (by decide +kernel) c
def cN (c:UInt8):Int:=(c.toNat:Nat)
theorem isDig_iff (c:UInt8):isDig c=true↔48≤cN c∧cN c≤57:=by
 unfold isDig cN
 simp only [Bool.and_eq_true,decide_eq_true_eq]
 omega
def regL (s:List UInt8):Int × Bool × Bool :=
 match s with
 | [a,b]=>if cN a=114∧48≤cN b∧cN b≤55 then (cN b-48,false,true) else if cN a=122∧48≤cN b∧cN b≤51 then (cN b-48,true,true) else (0,false,false)
 | _=>(0,false,false)
theorem regL_len {s:List UInt8} (h:s.length≠2):regL s=(0,false,false):=by
 unfold regL
 split
 ·simp at h
 ·rfl
theorem sbyte_cN (s:ByteArray) (n:Int):sbyte s n=cN (s.data.toList.getD n.toNat 0):=rfl
theorem two_bytes {s:ByteArray} (h1:(s.size:Int)=2):∃ a b,s.data.toList=[a,b]:=by
 have hsz:s.data.toList.length=s.size:=by simp
 match hl:s.data.toList with
 | [a,b]=>exact ⟨a,b,rfl⟩
 | []=>rw [hl] at hsz; simp at hsz; omega
 | [a]=>rw [hl] at hsz; simp at hsz; omega
 | a::b::c::l=>rw [hl] at hsz; simp at hsz; omega
theorem register_hc (s:ByteArray) (h:Hp):HCp Tryz.prog 81 [.string s] h (.tuple #[.int .i64 (regL s.data.toList).1,.bool (regL s.data.toList).2.1,.bool (regL s.data.toList).2.2]):=by
 refine hcp_of mixed Tryz.func81 (by kernel_rfl) (t_lex_Register_eq s) ?_
 have hsz:s.data.toList.length=s.size:=by simp
 unfold t_lex_Register
 refine cond_mk (fun h1=>?_) (fun h1=>?_)
 ·have h1:(s.size:Int)≠2:=by simpa using h1
  rw [regL_len (by omega)]
  exact ⟨rfl,rfl⟩
 ·have h1:(s.size:Int)=2:=by simpa using h1
  obtain ⟨a,b,hab⟩:=two_bytes h1
  have e0:sbyte s 0=cN a:=by rw [sbyte_cN,hab]; rfl
  have e1:sbyte s 1=cN b:=by rw [sbyte_cN,hab]; rfl
  have hb:=b.toNat_lt
  have w1:IntKind.wrap .i64 (IntKind.wrap .i64 (sbyte s 1)-48)=cN b-48:=by
   rw [e1,wrap_i64 (x:=cN b) (by unfold cN; omega) (by unfold cN; omega),wrap_i64 (by unfold cN; omega) (by unfold cN; omega)]
  rw [w1,e0,hab]
  unfold regL
  repeat' (first | refine need_of ⟨by omega,by omega⟩ ?_ | (refine cond_mk (fun h1=>?_) (fun h1=>?_) <;> first | replace h1:=of_decide_eq_true h1 | replace h1:=of_decide_eq_false h1 | replace h1:=eq_of_beq h1 | replace h1:=ne_of_beq_false h1))
  all_goals
   refine ⟨?_,rfl⟩
   simp only
   first
    | (exfalso; omega)
    | rw [if_pos (by omega)]
    | rw [if_neg (by omega),if_pos (by omega)]
    | rw [if_neg (by omega),if_neg (by omega)]
def legalL (s:List UInt8):Bool:=decide (0<s.length) && decide (s.length≤32) && isLet (s.getD 0 0) && s.all (fun c=>isLet c || isDig c) && !(regL s).2.2
theorem rowN_pos {s set:List UInt8} (h:0<s.length):0<rowN s set↔set.contains (s.getD 0 0)=true:=rowN_step s set 0 (Nat.zero_le _) h
theorem rowN_all {s set:List UInt8}:rowN s set=s.length↔s.all (fun c=>set.contains c)=true:=by
 unfold rowN
 induction s with
 | nil=>simp
 | cons c s ih =>
  rw [List.takeWhile_cons,List.all_cons]
  cases hc:set.contains c with
  | true=>simp only [if_true,List.length_cons,Bool.true_and]; rw [← ih]; omega
  | false=>simp
theorem lset:(⟨#[97,98,99,100,101,102,103,104,105,106,107,108,109,110,111,112,113,114,115,116,117,118,119,120,121,122,65,66,67,68,69,70,71,72,73,74,75,76,77,78,79,80,81,82,83,84,85,86,87,88,89,90,95]⟩:ByteArray).data.toList=lettersL:=rfl
theorem gset:(⟨#[97,98,99,100,101,102,103,104,105,106,107,108,109,110,111,112,113,114,115,116,117,118,119,120,121,122,65,66,67,68,69,70,71,72,73,74,75,76,77,78,79,80,81,82,83,84,85,86,87,88,89,90,95,48,49,50,51,52,53,54,55,56,57]⟩:ByteArray).data.toList=lettersL++digitsL:=rfl
theorem toList_nil {s:ByteArray}:(s.toList==[])=decide (s.size=0):=by
 have:s.toList=s.data.toList:=ByteArray.toList_eq s
 rw [this]
 have hsz:s.data.toList.length=s.size:=by simp
 cases hl:s.data.toList with
 | nil=>rw [hl] at hsz; simp at hsz; simp [← hsz]
 | cons a l=>rw [hl] at hsz; simp at hsz; simp [← hsz]
theorem legal_hc (s:ByteArray) (h:Hp) (hs:s.size≤9223372036854775807):HCp Tryz.prog 45 [.string s] h (.bool (legalL s.data.toList)):=by
 refine hcp_of mixed Tryz.func45 (by kernel_rfl) (t_lex_Legal_eq s) ?_
 have hsz:s.data.toList.length=s.size:=by simp
 unfold t_lex_Legal
 refine call_ibb (register_hc s h) ?_
 unfold legalL
 rw [hsz]
 refine cond_mk (fun h1=>?_) (fun h1=>?_)
 ·have h1:s.size≠0:=by rw [toList_nil] at h1; simpa using h1
  refine cond_mk (fun h2=>?_) (fun h2=>?_)
  ·have h2:=of_decide_eq_true h2
   refine call_int (row_hc s _ h hs) ?_
   rw [lset]
   have hp:=rowN_pos (set:=lettersL) (by omega:0<s.data.toList.length)
   rw [letters_is] at hp
   refine cond_mk (fun h3=>?_) (fun h3=>?_)
   ·have h3:=of_decide_eq_true h3
    refine call_int (row_hc s _ h hs) ?_
    rw [gset]
    have ha:=rowN_all (s:=s.data.toList) (set:=lettersL++digitsL)
    have hg:(fun c=>(lettersL++digitsL).contains c)=(fun c=>isLet c || isDig c):=funext glued_is
    rw [hg] at ha
    rw [show decide (0<s.size)=true from decide_eq_true (by omega),show decide (s.size≤32)=true from decide_eq_true (by omega),hp.1 (by omega)]
    refine cond_mk (fun h4=>?_) (fun h4=>?_)
    ·have h4:=eq_of_beq h4
     rw [ha.1 (by omega)]
     exact ⟨rfl,rfl⟩
    ·have h4:=ne_of_beq_false h4
     have:s.data.toList.all (fun c=>isLet c || isDig c)=false:=by
      cases hx:s.data.toList.all (fun c=>isLet c || isDig c) with
      | false=>rfl
      | true=>exact (h4 (by rw [ha.2 hx]; omega)).elim
     rw [this]
     exact ⟨rfl,rfl⟩
   ·have h3:=of_decide_eq_false h3
    have:isLet (s.data.toList.getD 0 0)=false:=by
     cases hx:isLet (s.data.toList.getD 0 0) with
     | false=>rfl
     | true=>have:=hp.2 hx; omega
    rw [this]
    exact ⟨by simp,rfl⟩
  ·have h2:=of_decide_eq_false h2
   rw [show decide (s.size≤32)=false from decide_eq_false (by omega)]
   exact ⟨by simp,rfl⟩
 ·have h1:s.size=0:=by rw [toList_nil] at h1; simpa using h1
  rw [show decide (0<s.size)=false from decide_eq_false (by omega)]
  exact ⟨by simp,rfl⟩
theorem clone_hc (s:ByteArray) (h:Hp) (hs:s.size≤2^48):HC Tryz.prog 200 #[.string s] h fun v h'=>v=.string s∧Ext h h':=by
 refine hcr_of (args:=[.string s]) mixed Tryz.func200 (by kernel_rfl) (t_internal_stringslite_Clone_eq s) ?_
 unfold t_internal_stringslite_Clone
 have hsz:s.data.toList.length=s.size:=by simp
 refine cond_mk (fun h1=>?_) (fun h1=>?_)
 ·have h1:=eq_of_beq h1
  have:s=⟨#[]⟩:=by
   apply ByteArray.ext
   exact Array.eq_empty_of_size_eq_zero (by have:s.data.size=s.size:=rfl; omega)
  rw [this]
  exact ⟨rfl,Ch.refl _ _⟩
 ·have h1:=ne_of_beq_false h1
  obtain ⟨i5,hi5,hz5,hs5,hb5⟩:_:=inf_of (P:=Tryz.prog) (t:=5) (z:=.int .u8 0) (s:=1) (b:=1) (by kernel_rfl)
  refine sem_slice ?_
  refine makeSlice_of (e:=5) (by kernel_rfl) hi5 hz5 (Nat.le_refl _) (by rw [hb5]; omega) (by omega) ?_
  intro h1' b1 e1 z1
  refine ⟨_,_,_,rfl,?_⟩
  show T.sem Tryz.prog (Builtin.copy_ #[42,9] 3 #[.slice (some ⟨h.size,0,none⟩) s.size s.size,.string s]) false [(false,[.int .i64])] _ [] _ h1'
  refine copyStr_of (e:=5) (by kernel_rfl) hi5 b1 rfl (by simp [hs5]) ?_
  intro h2 b2 c2 z2
  refine ⟨(_,()),rfl,?_⟩
  refine need_of ⟨by omega,by omega⟩ (osome_mk rfl ?_)
  have hl:setL ((List.range (s.size*i5.size)).map ((Value.int IntKind.u8 0).cells[· % (Value.int IntKind.u8 0).cells.size]!)) 0 (s.data.toList.map byteV)=s.data.toList.map byteV:=by
   rw [setL_eq _ _ _ (by simp [hs5])]
   rw [List.take_zero,List.nil_append,List.drop_of_length_le (by simp [hs5]),List.append_nil]
  rw [hl] at b2
  have hne:s.data.toList≠[]:=by
   intro hn; rw [hn] at hsz; simp at hsz; omega
  have h63:s.size≤9223372036854775807:=by omega
  rw [← hsz]
  refine unsafeString_of (e:=5) (by kernel_rfl) (by kernel_rfl) b2 s.data.toList hne (by simp) (by omega) (fun i hi=>?_) ?_
  ·rw [b2.cell,List.getElem?_map,List.getElem?_eq_getElem hi]; rfl
  ·intro h3 f' hg3 c3 z3
   refine ⟨(_,()),rfl,?_⟩
   refine ⟨?_,?_⟩
   ·congr 1
   ·have hv:∀ i,i∈[h.size]→i<h.size→i∈([]:List Nat):=by
     intro i hi hlt; simp at hi; omega
    exact Ch.trans (Ch.trans e1 c2 hv) c3 hv
structure Laid (h:Hp):Prop where
 syn:∃ v,hcell h ⟨4,0,none⟩=some v∧isAggV v=false
 rng:∃ v,hcell h ⟨5,0,none⟩=some v∧isAggV v=false
theorem Laid.ext {h h':Hp} (l:Laid h) (e:Ext h h'):Laid h':=by
 obtain ⟨v,h1,h2⟩:=l.syn
 obtain ⟨u,h3,h4⟩:=l.rng
 exact ⟨⟨v,hcell_keep h1 e (by simp),h2⟩,⟨u,hcell_keep h3 e (by simp),h4⟩⟩
theorem syntaxError_hc (fn s:ByteArray) (h:Hp) (hs:s.size≤2^48) (hl:Laid h):HC Tryz.prog 189 #[.string fn,.string s] h fun v h'=>(∃ a,v=.pointer (some a))∧Ext h h':=by
 refine hcr_of (args:=[.string fn,.string s]) mixed Tryz.func189 (by kernel_rfl) (t_strconv_syntaxError_eq fn s) ?_
 unfold t_strconv_syntaxError
 obtain ⟨v,hv,hva⟩:=hl.syn
 refine loads_of (v,()) ⟨hv,trivial⟩ ?_
 refine call_of (clone_hc s h hs) ?_
 rintro _ h1 ⟨rfl,e1⟩
 refine ⟨(s,()),rfl,?_⟩
 refine ⟨⟨⟨hcell_keep hv e1 (by simp),trivial⟩,trivial⟩,?_⟩
 refine cond_f hva ?_
 refine newB ?_
 intro h2 b2 e2 z2
 exact ⟨⟨⟨hcell_keep (hcell_keep hv e1 (by simp)) e2 (by simp),trivial⟩,trivial⟩,⟨_,rfl⟩,e1.trans e2⟩
theorem rangeError_hc (fn s:ByteArray) (h:Hp) (hs:s.size≤2^48) (hl:Laid h):HC Tryz.prog 190 #[.string fn,.string s] h fun v h'=>(∃ a,v=.pointer (some a))∧Ext h h':=by
 refine hcr_of (args:=[.string fn,.string s]) mixed Tryz.func190 (by kernel_rfl) (t_strconv_rangeError_eq fn s) ?_
 unfold t_strconv_rangeError
 obtain ⟨v,hv,hva⟩:=hl.rng
 refine loads_of (v,()) ⟨hv,trivial⟩ ?_
 refine call_of (clone_hc s h hs) ?_
 rintro _ h1 ⟨rfl,e1⟩
 refine ⟨(s,()),rfl,?_⟩
 refine ⟨⟨⟨hcell_keep hv e1 (by simp),trivial⟩,trivial⟩,?_⟩
 refine cond_f hva ?_
 refine newB ?_
 intro h2 b2 e2 z2
 exact ⟨⟨⟨hcell_keep (hcell_keep hv e1 (by simp)) e2 (by simp),trivial⟩,trivial⟩,⟨_,rfl⟩,e1.trans e2⟩
theorem cmp22 (h:Hp) (K:Value→Hp→Prop):semW Tryz.prog (cmpS (.eql) 29 (.tmp 11) (.tmp 13) (.iface 299 (.int .i64 2)) (.iface 299 (.int .i64 2))) h K=K (.bool true) h:=by kernel_rfl
theorem cmp12 (h:Hp) (K:Value→Hp→Prop):semW Tryz.prog (cmpS (.eql) 29 (.tmp 11) (.tmp 13) (.iface 299 (.int .i64 1)) (.iface 299 (.int .i64 2))) h K=K (.bool false) h:=by kernel_rfl
theorem cmp11 (h:Hp) (K:Value→Hp→Prop):semW Tryz.prog (cmpS (.eql) 29 (.tmp 11) (.tmp 20) (.iface 299 (.int .i64 1)) (.iface 299 (.int .i64 1))) h K=K (.bool true) h:=by kernel_rfl
abbrev fnPU:ByteArray:=⟨#[80,97,114,115,101,85,105,110,116]⟩
theorem toError_s10_hc (s:ByteArray) (h:Hp) (hs:s.size≤2^48) (hl:Laid h):HC Tryz.prog 178 #[.string fnPU,.string s,.int .i64 10,.int .i64 32,.iface 299 (.int .i64 2)] h fun v h'=>(∃ a,v=.iface 301 (.pointer (some a)))∧Ext h h':=by
 refine hcr_of (args:=[.string fnPU,.string s,.int .i64 10,.int .i64 32,.iface 299 (.int .i64 2)]) mixed Tryz.func178 (by kernel_rfl) (t_strconv_toError_s10_eq s) ?_
 unfold t_strconv_toError_s10
 refine sem_bool (b:=true) (fun K' hk=>by rw [cmp22]; exact hk) ?_
 refine cond_t rfl (call_of (syntaxError_hc _ s h hs hl) ?_)
 rintro _ h1 ⟨⟨a,rfl⟩,e1⟩
 exact ⟨(some a,()),rfl,⟨a,rfl⟩,e1⟩
theorem toError_s16_hc (s:ByteArray) (h:Hp) (hs:s.size≤2^48) (hl:Laid h):HC Tryz.prog 178 #[.string fnPU,.string s,.int .i64 16,.int .i64 32,.iface 299 (.int .i64 2)] h fun v h'=>(∃ a,v=.iface 301 (.pointer (some a)))∧Ext h h':=by
 refine hcr_of (args:=[.string fnPU,.string s,.int .i64 16,.int .i64 32,.iface 299 (.int .i64 2)]) mixed Tryz.func178 (by kernel_rfl) (t_strconv_toError_s16_eq s) ?_
 unfold t_strconv_toError_s16
 refine sem_bool (b:=true) (fun K' hk=>by rw [cmp22]; exact hk) ?_
 refine cond_t rfl (call_of (syntaxError_hc _ s h hs hl) ?_)
 rintro _ h1 ⟨⟨a,rfl⟩,e1⟩
 exact ⟨(some a,()),rfl,⟨a,rfl⟩,e1⟩
theorem toError_r10_hc (s:ByteArray) (h:Hp) (hs:s.size≤2^48) (hl:Laid h):HC Tryz.prog 178 #[.string fnPU,.string s,.int .i64 10,.int .i64 32,.iface 299 (.int .i64 1)] h fun v h'=>(∃ a,v=.iface 301 (.pointer (some a)))∧Ext h h':=by
 refine hcr_of (args:=[.string fnPU,.string s,.int .i64 10,.int .i64 32,.iface 299 (.int .i64 1)]) mixed Tryz.func178 (by kernel_rfl) (t_strconv_toError_r10_eq s) ?_
 unfold t_strconv_toError_r10
 refine sem_bool (b:=false) (fun K' hk=>by rw [cmp12]; exact hk) (cond_f rfl ?_)
 refine sem_bool (b:=true) (fun K' hk=>by rw [cmp11]; exact hk) ?_
 refine cond_t rfl (call_of (rangeError_hc _ s h hs hl) ?_)
 rintro _ h1 ⟨⟨a,rfl⟩,e1⟩
 exact ⟨(some a,()),rfl,⟨a,rfl⟩,e1⟩
def dv (c:UInt8):Nat:=if c.toNat<58 then c.toNat-48 else c.toNat-87
def valB (b:Nat) (l:List UInt8):Nat:=l.foldl (fun n c=>n*b+dv c) 0
def isHex (c:UInt8):Bool:=isDig c || (97≤c.toNat && c.toNat≤102)
theorem valB_snoc (b:Nat) (l:List UInt8) (k:Nat) (hk:k<l.length):valB b (l.take (k+1))=valB b (l.take k)*b+dv (l.getD k 0):=by
 unfold valB
 rw [List.take_succ_eq_append_getElem hk,List.foldl_append]
 simp [List.getD,List.getElem?_eq_getElem hk]
theorem foldl_ge (b:Nat) (hb:0<b):∀ (l:List UInt8) (n:Nat),n≤l.foldl (fun n c=>n*b+dv c) n
 | [],n=>Nat.le_refl _
 | c::l,n=>by
  rw [List.foldl_cons]
  refine Nat.le_trans ?_ (foldl_ge b hb l _)
  have:=Nat.mul_le_mul_left n hb
  omega
theorem valB_take_le (b:Nat) (hb:0<b) (l:List UInt8) (k:Nat):valB b (l.take k)≤valB b l:=by
 conv=>rhs; rw [← List.take_append_drop k l]
 unfold valB
 rw [List.foldl_append]
 exact foldl_ge b hb _ _
theorem lower_hc (c:UInt8) (h:Hp) (h1:97≤c.toNat) (h2:c.toNat≤122):HCp Tryz.prog 187 [.int .u8 (cN c)] h (.int .u8 (cN c)):=by
 refine hcp_of mixed Tryz.func187 (by kernel_rfl) (t_internal_strconv_lower_eq _) ?_
 refine ⟨?_,rfl⟩
 congr 1
 have:=all_bytes (fun c=>!(decide (97≤c.toNat) && decide (c.toNat≤122)) || decide (IntKind.wrap .u8 ((BitVec.toNat ((BitVec.ofInt 8 (cN c)) ||| (BitVec.ofInt 8 (32:Int)))):Int)=cN c)) (fun _=>true) (by decide +kernel) c
 simp only [h1,h2,decide_true,Bool.and_self,Bool.not_true,Bool.false_or,decide_eq_true_eq] at this
 exact this
def puR (b:Nat) (l:List UInt8):Nat × Value:=if l=[] then (0,.iface 299 (.int .i64 2)) else if valB b l<4294967296 then (valB b l,.nilIface) else (4294967295,.iface 299 (.int .i64 1))
theorem nil_iff (s:ByteArray):s.data.toList=[]↔s.size=0:=by
 have hsz:s.data.toList.length=s.size:=by simp
 constructor
 ·intro h; rw [h] at hsz; simpa using hsz.symm
 ·intro h; exact List.eq_nil_of_length_eq_zero (by omega)
theorem puTen_hc (s:ByteArray) (h:Hp) (hs:s.size≤2^48) (hd:∀ i,i<s.size→isDig (s.data.toList.getD i 0)=true) :
  HC Tryz.prog 177 #[.string s,.int .i64 10,.int .i64 32] h fun v h'=>v=.tuple #[.int .u64 (puR 10 s.data.toList).1,(puR 10 s.data.toList).2]∧Ext h h':=by
 refine hcr_of (args:=[.string s,.int .i64 10,.int .i64 32]) mixed Tryz.func177 (by kernel_rfl) (t_internal_strconv_ParseUint_ten_eq s) ?_
 unfold t_internal_strconv_ParseUint_ten puR
 have hsz:s.data.toList.length=s.size:=by simp
 refine cond_mk (fun h1=>?_) (fun h1=>?_)
 ·have h1:s.data.toList=[]:=by rw [toList_nil] at h1; rw [nil_iff]; simpa using h1
  rw [if_pos h1]
  exact ⟨rfl,Ch.refl _ _⟩
 have h1:s.data.toList≠[]:=by rw [toList_nil] at h1; rw [ne_eq,nil_iff]; simpa using h1
 rw [if_neg h1]
 refine need_of (by omega) (sem_slice ?_)
 refine toBytes_of (e:=5) (by kernel_rfl) (by kernel_rfl) (by kernel_rfl) s ?_
 intro cap h1' hcap e1 hcell1
 refine ⟨_,_,_,rfl,?_⟩
 refine loop_of (cs:=[(false,[.int .u64]),(false,[.invalid]),(false,[.bool]),(false,[.int .u64]),(false,[.int .i64])])
  (fun x n h'=>h'=h1'∧x.2.2.1=false∧∃ k:Nat,x.2.2.2.2.1=(k:Int)∧x.2.2.2.1=(valB 10 (s.data.toList.take k):Int)∧k≤s.size∧n=s.size-k∧valB 10 (s.data.toList.take k)<4294967296)
  ((0:Int),Value.nilIface,false,(0:Int),(0:Int),()) s.size rfl ⟨rfl,rfl,0,rfl,rfl,by omega,by omega,by simp [valB]⟩ ?_
 rintro ⟨n4,v5,b6,n7,n8,⟨⟩⟩ m h' ⟨rfl,hb6,k,hk,hn7,hle,rfl,hv⟩
 simp only at hb6 hk hn7
 subst hb6 hk hn7
 refine cond_mk (fun hb=>?_) (fun hb=>?_)
 ·have hlt:(k:Int)<s.size:=of_decide_eq_true hb
  have hkl:k<s.size:=by omega
  refine need_of ⟨(by show (0:Int)≤(k:Int); omega),hlt⟩ (osome_mk rfl ?_)
  have hc:=hcell1 k hkl
  have hdk:=(isDig_iff _).1 (hd k hkl)
  refine loads_of (cN (s.data.toList.getD k 0),()) ⟨?_,trivial⟩ ?_
  ·rw [add_box,add_box]
   rw [show 0+Int.toNat (k:Int)*1+0=k by omega]
   exact hc
  have hst:=valB_snoc 10 s.data.toList k (by omega)
  have hdv:(dv (s.data.toList.getD k 0):Int)=cN (s.data.toList.getD k 0)-48:=by
   unfold dv cN at *
   rw [if_pos (by omega)]; omega
  generalize cN (s.data.toList.getD k 0)=c at hdk hdv ⊢
  generalize dv (s.data.toList.getD k 0)=d at hst hdv
  have hw1:IntKind.wrap .u8 (c-48)=d:=by rw [wrap_u8 (by omega) (by omega)]; omega
  have hw2:IntKind.wrap .u64 (d:Int)=d:=wrap_u64 (by omega) (by omega)
  have hw3:IntKind.wrap .u64 ((valB 10 (s.data.toList.take k):Int)*10)=(valB 10 (s.data.toList.take k):Int)*10:=wrap_u64 (by omega) (by omega)
  have hw4:IntKind.wrap .u64 ((valB 10 (s.data.toList.take k):Int)*10+d)=(valB 10 (s.data.toList.take (k+1)):Int):=by rw [wrap_u64 (by omega) (by omega),hst]; omega
  refine cond_f (show (c==95)=false from by simp; omega) ?_
  refine cond_t (show decide (48≤c)=true from decide_eq_true (by omega)) (cond_t (show decide (c≤57)=true from decide_eq_true (by omega)) ?_)
  rw [hw1,hw2]
  refine cond_f (show decide ((d:Int)≥10)=false from decide_eq_false (by omega)) ?_
  refine cond_f (show decide ((valB 10 (s.data.toList.take k):Int)≥1844674407370955162)=false from decide_eq_false (by omega)) ?_
  rw [hw3,hw4]
  refine cond_f (decide_eq_false (by omega)) ?_
  have hmono:=valB_take_le 10 (by omega) s.data.toList (k+1)
  refine cond_mk (fun h5=>?_) (fun h5=>?_)
  ·have h5:=of_decide_eq_true h5
   rw [if_neg (by omega)]
   exact ⟨rfl,e1⟩
  ·have h5:=of_decide_eq_false h5
   have hw5:IntKind.wrap .i64 ((k:Int)+1)=(k:Int)+1:=wrap_i64 (by omega) (by omega)
   exact again_mk (cs:=[(false,[.int .u64]),(false,[.invalid]),(false,[.bool]),(false,[.int .u64]),(false,[.int .i64])]) (n4,v5,false,(valB 10 (s.data.toList.take (k+1)):Int),(k:Int)+1,()) (s.size-(k+1)) rfl (by omega) (congrArg (fun z=>[Value.int .u64 n4,v5,.bool false,.int .u64 (valB 10 (s.data.toList.take (k+1)):Int),.int .i64 z]) hw5)
    ⟨rfl,rfl,k+1,(show ((k:Int)+1)=((k+1:Nat):Int) from by omega),rfl,by omega,rfl,by omega⟩
 ·have hge:¬ (k:Int)<s.size:=of_decide_eq_false hb
  have hk:k=s.data.toList.length:=by omega
  rw [hk,List.take_length] at hv
  refine cond_f rfl ?_
  rw [if_pos hv]
  refine ⟨?_,e1⟩
  show Value.tuple #[.int .u64 (valB 10 (s.data.toList.take k):Int),.nilIface]=_
  rw [hk,List.take_length]
theorem isHex_iff (c:UInt8):isHex c=true↔(48≤cN c∧cN c≤57)∨(97≤cN c∧cN c≤102):=by
 unfold isHex
 rw [Bool.or_eq_true,isDig_iff]
 unfold cN
 simp only [Bool.and_eq_true,decide_eq_true_eq]
 omega
theorem dv_hex (c:UInt8) (h:isHex c=true):(cN c≤57→(dv c:Int)=cN c-48)∧(57<cN c→(dv c:Int)=cN c-87)∧dv c<16:=by
 have:=(isHex_iff c).1 h
 unfold dv cN at *
 split <;> omega
theorem puHex_hc (s:ByteArray) (h:Hp) (hs:s.size≤2^48) (hd:∀ i,i<s.size→isHex (s.data.toList.getD i 0)=true) :
  HC Tryz.prog 177 #[.string s,.int .i64 16,.int .i64 32] h fun v h'=>v=.tuple #[.int .u64 (puR 16 s.data.toList).1,(puR 16 s.data.toList).2]∧Ext h h':=by
 refine hcr_of (args:=[.string s,.int .i64 16,.int .i64 32]) mixed Tryz.func177 (by kernel_rfl) (t_internal_strconv_ParseUint_hex_eq s) ?_
 unfold t_internal_strconv_ParseUint_hex puR
 have hsz:s.data.toList.length=s.size:=by simp
 refine cond_mk (fun h1=>?_) (fun h1=>?_)
 ·have h1:s.data.toList=[]:=by rw [toList_nil] at h1; rw [nil_iff]; simpa using h1
  rw [if_pos h1]
  exact ⟨rfl,Ch.refl _ _⟩
 have h1:s.data.toList≠[]:=by rw [toList_nil] at h1; rw [ne_eq,nil_iff]; simpa using h1
 rw [if_neg h1]
 refine need_of (by omega) (sem_slice ?_)
 refine toBytes_of (e:=5) (by kernel_rfl) (by kernel_rfl) (by kernel_rfl) s ?_
 intro cap h1' hcap e1 hcell1
 refine ⟨_,_,_,rfl,?_⟩
 refine loop_of (cs:=[(false,[.int .u64]),(false,[.invalid]),(false,[.bool]),(false,[.int .u64]),(false,[.int .i64])])
  (fun x n h'=>h'=h1'∧x.2.2.1=false∧∃ k:Nat,x.2.2.2.2.1=(k:Int)∧x.2.2.2.1=(valB 16 (s.data.toList.take k):Int)∧k≤s.size∧n=s.size-k∧valB 16 (s.data.toList.take k)<4294967296)
  ((0:Int),Value.nilIface,false,(0:Int),(0:Int),()) s.size rfl ⟨rfl,rfl,0,rfl,rfl,by omega,by omega,by simp [valB]⟩ ?_
 rintro ⟨n4,v5,b6,n7,n8,⟨⟩⟩ m h' ⟨rfl,hb6,k,hk,hn7,hle,rfl,hv⟩
 simp only at hb6 hk hn7
 subst hb6 hk hn7
 refine cond_mk (fun hb=>?_) (fun hb=>?_)
 ·have hlt:(k:Int)<s.size:=of_decide_eq_true hb
  have hkl:k<s.size:=by omega
  refine need_of ⟨(by show (0:Int)≤(k:Int); omega),hlt⟩ (osome_mk rfl ?_)
  have hc:=hcell1 k hkl
  have hdk:=(isHex_iff _).1 (hd k hkl)
  refine loads_of (cN (s.data.toList.getD k 0),()) ⟨?_,trivial⟩ ?_
  ·rw [add_box,add_box]
   rw [show 0+Int.toNat (k:Int)*1+0=k by omega]
   exact hc
  have hst:=valB_snoc 16 s.data.toList k (by omega)
  have hdv:=dv_hex _ (hd k hkl)
  have hlo:=fun hh=>lower_hc (s.data.toList.getD k 0) h' hh
  have hcn:((s.data.toList.getD k 0).toNat:Int)=cN (s.data.toList.getD k 0):=rfl
  generalize (s.data.toList.getD k 0).toNat=cn at hlo hcn
  generalize cN (s.data.toList.getD k 0)=c at hdk hdv hlo hcn ⊢
  generalize dv (s.data.toList.getD k 0)=d at hst hdv
  have hw2:IntKind.wrap .u64 (d:Int)=d:=wrap_u64 (by omega) (by omega)
  have hw3:IntKind.wrap .u64 ((valB 16 (s.data.toList.take k):Int)*16)=(valB 16 (s.data.toList.take k):Int)*16:=wrap_u64 (by omega) (by omega)
  have hw4:IntKind.wrap .u64 ((valB 16 (s.data.toList.take k):Int)*16+d)=(valB 16 (s.data.toList.take (k+1)):Int):=by rw [wrap_u64 (by omega) (by omega),hst]; omega
  have hw5:IntKind.wrap .i64 ((k:Int)+1)=(k:Int)+1:=wrap_i64 (by omega) (by omega)
  have hmono:=valB_take_le 16 (by omega) s.data.toList (k+1)
  refine cond_f (show (c==95)=false from by simp; omega) ?_
  refine cond_t (show decide (48≤c)=true from decide_eq_true (by omega)) ?_
  refine cond_mk (fun h9=>?_) (fun h9=>?_)
  ·have h9:c≤57:=of_decide_eq_true h9
   have hw1:IntKind.wrap .u8 (c-48)=d:=by rw [wrap_u8 (by omega) (by omega)]; omega
   rw [hw1,hw2]
   refine cond_f (show decide ((d:Int)≥16)=false from decide_eq_false (by omega)) ?_
   refine cond_f (show decide ((valB 16 (s.data.toList.take k):Int)≥1152921504606846976)=false from decide_eq_false (by omega)) ?_
   rw [hw3,hw4]
   refine cond_f (decide_eq_false (by omega)) ?_
   refine cond_mk (fun h5=>?_) (fun h5=>?_)
   ·have h5:=of_decide_eq_true h5
    rw [if_neg (by omega)]
    exact ⟨rfl,e1⟩
   ·have h5:=of_decide_eq_false h5
    exact again_mk (cs:=[(false,[.int .u64]),(false,[.invalid]),(false,[.bool]),(false,[.int .u64]),(false,[.int .i64])]) (n4,v5,false,(valB 16 (s.data.toList.take (k+1)):Int),(k:Int)+1,()) (s.size-(k+1)) rfl (by omega) (congrArg (fun z=>[Value.int .u64 n4,v5,.bool false,.int .u64 (valB 16 (s.data.toList.take (k+1)):Int),.int .i64 z]) hw5)
     ⟨rfl,rfl,k+1,(show ((k:Int)+1)=((k+1:Nat):Int) from by omega),rfl,by omega,rfl,by omega⟩
  ·have h9:¬ c≤57:=of_decide_eq_false h9
   have hlo:=hlo (by omega) (by omega)
   refine call_int hlo ?_
   refine cond_t (show decide (97≤c)=true from decide_eq_true (by omega)) ?_
   refine call_int hlo ?_
   refine cond_t (show decide (c≤122)=true from decide_eq_true (by omega)) ?_
   refine call_int hlo ?_
   have hw0:IntKind.wrap .u8 (c-97)=c-97:=wrap_u8 (by omega) (by omega)
   have hw1:IntKind.wrap .u8 (c-97+10)=d:=by rw [wrap_u8 (by omega) (by omega)]; omega
   rw [hw0,hw1,hw2]
   refine cond_f (show decide ((d:Int)≥16)=false from decide_eq_false (by omega)) ?_
   refine cond_f (show decide ((valB 16 (s.data.toList.take k):Int)≥1152921504606846976)=false from decide_eq_false (by omega)) ?_
   rw [hw3,hw4]
   refine cond_f (decide_eq_false (by omega)) ?_
   refine cond_mk (fun h5=>?_) (fun h5=>?_)
   ·have h5:=of_decide_eq_true h5
    rw [if_neg (by omega)]
    exact ⟨rfl,e1⟩
   ·have h5:=of_decide_eq_false h5
    exact again_mk (cs:=[(false,[.int .u64]),(false,[.invalid]),(false,[.bool]),(false,[.int .u64]),(false,[.int .i64])]) (n4,v5,false,(valB 16 (s.data.toList.take (k+1)):Int),(k:Int)+1,()) (s.size-(k+1)) rfl (by omega) (congrArg (fun z=>[Value.int .u64 n4,v5,.bool false,.int .u64 (valB 16 (s.data.toList.take (k+1)):Int),.int .i64 z]) hw5)
     ⟨rfl,rfl,k+1,(show ((k:Int)+1)=((k+1:Nat):Int) from by omega),rfl,by omega,rfl,by omega⟩
 ·have hge:¬ (k:Int)<s.size:=of_decide_eq_false hb
  have hk:k=s.data.toList.length:=by omega
  rw [hk,List.take_length] at hv
  refine cond_f rfl ?_
  rw [if_pos hv]
  refine ⟨?_,e1⟩
  show Value.tuple #[.int .u64 (valB 16 (s.data.toList.take k):Int),.nilIface]=_
  rw [hk,List.take_length]
theorem cmpN (h:Hp) (K:Value→Hp→Prop):semW Tryz.prog (cmpS (.neq) 29 (.tmp 17) (.const .nilIface) .nilIface .nilIface) h K=K (.bool false) h:=by kernel_rfl
theorem cmpN1 (h:Hp) (K:Value→Hp→Prop):semW Tryz.prog (cmpS (.neq) 29 (.tmp 17) (.const .nilIface) (.iface 299 (.int .i64 1)) .nilIface) h K=K (.bool true) h:=by kernel_rfl
theorem cmpN2 (h:Hp) (K:Value→Hp→Prop):semW Tryz.prog (cmpS (.neq) 29 (.tmp 17) (.const .nilIface) (.iface 299 (.int .i64 2)) .nilIface) h K=K (.bool true) h:=by kernel_rfl
theorem cmpM (h:Hp) (K:Value→Hp→Prop):semW Tryz.prog (cmpS (.neq) 29 (.tmp 37) (.const .nilIface) .nilIface .nilIface) h K=K (.bool false) h:=by kernel_rfl
theorem cmpM1 (a:Addr) (h:Hp) (K:Value→Hp→Prop):semW Tryz.prog (cmpS (.neq) 29 (.tmp 37) (.const .nilIface) (.iface 301 (.pointer (some a))) .nilIface) h K=K (.bool true) h:=by kernel_rfl
def okB (b:Nat) (l:List UInt8):Prop:=l≠[]∧valB b l<4294967296
def puPost (b:Nat) (l:List UInt8) (h:Hp) (v:Value) (h':Hp):Prop :=
 ((okB b l∧v=.tuple #[.int .u64 (valB b l),.nilIface])∨(¬ okB b l∧∃ n a,v=.tuple #[.int .u64 n,.iface 301 (.pointer (some a))]))∧Ext h h'
theorem parseUint10_hc (s:ByteArray) (h:Hp) (hs:s.size≤2^48) (hl:Laid h) (hd:∀ i,i<s.size→isDig (s.data.toList.getD i 0)=true) :
  HC Tryz.prog 150 #[.string s,.int .i64 10,.int .i64 32] h (puPost 10 s.data.toList h):=by
 refine hcr_of (args:=[.string s,.int .i64 10,.int .i64 32]) mixed Tryz.func150 (by kernel_rfl) (t_strconv_ParseUint_ten_eq s) ?_
 unfold t_strconv_ParseUint_ten
 refine call_of (puTen_hc s h hs hd) ?_
 rintro _ h1 ⟨rfl,e1⟩
 refine ⟨(((puR 10 s.data.toList).1:Int),(puR 10 s.data.toList).2,()),rfl,?_⟩
 show T.sem Tryz.prog (cmpS (.neq) 29 (.tmp 17) (.const .nilIface) (puR 10 s.data.toList).2 .nilIface) false [(false,[.bool])] _ _ _ _
 by_cases h0:s.data.toList=[]
 ·have hr:puR 10 s.data.toList=(0,.iface 299 (.int .i64 2)):=by unfold puR; rw [if_pos h0]
  have hno:¬ okB 10 s.data.toList:=fun ho=>ho.1 h0
  rw [hr]
  refine sem_bool (b:=true) (fun K' hk=>by rw [cmpN2]; exact hk) (cond_t rfl ?_)
  refine call_of (toError_s10_hc s h1 hs (hl.ext e1)) ?_
  rintro _ h2 ⟨⟨a,rfl⟩,e2⟩
  exact ⟨(.iface 301 (.pointer (some a)),()),rfl,.inr ⟨hno,_,a,rfl⟩,e1.trans e2⟩
 ·by_cases hv:valB 10 s.data.toList<4294967296
  ·have hr:puR 10 s.data.toList=(valB 10 s.data.toList,.nilIface):=by unfold puR; rw [if_neg h0,if_pos hv]
   rw [hr]
   refine sem_bool (b:=false) (fun K' hk=>by rw [cmpN]; exact hk) (cond_f rfl ?_)
   exact ⟨.inl ⟨⟨h0,hv⟩,rfl⟩,e1⟩
  ·have hr:puR 10 s.data.toList=(4294967295,.iface 299 (.int .i64 1)):=by unfold puR; rw [if_neg h0,if_neg hv]
   have hno:¬ okB 10 s.data.toList:=fun ho=>hv ho.2
   rw [hr]
   refine sem_bool (b:=true) (fun K' hk=>by rw [cmpN1]; exact hk) (cond_t rfl ?_)
   refine call_of (toError_r10_hc s h1 hs (hl.ext e1)) ?_
   rintro _ h2 ⟨⟨a,rfl⟩,e2⟩
   exact ⟨(.iface 301 (.pointer (some a)),()),rfl,.inr ⟨hno,_,a,rfl⟩,e1.trans e2⟩
theorem valB16_small:∀ (l:List UInt8) (n:Nat),(∀ c∈l,dv c<16)→l.foldl (fun n c=>n*16+dv c) n<(n+1)*16^l.length
 | [],n,_=>by simp
 | c::l,n,hd=>by
  rw [List.foldl_cons,List.length_cons,Nat.pow_succ]
  have h1:=valB16_small l (n*16+dv c) (fun x hx=>hd x (by simp [hx]))
  have h2:=hd c (by simp)
  have h3:(n*16+dv c+1)*16^l.length≤((n+1)*16)*16^l.length:=Nat.mul_le_mul_right _ (by omega)
  have h4:((n+1)*16)*16^l.length=(n+1)*(16^l.length*16):=by rw [Nat.mul_assoc,Nat.mul_comm 16]
  omega
theorem parseUint16_hc (s:ByteArray) (h:Hp) (hs:s.size≤8) (hl:Laid h) (hd:∀ i,i<s.size→isHex (s.data.toList.getD i 0)=true) :
  HC Tryz.prog 150 #[.string s,.int .i64 16,.int .i64 32] h (puPost 16 s.data.toList h):=by
 refine hcr_of (args:=[.string s,.int .i64 16,.int .i64 32]) mixed Tryz.func150 (by kernel_rfl) (t_strconv_ParseUint_hex_eq s) ?_
 unfold t_strconv_ParseUint_hex
 have hsz:s.data.toList.length=s.size:=by simp
 have hv:valB 16 s.data.toList<4294967296:=by
  have h1:=valB16_small s.data.toList 0 (fun c hc=>by
   obtain ⟨i,hi,rfl⟩:=List.getElem_of_mem hc
   have:=hd i (by omega)
   simp only [List.getD,List.getElem?_eq_getElem hi,Option.getD_some] at this
   exact (dv_hex _ this).2.2)
  have h2:16^s.data.toList.length≤16^8:=Nat.pow_le_pow_right (by omega) (by omega)
  have h3:(16:Nat)^8=4294967296:=rfl
  unfold valB
  omega
 refine call_of (puHex_hc s h (by omega) hd) ?_
 rintro _ h1 ⟨rfl,e1⟩
 refine ⟨(((puR 16 s.data.toList).1:Int),(puR 16 s.data.toList).2,()),rfl,?_⟩
 show T.sem Tryz.prog (cmpS (.neq) 29 (.tmp 17) (.const .nilIface) (puR 16 s.data.toList).2 .nilIface) false [(false,[.bool])] _ _ _ _
 by_cases h0:s.data.toList=[]
 ·have hr:puR 16 s.data.toList=(0,.iface 299 (.int .i64 2)):=by unfold puR; rw [if_pos h0]
  have hno:¬ okB 16 s.data.toList:=fun ho=>ho.1 h0
  rw [hr]
  refine sem_bool (b:=true) (fun K' hk=>by rw [cmpN2]; exact hk) (cond_t rfl ?_)
  refine call_of (toError_s16_hc s h1 (by omega) (hl.ext e1)) ?_
  rintro _ h2 ⟨⟨a,rfl⟩,e2⟩
  exact ⟨(.iface 301 (.pointer (some a)),()),rfl,.inr ⟨hno,_,a,rfl⟩,e1.trans e2⟩
 ·have hr:puR 16 s.data.toList=(valB 16 s.data.toList,.nilIface):=by unfold puR; rw [if_neg h0,if_pos hv]
  rw [hr]
  refine sem_bool (b:=false) (fun K' hk=>by rw [cmpN]; exact hk) (cond_f rfl ?_)
  exact ⟨.inl ⟨⟨h0,hv⟩,rfl⟩,e1⟩
theorem ext_list (s:ByteArray) (i j:Nat):(s.extract i j).data.toList=(s.data.toList.drop i).take (j-i):=by
 rw [ByteArray.data_extract,Array.toList_extract,List.extract_eq_take_drop]
theorem ext_size (s:ByteArray) (i j:Nat):(s.extract i j).size=min j s.size-i:=by simp
theorem beq_dec (a b:List UInt8):(a==b)=decide (a=b):=by
 by_cases h:a=b <;> simp [h]
theorem val16_lt {l:List UInt8} (hl:l.length≤8) (hd:∀ i,i<l.length→isHex (l.getD i 0)=true):valB 16 l<4294967296:=by
 have h1:=valB16_small l 0 (fun c hc=>by
  obtain ⟨i,hi,rfl⟩:=List.getElem_of_mem hc
  have:=hd i hi
  simp only [List.getD,List.getElem?_eq_getElem hi,Option.getD_some] at this
  exact (dv_hex _ this).2.2)
 have h2:16^l.length≤16^8:=Nat.pow_le_pow_right (by omega) (by omega)
 have h3:(16:Nat)^8=4294967296:=rfl
 unfold valB
 omega
theorem getD_take {l:List UInt8} {n i:Nat} (hi:i<n):(l.take n).getD i 0=l.getD i 0:=by
 rw [List.getD_eq_getElem?_getD,List.getElem?_take,if_pos hi,← List.getD_eq_getElem?_getD]
theorem hasPrefix0_hc (s t:ByteArray) (h:Hp):HCp Tryz.prog 176 [.string s,.string t] h (.bool (decide (s.data.toList.take t.size=t.data.toList))):=by
 refine hcp_of mixed Tryz.func176 (by kernel_rfl) (t_internal_stringslite_HasPrefix_eq s t) ?_
 unfold t_internal_stringslite_HasPrefix
 have hsz:s.data.toList.length=s.size:=by simp
 have htz:t.data.toList.length=t.size:=by simp
 refine cond_mk (fun h1=>?_) (fun h1=>?_)
 ·have h1:=of_decide_eq_true h1
  refine need_of ⟨by omega,by omega,by omega⟩ ⟨?_,rfl⟩
  congr 1
  rw [ByteArray.toList_eq,ByteArray.toList_eq,ext_list,beq_dec,List.drop_zero,show Int.toNat (t.size:Int)-0=t.size by omega]
 ·have h1:=of_decide_eq_false h1
  refine ⟨?_,rfl⟩
  congr 1
  symm
  refine decide_eq_false fun he=>?_
  have:=congrArg List.length he
  rw [List.length_take] at this
  omega
theorem hasPrefix_hc (s t:ByteArray) (h:Hp):HCp Tryz.prog 149 [.string s,.string t] h (.bool (decide (s.data.toList.take t.size=t.data.toList))):=by
 refine hcp_of mixed Tryz.func149 (by kernel_rfl) (t_strings_HasPrefix_eq s t) ?_
 exact call_bool (hasPrefix0_hc s t h) ⟨rfl,rfl⟩
def hexesL:List UInt8:=[48,49,50,51,52,53,54,55,56,57,97,98,99,100,101,102]
theorem hexes_is (c:UInt8):hexesL.contains c=isHex c:=all_bytes (fun c=>hexesL.contains c) isHex (by decide +kernel) c
def numL (l:List UInt8):Nat × Nat :=
 if l.take 2=[48,120] then
  (if 8<rowN (l.drop 2) hexesL∨rowN (l.drop 2) hexesL=0 then (0,0) else (2+rowN (l.drop 2) hexesL,valB 16 ((l.drop 2).take (rowN (l.drop 2) hexesL))))
 else
  (if (1<rowN l digitsL∧l.getD 0 0=48)∨rowN l digitsL=0∨4294967296≤valB 10 (l.take (rowN l digitsL)) then (0,0) else (rowN l digitsL,valB 10 (l.take (rowN l digitsL))))
theorem rowN_get {s set:List UInt8} {i:Nat} (hi:i<rowN s set):set.contains (s.getD i 0)=true:=by
 have hle:=rowN_le s set
 exact (rowN_step s set i (by omega) (by omega)).1 hi
theorem number_hc (s:ByteArray) (h:Hp) (hs:s.size≤2^48) (hl:Laid h) :
  HC Tryz.prog 123 #[.string s] h fun v h'=>v=.tuple #[.int .i64 (numL s.data.toList).1,.int .u32 (numL s.data.toList).2]∧Ext h h':=by
 refine hcr_of (args:=[.string s]) mixed Tryz.func123 (by kernel_rfl) (t_lex_number_eq s) ?_
 unfold t_lex_number numL
 have hsz:s.data.toList.length=s.size:=by simp
 have gd:(⟨#[48,49,50,51,52,53,54,55,56,57]⟩:ByteArray).data.toList=digitsL:=rfl
 have gh:(⟨#[48,49,50,51,52,53,54,55,56,57,97,98,99,100,101,102]⟩:ByteArray).data.toList=hexesL:=rfl
 have gp:(⟨#[48,120]⟩:ByteArray).data.toList=[48,120]:=rfl
 refine call_int (row_hc s _ h (by omega)) ?_
 rw [gd]
 have hr:=rowN_le s.data.toList digitsL
 generalize hn:rowN s.data.toList digitsL=n at hr ⊢
 refine call_bool (hasPrefix_hc s _ h) ?_
 rw [gp]
 refine cond_mk (fun h1=>?_) (fun h1=>?_)
 ·have h1:s.data.toList.take 2=[48,120]:=of_decide_eq_true h1
  rw [if_pos h1]
  have h2:2≤s.size:=by
   have:=congrArg List.length h1
   rw [List.length_take] at this
   simp at this; omega
  refine need_of ⟨by omega,by omega,by omega⟩ ?_
  have he:(s.extract 2 (Int.toNat (s.size:Int))).data.toList=s.data.toList.drop 2:=by
   rw [ext_list]
   exact List.take_of_length_le (by simp)
  refine call_int (row_hc _ _ h (by rw [ext_size]; omega)) ?_
  rw [gh,he]
  have hr2:=rowN_le (s.data.toList.drop 2) hexesL
  have hg2:=fun i=>@rowN_get (s.data.toList.drop 2) hexesL i
  rw [List.length_drop] at hr2
  generalize rowN (s.data.toList.drop 2) hexesL=m at hr2 hg2 ⊢
  refine cond_mk (fun h3=>?_) (fun h3=>?_)
  ·have h3:=of_decide_eq_true h3
   rw [if_pos (.inl (by omega))]
   exact ⟨rfl,Ch.refl _ _⟩
  ·have h3:=of_decide_eq_false h3
   have hw:IntKind.wrap .i64 (2+(m:Int))=2+(m:Int):=wrap_i64 (by omega) (by omega)
   rw [hw]
   refine need_of ⟨by omega,by omega,by omega⟩ ?_
   have ht:Int.toNat (2+(m:Int))=2+m:=by omega
   rw [ht]
   have he2:(s.extract 2 (2+m)).data.toList=(s.data.toList.drop 2).take m:=by
    rw [ext_list,show 2+m-2=m by omega]
   have hsm:(s.extract 2 (2+m)).size=m:=by rw [ext_size]; omega
   refine call_of (parseUint16_hc _ h (by omega) hl (fun i hi=>?_)) ?_
   ·rw [hsm] at hi
    have:=hg2 i hi
    rw [hexes_is] at this
    rw [he2]
    rw [getD_take hi]
    exact this
   ·rintro v h' ⟨hv,e1⟩
    rw [he2] at hv
    rcases hv with ⟨ho,rfl⟩ | ⟨hno,nn,a,rfl⟩
    ·have hm0:m≠0:=fun hm=>ho.1 (by rw [hm]; rfl)
     refine ⟨((valB 16 ((s.data.toList.drop 2).take m):Int),.nilIface,()),rfl,?_⟩
     refine sem_bool (b:=false) (fun K' hk=>by rw [cmpM]; exact hk) (cond_f rfl ?_)
     rw [if_neg (by omega)]
     have:=ho.2
     refine ⟨?_,e1⟩
     rw [show IntKind.wrap .u32 (valB 16 ((s.data.toList.drop 2).take m):Int)=(valB 16 ((s.data.toList.drop 2).take m):Int) from wrap_u32 (by omega) (by omega)]
     simp
    ·refine ⟨(nn,.iface 301 (.pointer (some a)),()),rfl,?_⟩
     refine sem_bool (b:=true) (fun K' hk=>by rw [cmpM1]; exact hk) (cond_t rfl ?_)
     have hm0:m=0:=by
      rcases Nat.eq_zero_or_pos m with hm | hm
      ·exact hm
      ·refine (hno ⟨fun hh=>?_,?_⟩).elim
       ·have:=congrArg List.length hh
        rw [List.length_take,List.length_drop] at this
        simp at this; omega
       ·refine val16_lt (by rw [List.length_take]; omega) (fun i hi=>?_)
        rw [List.length_take] at hi
        rw [getD_take (by omega),← hexes_is]
        exact hg2 i (by omega)
     rw [if_pos (.inr hm0)]
     exact ⟨rfl,e1⟩
 ·have h1:¬ s.data.toList.take 2=[48,120]:=of_decide_eq_false h1
  rw [if_neg h1]
  have hg:=fun i=>@rowN_get s.data.toList digitsL i
  rw [hn] at hg
  have hw:IntKind.wrap .i64 (0+(n:Int))=(n:Int):=by rw [Int.zero_add]; exact wrap_i64 (by omega) (by omega)
  have he2:(s.extract 0 n).data.toList=s.data.toList.take n:=by rw [ext_list,List.drop_zero,Nat.sub_zero]
  have hsm:(s.extract 0 n).size=n:=by rw [ext_size]; omega
  have hp:=parseUint10_hc (s.extract 0 n) h (by omega) hl (fun i hi=>by
   rw [hsm] at hi
   rw [he2,getD_take hi,← digits_is]
   exact hg i hi)
  have main:¬ (1<n∧s.data.toList.getD 0 0=48)→T.need (((0:Int)≤(0:Int))∧(((0:Int)≤(IntKind.wrap .i64 ((0:Int)+n)))∧((IntKind.wrap .i64 ((0:Int)+n))≤(s.size:Int)))) (
    T.call Tryz.prog 150 [.string (ByteArray.extract s 0 (Int.toNat (IntKind.wrap .i64 ((0 : Int) + n)))), .int .i64 (10 : Int), .int .i64 (32 : Int)] true [(false, [.int .u64]), (false, [.interface #[("Error", 85)]])] <| fun (n3 : Int) (v4 : Value) =>
    T.sem Tryz.prog (Sx.cmpS (BinOp.neq) 29 (Operand.tmp 37) (Operand.const Value.nilIface) v4 .nilIface) false [(false,[.bool])] <| fun (b5:Bool) =>
    cond b5
     (T.ret (.tuple #[.int .i64 (0:Int),.int .u32 (0:Int)]))
     (T.ret (.tuple #[.int .i64 (IntKind.wrap .i64 ((0:Int)+n)),.int .u32 (IntKind.wrap .u32 n3)]))) []
    (fun v h'=>v=.tuple #[.int .i64 ((if (1<n∧s.data.toList.getD 0 0=48)∨n=0∨4294967296≤valB 10 (s.data.toList.take n) then (0,0) else (n,valB 10 (s.data.toList.take n)):Nat × Nat).1:Int),.int .u32 ((if (1<n∧s.data.toList.getD 0 0=48)∨n=0∨4294967296≤valB 10 (s.data.toList.take n) then (0,0) else (n,valB 10 (s.data.toList.take n)):Nat × Nat).2:Int)]∧Ext h h') h:=by
   intro hz
   rw [hw]
   refine need_of ⟨by omega,by omega,by omega⟩ ?_
   rw [show Int.toNat (n:Int)=n by omega]
   refine call_of hp ?_
   rintro v h' ⟨hv,e1⟩
   rw [he2] at hv
   have hnil:s.data.toList.take n=[]↔n=0:=by
    constructor
    ·intro hh
     have:=congrArg List.length hh
     rw [List.length_take,Nat.min_eq_left (by omega)] at this
     exact this
    ·intro hh; rw [hh]; rfl
   rcases hv with ⟨ho,rfl⟩ | ⟨hno,nn,a,rfl⟩
   ·have h5:n≠0:=fun hh=>ho.1 (hnil.2 hh)
    have h6:=ho.2
    refine ⟨((valB 10 (s.data.toList.take n):Int),.nilIface,()),rfl,?_⟩
    refine sem_bool (b:=false) (fun K' hk=>by rw [cmpM]; exact hk) (cond_f rfl ?_)
    rw [if_neg (by intro hh; rcases hh with hh | hh | hh <;> first | exact hz hh | omega)]
    refine ⟨?_,e1⟩
    rw [show IntKind.wrap .u32 (valB 10 (s.data.toList.take n):Int)=(valB 10 (s.data.toList.take n):Int) from wrap_u32 (by omega) (by omega)]
   ·refine ⟨(nn,.iface 301 (.pointer (some a)),()),rfl,?_⟩
    refine sem_bool (b:=true) (fun K' hk=>by rw [cmpM1]; exact hk) (cond_t rfl ?_)
    have h7:n=0∨4294967296≤valB 10 (s.data.toList.take n):=by
     by_cases h8:n=0
     ·exact .inl h8
     ·refine .inr ?_
      rcases Nat.lt_or_ge (valB 10 (s.data.toList.take n)) 4294967296 with h9 | h9
      ·exact (hno ⟨fun hh=>h8 (hnil.1 hh),h9⟩).elim
      ·exact h9
    rw [if_pos (.inr h7)]
    exact ⟨rfl,e1⟩
  refine cond_mk (fun h3=>?_) (fun h3=>?_)
  ·have h3:=of_decide_eq_true h3
   refine need_of ⟨by omega,by omega⟩ ?_
   have e0:sbyte s 0=cN (s.data.toList.getD 0 0):=sbyte_cN s 0
   rw [e0]
   refine cond_mk (fun h4=>?_) (fun h4=>?_)
   ·have h4:=eq_of_beq h4
    have h5:s.data.toList.getD 0 0=48:=by
     unfold cN at h4
     exact UInt8.toNat_inj.1 (by show _=48; omega)
    rw [if_pos (.inl ⟨by omega,h5⟩)]
    exact ⟨rfl,Ch.refl _ _⟩
   ·have h4:=ne_of_beq_false h4
    exact main fun hh=>h4 (by rw [hh.2]; rfl)
  ·have h3:=of_decide_eq_false h3
   exact main fun hh=>h3 (by omega)
structure Tok where
 kind:Nat
 text:ByteArray
 num:Nat
 at_:Nat
def enc (t:Tok):List Value:=[.int .i64 t.kind,.string t.text,.int .u32 t.num,.int .i64 t.at_]
def blanksL:List UInt8:=[9,13,32]
def gluedL:List UInt8:=lettersL++digitsL
def signsL:List UInt8:=[58,44,40,41,43,45,42,61]
inductive Step where
 | stop
 | wrong (at_:Nat)
 | tok (t:Tok) (next:Nat)
def lexAt (s:ByteArray) (a:Nat):Step :=
 if a=s.size then .stop
 else if s.data.toList.getD a 0=59 then .stop
 else if isLet (s.data.toList.getD a 0)=true then
  if 32<rowN (s.data.toList.drop a) gluedL then .wrong a else .tok ⟨1,s.extract a (a+rowN (s.data.toList.drop a) gluedL),0,a⟩ (a+rowN (s.data.toList.drop a) gluedL)
 else if isDig (s.data.toList.getD a 0)=true then
  if (numL (s.data.toList.drop a)).1=0∨0<rowN (s.data.toList.drop (a+(numL (s.data.toList.drop a)).1)) gluedL then .wrong a
  else .tok ⟨2,s.extract a (a+(numL (s.data.toList.drop a)).1),(numL (s.data.toList.drop a)).2,a⟩ (a+(numL (s.data.toList.drop a)).1)
 else if s.data.toList.getD a 0=39 then
  if s.size<a+3∨(s.data.toList.getD (a+1) 0).toNat<32∨126<(s.data.toList.getD (a+1) 0).toNat∨s.data.toList.getD (a+1) 0=39∨s.data.toList.getD (a+2) 0≠39 then .wrong a
  else .tok ⟨2,s.extract a (a+3),(s.data.toList.getD (a+1) 0).toNat,a⟩ (a+3)
 else if signsL.contains (s.data.toList.getD a 0)=true then .tok ⟨3,s.extract a (a+1),0,a⟩ (a+1)
 else .wrong a
def lexStep (s:ByteArray) (k:Nat):Step:=lexAt s (k+rowN (s.data.toList.drop k) blanksL)
def lexF (s:ByteArray):Nat→Nat→List Tok→List Tok × Nat × Nat
 | 0,_,acc=>(acc,0,0)
 | f+1,k,acc =>
  match lexStep s k with
  | .stop=>(acc,0,0)
  | .wrong a=>([],a,20)
  | .tok t k'=>lexF s f k' (acc++[t])
def lexS (s:ByteArray):List Tok × Nat × Nat:=lexF s (s.size+1) 0 []
theorem numL_le (l:List UInt8):(numL l).1≤l.length∧(numL l).2<4294967296:=by
 unfold numL
 split
 ·rename_i h
  have h2:=congrArg List.length h
  rw [List.length_take] at h2
  simp only [List.length_cons,List.length_nil] at h2
  have h3:=rowN_le (l.drop 2) hexesL
  rw [List.length_drop] at h3
  split
  ·simp
  ·rename_i h4
   refine ⟨by simp only; omega,?_⟩
   refine val16_lt (by rw [List.length_take]; omega) (fun i hi=>?_)
   rw [List.length_take] at hi
   rw [getD_take (by omega),← hexes_is]
   exact rowN_get (by omega)
 ·have h3:=rowN_le l digitsL
  split
  ·simp
  ·rename_i h4
   exact ⟨h3,by simp only; omega⟩
theorem lexF_tok {s:ByteArray} {f k k':Nat} {acc:List Tok} {t:Tok} (h:lexStep s k=.tok t k'):lexF s (f+1) k acc=lexF s f k' (acc++[t]):=by
 show (match lexStep s k with
  | .stop=>(acc,0,0)
  | .wrong a=>([],a,20)
  | .tok t k'=>lexF s f k' (acc++[t]))=_
 rw [h]
theorem lexF_stop {s:ByteArray} {f k:Nat} {acc:List Tok} (h:lexStep s k=.stop):lexF s (f+1) k acc=(acc,0,0):=by
 show (match lexStep s k with
  | .stop=>(acc,0,0)
  | .wrong a=>([],a,20)
  | .tok t k'=>lexF s f k' (acc++[t]))=_
 rw [h]
theorem lexF_wrong {s:ByteArray} {f k a:Nat} {acc:List Tok} (h:lexStep s k=.wrong a):lexF s (f+1) k acc=([],a,20):=by
 show (match lexStep s k with
  | .stop=>(acc,0,0)
  | .wrong a=>([],a,20)
  | .tok t k'=>lexF s f k' (acc++[t]))=_
 rw [h]
theorem lexAt_tok {s:ByteArray} {a k':Nat} {t:Tok} (ha:a≤s.size) (h:lexAt s a=.tok t k'):a<k'∧k'≤s.size∧t.at_=a∧t.text=s.extract a k':=by
 have hsz:s.data.toList.length=s.size:=by simp
 unfold lexAt at h
 split at h
 ·cases h
 split at h
 ·cases h
 have hlen:(s.data.toList.drop a).length=s.size-a:=by rw [List.length_drop,hsz]
 split at h
 ·rename_i h1 h2 h3
  split at h
  ·cases h
  ·cases h
   have h5:=rowN_le (s.data.toList.drop a) gluedL
   have h6:=(rowN_pos (s:=s.data.toList.drop a) (set:=gluedL) (by omega)).2 (by
    rw [show (s.data.toList.drop a).getD 0 0=s.data.toList.getD a 0 from by simp [List.getD]]
    show (lettersL++digitsL).contains _=true
    rw [glued_is,h3]; rfl)
   exact ⟨by omega,by omega,rfl,rfl⟩
 split at h
 ·split at h
  ·cases h
  ·cases h
   have h5:=(numL_le (s.data.toList.drop a)).1
   exact ⟨by omega,by omega,rfl,rfl⟩
 split at h
 ·split at h
  ·cases h
  ·cases h
   exact ⟨by omega,by omega,rfl,rfl⟩
 split at h
 ·cases h
  exact ⟨by omega,by omega,rfl,rfl⟩
 ·cases h
inductive LexD where
 | stop
 | wrong
 | tok (kind len num:Nat)
def lexD (D:List UInt8):LexD :=
 if D=[] then .stop
 else if D.getD 0 0=59 then .stop
 else if isLet (D.getD 0 0)=true then
  if 32<rowN D gluedL then .wrong else .tok 1 (rowN D gluedL) 0
 else if isDig (D.getD 0 0)=true then
  if (numL D).1=0∨0<rowN (D.drop (numL D).1) gluedL then .wrong else .tok 2 (numL D).1 (numL D).2
 else if D.getD 0 0=39 then
  if D.length<3∨(D.getD 1 0).toNat<32∨126<(D.getD 1 0).toNat∨D.getD 1 0=39∨D.getD 2 0≠39 then .wrong
  else .tok 2 3 (D.getD 1 0).toNat
 else if signsL.contains (D.getD 0 0)=true then .tok 3 1 0
 else .wrong
def mkStep (s:ByteArray) (a:Nat):LexD→Step
 | .stop=>.stop
 | .wrong=>.wrong a
 | .tok k n m=>.tok ⟨k,s.extract a (a+n),m,a⟩ (a+n)
theorem getD_drop' (l:List UInt8) (a j:Nat):(l.drop a).getD j 0=l.getD (a+j) 0:=by
 simp [List.getD_eq_getElem?_getD,List.getElem?_drop]
theorem lexAt_lexD (s:ByteArray) (a:Nat) (ha:a≤s.size):lexAt s a=mkStep s a (lexD (s.data.toList.drop a)):=by
 unfold lexAt lexD
 have hsz:s.data.toList.length=s.size:=by simp
 simp only [getD_drop',Nat.add_zero,List.drop_drop,List.length_drop,hsz]
 by_cases h1:a=s.size
 ·rw [if_pos h1,if_pos (List.drop_eq_nil_of_le (by omega))]; rfl
 have h1':¬ s.data.toList.drop a=[]:=fun hh=>h1 (by have:=List.drop_eq_nil_iff.1 hh; omega)
 rw [if_neg h1,if_neg h1']
 by_cases h2:s.data.toList.getD a 0=59
 ·rw [if_pos h2,if_pos h2]; rfl
 rw [if_neg h2,if_neg h2]
 by_cases h3:isLet (s.data.toList.getD a 0)=true
 ·rw [if_pos h3,if_pos h3]
  split <;> rfl
 rw [if_neg h3,if_neg h3]
 by_cases h4:isDig (s.data.toList.getD a 0)=true
 ·rw [if_pos h4,if_pos h4]
  split <;> rfl
 rw [if_neg h4,if_neg h4]
 by_cases h5:s.data.toList.getD a 0=39
 ·rw [if_pos h5,if_pos h5]
  by_cases h6:s.size<a+3
  ·rw [if_pos (.inl h6),if_pos (.inl (by omega))]; rfl
  ·by_cases h7:(s.data.toList.getD (a+1) 0).toNat<32∨126<(s.data.toList.getD (a+1) 0).toNat∨s.data.toList.getD (a+1) 0=39∨s.data.toList.getD (a+2) 0≠39
   ·rw [if_pos (.inr h7),if_pos (.inr h7)]; rfl
   ·rw [if_neg (by intro hh; rcases hh with hh | hh; exact h6 hh; exact h7 hh),if_neg (by intro hh; rcases hh with hh | hh; omega; exact h7 hh)]; rfl
 rw [if_neg h5,if_neg h5]
 split <;> rfl
theorem takeWhile_all {p:UInt8→Bool}:∀ (l:List UInt8) {c:UInt8},c∈l.takeWhile p→p c=true
 | [],c,h=>by simp at h
 | d::l,c,h=>by
  rw [List.takeWhile_cons] at h
  cases hd:p d with
  | false=>rw [hd] at h; simp at h
  | true =>
   rw [hd] at h
   simp only [if_true,List.mem_cons] at h
   rcases h with rfl | h
   ·exact hd
   ·exact takeWhile_all l h
theorem rowN_take_append {set D E:List UInt8} (hE:rowN E set=0):rowN (D.take (rowN D set)++E) set=rowN D set:=by
 unfold rowN at hE ⊢
 have h1:E.takeWhile (fun c=>set.contains c)=[]:=List.eq_nil_of_length_eq_zero hE
 have h2:D.take (D.takeWhile fun c=>set.contains c).length=D.takeWhile fun c=>set.contains c:=(List.prefix_iff_eq_take.1 (List.takeWhile_prefix _)).symm
 rw [h2,List.takeWhile_append_of_pos,h1,List.append_nil]
 exact fun c hc=>takeWhile_all D hc
theorem rowN_zero {set D:List UInt8}:rowN D set=0↔∀ c r,D=c::r→set.contains c=false:=by
 unfold rowN
 cases D with
 | nil=>simp
 | cons c r =>
  simp only [List.takeWhile_cons,List.cons.injEq,and_imp]
  cases h:set.contains c with
  | false=>simp only [Bool.false_eq_true,if_false,List.length_nil,true_iff]; rintro _ _ rfl rfl; exact h
  | true=>simp only [if_true,List.length_cons,Nat.add_one_ne_zero,false_iff]; intro hh; have:=hh c r rfl rfl; rw [h] at this; cases this
theorem digits_glued (c:UInt8) (h:gluedL.contains c=false):digitsL.contains c=false:=by
 have:=all_bytes (fun c=>gluedL.contains c || !digitsL.contains c) (fun _=>true) (by decide +kernel) c
 simp only [h,Bool.false_or,Bool.not_eq_true'] at this
 exact this
theorem hexes_glued (c:UInt8) (h:gluedL.contains c=false):hexesL.contains c=false:=by
 have:=all_bytes (fun c=>gluedL.contains c || !hexesL.contains c) (fun _=>true) (by decide +kernel) c
 simp only [h,Bool.false_or,Bool.not_eq_true'] at this
 exact this
theorem rowN_digits0 {E:List UInt8} (h:rowN E gluedL=0):rowN E digitsL=0:=rowN_zero.2 fun c r he=>digits_glued c (rowN_zero.1 h c r he)
theorem rowN_hexes0 {E:List UInt8} (h:rowN E gluedL=0):rowN E hexesL=0:=rowN_zero.2 fun c r he=>hexes_glued c (rowN_zero.1 h c r he)
theorem numL_local {D E:List UInt8} (h0:(numL D).1≠0) (hE:rowN E gluedL=0):numL (D.take (numL D).1++E)=numL D:=by
 by_cases h1:D.take 2=[48,120]
 ·have hD:numL D=if 8<rowN (D.drop 2) hexesL∨rowN (D.drop 2) hexesL=0 then (0,0) else (2+rowN (D.drop 2) hexesL,valB 16 ((D.drop 2).take (rowN (D.drop 2) hexesL))):=by
   unfold numL; rw [if_pos h1]
  have hlen:2≤D.length:=by
   have:=congrArg List.length h1
   rw [List.length_take] at this
   simp at this; omega
  by_cases h2:8<rowN (D.drop 2) hexesL∨rowN (D.drop 2) hexesL=0
  ·rw [if_pos h2] at hD
   rw [hD] at h0
   exact (h0 rfl).elim
  ·rw [if_neg h2] at hD
   rw [hD]
   have hr:=rowN_le (D.drop 2) hexesL
   have hloc:=rowN_take_append (set:=hexesL) (D:=D.drop 2) (rowN_hexes0 hE)
   generalize rowN (D.drop 2) hexesL=r at *
   simp only
   have e1:D.take (2+r)=[48,120]++(D.drop 2).take r:=by
    rw [← h1,List.take_add]
   rw [e1,List.append_assoc]
   unfold numL
   rw [if_pos (by rfl)]
   have e2:([48,120]++((D.drop 2).take r++E)).drop 2=(D.drop 2).take r++E:=rfl
   rw [e2,hloc,if_neg h2]
   have e3:((D.drop 2).take r++E).take r=(D.drop 2).take r:=by
    rw [List.take_append_of_le_length (by rw [List.length_take]; omega),List.take_take,Nat.min_self]
   rw [e3]
 ·have hD:numL D=if (1<rowN D digitsL∧D.getD 0 0=48)∨rowN D digitsL=0∨4294967296≤valB 10 (D.take (rowN D digitsL)) then (0,0) else (rowN D digitsL,valB 10 (D.take (rowN D digitsL))):=by
   unfold numL; rw [if_neg h1]
  by_cases h2:(1<rowN D digitsL∧D.getD 0 0=48)∨rowN D digitsL=0∨4294967296≤valB 10 (D.take (rowN D digitsL))
  ·rw [if_pos h2] at hD
   rw [hD] at h0
   exact (h0 rfl).elim
  ·rw [if_neg h2] at hD
   rw [hD]
   have hr:=rowN_le D digitsL
   have hloc:=rowN_take_append (set:=digitsL) (D:=D) (rowN_digits0 hE)
   generalize rowN D digitsL=r at *
   simp only
   have hrp:0<r:=by
    rcases Nat.eq_zero_or_pos r with h | h
    ·exact (h2 (.inr (.inl h))).elim
    ·exact h
   have e3:(D.take r++E).take r=D.take r:=by
    rw [List.take_append_of_le_length (by rw [List.length_take]; omega),List.take_take,Nat.min_self]
   have e4:(D.take r++E).getD 0 0=D.getD 0 0:=by
    cases D with
    | nil=>simp at hr; omega
    | cons d D=>obtain ⟨r,rfl⟩:∃ r',r=r'+1:=⟨r-1,by omega⟩; simp
   have e5:¬ (D.take r++E).take 2=[48,120]:=by
    intro hh
    by_cases h3:2≤r
    ·rw [List.take_append_of_le_length (by rw [List.length_take]; omega),List.take_take,Nat.min_eq_left h3] at hh
     exact h1 hh
    ·have hr1:r=1:=by omega
     subst hr1
     cases D with
     | nil=>simp at hr
     | cons d D =>
      cases E with
      | nil=>simp at hh
      | cons c E =>
       simp at hh
       have:=rowN_zero.1 hE c E rfl
       rw [hh.2] at this
       revert this; decide +kernel
   unfold numL
   rw [if_neg e5,hloc,e3,e4,if_neg h2]
theorem lexD_local {D E:List UInt8} {k n m:Nat} (h:lexD D=.tok k n m) (hE:rowN E gluedL=0∨rowN (D.drop n) gluedL≠0):lexD (D.take n++E)=.tok k n m∧0<n∧n≤D.length:=by
 cases D with
 | nil=>simp [lexD] at h
 | cons d D =>
  unfold lexD at h
  rw [if_neg (by simp)] at h
  rw [List.getD_cons_zero] at h
  have key:0<n→lexD ((d::D).take n++E)=(if d=59 then .stop
   else if isLet d=true then
    if 32<rowN ((d::D).take n++E) gluedL then .wrong else .tok 1 (rowN ((d::D).take n++E) gluedL) 0
   else if isDig d=true then
    if (numL ((d::D).take n++E)).1=0∨0<rowN (((d::D).take n++E).drop (numL ((d::D).take n++E)).1) gluedL then .wrong else .tok 2 (numL ((d::D).take n++E)).1 (numL ((d::D).take n++E)).2
   else if d=39 then
    if ((d::D).take n++E).length<3∨(((d::D).take n++E).getD 1 0).toNat<32∨126<(((d::D).take n++E).getD 1 0).toNat∨((d::D).take n++E).getD 1 0=39∨((d::D).take n++E).getD 2 0≠39 then .wrong
    else .tok 2 3 (((d::D).take n++E).getD 1 0).toNat
   else if signsL.contains d=true then .tok 3 1 0
   else .wrong):=by
   intro hn
   have e0:((d::D).take n++E).getD 0 0=d:=by
    obtain ⟨n,rfl⟩:∃ n',n=n'+1:=⟨n-1,by omega⟩
    simp
   conv=>lhs; unfold lexD
   rw [if_neg (by obtain ⟨n,rfl⟩:∃ n',n=n'+1:=⟨n-1,by omega⟩; simp),e0]
  by_cases h2:d=59
  ·rw [if_pos h2] at h; cases h
  rw [if_neg h2] at h
  by_cases h3:isLet d=true
  ·rw [if_pos h3] at h
   have hpos:=rowN_step (d::D) gluedL 0 (by omega) (by simp)
   rw [List.getD_cons_zero,show gluedL=lettersL++digitsL from rfl,glued_is,h3] at hpos
   have hpos:=hpos.2 rfl
   rw [← show gluedL=lettersL++digitsL from rfl] at hpos
   by_cases h4:32<rowN (d::D) gluedL
   ·rw [if_pos h4] at h; cases h
   rw [if_neg h4] at h
   injection h with a1 a2 a3
   subst a1 a2 a3
   have hr:=rowN_le (d::D) gluedL
   have hE0:rowN E gluedL=0:=by
    rcases hE with hE | hE
    ·exact hE
    ·refine (hE ?_).elim
     refine rowN_zero.2 fun c r he=>?_
     have:=takeWhile_step (p:=fun c=>gluedL.contains c) (d::D) (rowN (d::D) gluedL) (Nat.le_refl _) (by
      have:=congrArg List.length he
      rw [List.length_drop] at this; simp at this ⊢; omega)
     have h5:¬ rowN (d::D) gluedL<((d::D).takeWhile fun c=>gluedL.contains c).length:=Nat.lt_irrefl _
     rw [this] at h5
     have h6:(d::D).getD (rowN (d::D) gluedL) 0=c:=by
      have:=congrArg (fun l=>l.getD 0 0) he
      simp only [getD_drop',Nat.add_zero,List.getD_cons_zero] at this
      exact this
     rw [h6] at h5
     simpa using h5
   refine ⟨?_,hpos,hr⟩
   rw [key hpos,if_neg h2,if_pos h3,rowN_take_append hE0,if_neg h4]
  rw [if_neg h3] at h
  by_cases h4:isDig d=true
  ·rw [if_pos h4] at h
   by_cases h5:(numL (d::D)).1=0∨0<rowN ((d::D).drop (numL (d::D)).1) gluedL
   ·rw [if_pos h5] at h; cases h
   rw [if_neg h5] at h
   injection h with a1 a2 a3
   subst a1 a2 a3
   have hE0:rowN E gluedL=0:=by
    rcases hE with hE | hE
    ·exact hE
    ·omega
   have hl:=(numL_le (d::D)).1
   have hz:(numL (d::D)).1≠0:=fun hh=>h5 (.inl hh)
   have hloc:=numL_local hz hE0
   refine ⟨?_,by omega,hl⟩
   rw [key (by omega),if_neg h2,if_neg h3,if_pos h4,hloc]
   rw [List.drop_append_of_le_length (by rw [List.length_take]; omega),List.drop_take,Nat.sub_self,List.take_zero,List.nil_append,if_neg (by omega)]
  rw [if_neg h4] at h
  by_cases h5:d=39
  ·rw [if_pos h5] at h
   by_cases h6:(d::D).length<3∨((d::D).getD 1 0).toNat<32∨126<((d::D).getD 1 0).toNat∨(d::D).getD 1 0=39∨(d::D).getD 2 0≠39
   ·rw [if_pos h6] at h; cases h
   rw [if_neg h6] at h
   injection h with a1 a2 a3
   subst a1 a2 a3
   have hlen:3≤(d::D).length:=by omega
   refine ⟨?_,by omega,hlen⟩
   match D,hlen with
   | d1::d2::D,_ =>
    rw [key (by omega),if_neg h2,if_neg h3,if_neg h4,if_pos h5]
    simp only [List.take_succ_cons,List.take_zero,List.cons_append,List.nil_append,List.getD_cons_succ,List.getD_cons_zero,List.length_cons] at h6 ⊢
    rw [if_neg (by intro hh; apply h6; rcases hh with hh | hh; omega; exact .inr hh)]
  rw [if_neg h5] at h
  by_cases h6:signsL.contains d=true
  ·rw [if_pos h6] at h
   injection h with a1 a2 a3
   subst a1 a2 a3
   refine ⟨?_,by omega,by simp⟩
   rw [key (by omega),if_neg h2,if_neg h3,if_neg h4,if_neg h5,if_pos h6]
  ·rw [if_neg h6] at h; cases h
abbrev tokCs:List Comp:=[(false,[.slice 0]),(false,[.int .i64]),(false,[.int .i64]),(false,[.slice 0]),(false,[.pointer 0]),(false,[.int .i64]),(false,[.int .i64])]
def tokI (s:ByteArray) (h:Hp) (x:HVs (flat tokCs)) (n:Nat) (h':Hp):Prop :=
 ∃ (k:Nat) (acc:List Tok),x.2.2.2.2.2.2.1=(k:Int)∧x.2.2.2.2.1=some ⟨h.size,0,none⟩∧k≤s.size∧n=s.size-k ∧
  (∃ a b c d,Box h' h.size 178 [.int .i64 a,.string b,.int .u32 c,.int .i64 d])∧SL h' (h.size+1) 178 4 x.2.2.2.1.1 x.2.2.2.1.2.1 x.2.2.2.1.2.2 (acc.map enc)∧Ext h h'∧h.size+1≤h'.size ∧
  (∃ f,s.size-k<f∧lexS s=lexF s f k acc)∧acc.length≤k
def tokPost (s:ByteArray) (h:Hp) (v:Value) (h':Hp):Prop :=
 ∃ p l c,v=.tuple #[.slice p l c,.int .i64 (lexS s).2.1,.int .i64 (lexS s).2.2]∧SL h' (h.size+1) 178 4 p l c ((lexS s).1.map enc)∧Ext h h'
theorem drop_ext {s:ByteArray} {a:Nat}:(s.extract a (Int.toNat (s.size:Int))).data.toList=s.data.toList.drop a:=by
 rw [ext_list,show Int.toNat (s.size:Int)=s.size by omega]
 exact List.take_of_length_le (by simp)
theorem getD_drop (l:List UInt8) (a:Nat):(l.drop a).getD 0 0=l.getD a 0:=by simp [List.getD]
theorem lexStep_tok {s:ByteArray} {k k':Nat} {t:Tok} (hk:k≤s.size) (h:lexStep s k=.tok t k'):k<k'∧k'≤s.size:=by
 have hsz:s.data.toList.length=s.size:=by simp
 have h1:=rowN_le (s.data.toList.drop k) blanksL
 rw [List.length_drop] at h1
 have:=lexAt_tok (a:=k+rowN (s.data.toList.drop k) blanksL) (by omega) h
 omega
theorem tok_tail {s : ByteArray} {h h2 h5 : Hp} {K : Value → Hp → Prop} {k k' : Nat} {acc : List Tok} {t : Tok} {p2 p7 : Option Addr} {l3 l4 l8 l9 : Nat} {n5 n6 nn kk : Int} (hs : s.size ≤ 2 ^ 40) (hle : k ≤ s.size)
    (hstep : lexStep s k = .tok t k') (hkk : kk = (k' : Int)) (hbox : Box h5 h.size 178 (enc t)) (hch : Ch [h.size] h2 h5) (hsl : SL h2 (h.size + 1) 178 4 p7 l8 l9 (acc.map enc)) (hext : Ext h h2) (hsz2 : h.size + 1 ≤ h2.size)
    (hlex : ∃ f, s.size - k < f ∧ lexS s = lexF s f k acc) (hacc : acc.length ≤ k) :
    (T.loads ⟨h.size, 0, none⟩ [.int .i64, .string, .int .u32, .int .i64] <| fun (n20 : Int) (s21 : ByteArray) (n22 : Int) (n23 : Int) =>
     T.sem Tryz.prog (Instr.buildSlice 174 1 #[(0, .agg #[.int .i64 n20, .string s21, .int .u32 n22, .int .i64 n23])]) false [(false, [.slice 0])] <| fun (p24 : Option Addr) (l25 : Nat) (l26 : Nat) =>
     T.sem Tryz.prog (Builtin.append_ #[174, 174] 174 #[.slice p7 l8 l9, .slice p24 l25 l26]) false [(false, [.slice 0])] <| fun (p27 : Option Addr) (l28 : Nat) (l29 : Nat) =>
     T.again 0 [.slice p2 l3 l4, .int .i64 n5, .int .i64 n6, .slice p27 l28 l29, .pointer (some ⟨h.size, 0, none⟩), .int .i64 nn, .int .i64 kk]) ([] ++ [Jl (cs := tokCs) (tokI s h) (s.size - k)]) K h5 := by
  obtain ⟨hlt, hle'⟩ := lexStep_tok hle hstep
  have hlacc : l8 = acc.length := by rw [hsl.1, List.length_map]
  refine loads_box hbox ((t.kind : Int), t.text, (t.num : Int), (t.at_ : Int), ()) rfl ?_
  have hpn : ∀ a, p7 = some a → h.size + 1 ≤ a.block := by
    intro a ha
    subst ha
    obtain ⟨g, pre, rest, rfl, hbg, _⟩ := hsl.2.2
    exact hbg
  have hsl5 : SL h5 (h.size + 1) 178 4 p7 l8 l9 (acc.map enc) := hsl.keep hch (fun a ha => by have := hpn a ha; simp; omega)
  refine push_of (z := .agg #[.int .i64 0, .string ⟨#[]⟩, .int .u32 0, .int .i64 0]) (sz := 4) (by' := 40) (e := 178) (vs := enc t) (by kernel_rfl) (by kernel_rfl) rfl (by omega) (by omega) (by kernel_rfl) rfl rfl hsl5 (by have := hch.size; omega) (by omega) (by omega) ?_
  intro p' c' h6 hsl6 hch6 _
  refine again_mk (cs := tokCs) ((p2, l3, l4), n5, n6, (p', l8 + 1, c'), some ⟨h.size, 0, none⟩, nn, kk, ()) (s.size - k') rfl (by omega) rfl ?_
  have hnot : h.size ∉ blkOf p7 := by
    cases p7 with
    | none => simp [blkOf]
    | some a => have := hpn a rfl; simp [blkOf]; omega
  refine ⟨k', acc ++ [t], hkk, rfl, hle', rfl, ⟨_, _, _, _, hbox.keep hch6 hnot⟩, ?_, ?_, ?_, ?_, ?_⟩
  · rw [List.map_append]; exact hsl6
  · have e5 : Ext h h5 := Ch.trans hext hch (fun i hi hlt => by simp at hi; omega)
    exact Ch.trans e5 hch6 (fun i hi hlt => by
      cases p7 with
      | none => simp [blkOf] at hi
      | some a => have := hpn a rfl; simp [blkOf] at hi; omega)
  · have := hch.size; have := hch6.size; omega
  · obtain ⟨f, hf, hl⟩ := hlex
    refine ⟨f - 1, by omega, ?_⟩
    rw [hl, show f = (f - 1) + 1 by omega, lexF_tok hstep]
    rfl
  · rw [List.length_append]; simp; omega
theorem tokens_hc (s:ByteArray) (h:Hp) (hs:s.size≤2^40) (hl:Laid h):HC Tryz.prog 95 #[.string s] h (tokPost s h):=by
 refine hcr_of (args:=[.string s]) mixed Tryz.func95 (by kernel_rfl) (t_lex_Tokens_eq s) ?_
 unfold t_lex_Tokens
 have hsz:s.data.toList.length=s.size:=by simp
 refine newB ?_
 intro h1 b1 e1 z1
 refine loop_of (cs:=tokCs) (tokI s h) ((none,0,0),(0:Int),(0:Int),(none,0,0),some ⟨h.size,0,none⟩,(0:Int),(0:Int),()) s.size rfl
  ⟨0,[],rfl,rfl,by omega,by omega,⟨0,⟨#[]⟩,0,0,b1⟩,SL.nil _ _ _ _,e1,by omega,⟨s.size+1,by omega,rfl⟩,by simp⟩ ?_
 rintro ⟨⟨p2,l3,l4⟩,n5,n6,⟨p7,l8,l9⟩,p10,n11,n12,⟨⟩⟩ m h2 ⟨k,acc,hk,hp,hle,rfl,⟨x1,x2,x3,x4,hbox⟩,hsl,hext,hsz2,hlex,hacc⟩
 simp only at hk hp hsl
 subst hk hp
 dsimp only [tokCs,flat,unc,unc1,nA,cA]
 have hr0:=rowN_le (s.data.toList.drop k) blanksL
 rw [List.length_drop] at hr0
 obtain ⟨f,hf,hlx⟩:=hlex
 obtain ⟨f,rfl⟩:∃ f',f=f'+1:=⟨f-1,by omega⟩
 refine need_of ⟨by omega,by omega,by omega⟩ ?_
 refine call_int (row_hc _ _ h2 (by rw [ext_size]; omega)) ?_
 rw [show Int.toNat (k:Int)=k by omega,drop_ext]
 rw [show (⟨#[9,13,32]⟩:ByteArray).data.toList=blanksL from rfl]
 obtain ⟨a,ha⟩:∃ a,a=k+rowN (s.data.toList.drop k) blanksL:=⟨_,rfl⟩
 have hw:IntKind.wrap .i64 ((k:Int)+(rowN (s.data.toList.drop k) blanksL:Int))=(a:Int):=by rw [wrap_i64 (by omega) (by omega)]; omega
 have hstep0:lexStep s k=lexAt s a:=by unfold lexStep; rw [ha]
 have hat:Int.toNat (a:Int)=a:=by omega
 have hale:a≤s.size:=by omega
 rw [hw]
 clear hw ha
 have stop:lexAt s a=.stop→tokPost s h (.tuple #[.slice p7 l8 l9,.int .i64 0,.int .i64 0]) h2:=by
  intro hst
  have he:lexS s=(acc,0,0):=by rw [hlx,lexF_stop (hstep0.trans hst)]
  exact ⟨p7,l8,l9,by rw [he]; rfl,by rw [he]; exact hsl,hext⟩
 have wrong:∀ h',lexAt s a=.wrong a→Ext h h'→tokPost s h (.tuple #[.slice none 0 0,.int .i64 a,.int .i64 20]) h':=by
  intro h' hst he'
  have he:lexS s=([],a,20):=by rw [hlx,lexF_wrong (hstep0.trans hst)]
  exact ⟨none,0,0,by rw [he]; rfl,by rw [he]; exact SL.nil _ _ _ _,he'⟩
 refine cond_mk (fun h3=>?_) (fun h3=>?_)
 ·have h3:=eq_of_beq h3
  exact stop (by unfold lexAt; rw [if_pos (by omega)])
 have h3:=ne_of_beq_false h3
 have hlt:a<s.size:=by omega
 refine need_of ⟨by omega,by omega⟩ ?_
 rw [sbyte_cN,hat]
 refine cond_mk (fun h4=>?_) (fun h4=>?_)
 ·have h4:=eq_of_beq h4
  have h4:s.data.toList.getD a 0=59:=UInt8.toNat_inj.1 (by unfold cN at h4; show _=59; omega)
  exact stop (by unfold lexAt; rw [if_neg (by omega),if_pos h4])
 have h4:=ne_of_beq_false h4
 have h4':¬ s.data.toList.getD a 0=59:=fun hh=>h4 (by rw [hh]; rfl)
 have hA:=lexAt.eq_def s a
 rw [if_neg (by omega),if_neg h4'] at hA
 refine osome_mk rfl (stores_of hbox rfl (by simp) ?_)
 intro h3' hb3 hc3 hz3
 refine need_of ⟨by omega,by omega⟩ (need_of ⟨by omega,by omega,by omega⟩ ?_)
 have hdl:(s.data.toList.drop a).length=s.size-a:=by rw [List.length_drop,hsz]
 refine call_int (row_hc _ _ h3' (by rw [ext_size]; omega)) ?_
 rw [drop_ext,lset]
 have hpos:=rowN_pos (s:=s.data.toList.drop a) (set:=lettersL) (by omega)
 rw [letters_is,getD_drop] at hpos
 refine cond_mk (fun h5=>?_) (fun h5=>?_)
 ·have h5:=of_decide_eq_true h5
  have h5:isLet (s.data.toList.getD a 0)=true:=hpos.1 (by omega)
  rw [if_pos h5] at hA
  refine osome_mk rfl (stores_of hb3 rfl (by simp [setL]) ?_)
  intro h4' hb4 hc4 hz4
  refine need_of ⟨by omega,by omega,by omega⟩ ?_
  refine call_int (row_hc _ _ h4' (by rw [ext_size]; omega)) ?_
  rw [drop_ext,gset]
  have hr1:=rowN_le (s.data.toList.drop a) (lettersL++digitsL)
  rw [show gluedL=lettersL++digitsL from rfl] at hA
  generalize rowN (s.data.toList.drop a) (lettersL++digitsL)=n at hA hr1 ⊢
  have c34:Ch [h.size] h2 h4':=Ch.trans hc3 hc4 (fun i hi _=>hi)
  have e4:Ext h h4':=Ch.trans hext c34 (fun i hi hlt=>by simp at hi; omega)
  refine cond_mk (fun h6=>?_) (fun h6=>?_)
  ·have h6:=of_decide_eq_true h6
   rw [if_pos (by omega)] at hA
   exact wrong _ hA e4
  ·have h6:=of_decide_eq_false h6
   rw [if_neg (by omega)] at hA
   have hw2:IntKind.wrap .i64 ((a:Int)+(n:Int))=((a+n:Nat):Int):=by rw [wrap_i64 (by omega) (by omega)]; omega
   rw [hw2,show Int.toNat ((a+n:Nat):Int)=a+n by omega]
   refine need_of ⟨by omega,by omega,by omega⟩ ?_
   refine osome_mk rfl ?_
   rw [add_box]
   refine stores_of hb4 rfl (by simp [setL]) ?_
   intro h5' hb5 hc5 hz5
   refine osome_mk rfl ?_
   exact tok_tail (t:=⟨1,s.extract a (a+n),0,a⟩) hs hle (hstep0.trans hA) rfl hb5 (Ch.trans c34 hc5 (fun i hi _=>hi)) hsl hext hsz2 ⟨f+1,hf,hlx⟩ hacc
 have h5:=of_decide_eq_false h5
 have h5:¬ isLet (s.data.toList.getD a 0)=true:=fun hh=>h5 (by have:=hpos.2 hh; omega)
 rw [if_neg h5] at hA
 have e3:Ext h h3':=Ch.trans hext hc3 (fun i hi hlt=>by simp at hi; omega)
 refine need_of ⟨by omega,by omega,by omega⟩ ?_
 refine call_int (row_hc _ _ h3' (by rw [ext_size]; omega)) ?_
 rw [drop_ext,show (⟨#[48,49,50,51,52,53,54,55,56,57]⟩:ByteArray).data.toList=digitsL from rfl]
 have hpos2:=rowN_pos (s:=s.data.toList.drop a) (set:=digitsL) (by omega)
 rw [digits_is,getD_drop] at hpos2
 refine cond_mk (fun h6=>?_) (fun h6=>?_)
 ·have h6:=of_decide_eq_true h6
  have h6:isDig (s.data.toList.getD a 0)=true:=hpos2.1 (by omega)
  rw [if_pos h6] at hA
  refine osome_mk rfl (stores_of hb3 rfl (by simp [setL]) ?_)
  intro h4' hb4 hc4 hz4
  have c34:Ch [h.size] h2 h4':=Ch.trans hc3 hc4 (fun i hi _=>hi)
  have e4:Ext h h4':=Ch.trans hext c34 (fun i hi hlt=>by simp at hi; omega)
  refine need_of ⟨by omega,by omega,by omega⟩ ?_
  refine call_of (number_hc _ h4' (by rw [ext_size]; omega) (hl.ext e4)) ?_
  rintro v h5' ⟨rfl,e5⟩
  rw [drop_ext]
  obtain ⟨hn1,hn2⟩:=numL_le (s.data.toList.drop a)
  generalize numL (s.data.toList.drop a)=r at hA hn1 hn2 ⊢
  refine ⟨((r.1:Int),(r.2:Int),()),rfl,?_⟩
  dsimp only [unc,unc1,flat,nA,cA]
  have hb5:=hb4.keep e5 (by simp)
  refine osome_mk rfl ?_
  rw [add_box]
  refine stores_of hb5 rfl (by simp [setL]) ?_
  intro h6' hb6 hc6 hz6
  have c36:Ch [h.size] h2 h6':=Ch.trans (Ch.trans c34 e5 (by simp)) hc6 (fun i hi _=>hi)
  have e6:Ext h h6':=Ch.trans hext c36 (fun i hi hlt=>by simp at hi; omega)
  refine cond_mk (fun h7=>?_) (fun h7=>?_)
  ·have h7:(r.1:Int)=0:=eq_of_beq h7
   rw [if_pos (.inl (by omega))] at hA
   exact wrong _ hA e6
  have h7:(r.1:Int)≠0:=ne_of_beq_false h7
  have hw2:IntKind.wrap .i64 ((a:Int)+(r.1:Int))=((a+r.1:Nat):Int):=by rw [wrap_i64 (by omega) (by omega)]; omega
  rw [hw2,show Int.toNat ((a+r.1:Nat):Int)=a+r.1 by omega]
  refine need_of ⟨by omega,by omega,by omega⟩ ?_
  refine call_int (row_hc _ _ h6' (by rw [ext_size]; omega)) ?_
  rw [drop_ext,gset]
  rw [show gluedL=lettersL++digitsL from rfl] at hA
  refine cond_mk (fun h8=>?_) (fun h8=>?_)
  ·have h8:=of_decide_eq_true h8
   rw [if_pos (.inr (by omega))] at hA
   exact wrong _ hA e6
  ·have h8:=of_decide_eq_false h8
   rw [if_neg (by omega)] at hA
   refine need_of ⟨by omega,by omega,by omega⟩ ?_
   refine osome_mk rfl ?_
   rw [add_box]
   refine stores_of hb6 rfl (by simp [setL]) ?_
   intro h7' hb7 hc7 hz7
   refine osome_mk rfl ?_
   exact tok_tail (t:=⟨2,s.extract a (a+r.1),r.2,a⟩) hs hle (hstep0.trans hA) rfl hb7 (Ch.trans c36 hc7 (fun i hi _=>hi)) hsl hext hsz2 ⟨f+1,hf,hlx⟩ hacc
 have h6:=of_decide_eq_false h6
 have h6:¬ isDig (s.data.toList.getD a 0)=true:=fun hh=>h6 (by have:=hpos2.2 hh; omega)
 rw [if_neg h6] at hA
 have hsb:∀ j:Nat,sbyte s ((a+j:Nat):Int)=cN (s.data.toList.getD (a+j) 0):=fun j=>by rw [sbyte_cN,show Int.toNat ((a+j:Nat):Int)=a+j by omega]
 have hcc:∀ (c:UInt8) (n:Nat),n<256→((cN c=(n:Int))↔c.toNat=n):=fun c n hn=>by unfold cN; omega
 refine cond_mk (fun h7=>?_) (fun h7=>?_)
 ·have h7:cN (s.data.toList.getD a 0)=39:=eq_of_beq h7
  have h7:s.data.toList.getD a 0=39:=UInt8.toNat_inj.1 (by unfold cN at h7; show _=39; omega)
  rw [if_pos h7] at hA
  have hw3:IntKind.wrap .i64 ((s.size:Int)-(a:Int))=(s.size:Int)-(a:Int):=wrap_i64 (by omega) (by omega)
  have hw4:IntKind.wrap .i64 ((a:Int)+1)=((a+1:Nat):Int):=by rw [wrap_i64 (by omega) (by omega)]; omega
  have hw5:IntKind.wrap .i64 ((a:Int)+2)=((a+2:Nat):Int):=by rw [wrap_i64 (by omega) (by omega)]; omega
  have hw6:IntKind.wrap .i64 ((a:Int)+3)=((a+3:Nat):Int):=by rw [wrap_i64 (by omega) (by omega)]; omega
  rw [hw3,hw4,hw5,hw6,hsb 1,hsb 2]
  refine cond_mk (fun h8=>?_) (fun h8=>?_)
  ·have h8:=of_decide_eq_true h8
   rw [if_pos (.inl (by omega))] at hA
   exact wrong _ hA e3
  have h8:=of_decide_eq_false h8
  have hb1:=(s.data.toList.getD (a+1) 0).toNat_lt
  refine need_of ⟨by omega,by omega⟩ ?_
  refine cond_mk (fun h9=>?_) (fun h9=>?_)
  ·have h9:=of_decide_eq_true h9
   rw [if_pos (.inr (.inl (by unfold cN at h9; omega)))] at hA
   exact wrong _ hA e3
  have h9:=of_decide_eq_false h9
  refine need_of ⟨by omega,by omega⟩ ?_
  refine cond_mk (fun h10=>?_) (fun h10=>?_)
  ·have h10:=of_decide_eq_true h10
   rw [if_pos (.inr (.inr (.inl (by unfold cN at h10; omega))))] at hA
   exact wrong _ hA e3
  have h10:=of_decide_eq_false h10
  refine need_of ⟨by omega,by omega⟩ ?_
  refine cond_mk (fun h11=>?_) (fun h11=>?_)
  ·have h11:=eq_of_beq h11
   rw [if_pos (.inr (.inr (.inr (.inl (UInt8.toNat_inj.1 (by unfold cN at h11; show _=39; omega))))))] at hA
   exact wrong _ hA e3
  have h11:=ne_of_beq_false h11
  refine need_of ⟨by omega,by omega⟩ ?_
  refine cond_mk (fun h12=>?_) (fun h12=>?_)
  ·have h12:cN (s.data.toList.getD (a+2) 0)≠39:=by simpa using h12
   rw [if_pos (.inr (.inr (.inr (.inr (fun hh=>h12 (by rw [hh]; rfl))))))] at hA
   exact wrong _ hA e3
  have h12:cN (s.data.toList.getD (a+2) 0)=39:=by simpa using h12
  have h12:s.data.toList.getD (a+2) 0=39:=UInt8.toNat_inj.1 (by unfold cN at h12; show _=39; omega)
  rw [if_neg (by
   intro hh
   rcases hh with hh | hh | hh | hh | hh
   ·omega
   ·unfold cN at h9; omega
   ·unfold cN at h10; omega
   ·exact h11 (by rw [hh]; rfl)
   ·exact hh h12)] at hA
  refine need_of ⟨by omega,by omega⟩ ?_
  refine osome_mk rfl (stores_of hb3 rfl (by simp [setL]) ?_)
  intro h4' hb4 hc4 hz4
  refine osome_mk rfl ?_
  rw [add_box]
  refine stores_of hb4 rfl (by simp [setL]) ?_
  intro h5' hb5 hc5 hz5
  refine need_of ⟨by omega,by omega,by omega⟩ ?_
  refine osome_mk rfl ?_
  rw [add_box]
  refine stores_of hb5 rfl (by simp [setL]) ?_
  intro h6' hb6 hc6 hz6
  refine osome_mk rfl ?_
  rw [show Int.toNat ((a+3:Nat):Int)=a+3 by omega] at hb6
  rw [show IntKind.wrap .u32 (cN (s.data.toList.getD (a+1) 0))=(((s.data.toList.getD (a+1) 0).toNat:Nat):Int) from wrap_u32 (by unfold cN; omega) (by unfold cN; omega)] at hb6
  have c36:Ch [h.size] h2 h6':=Ch.trans (Ch.trans (Ch.trans hc3 hc4 (fun i hi _=>hi)) hc5 (fun i hi _=>hi)) hc6 (fun i hi _=>hi)
  exact tok_tail (t:=⟨2,s.extract a (a+3),(s.data.toList.getD (a+1) 0).toNat,a⟩) hs hle (hstep0.trans hA) rfl hb6 c36 hsl hext hsz2 ⟨f+1,hf,hlx⟩ hacc
 have h7:=ne_of_beq_false h7
 have h7:¬ s.data.toList.getD a 0=39:=fun hh=>h7 (by rw [hh]; rfl)
 rw [if_neg h7] at hA
 refine call_int (indexByte_hc _ _ _) ?_
 rw [show (⟨#[58,44,40,41,43,45,42,61]⟩:ByteArray).data.toList=signsL from rfl]
 have hcon:=Lib.contains_iff_indexByte signsL (s.data.toList.getD a 0)
 rw [show (cN (s.data.toList.getD a 0)).toNat.toUInt8=s.data.toList.getD a 0 from by unfold cN; simp]
 refine cond_mk (fun h8=>?_) (fun h8=>?_)
 ·have h8:=of_decide_eq_true h8
  rw [if_pos (by rw [hcon]; exact decide_eq_true h8)] at hA
  refine osome_mk rfl (stores_of hb3 rfl (by simp [setL]) ?_)
  intro h4' hb4 hc4 hz4
  have hw4:IntKind.wrap .i64 ((a:Int)+1)=((a+1:Nat):Int):=by rw [wrap_i64 (by omega) (by omega)]; omega
  rw [hw4]
  refine need_of ⟨by omega,by omega,by omega⟩ ?_
  refine osome_mk rfl ?_
  rw [add_box]
  refine stores_of hb4 rfl (by simp [setL]) ?_
  intro h5' hb5 hc5 hz5
  refine osome_mk rfl ?_
  rw [show Int.toNat ((a+1:Nat):Int)=a+1 by omega] at hb5
  exact tok_tail (t:=⟨3,s.extract a (a+1),0,a⟩) hs hle (hstep0.trans hA) rfl hb5 (Ch.trans (Ch.trans hc3 hc4 (fun i hi _=>hi)) hc5 (fun i hi _=>hi)) hsl hext hsz2 ⟨f+1,hf,hlx⟩ hacc
 ·have h8:=of_decide_eq_false h8
  rw [if_neg (by rw [hcon]; exact fun hh=>h8 (of_decide_eq_true hh))] at hA
  exact wrong _ hA e3
def flds (P:Program) (t:TypeId):Array Field :=
 match P.underlying t with
 | some (.struct fs)=>fs
 | _=>#[]
theorem bytes_beq (t:ByteArray):(t==t)=true:=by
 cases t with | mk d=>show (d==d)=true; simp
def hv (c:UInt8):Int:=if isHex c=true then (dv c:Int) else -1
def numR (D:List UInt8):Nat × Nat :=
 if D.getD 0 0=39 then
  (if D.length<3∨(D.getD 1 0).toNat<32∨126<(D.getD 1 0).toNat∨D.getD 1 0=39∨D.getD 2 0≠39 then (0,0) else ((D.getD 1 0).toNat,3))
 else if (numL D).1=0∨0<rowN (D.drop (numL D).1) gluedL then (0,0) else ((numL D).2,(numL D).1)
inductive Chain (s:ByteArray):Nat→List Tok→Prop where
 | stop (k:Nat):k≤s.size→lexD (s.data.toList.drop (k+rowN (s.data.toList.drop k) blanksL))=.stop→Chain s k []
 | tok (k kind n m:Nat) (ts:List Tok):k≤s.size→lexD (s.data.toList.drop (k+rowN (s.data.toList.drop k) blanksL))=.tok kind n m→Chain s (k+rowN (s.data.toList.drop k) blanksL+n) ts →
   Chain s k (⟨kind,s.extract (k+rowN (s.data.toList.drop k) blanksL) (k+rowN (s.data.toList.drop k) blanksL+n),m,k+rowN (s.data.toList.drop k) blanksL⟩::ts)
theorem blank_le {s:ByteArray} {k:Nat} (hk:k≤s.size):k+rowN (s.data.toList.drop k) blanksL≤s.size:=by
 have h1:=rowN_le (s.data.toList.drop k) blanksL
 rw [List.length_drop] at h1
 have hsz:s.data.toList.length=s.size:=by simp
 omega
theorem lexStep_lexD {s:ByteArray} {k:Nat} (hk:k≤s.size):lexStep s k=mkStep s (k+rowN (s.data.toList.drop k) blanksL) (lexD (s.data.toList.drop (k+rowN (s.data.toList.drop k) blanksL))):=by
 unfold lexStep
 exact lexAt_lexD s _ (blank_le hk)
theorem lexD_pos {D:List UInt8} {k n m:Nat} (h:lexD D=.tok k n m):0<n∧n≤D.length:=(lexD_local (E:=[]) h (.inl rfl)).2
theorem lexD_nil:lexD []=.stop:=rfl
theorem lexF_chain {s:ByteArray}:∀ (f k:Nat) (acc:List Tok),k≤s.size→s.size-k<f →
  (∃ ts,Chain s k ts∧lexF s f k acc=(acc++ts,0,0))∨(∃ a,a<s.size∧lexF s f k acc=([],a,20))
 | 0,k,acc,hk,hf=>by omega
 | f+1,k,acc,hk,hf=>by
  have hst:=lexStep_lexD hk
  have ha:=blank_le hk
  have hsz:s.data.toList.length=s.size:=by simp
  cases hD:lexD (s.data.toList.drop (k+rowN (s.data.toList.drop k) blanksL)) with
  | stop =>
   rw [hD] at hst
   exact .inl ⟨[],.stop k hk hD,by rw [lexF_stop hst,List.append_nil]⟩
  | wrong =>
   rw [hD] at hst
   refine .inr ⟨_,?_,lexF_wrong hst⟩
   rcases Nat.lt_or_ge (k+rowN (s.data.toList.drop k) blanksL) s.size with h | h
   ·exact h
   ·rw [List.drop_eq_nil_of_le (by omega),lexD_nil] at hD; cases hD
  | tok kind n m =>
   rw [hD] at hst
   obtain ⟨h1,h2⟩:=lexD_pos hD
   rw [List.length_drop] at h2
   rcases lexF_chain (s:=s) f (k+rowN (s.data.toList.drop k) blanksL+n) (acc++[⟨kind,s.extract (k+rowN (s.data.toList.drop k) blanksL) (k+rowN (s.data.toList.drop k) blanksL+n),m,k+rowN (s.data.toList.drop k) blanksL⟩]) (by omega) (by omega) with ⟨ts,hc,he⟩ | ⟨a,ha',he⟩
   ·refine .inl ⟨_,.tok k kind n m ts hk hD hc,?_⟩
    rw [lexF_tok hst,he,List.append_assoc,List.singleton_append]
   ·exact .inr ⟨a,ha',by rw [lexF_tok hst,he]⟩
theorem chain_lexF {s:ByteArray} {k:Nat} {ts:List Tok} (h:Chain s k ts):∀ (f:Nat) (acc:List Tok),s.size-k<f→lexF s f k acc=(acc++ts,0,0):=by
 induction h with
 | stop k hk hD =>
  intro f acc hf
  obtain ⟨f,rfl⟩:∃ f',f=f'+1:=⟨f-1,by omega⟩
  have hst:=lexStep_lexD hk
  rw [hD] at hst
  rw [lexF_stop hst,List.append_nil]
 | tok k kind n m ts hk hD hc ih =>
  intro f acc hf
  obtain ⟨f,rfl⟩:∃ f',f=f'+1:=⟨f-1,by omega⟩
  have hst:=lexStep_lexD hk
  rw [hD] at hst
  obtain ⟨h1,h2⟩:=lexD_pos hD
  have ha:=blank_le hk
  have hsz:s.data.toList.length=s.size:=by simp
  rw [List.length_drop] at h2
  rw [lexF_tok hst,ih f _ (by omega),List.append_assoc,List.singleton_append]
theorem lexS_cases (s:ByteArray):(Chain s 0 (lexS s).1∧(lexS s).2=(0,0))∨(∃ a,a<s.size∧lexS s=([],a,20)):=by
 rcases lexF_chain (s:=s) (s.size+1) 0 [] (by omega) (by omega) with ⟨ts,hc,he⟩ | ⟨a,ha,he⟩
 ·refine .inl ?_
  unfold lexS
  rw [he]
  exact ⟨hc,rfl⟩
 ·exact .inr ⟨a,ha,he⟩
theorem chain_lexS {s:ByteArray} {ts:List Tok} (h:Chain s 0 ts):lexS s=(ts,0,0):=by
 unfold lexS
 rw [chain_lexF h _ _ (by omega)]; rfl
theorem ba_ext {s t:ByteArray} (h:s.data.toList=t.data.toList):s=t:=by
 cases s; cases t
 simp only at h
 congr 1
 exact Array.toList_inj.1 h
theorem rowN_append_all {set D E:List UInt8} (h:rowN D set=D.length):rowN (D++E) set=D.length+rowN E set:=by
 unfold rowN at h ⊢
 induction D with
 | nil=>simp
 | cons d D ih =>
  simp only [List.cons_append,List.takeWhile_cons] at h ⊢
  cases hd:set.contains d with
  | false=>rw [hd] at h; simp at h
  | true =>
   rw [hd] at h
   simp only [if_true,List.length_cons] at h ⊢
   rw [ih (by omega)]
   omega
theorem chain_len {s:ByteArray} {k:Nat} {ts:List Tok} (h:Chain s k ts):k+ts.length≤s.size:=by
 induction h with
 | stop k hk _=>simpa using hk
 | tok k kind n m ts hk hD hc ih =>
  have:=(lexD_pos hD).1
  rw [List.length_cons]
  omega
theorem lexS_len (s:ByteArray):(lexS s).1.length≤s.size:=by
 rcases lexS_cases s with ⟨hc,_⟩ | ⟨a,ha,he⟩
 ·have:=chain_len hc; omega
 ·rw [he]; simp
structure Ent where
 p:Option Addr
 l:Nat
 c:Nat
 q:Option Addr
 d:Nat
 ts:List Tok
def Ent.one (e:Ent):List Value:=[.slice e.p e.l e.c]
def Ent.two (e:Ent):List Value:=[.slice e.q e.l e.d]
theorem blkOf_add (p:Option Addr) (k:Nat):blkOf (p.map fun a=>a.add k)=blkOf p:=by
 cases p with
 | none=>rfl
 | some a=>simp [blkOf,add_block]
def Since (b:Nat) (h h':Hp):Prop:=h.size≤h'.size∧∀ i,i<b→i<h.size→h'[i]?=h[i]?
theorem Since.of {ws:List Nat} {b:Nat} {h h':Hp} (k:Ch ws h h') (hw:∀ i,i∈ws→i<h.size→b≤i):Since b h h' :=
 ⟨k.size,fun i hi hl=>k.same i hl fun hm=>by have:=hw i hm hl; omega⟩
theorem Since.trans {b:Nat} {h h1 h2:Hp} (a:Since b h h1) (c:Since b h1 h2):Since b h h2 :=
 ⟨Nat.le_trans a.1 c.1,fun i hi hl=>(c.2 i hi (Nat.lt_of_lt_of_le hl a.1)).trans (a.2 i hi hl)⟩
theorem Since.ext {h h1 h2:Hp} (a:Ext h h1) (c:Since h.size h1 h2):Ext h h2 :=
 ⟨Nat.le_trans a.size c.1,fun i hi _=>(c.2 i hi (Nat.lt_of_lt_of_le hi a.size)).trans (a.same i hi (by simp))⟩
def mkL (k j:Nat):List Value:=[.int .i64 (IntKind.wrap .i64 (-100-(k:Int))),.string ⟨#[]⟩,.int .u32 0,.int .i64 (IntKind.wrap .i64 (0-(j:Int)))]
def Room (h:Hp) (b:Nat) (p:Option Addr) (c k m:Nat):Prop :=
 match p with
 | none=>c=0
 | some a=>∃ g o cells,a=⟨g,o,none⟩∧b≤g∧c<9223372036854775808∧Box h g 178 cells∧o+c*4≤cells.length∧∀ j,j<m→(cells.drop (o+j*4)).take 4=mkL k j
theorem Room.keep {ws:List Nat} {h h':Hp} {b:Nat} {p:Option Addr} {c k m:Nat} (r:Room h b p c k m) (kk:Ch ws h h') (hw:∀ i,i∈blkOf p→i∉ws):Room h' b p c k m:=by
 cases p with
 | none=>exact r
 | some a =>
  obtain ⟨g,o,cells,rfl,hbg,hc,hbox,hr,hm⟩:=r
  exact ⟨g,o,cells,rfl,hbg,hc,hbox.keep kk (hw g (by simp [blkOf])),hr,hm⟩
def isS (t:Tok) (c:UInt8):Bool:=t.kind==3 && t.text.data.toList==[c]
def argsS (n:Nat):List Tok→List (List Tok)→List Tok→Except Nat (List (List Tok))
 | [],done,cur=>if cur=[] then .error n else .ok (done++[cur])
 | t::ts,done,cur=>if (isS t 58 || (isS t 44 && decide (cur=[])))=true then .error t.at_ else if isS t 44=true then argsS n ts (done++[cur]) [] else argsS n ts done (cur++[t])
def argsA (n:Nat) (ts:List Tok):Except Nat (List (List Tok)):=if ts=[] then .ok [] else argsS n ts [] []
structure Ln where
 label:ByteArray
 op:ByteArray
 args:List (List Tok)
def lnNil:Ln:=⟨⟨#[]⟩,⟨#[]⟩,[]⟩
def labB:List Tok→Bool
 | t::u::_=>decide (t.kind=1) && isS u 58
 | _=>false
def parseT (n:Nat) (lab:ByteArray):List Tok→Ln × Nat × Nat
 | []=>(⟨lab,⟨#[]⟩,[]⟩,0,0)
 | t::ts=>if t.kind≠1 then (lnNil,t.at_,20) else match argsA n ts with
  | .error a=>(lnNil,a,20)
  | .ok l=>(⟨lab,t.text,l⟩,0,0)
def parseL (n:Nat) (ts:List Tok):Ln × Nat × Nat :=
 if labB ts=true then parseT n ((ts.head?.map (·.text)).getD ⟨#[]⟩) (ts.drop 2) else parseT n ⟨#[]⟩ ts
def parseS (s:ByteArray):Ln × Nat × Nat:=if (lexS s).2.2≠0 then (lnNil,(lexS s).2.1,(lexS s).2.2) else parseL s.size (lexS s).1
theorem isS_val {t:Tok} {c:UInt8}:(((t.kind:Int)==3) && (ByteArray.toList t.text==ByteArray.toList ⟨#[c]⟩))=isS t c:=by
 unfold isS
 rw [ByteArray.toList_eq,ByteArray.toList_eq]
 congr 1
 by_cases h:t.kind=3
 ·rw [h]; rfl
 ·have h1:((t.kind:Int)==3)=false:=by simp; omega
  have h2:(t.kind==3)=false:=by simp; omega
  rw [h1,h2]
theorem is_hc (t:Tok) (c:UInt8) (h:Hp):HC Tryz.prog 96 #[.agg #[.int .i64 t.kind,.string t.text,.int .u32 t.num,.int .i64 t.at_],.string ⟨#[c]⟩] h fun v h'=>v=.bool (isS t c)∧Ext h h':=by
 refine hcr_of (args:=[.agg #[.int .i64 t.kind,.string t.text,.int .u32 t.num,.int .i64 t.at_],.string ⟨#[c]⟩]) mixed Tryz.func96 (by kernel_rfl) (t_line_is_eq _ _ _ _ _) ?_
 unfold t_line_is
 refine newB ?_
 intro h1 b1 e1 z1
 refine loads_box b1 ((t.kind:Int),()) rfl ?_
 dsimp only [flat,unc,unc1,nA,cA]
 rw [← isS_val]
 refine cond_mk (fun g1=>?_) (fun g1=>?_)
 ·rw [add_box]
  refine loads_box b1 (t.text,()) rfl ?_
  exact ⟨by rw [g1]; rfl,e1⟩
 ·exact ⟨by rw [g1]; rfl,e1⟩
structure In where
 p:Option Addr
 l:Nat
 c:Nat
 ts:List Tok
def In.val (a:In):List Value:=[.slice a.p a.l a.c]
structure Args (h:Hp) (b:Nat) (te es:TypeId) (p:Option Addr) (c:Nat) (al:List In):Prop where
 out:SL h b te 1 p al.length c (al.map In.val)
 inn:∀ a,a∈al→SL h b es 4 a.p a.l a.c (a.ts.map enc)
 po:∀ a,a∈al→∀ i,i∈blkOf a.p→i∉blkOf p
 pp:al.Pairwise fun a a'=>∀ i,i∈blkOf a.p→i∉blkOf a'.p
theorem Args.keep {ws:List Nat} {h h':Hp} {b:Nat} {te es:TypeId} {p:Option Addr} {c:Nat} {al:List In} (A:Args h b te es p c al) (k:Ch ws h h') (h1:∀ i,i∈blkOf p→i∉ws) (h2:∀ a,a∈al→∀ i,i∈blkOf a.p→i∉ws):Args h' b te es p c al :=
 ⟨A.out.keep' k h1,fun a ha=>(A.inn a ha).keep' k (h2 a ha),A.po,A.pp⟩
theorem Args.mono {h:Hp} {b b':Nat} {te es:TypeId} {p:Option Addr} {c:Nat} {al:List In} (A:Args h b te es p c al) (hb:b'≤b):Args h b' te es p c al :=
 ⟨A.out.mono hb,fun a ha=>(A.inn a ha).mono hb,A.po,A.pp⟩
theorem Args.nil (h:Hp) (b:Nat) (te es:TypeId):Args h b te es none 0 []:=⟨SL.nil _ _ _ _,by simp,by simp,List.Pairwise.nil⟩
theorem Args.snoc {h h':Hp} {b:Nat} {te es:TypeId} {p p':Option Addr} {c c':Nat} {al:List In} (A:Args h b te es p c al) {a:In} (hb:b≤h.size) (o:SL h' b te 1 p' (al.length+1) c' (al.map In.val++[a.val])) (k:Ch (blkOf p) h h') (hp:p'=p∨∃ x,p'=some x∧h.size≤x.block)
  (ha:SL h b es 4 a.p a.l a.c (a.ts.map enc)) (h1:∀ i,i∈blkOf a.p→i∉blkOf p) (h2:∀ x,x∈al→∀ i,i∈blkOf x.p→i∉blkOf a.p):Args h' b te es p' c' (al++[a]):=by
 have hp':∀ i,i∈blkOf p'→i∈blkOf p∨h.size≤i:=by
  intro i hi
  rcases hp with rfl | ⟨x,rfl,hx⟩
  ·exact .inl hi
  ·simp [blkOf] at hi; right; omega
 refine ⟨by rw [List.length_append,List.map_append]; exact o,fun x hx=>?_,fun x hx i hi hh=>?_,List.pairwise_append.2 ⟨A.pp,by simp,fun x hx y hy i hi=>?_⟩⟩
 ·rcases List.mem_append.1 hx with hx | hx
  ·exact (A.inn x hx).keep' k fun i hi=>A.po x hx i hi
  ·have hx:x=a:=by simpa using hx
   subst hx
   exact ha.keep' k h1
 ·rcases List.mem_append.1 hx with hx | hx
  ·rcases hp' i hh with h' | h'
   ·exact A.po x hx i hi h'
   ·have:=((A.inn x hx).blk hi).2; omega
  ·have hx:x=a:=by simpa using hx
   subst hx
   rcases hp' i hh with h' | h'
   ·exact h1 i hi h'
   ·have:=(ha.blk hi).2; omega
 ·have hy:y=a:=by simpa using hy
  subst hy
  exact h2 x hx i hi
theorem Args.last {h h' h'':Hp} {b:Nat} {te es:TypeId} {p:Option Addr} {c:Nat} {dn:List In} {a a':In} (A:Args h b te es p c (dn++[a])) (ha:SL h' b es 4 a'.p a'.l a'.c (a'.ts.map enc)) (k:Ch (blkOf a.p) h h') (hp:a'.p=a.p∨∃ x,a'.p=some x∧h.size≤x.block)
  (o:SL h'' b te 1 p (dn++[a]).length c (((dn++[a]).map In.val).set dn.length a'.val)) (k':Ch (blkOf p) h' h''):Args h'' b te es p c (dn++[a']):=by
 have hp':∀ i,i∈blkOf a'.p→i∈blkOf a.p∨h.size≤i:=by
  intro i hi
  rcases hp with hp | ⟨x,hp,hx⟩
  ·rw [hp] at hi; exact .inl hi
  ·rw [hp] at hi; simp [blkOf] at hi; right; omega
 obtain ⟨A1,A2,A3,A4⟩:=A
 have hpp:=List.pairwise_append.1 A4
 have hset:((dn++[a]).map In.val).set dn.length a'.val=(dn++[a']).map In.val:=by
  rw [List.map_append,List.map_append,List.set_append_right _ _ (by simp)]
  simp
 rw [hset] at o
 have pa:∀ i,i∈blkOf a.p→i∉blkOf p:=A3 a (by simp)
 have pa':∀ i,i∈blkOf a'.p→i∉blkOf p:=by
  intro i hi hh
  rcases hp' i hi with h1 | h1
  ·exact pa i h1 hh
  ·have:=(A1.blk hh).2; omega
 refine ⟨by simpa using o,fun x hx=>?_,fun x hx i hi=>?_,List.pairwise_append.2 ⟨hpp.1,by simp,fun x hx y hy i hi hh=>?_⟩⟩
 ·rcases List.mem_append.1 hx with hx | hx
  ·exact ((A2 x (by simp [hx])).keep' k fun i hi=>hpp.2.2 x hx a (by simp) i hi).keep' k' fun i hi=>A3 x (by simp [hx]) i hi
  ·have hx:x=a':=by simpa using hx
   subst hx
   exact ha.keep' k' pa'
 ·rcases List.mem_append.1 hx with hx | hx
  ·exact A3 x (by simp [hx]) i hi
  ·have hx:x=a':=by simpa using hx
   subst hx
   exact pa' i hi
 ·have hy:y=a':=by simpa using hy
  subst hy
  rcases hp' i hh with h1 | h1
  ·exact hpp.2.2 x hx a (by simp) i hi h1
  ·have:=((A2 x (by simp [hx])).blk hi).2; omega
structure Vw (h:Hp) (p:Option Addr) (l c:Nat) (us:List Tok):Prop where
 len:l=us.length
 cap:l≤c
 cells:∀ i,(hi:i<us.length)→∃ a,p=some a∧cellsAt h (a.add (i*4)) 0 (enc us[i])
theorem Vw.keep {ws:List Nat} {h h':Hp} {p:Option Addr} {l c:Nat} {us:List Tok} (v:Vw h p l c us) (k:Ch ws h h') (hw:∀ i,i∈blkOf p→i∉ws):Vw h' p l c us :=
 ⟨v.len,v.cap,fun i hi=>by
  obtain ⟨a,ha,hc⟩:=v.cells i hi
  exact ⟨a,ha,cellsAt_keep k (by rw [add_block]; exact hw _ (by rw [ha]; simp [blkOf])) _ _ hc⟩⟩
theorem SL.vw {h:Hp} {b:Nat} {e:TypeId} {p:Option Addr} {l c:Nat} {us:List Tok} (s:SL h b e 4 p l c (us.map enc)):Vw h p l c us:=by
 refine ⟨by rw [s.1,List.length_map],?_,fun i hi=>?_⟩
 ·cases p with
  | none =>
   have h1:=s.1
   rw [s.2.2.2,List.length_nil] at h1
   omega
  | some a=>obtain ⟨_,_,_,_,_,hh,_⟩:=s.2.2; exact hh.1
 ·obtain ⟨a,ha,hc⟩:=s.cells (i:=i) (by simpa using hi)
  rw [List.getElem_map] at hc
  exact ⟨a,ha,hc⟩
theorem add_add (a:Addr) (i j:Nat):(a.add i).add j=a.add (i+j):=by
 unfold Addr.add
 by_cases hi:i=0 <;> by_cases hj:j=0 <;> simp [hi,hj] <;> omega
theorem Vw.drop {h:Hp} {p:Option Addr} {l c:Nat} {us:List Tok} (v:Vw h p l c us) {k:Nat} (hk:k≤l):Vw h (if c=k then p else p.map fun a=>a.add (k*4)) (l-k) (c-k) (us.drop k):=by
 have:=v.len
 have:=v.cap
 refine ⟨by rw [List.length_drop]; omega,by omega,fun i hi=>?_⟩
 rw [List.length_drop] at hi
 rw [if_neg (by omega)]
 obtain ⟨a,rfl,hc⟩:=v.cells (k+i) (by omega)
 refine ⟨_,rfl,?_⟩
 rw [add_add,← Nat.add_mul,List.getElem_drop]
 exact hc
theorem blkOf_if (p:Option Addr) (c k n:Nat):blkOf (if c=k then p else p.map fun a=>a.add n)=blkOf p:=by
 split
 ·rfl
 ·exact blkOf_add p n
def argsPost (n:Nat) (ts:List Tok) (h:Hp) (v:Value) (h':Hp):Prop :=
 Ext h h'∧match argsA n ts with
 | .error a=>v=.tuple #[.slice none 0 0,.int .i64 a,.int .i64 20]
 | .ok l=>∃ p c al,v=.tuple #[.slice p al.length c,.int .i64 0,.int .i64 0]∧Args h' h.size 174 178 p c al∧al.map In.ts=l
abbrev argCs:List Comp:=[(false,[.slice 0]),(false,[.int .i64]),(false,[.int .i64]),(false,[.slice 0]),(false,[.int .i64])]
def argI (n:Nat) (us:List Tok) (h:Hp) (x:HVs (flat argCs)) (m:Nat) (h':Hp):Prop :=
 ∃ (i:Nat) (dn:List In) (cu:In),x.2.2.2.2.1=(i:Int)∧i≤us.length∧m=us.length-i∧Ext h h'∧x.2.2.2.1.2.1=dn.length+1∧Args h' h.size 174 178 x.2.2.2.1.1 x.2.2.2.1.2.2 (dn++[cu]) ∧
  argsS n us [] []=argsS n (us.drop i) (dn.map In.ts) cu.ts∧dn.length≤i∧cu.ts.length≤i
theorem tokZ:(Tryz.prog.info? 178).map (fun i=>(i.zero,i.size,i.bytes))=some (some (.agg #[.int .i64 0,.string ⟨#[]⟩,.int .u32 0,.int .i64 0]),4,40):=by kernel_rfl
theorem slZ:(Tryz.prog.info? 174).map (fun i=>(i.zero,i.size,i.bytes))=some (some (.slice none 0 0),1,24):=by kernel_rfl
theorem und38:Tryz.prog.underlying 128=some (.slice 174):=by kernel_rfl
theorem und23:Tryz.prog.underlying 174=some (.slice 178):=by kernel_rfl
theorem arguments_hc (s:ByteArray) {h:Hp} {pp:Option Addr} {ll cc:Nat} {us:List Tok} (hu:us.length≤2^40) (sl:Vw h pp ll cc us) :
  HC Tryz.prog 97 #[.string s,.slice pp ll cc] h (argsPost s.size us h):=by
 refine hcr_of (args:=[.string s,.slice pp ll cc]) mixed Tryz.func97 (by kernel_rfl) (t_line_arguments_eq s pp ll cc) ?_
 unfold t_line_arguments
 have hll:ll=us.length:=sl.len
 refine cond_mk (fun g1=>?_) (fun g1=>?_)
 ·have g1:(ll:Int)=0:=eq_of_beq g1
  have:us=[]:=List.eq_nil_of_length_eq_zero (by omega)
  subst this
  exact ⟨Ch.refl _ _,none,0,[],rfl,Args.nil _ _ _ _,rfl⟩
 have g1:(ll:Int)≠0:=ne_of_beq_false g1
 have hne:us≠[]:=fun hh=>by rw [hh] at hll; simp at hll; omega
 refine lit_of (e:=174) (cells:=[.slice none 0 0]) und38 slZ (by omega) (by omega) (by kernel_rfl) ?_
 intro h1 b1 e1 z1
 have A1:Args h1 h.size 174 178 (some ⟨h.size,0,none⟩) 1 ([]++[⟨none,0,0,[]⟩]):=by
  refine ⟨⟨rfl,by simp [In.val],h.size,[],[],rfl,Nat.le_refl _,⟨by simp,by omega⟩,?_,rfl⟩,?_,?_,by simp⟩
  ·simpa [In.val] using b1
  ·intro a ha
   have ha:a=⟨none,0,0,[]⟩:=by simpa using ha
   subst ha
   exact SL.nil _ _ _ _
  ·intro a ha i hi
   have ha:a=⟨none,0,0,[]⟩:=by simpa using ha
   subst ha
   simp [blkOf] at hi
 refine loop_of (cs:=argCs) (argI s.size us h) ((none,0,0),(0:Int),(0:Int),(some ⟨h.size,0,none⟩,1,1),(0:Int),()) us.length rfl
  ⟨0,[],⟨none,0,0,[]⟩,rfl,by omega,by omega,e1,rfl,A1,rfl,by simp,by simp⟩ ?_
 clear A1 b1 e1 z1 h1
 rintro ⟨⟨p5,l6,l7⟩,n8,n9,⟨p10,l11,l12⟩,n13,⟨⟩⟩ m h2 ⟨i,dn,cu,hi,hile,rfl,e2,hl11,A,hrec,hdn,hcu⟩
 simp only at hi hl11 A
 subst hi hl11
 dsimp only [argCs,flat,unc,unc1,nA,cA]
 have hlen:(dn++[cu]).length=dn.length+1:=by simp
 have hwl:IntKind.wrap .i64 (((dn.length+1:Nat):Int)-1)=(dn.length:Int):=by rw [wrap_i64 (by omega) (by omega)]; omega
 rw [hwl]
 have hlast:∀ {hh:Hp} {p':Option Addr} {c':Nat},Args hh h.size 174 178 p' c' (dn++[cu])→∃ a,p'=some a∧cellsAt hh (a.add (dn.length*1)) 0 [.slice cu.p cu.l cu.c]:=by
  intro hh p' c' A'
  obtain ⟨a,ha,hc⟩:=A'.out.cells (i:=dn.length) (by simp)
  refine ⟨a,ha,?_⟩
  have:((dn++[cu]).map In.val)[dn.length]'(by simp)=[.slice cu.p cu.l cu.c]:=by simp [In.val]
  rw [this] at hc
  exact hc
 have hcul:cu.l=cu.ts.length:=by have:=(A.inn cu (by simp)).1; rw [this,List.length_map]
 refine cond_mk (fun g2=>?_) (fun g2=>?_)
 ·have g2:=of_decide_eq_true g2
  have hlt:i<us.length:=by omega
  obtain ⟨a,rfl,hcell⟩:=(sl.keep e2 (by simp)).cells i hlt
  have hdr:us.drop i=us[i]::us.drop (i+1):=List.drop_eq_getElem_cons hlt
  rw [hdr] at hrec
  generalize us[i]=t at hcell hrec
  refine need_of ⟨by omega,by omega⟩ (osome_mk rfl ?_)
  rw [show Int.toNat (i:Int)=i by omega]
  refine loads_of ((t.kind:Int),t.text,(t.num:Int),(t.at_:Int),()) hcell ?_
  dsimp only [flat,unc,unc1,nA,cA]
  refine newB ?_
  intro h3 b3 e3 z3
  refine stores_of b3 rfl (by simp) ?_
  intro h4 b4 k4 z4
  have b4:Box h4 h2.size 178 (enc t):=b4
  have e24:Ext h2 h4:=Ch.trans e3 k4 (fun j hj hjl=>by simp at hj; omega)
  have A4:=A.keep e24 (by simp) (by simp)
  have hld:∀ {hh:Hp} {L:Lp} {K:Value→Hp→Prop} {kk:Int→ByteArray→Int→Int→T},Ext h4 hh→kk t.kind t.text t.num t.at_ L K hh→T.loads (⟨h2.size,0,none⟩:Addr) [.int .i64,.string,.int .u32,.int .i64] kk L K hh:=by
   intro hh L K kk e hk
   exact loads_box (b4.keep e (by simp)) ((t.kind:Int),t.text,(t.num:Int),(t.at_:Int),()) rfl hk
  refine join_of (cs:=[(false,[.bool])]) (fun y h'=>y.1=(isS t 58 || (isS t 44 && decide (cu.ts=[])))∧Ext h4 h') ?_ ?_
  ·refine hld (Ch.refl _ _) ?_
   refine call_boolx (is_hc t 58 h4) ?_
   intro h5 e5
   refine cond_mk (fun g3=>?_) (fun g3=>?_)
   ·exact meet_mk (cs:=[(false,[.bool])]) (true,()) rfl rfl ⟨by rw [g3]; rfl,e5⟩
   ·refine hld e5 ?_
    refine call_boolx (is_hc t 44 h5) ?_
    intro h6 e6
    refine cond_mk (fun g4=>?_) (fun g4=>?_)
    ·obtain ⟨a',ha',hc'⟩:=hlast (A4.keep (e5.trans e6) (by simp) (by simp))
     refine need_of ⟨by omega,by omega⟩ (osome_mk ha' ?_)
     rw [show Int.toNat (dn.length:Int)=dn.length by omega]
     refine loads_of ((cu.p,cu.l,cu.c),()) hc' ?_
     dsimp only [flat,unc,unc1,nA,cA]
     refine meet_mk (cs:=[(false,[.bool])]) (((cu.l:Int)==0),()) rfl rfl ⟨?_,e5.trans e6⟩
     show ((cu.l:Int)==0)=_
     rw [g3,g4,Bool.false_or,Bool.true_and,hcul]
     by_cases hh:cu.ts=[]
     ·rw [hh]; rfl
     ·have:cu.ts.length≠0:=fun h0=>hh (List.eq_nil_of_length_eq_zero h0)
      rw [decide_eq_false hh]
      simp only [beq_eq_false_iff_ne,ne_eq]
      omega
    ·exact meet_mk (cs:=[(false,[.bool])]) (false,()) rfl rfl ⟨by rw [g3,g4]; rfl,e5.trans e6⟩
  ·rintro ⟨b20,⟨⟩⟩ h5 ⟨hb20,e5⟩
   simp only at hb20
   subst hb20
   dsimp only [flat,unc,unc1,nA,cA]
   have e25:=e2.trans (e24.trans e5)
   refine cond_mk (fun g3=>?_) (fun g3=>?_)
   ·rw [add_box]
    refine loads_box (b4.keep e5 (by simp)) ((t.at_:Int),()) rfl ?_
    refine ⟨⟨(b4.keep e5 (by simp)).cells _ rfl,trivial⟩,?_⟩
    refine ⟨e25,?_⟩
    have:argsA s.size us=.error t.at_:=by
     unfold argsA
     rw [if_neg hne,hrec]
     unfold argsS
     rw [if_pos g3]
    rw [this]
   ·rw [show argsS s.size (t::us.drop (i+1)) (dn.map In.ts) cu.ts=if isS t 44=true then argsS s.size (us.drop (i+1)) (dn.map In.ts++[cu.ts]) [] else argsS s.size (us.drop (i+1)) (dn.map In.ts) (cu.ts++[t]) by
     conv=>lhs; unfold argsS
     rw [if_neg (by rw [g3]; simp)]] at hrec
    refine hld e5 ?_
    refine call_boolx (is_hc t 44 h5) ?_
    intro h6 e6
    have hw:IntKind.wrap .i64 ((i:Int)+1)=((i+1:Nat):Int):=by rw [wrap_i64 (by omega) (by omega)]; omega
    have A6:=A4.keep (e5.trans e6) (by simp) (by simp)
    have e26:Ext h h6:=e25.trans e6
    have hs6:=e26.size
    refine cond_mk (fun g4=>?_) (fun g4=>?_)
    ·rw [if_pos g4] at hrec
     refine push_of (e:=174) (vs:=[.slice none 0 0]) und38 slZ rfl (by omega) (by omega) (by kernel_rfl) rfl rfl (by rw [← hlen]; exact A6.out) hs6 (by omega) (by omega) ?_
     intro p' c' h7 o7 k7 hp7
     refine again_mk (cs:=argCs) ((p5,l6,l7),n8,n9,(p',dn.length+1+1,c'),((i+1:Nat):Int),()) (us.length-(i+1)) rfl (by omega) (by rw [hw]; rfl) ?_
     refine ⟨i+1,dn++[cu],⟨none,0,0,[]⟩,rfl,by omega,rfl,?_,by simp,A6.snoc hs6 (by rw [hlen]; exact o7) k7 hp7 (SL.nil _ _ _ _) (by simp [blkOf]) (by simp [blkOf]),?_,by simp; omega,by simp⟩
     ·exact Ch.trans e26 k7 (fun j hj hjl=>by have:=(A6.out.blk hj).1; omega)
     ·rw [hrec,List.map_append]; rfl
    ·rw [if_neg (by rw [g4]; simp)] at hrec
     obtain ⟨a',rfl,hc'⟩:=hlast A6
     refine need_of ⟨by omega,by omega⟩ (osome_mk rfl ?_)
     rw [show Int.toNat (dn.length:Int)=dn.length by omega]
     refine loads_of ((cu.p,cu.l,cu.c),()) hc' ?_
     dsimp only [flat,unc,unc1,nA,cA]
     refine hld (e5.trans e6) ?_
     have ab:a'.block∈blkOf (some a'):=by simp [blkOf]
     refine push_st (e:=178) (vs:=enc t) und23 tokZ rfl (by omega) (by omega) (by kernel_rfl) rfl rfl (A6.inn cu (by simp)) hs6 (by omega) (by omega) (fun h' e=>⟨cellsAt_keep e (by simp) _ _ hc',trivial⟩) ?_
     intro p7 c7 h7 o7 k7 hp7
     have hch7:h2.size∉blkOf cu.p:=fun hh=>by have:=((A.inn cu (by simp)).blk hh).2; omega
     refine ⟨⟨((b4.keep (e5.trans e6) (by simp)).keep k7 hch7).cells _ rfl,trivial⟩,?_⟩
     refine need_of ⟨by omega,by omega⟩ (osome_mk rfl ?_)
     have o6:=A6.out.keep' k7 (fun j hj hh=>A6.po cu (by simp) j hh hj)
     refine o6.store (P:=Tryz.prog) (i:=dn.length) (by simp) (vs:=[.slice p7 (cu.l+1) c7]) rfl rfl rfl ?_
     intro h8 o8 k8 z8
     refine again_mk (cs:=argCs) ((p5,l6,l7),n8,n9,(some a',dn.length+1,l12),((i+1:Nat):Int),()) (us.length-(i+1)) rfl (by omega) (by rw [hw]; rfl) ?_
     refine ⟨i+1,dn,⟨p7,cu.l+1,c7,cu.ts++[t]⟩,rfl,by omega,rfl,?_,rfl,?_,hrec,by omega,by simp; omega⟩
     ·refine Ch.trans (Ch.trans e26 k7 (fun j hj hjl=>by have:=((A6.inn cu (by simp)).blk hj).1; omega)) k8 (fun j hj hjl=>by have:=(A6.out.blk hj).1; omega)
     ·exact A6.last (a':=⟨p7,cu.l+1,c7,cu.ts++[t]⟩) (by rw [List.map_append]; exact o7) k7 hp7 o8 k8
 ·have g2:=of_decide_eq_false g2
  have hi:i=us.length:=by omega
  subst hi
  rw [List.drop_length] at hrec
  obtain ⟨a',rfl,hc'⟩:=hlast A
  refine need_of ⟨by omega,by omega⟩ (osome_mk rfl ?_)
  rw [show Int.toNat (dn.length:Int)=dn.length by omega]
  refine loads_of ((cu.p,cu.l,cu.c),()) hc' ?_
  dsimp only [flat,unc,unc1,nA,cA]
  have hA:argsA s.size us=if cu.ts=[] then .error s.size else .ok (dn.map In.ts++[cu.ts]):=by
   unfold argsA
   rw [if_neg hne,hrec]
   rfl
  refine cond_mk (fun g3=>?_) (fun g3=>?_)
  ·have g3:(cu.l:Int)=0:=eq_of_beq g3
   refine ⟨e2,?_⟩
   rw [hA,if_pos (List.eq_nil_of_length_eq_zero (by omega))]
  ·have g3:(cu.l:Int)≠0:=ne_of_beq_false g3
   refine ⟨e2,?_⟩
   rw [hA,if_neg (fun hh=>by rw [hh] at hcul; simp at hcul; omega)]
   exact ⟨some a',l12,dn++[cu],by rw [hlen],A,by simp⟩
def parsePost (te es:TypeId) (s:ByteArray) (h:Hp) (v:Value) (h':Hp):Prop :=
 Ext h h'∧∃ p c al,v=.tuple #[.agg #[.string (parseS s).1.label,.string (parseS s).1.op,.slice p al.length c],.int .i64 (parseS s).2.1,.int .i64 (parseS s).2.2]∧Args h' h.size te es p c al∧al.map In.ts=(parseS s).1.args
theorem labB_false {ts:List Tok} (hh:∀ t u r,ts=t::u::r→t.kind=1→isS u 58=true→False):labB ts=false:=by
 match ts,hh with
 | [],_=>rfl
 | [_],_=>rfl
 | t::u::r,hh =>
  cases hl:labB (t::u::r) with
  | false=>rfl
  | true =>
   simp only [labB,Bool.and_eq_true,decide_eq_true_eq] at hl
   exact (hh t u r rfl hl.1 hl.2).elim
theorem parse_hc (s:ByteArray) (h:Hp) (hs:s.size≤2^40) (hl:Laid h):HC Tryz.prog 64 #[.string s] h (parsePost 174 178 s h):=by
 refine hcr_of (args:=[.string s]) mixed Tryz.func64 (by kernel_rfl) (t_line_Parse_eq s) ?_
 unfold t_line_Parse
 refine newB ?_
 intro h1 b1 e1 z1
 refine call_of (tokens_hc s h1 hs (hl.ext e1)) ?_
 rintro _ h2 ⟨p2,l3,l4,rfl,sl,e2⟩
 refine ⟨((p2,l3,l4),((lexS s).2.1:Int),((lexS s).2.2:Int),()),rfl,?_⟩
 dsimp only [unc,unc1,flat,nA,cA]
 have b2:=b1.keep e2 (by simp)
 have e12:=e1.trans e2
 have hlen:=lexS_len s
 have hz2:=e2.size
 have hE:∀ {hh h':Hp},Ext h hh→Ch [h.size] hh h'→Ext h h':=fun e k=>Ch.trans e k (fun i hi hl=>by simp at hi; omega)
 refine cond_mk (fun g1=>?_) (fun g1=>?_)
 ·have g1:((lexS s).2.2:Int)≠0:=by simpa using g1
  have hp:parseS s=(lnNil,(lexS s).2.1,(lexS s).2.2):=by unfold parseS; rw [if_pos (by omega)]
  refine stores_of b2 rfl (by simp) ?_
  intro h3 b3 k3 z3
  have b3:Box h3 h.size 130 [.string ⟨#[]⟩,.string ⟨#[]⟩,.slice none 0 0]:=b3
  refine loads_box b3 ((⟨#[]⟩:ByteArray),(⟨#[]⟩:ByteArray),(none,0,0),()) rfl ?_
  exact ⟨hE e12 k3,none,0,[],by rw [hp]; rfl,Args.nil _ _ _ _,by rw [hp]; rfl⟩
 have g1:((lexS s).2.2:Int)=0:=by simpa using g1
 have hp:parseS s=parseL s.size (lexS s).1:=by unfold parseS; rw [if_neg (by omega)]
 have vw:=sl.vw
 have hblk:∀ i,i∈blkOf p2→h1.size+1≤i∧i<h2.size:=fun i hi=>sl.blk hi
 clear sl
 generalize (lexS s).1=ts at hp vw hlen
 unfold parsePost
 rw [hp]
 refine newB ?_
 intro h3 b7 e3 z3
 have hz1:=z1
 have vw3:=vw.keep e3 (by simp)
 have hl3:=vw.len
 have hcap:=vw.cap
 refine join_of (cs:=[(false,[.slice 0])]) (fun y h'=>∃ lb us,parseL s.size ts=parseT s.size lb us∧us.length≤s.size∧Vw h' y.1.1 y.1.2.1 y.1.2.2 us∧(∀ i,i∈blkOf y.1.1→h1.size+1≤i∧i<h2.size)∧Box h' h2.size 130 [.string lb,.string ⟨#[]⟩,.slice none 0 0]∧Ch [h2.size] h3 h') ?_ ?_
 ·have plain:∀ {L:Lp} {K:Value→Hp→Prop} {h':Hp},Ext h3 h'→labB ts=false→(T.again 0 [.slice p2 l3 l4]) ((fun vs h'=>∃ y:HVs (flat [(false,[.slice 0])]),vs=parts [(false,[.slice 0])] (hvs _ y)∧∃ lb us,parseL s.size ts=parseT s.size lb us∧us.length≤s.size∧Vw h' y.1.1 y.1.2.1 y.1.2.2 us∧(∀ i,i∈blkOf y.1.1→h1.size+1≤i∧i<h2.size)∧Box h' h2.size 130 [.string lb,.string ⟨#[]⟩,.slice none 0 0]∧Ch [h2.size] h3 h')::L) K h':=by
   intro L K h' e hlab
   refine meet_mk (cs:=[(false,[.slice 0])]) ((p2,l3,l4),()) rfl rfl ⟨⟨#[]⟩,ts,?_,hlen,vw3.keep e (by simp),hblk,b7.keep e (by simp),e.mono (by simp)⟩
   unfold parseL
   rw [if_neg (by rw [hlab]; simp)]
  refine cond_mk (fun g2=>?_) (fun g2=>?_)
  ·have g2:=of_decide_eq_true g2
   match ts,hl3 with
   | [],hl3=>simp at hl3; omega
   | [_],hl3=>simp at hl3; omega
   | t::u::r,hl3 =>
    obtain ⟨a,rfl,c0⟩:=vw3.cells 0 (by simp)
    obtain ⟨a',ha',c1⟩:=vw3.cells 1 (by simp)
    cases ha'
    have c0:cellsAt h3 (a.add (0*4)) 0 (enc t):=c0
    have c1:cellsAt h3 (a.add (1*4)) 0 (enc u):=c1
    have ab:a.block∈blkOf (some a):=by simp [blkOf]
    refine need_of ⟨by omega,by omega⟩ (osome_mk rfl (loads_of ((t.kind:Int),()) ⟨c0.1,trivial⟩ ?_))
    dsimp only [unc,unc1,flat,nA,cA]
    refine cond_mk (fun g3=>?_) (fun g3=>?_)
    ·have g3:(t.kind:Int)=1:=eq_of_beq g3
     refine need_of ⟨by omega,by omega⟩ (osome_mk rfl (loads_of ((u.kind:Int),u.text,(u.num:Int),(u.at_:Int),()) c1 ?_))
     refine call_boolx (is_hc u 58 h3) ?_
     intro h4 e4
     refine cond_mk (fun g4=>?_) (fun g4=>?_)
     ·have c0':=cellsAt_keep e4 (by simp) _ _ c0
      refine need_of ⟨by omega,by omega⟩ (osome_mk rfl (loads_of (t.text,()) ⟨c0'.2.1,trivial⟩ ?_))
      refine stores_of (b7.keep e4 (by simp)) rfl (by simp) ?_
      intro h5 b5 k5 z5
      refine need_of ⟨by omega,by omega,by omega⟩ ?_
      have e35:Ch [h2.size] h3 h5:=Ch.trans (e4.mono (by simp)) k5 (fun i hi _=>hi)
      have vd:=((vw3.keep e4 (by simp)).keep k5 (fun i hi=>by have:=(hblk i hi).2; simp; omega)).drop (k:=2) (by omega)
      refine meet_mk (cs:=[(false,[.slice 0])]) ((if l4=2 then some a else (some a).map fun a=>a.add (2*4),l3-2,l4-2),()) rfl ?_ ⟨t.text,r,?_,by simp at hlen; omega,vd,?_,b5,e35⟩
      ·show [Value.slice _ (Int.toNat (l3:Int)-2) (l4-2)]=_
       rw [show Int.toNat (l3:Int)=l3 by omega]
       rfl
      ·unfold parseL
       rw [if_pos (by show (decide (t.kind=1) && isS u 58)=true; rw [g4,decide_eq_true (by omega)]; rfl)]
       rfl
      ·intro i hi
       rw [show blkOf (if l4=2 then some a else (some a).map fun a=>a.add (2*4))=blkOf (some a) from blkOf_if _ _ _ _] at hi
       exact hblk i hi
     ·exact plain e4 (labB_false (by rintro _ _ _ hh h1 h2; injection hh with q1 q2; injection q2 with q2 _; subst q1 q2; rw [h2] at g4; cases g4))
    ·have g3:(t.kind:Int)≠1:=ne_of_beq_false g3
     exact plain (Ch.refl _ _) (labB_false (by rintro _ _ _ hh h1 h2; injection hh with q1 q2; subst q1; omega))
  ·have g2:=of_decide_eq_false g2
   exact plain (Ch.refl _ _) (labB_false (by rintro t u r rfl h1 h2; simp at hl3; omega))
 ·rintro ⟨⟨p8,l9,l10⟩,⟨⟩⟩ h4 ⟨lb,us,hpl,hus,v4,hb4,b4,k4⟩
  simp only at v4 hb4
  dsimp only [unc,unc1,flat,nA,cA]
  rw [hpl]
  have hl9:=v4.len
  have hc9:=v4.cap
  have hne:h.size≠h2.size:=by omega
  have a4:Box h4 h.size 130 [.string ⟨#[]⟩,.string ⟨#[]⟩,.slice none 0 0]:=(b2.keep e3 (by simp)).keep k4 (by simp; omega)
  have e04:Ext h h4:=Ch.trans (e12.trans e3) k4 (fun i hi hl=>by simp at hi; omega)
  have hz4:=k4.size
  have hz3:=e3.size
  have out:∀ {hh:Hp} {L:Lp} {op:ByteArray} {al:List In} {p:Option Addr} {c:Nat},(∃ v w u,Box hh h.size 130 [v,w,u])→Box hh h2.size 130 [.string lb,.string op,.slice p al.length c]→Ext h hh→Args hh h4.size 174 178 p c al→parseT s.size lb us=(⟨lb,op,al.map In.ts⟩,0,0) →
    (T.loads ⟨h2.size,0,none⟩ [.string,.string,.slice 174] <| fun (s11:ByteArray) (s12:ByteArray) (p13:Option Addr) (l14:Nat) (l15:Nat) =>
     T.stores ⟨h.size,0,none⟩ [.string s11,.string s12,.slice p13 l14 l15] <|
     T.loads ⟨h.size,0,none⟩ [.string,.string,.slice 174] <| fun (s16:ByteArray) (s17:ByteArray) (p18:Option Addr) (l19:Nat) (l20:Nat) =>
     T.ret (.tuple #[.agg #[.string s16,.string s17,.slice p18 l19 l20],.int .i64 (0:Int),.int .i64 (0:Int)])) L
     (fun v h'=>Ext h h'∧∃ p c al,v=.tuple #[.agg #[.string (parseT s.size lb us).1.label,.string (parseT s.size lb us).1.op,.slice p al.length c],.int .i64 (parseT s.size lb us).2.1,.int .i64 (parseT s.size lb us).2.2]∧Args h' h.size 174 178 p c al∧al.map In.ts=(parseT s.size lb us).1.args) hh:=by
   rintro hh L op al p c ⟨v,w,u,bb⟩ b7' e A hpt
   refine loads_box b7' (lb,op,(p,al.length,c),()) rfl ?_
   refine stores_of bb rfl (by simp) ?_
   intro h' b' k' z'
   have b':Box h' h.size 130 [.string lb,.string op,.slice p al.length c]:=b'
   refine loads_box b' (lb,op,(p,al.length,c),()) rfl ?_
   rw [hpt]
   exact ⟨hE e k',p,c,al,rfl,(A.keep k' (fun i hi=>by have:=(A.out.blk hi).1; simp; omega) (fun x hx i hi=>by have:=((A.inn x hx).blk hi).1; simp; omega)).mono (by omega),rfl⟩
  refine cond_mk (fun g2=>?_) (fun g2=>?_)
  ·have g2:(l9:Int)=0:=eq_of_beq g2
   have:us=[]:=List.eq_nil_of_length_eq_zero (by omega)
   subst this
   exact out (al:=[]) ⟨_,_,_,a4⟩ b4 e04 (Args.nil _ _ _ _) rfl
  have g2:(l9:Int)≠0:=ne_of_beq_false g2
  cases us with
  | nil=>simp at hl9; omega
  | cons t us =>
   obtain ⟨a,rfl,c0⟩:=v4.cells 0 (by simp)
   have c0:cellsAt h4 (a.add (0*4)) 0 (enc t):=c0
   have ab:=hb4 a.block (by simp [blkOf])
   refine need_of ⟨by omega,by omega⟩ (osome_mk rfl (loads_of ((t.kind:Int),()) ⟨c0.1,trivial⟩ ?_))
   dsimp only [unc,unc1,flat,nA,cA]
   refine cond_mk (fun g3=>?_) (fun g3=>?_)
   ·have g3:(t.kind:Int)≠1:=by simpa using g3
    have hpt:parseT s.size lb (t::us)=(lnNil,t.at_,20):=by simp only [parseT]; rw [if_pos (by omega)]
    refine need_of ⟨by omega,by omega⟩ (osome_mk rfl (loads_of ((t.at_:Int),()) ⟨c0.2.2.2.1,trivial⟩ ?_))
    dsimp only [unc,unc1,flat,nA,cA]
    refine stores_of a4 rfl (by simp) ?_
    intro h5 b5 k5 z5
    have b5:Box h5 h.size 130 [.string ⟨#[]⟩,.string ⟨#[]⟩,.slice none 0 0]:=b5
    have c5:=cellsAt_keep k5 (by rw [add_block]; simp; omega) _ _ c0
    refine ⟨⟨⟨c5.2.2.2.1,trivial⟩,trivial⟩,?_⟩
    refine loads_box b5 ((⟨#[]⟩:ByteArray),(⟨#[]⟩:ByteArray),(none,0,0),()) rfl ?_
    rw [hpt]
    exact ⟨hE e04 k5,none,0,[],rfl,Args.nil _ _ _ _,rfl⟩
   have g3:(t.kind:Int)=1:=by simpa using g3
   have hpt:parseT s.size lb (t::us)=match argsA s.size us with
     | .error a=>(lnNil,a,20)
     | .ok l=>(⟨lb,t.text,l⟩,0,0):=by simp only [parseT]; rw [if_neg (by omega)]; all_goals (cases argsA s.size us <;> rfl)
   refine need_of ⟨by omega,by omega⟩ (osome_mk rfl (loads_of (t.text,()) ⟨c0.2.1,trivial⟩ ?_))
   dsimp only [unc,unc1,flat,nA,cA]
   rw [add_box]
   refine stores_of b4 rfl (by simp) ?_
   intro h5 b5 k5 z5
   have b5:Box h5 h2.size 130 [.string lb,.string t.text,.slice none 0 0]:=b5
   have a5:=a4.keep k5 (by simp; omega)
   have e05:Ext h h5:=Ch.trans e04 k5 (fun i hi hl=>by simp at hi; omega)
   refine need_of ⟨by omega,by omega,by omega⟩ ?_
   have vd:=(v4.keep k5 (fun i hi=>by have:=(hb4 i hi).2; simp; omega)).drop (k:=1) (by omega)
   refine call_of (args:=[.string s,.slice _ _ _]) (arguments_hc s (us:=us) (by simp at hus; omega) ?vv) ?_
   case vv=>rw [show Int.toNat (l9:Int)=l9 by omega]; exact vd
   rintro v h6 ⟨e6,hv⟩
   have a6:=a5.keep e6 (by simp)
   have b6:=b5.keep e6 (by simp)
   have e06:=e05.trans e6
   cases hA:argsA s.size us with
   | error aa =>
    rw [hA] at hv hpt
    simp only at hv hpt
    subst hv
    refine ⟨((none,0,0),(aa:Int),(20:Int),()),rfl,?_⟩
    dsimp only [unc,unc1,flat,nA,cA]
    refine cond_t rfl ?_
    refine stores_of a6 rfl (by simp) ?_
    intro h7 b7 k7 z7
    have b7:Box h7 h.size 130 [.string ⟨#[]⟩,.string ⟨#[]⟩,.slice none 0 0]:=b7
    refine loads_box b7 ((⟨#[]⟩:ByteArray),(⟨#[]⟩:ByteArray),(none,0,0),()) rfl ?_
    rw [hpt]
    exact ⟨hE e06 k7,none,0,[],rfl,Args.nil _ _ _ _,rfl⟩
   | ok ll =>
    rw [hA] at hv hpt
    simp only at hv hpt
    obtain ⟨p,c,al,rfl,A,hal⟩:=hv
    refine ⟨((p,al.length,c),(0:Int),(0:Int),()),rfl,?_⟩
    dsimp only [unc,unc1,flat,nA,cA]
    refine cond_f rfl ?_
    rw [add_box]
    refine stores_of b6 rfl (by simp) ?_
    intro h7 b7 k7 z7
    have b7:Box h7 h2.size 130 [.string lb,.string t.text,.slice p al.length c]:=b7
    have hz5:=k5.size
    refine out (op:=t.text) (al:=al) ⟨_,_,_,a6.keep k7 (by simp; omega)⟩ b7 (Ch.trans e06 k7 (fun i hi hl=>by simp at hi; omega)) ((A.keep k7 (fun i hi=>by have:=(A.out.blk hi).1; simp; omega) (fun x hx i hi=>by have:=((A.inn x hx).blk hi).1; simp; omega)).mono (by omega)) (by rw [hpt,hal])
end Go.Sx
