/- Contracts over heaps, part 1. Condition: as each statement says. -/
import Derived.Test.YtfkjiiapldkoeaaGreatDoorBtA
import Derived.Test.YtfkjiiapldkoeaaGreatDoorBtB
import Derived.Test.YtfkjiiapldkoeaaGreatDoorSxE
import Derived.Test.YtfkjiiapldkoeaaGreatDoorBtC
set_option linter.all false
set_option maxRecDepth 100000
set_option maxHeartbeats 4000000
namespace Go.Sx
open Go.Proofs
def mixed:Tryz.prog.follows .mixedOrders=true:=aB
def Na : (Tryz.f174.name == "runtime.NumGoroutine") = false :=aB
def Mp:Tryz.f174.body.isNone=true:=aB
def MF:Extern.findNext Tryz.f174=none:=aB
def M6:Extern.find Tryz.f174=some Extern.BytealgIndexByte.indexByte:=aB
def y6 (s:XA) (c:Int) (h:Hp):pO Tryz.prog 145 [.string s,.int .u8 c] h (.int .i64 (Lib.indexByte s.data.toList c.toNat.toUInt8)):=by
 refine dk mixed Tryz.func145 aB (gD s c) ?_
 refine IC Tryz.func174 Na Mp MF M6 ?_
 rw [xx]
 exact ⟨(_,()),rfl,rfl,rfl⟩
def uK (s:XA) (c:Int) (h:Hp):pO Tryz.prog 118 [.string s,.int .u8 c] h (.int .i64 (Lib.indexByte s.data.toList c.toNat.toUInt8)):=by
 refine dk mixed Tryz.func118 aB (ol s c) ?_
 exact dN (y6 s c h) ⟨rfl,rfl⟩
def bo (s set:List UInt8):Nat:=(s.takeWhile fun c=>set.contains c).length
def de (s set:List UInt8):bo s set<=s.length:=by
 unfold bo
 exact (List.takeWhile_prefix _).length_le
theorem lz {p:UInt8->Bool}:∀ (l:List UInt8) (k:Nat),k<=(l.takeWhile p).length->k<l.length->(k<(l.takeWhile p).length↔p (l.getD k 0)=true)
 | [],k,_,h=>by simp at h
 | c::l,0,_,_=>by
  simp only [List.takeWhile_cons,List.getD_cons_zero]
  cases hp:p c <;> simp
 | c::l,k+1,h,hl=>by
  simp only [List.takeWhile_cons] at h ⊢
  cases hp:p c with
  | false=>rw [hp] at h; simp at h
  | true =>
   rw [hp] at h
   simp at h hl
   have:=lz l k (by simpa using h) hl
   simpa using this
def fU (s set:List UInt8) (k:Nat) (hk:k<=bo s set) (hl:k<s.length):(k<bo s set↔set.contains (s.getD k 0)=true):=lz s k hk hl
def IN (s:XA) (n:Int):(aU s n).toNat.toUInt8=s.data.toList.getD n.toNat 0:=by
 unfold aU; simp
def om (s set:XA) (h:Hp) (hs:s.size<=9223372036854775807):pO Tryz.prog 82 [.string s,.string set] h (.int .i64 (bo s.data.toList set.data.toList)):=by
 refine dk mixed Tryz.func82 aB (AL s set) ?_
 have hsz:s.data.toList.length=s.size:=aj
 have hle:=de s.data.toList set.data.toList
 refine bJ (cs:=[(false,[.int .i64])]) (fun x n h'=>h'=h/\∃ k:Nat,x.1=(k:Int)/\k<=bo s.data.toList set.data.toList/\n=s.size-k) ((0:Int),()) s.size rfl ⟨rfl,0,rfl,ae,ae⟩ ?_
 rintro ⟨n,⟨⟩⟩ m h' ⟨rfl,k,hk,hle',rfl⟩
 simp only at hk
 subst hk
 refine ai (fun hb=>?_) (fun hb=>?_)
 ·have hlt:(k:Int)<s.size:=OE hb
  have hst:=fU s.data.toList set.data.toList k hle' ae
  refine aC ⟨ae,hlt⟩ ?_
  refine dN (uK _ _ _) ?_
  rw [IN]
  have hc:=Lib.contains_iff_indexByte set.data.toList (s.data.toList.getD k 0)
  refine ai (fun hb2=>?_) (fun hb2=>?_)
  ·have h2:=OE hb2
   rw [wrap_i64 ae ae]
   have hin:set.data.toList.contains (s.data.toList.getD k 0)=true:=by rw [hc]; exact OK h2
   exact aY (cs:=[(false,[.int .i64])]) ((k:Int)+1,()) (s.size-(k+1)) rfl ae rfl ⟨rfl,k+1,(show ((k:Int)+1)=((k+1:Nat):Int) from ae),hst.2 hin,rfl⟩
  ·have h2:=OF hb2
   have hin:¬ set.data.toList.contains (s.data.toList.getD k 0)=true:=by rw [hc]; exact fun hh=>h2 (OE hh)
   have:k=bo s.data.toList set.data.toList:=by
    have:¬ k<bo s.data.toList set.data.toList:=fun hh=>hin (hst.1 hh)
    omega
   exact ⟨by rw [<- this],rfl⟩
 ·have hge:¬ (k:Int)<s.size:=OF hb
  have:k=bo s.data.toList set.data.toList:=ae
  exact ⟨by rw [<- this],rfl⟩
def dt (c:UInt8):Bool:=(97<=c.toNat && c.toNat<=122) || (65<=c.toNat && c.toNat<=90) || c.toNat==95
def cJ (c:UInt8):Bool:=48<=c.toNat && c.toNat<=57
def cM:List UInt8:=[97,98,99,100,101,102,103,104,105,106,107,108,109,110,111,112,113,114,115,116,117,118,119,120,121,122,65,66,67,68,69,70,71,72,73,74,75,76,77,78,79,80,81,82,83,84,85,86,87,88,89,90,95]
def bj:List UInt8:=[48,49,50,51,52,53,54,55,56,57]
def gR (p q:UInt8->Bool) (h:(List.range 256).all (fun n=>p (UInt8.ofNat n)==q (UInt8.ofNat n))=true) (c:UInt8):p c=q c:=by
 have:=O9.1 h c.toNat (List.mem_range.2 (by have:=c.toNat_lt; omega))
 simpa using this
def xu (c:UInt8):cM.contains c=dt c:=gR (fun c=>cM.contains c) dt (by decide +kernel) c
def mF (c:UInt8):bj.contains c=cJ c:=gR (fun c=>bj.contains c) cJ (by decide +kernel) c
def kY (c:UInt8):(cM++bj).contains c=(dt c || cJ c):=gR (fun c=>(cM++bj).contains c) (fun c=>dt c || cJ c) (by decide +kernel) c
def cN (c:UInt8):Int:=(c.toNat:Nat)
def na (c:UInt8) (h:Hp):pO Tryz.prog 88 [.int .u8 (cN c)] h (.bool (cJ c)):=by
 refine dk mixed Tryz.func88 aB (mS _) ?_
 unfold js cJ cN bE
 refine ai (fun h1=>?_) (fun h1=>?_)
 ·have h1:=OE h1
  refine ⟨?_,rfl⟩
  congr 1
  rw [show decide (48<=c.toNat)=true from OK ae,O3]
  exact decide_eq_decide.2 ae
 ·have h1:=OF h1
  refine ⟨?_,rfl⟩
  congr 1
  rw [show decide (48<=c.toNat)=false from OL ae,Bool.false_and]
def FQ (c:UInt8):dt c=true↔(97<=cN c/\cN c<=122)\/(65<=cN c/\cN c<=90)\/cN c=95:=by
 unfold dt cN
 simp only [Bool.or_eq_true,Bool.and_eq_true,decide_eq_true_eq,beq_iff_eq]
 omega
def mH (c:UInt8):cJ c=true↔48<=cN c/\cN c<=57:=by
 unfold cJ cN
 simp only [Bool.and_eq_true,decide_eq_true_eq]
 omega
def mO (c:UInt8) (h:Hp):pO Tryz.prog 87 [.int .u8 (cN c)] h (.bool (dt c)):=by
 refine dk mixed Tryz.func87 aB (ml _) ?_
 unfold iD pj
 have hl:=FQ c
 repeat' (refine ai (fun h1=>?_) (fun h1=>?_) <;> first | replace h1:=OE h1 | replace h1:=OF h1)
 all_goals exact ⟨O7 Value.bool (Bool.eq_iff_iff.2 (by simp only [hl,true_iff,beq_iff_eq]; omega)),rfl⟩
def fJ (s:List UInt8):Int × Bool × Bool :=
 match s with
 | [a,b]=>if cN a=114/\48<=cN b/\cN b<=55 then (cN b-48,false,true) else if cN a=122/\48<=cN b/\cN b<=51 then (cN b-48,true,true) else (0,false,false)
 | _=>(0,false,false)
def Cd {s:List UInt8} (h:s.length≠2):fJ s=(0,false,false):=by
 unfold fJ
 split
 ·simp at h
 ·rfl
def eG (s:XA) (n:Int):aU s n=cN (s.data.toList.getD n.toNat 0):=rfl
def two_bytes {s:XA} (h1:(s.size:Int)=2):∃ a b,s.data.toList=[a,b]:=by
 have hsz:s.data.toList.length=s.size:=aj
 match hl:s.data.toList with
 | [a,b]=>exact ⟨a,b,rfl⟩
 | []=>rw [hl] at hsz; simp at hsz; omega
 | [a]=>rw [hl] at hsz; simp at hsz; omega
 | a::b::c::l=>rw [hl] at hsz; simp at hsz; omega
def pR (s:XA) (h:Hp):pO Tryz.prog 81 [.string s] h (.tuple #[.int .i64 (fJ s.data.toList).1,.bool (fJ s.data.toList).2.1,.bool (fJ s.data.toList).2.2]):=by
 refine dk mixed Tryz.func81 aB (tM s) ?_
 have hsz:s.data.toList.length=s.size:=aj
 unfold pS aH aZ aw
 refine ai (fun h1=>?_) (fun h1=>?_)
 ·have h1:(s.size:Int)≠2:=by simpa using h1
  rw [Cd ae]
  exact ⟨rfl,rfl⟩
 ·have h1:(s.size:Int)=2:=by simpa using h1
  obtain ⟨a,b,hab⟩:=two_bytes h1
  have e0:aU s 0=cN a:=by rw [eG,hab]; rfl
  have e1:aU s 1=cN b:=by rw [eG,hab]; rfl
  have hb:=b.toNat_lt
  have w1:IntKind.wrap .i64 (IntKind.wrap .i64 (aU s 1)-48)=cN b-48:=by
   rw [e1,wrap_i64 (x:=cN b) (by unfold cN; omega) (by unfold cN; omega),wrap_i64 (by unfold cN; omega) (by unfold cN; omega)]
  rw [w1,e0,hab]
  unfold fJ
  repeat' (first | refine aC ⟨ae,ae⟩ ?_ | (refine ai (fun h1=>?_) (fun h1=>?_) <;> first | replace h1:=OE h1 | replace h1:=OF h1 | replace h1:=eq_of_beq h1 | replace h1:=ON h1))
  all_goals
   refine ⟨?_,rfl⟩
   simp only
   first
    | (exfalso; omega)
    | rw [OH ae]
    | rw [OG ae,OH ae]
    | rw [OG ae,OG ae]
def tG (s:XA) (h:Hp):pO Tryz.prog 89 [.string s] h (.tuple #[.int .i64 (fJ s.data.toList).1,.bool (fJ s.data.toList).2.1,.bool (fJ s.data.toList).2.2]):=by
 refine dk mixed Tryz.func89 aB (lf s) ?_
 have hsz:s.data.toList.length=s.size:=aj
 unfold gY aH aZ aw
 refine ai (fun h1=>?_) (fun h1=>?_)
 ·have h1:(s.size:Int)≠2:=by simpa using h1
  rw [Cd ae]
  exact ⟨rfl,rfl⟩
 ·have h1:(s.size:Int)=2:=by simpa using h1
  obtain ⟨a,b,hab⟩:=two_bytes h1
  have e0:aU s 0=cN a:=by rw [eG,hab]; rfl
  have e1:aU s 1=cN b:=by rw [eG,hab]; rfl
  have hb:=b.toNat_lt
  have w1:IntKind.wrap .i64 (IntKind.wrap .i64 (aU s 1)-48)=cN b-48:=by
   rw [e1,wrap_i64 (x:=cN b) (by unfold cN; omega) (by unfold cN; omega),wrap_i64 (by unfold cN; omega) (by unfold cN; omega)]
  rw [w1,e0,hab]
  unfold fJ
  repeat' (first | refine aC ⟨ae,ae⟩ ?_ | (refine ai (fun h1=>?_) (fun h1=>?_) <;> first | replace h1:=OE h1 | replace h1:=OF h1 | replace h1:=eq_of_beq h1 | replace h1:=ON h1))
  all_goals
   refine ⟨?_,rfl⟩
   simp only
   first
    | (exfalso; omega)
    | rw [OH ae]
    | rw [OG ae,OH ae]
    | rw [OG ae,OG ae]
def bI (s:List UInt8):Bool:=decide (0<s.length) && decide (s.length<=32) && dt (s.getD 0 0) && s.all (fun c=>dt c || cJ c) && !(fJ s).2.2
def qm {s set:List UInt8} (h:0<s.length):0<bo s set↔set.contains (s.getD 0 0)=true:=fU s set 0 (P9 _) h
def GL {s set:List UInt8}:bo s set=s.length↔s.all (fun c=>set.contains c)=true:=by
 unfold bo
 induction s with
 | nil=>simp
 | cons c s ih =>
  rw [PT,List.all_cons]
  cases hc:set.contains c with
  | true=>simp only [if_true,List.length_cons,Bool.true_and]; rw [<- ih]; omega
  | false=>simp
def ML:(⟨#[97,98,99,100,101,102,103,104,105,106,107,108,109,110,111,112,113,114,115,116,117,118,119,120,121,122,65,66,67,68,69,70,71,72,73,74,75,76,77,78,79,80,81,82,83,84,85,86,87,88,89,90,95]⟩:XA).data.toList=cM:=rfl
def LX:(⟨#[97,98,99,100,101,102,103,104,105,106,107,108,109,110,111,112,113,114,115,116,117,118,119,120,121,122,65,66,67,68,69,70,71,72,73,74,75,76,77,78,79,80,81,82,83,84,85,86,87,88,89,90,95,48,49,50,51,52,53,54,55,56,57]⟩:XA).data.toList=cM++bj:=rfl
def toList_nil {s:XA}:(s.toList==[])=decide (s.size=0):=by
 have:s.toList=s.data.toList:=ByteArray.toList_eq s
 rw [this]
 have hsz:s.data.toList.length=s.size:=aj
 cases hl:s.data.toList with
 | nil=>rw [hl] at hsz; simp at hsz; simp [<- hsz]
 | cons a l=>rw [hl] at hsz; simp at hsz; simp [<- hsz]
def my (s:XA) (h:Hp) (hs:s.size<=9223372036854775807):pO Tryz.prog 45 [.string s] h (.bool (bI s.data.toList)):=by
 refine dk mixed Tryz.func45 aB (xL s) ?_
 have hsz:s.data.toList.length=s.size:=aj
 unfold wg cU aS bE aQ bZ
 refine qF (pR s h) ?_
 unfold bI
 rw [hsz]
 refine ai (fun h1=>?_) (fun h1=>?_)
 ·have h1:s.size≠0:=by rw [toList_nil] at h1; simpa using h1
  refine ai (fun h2=>?_) (fun h2=>?_)
  ·have h2:=OE h2
   refine dN (om s _ h hs) ?_
   rw [ML]
   have hp:=qm (set:=cM) (by omega:0<s.data.toList.length)
   rw [xu] at hp
   refine ai (fun h3=>?_) (fun h3=>?_)
   ·have h3:=OE h3
    refine dN (om s _ h hs) ?_
    rw [LX]
    have ha:=GL (s:=s.data.toList) (set:=cM++bj)
    have hg:(fun c=>(cM++bj).contains c)=(fun c=>dt c || cJ c):=funext kY
    rw [hg] at ha
    rw [show decide (0<s.size)=true from OK ae,show decide (s.size<=32)=true from OK ae,hp.1 ae]
    refine ai (fun h4=>?_) (fun h4=>?_)
    ·have h4:=eq_of_beq h4
     rw [ha.1 ae]
     exact ⟨rfl,rfl⟩
    ·have h4:=ON h4
     have:s.data.toList.all (fun c=>dt c || cJ c)=false:=by
      cases hx:s.data.toList.all (fun c=>dt c || cJ c) with
      | false=>rfl
      | true=>exact (h4 (by rw [ha.2 hx]; omega)).elim
     rw [this]
     exact ⟨rfl,rfl⟩
   ·have h3:=OF h3
    have:dt (s.data.toList.getD 0 0)=false:=by
     cases hx:dt (s.data.toList.getD 0 0) with
     | false=>rfl
     | true=>have:=hp.2 hx; omega
    rw [this]
    exact ⟨aj,rfl⟩
  ·have h2:=OF h2
   rw [show decide (s.size<=32)=false from OL ae]
   exact ⟨aj,rfl⟩
 ·have h1:s.size=0:=by rw [toList_nil] at h1; simpa using h1
  rw [show decide (0<s.size)=false from OL ae]
  exact ⟨aj,rfl⟩
def HL (p:UInt8->Bool) (l:List UInt8) (k:Nat) (hk:k<l.length):(l.take (k+1)).all p=((l.take k).all p && p (l.getD k 0)):=by
 rw [OT hk,List.all_append]
 simp [List.getD,List.getElem?_eq_getElem hk]
def ve (s:XA) (h:Hp) (hs:s.size<=9223372036854775807):pO Tryz.prog 48 [.string s] h (.bool (bI s.data.toList)):=by
 refine dk mixed Tryz.func48 aB (nC s) ?_
 have hsz:s.data.toList.length=s.size:=aj
 unfold jo bN aN aS cz aZ bE aQ bZ
 unfold bI
 rw [hsz]
 refine ai (fun h1=>?_) (fun h1=>?_)
 ·have h1:=OE h1
  rw [show decide (0<s.size)=false from OL ae]
  exact ⟨aj,rfl⟩
 have h1:=OF h1
 refine ai (fun h2=>?_) (fun h2=>?_)
 ·have h2:=OE h2
  rw [show decide (s.size<=32)=false from OL ae]
  exact ⟨aj,rfl⟩
 have h2:=OF h2
 rw [show decide (0<s.size)=true from OK ae,show decide (s.size<=32)=true from OK ae]
 refine aC ⟨ae,ae⟩ ?_
 refine aM (mO (s.data.toList.getD 0 0) h) ?_
 refine ai (fun h3=>?_) (fun h3=>?_)
 ·have h3:dt (s.data.toList.getD 0 0)=false:=by simpa using h3
  rw [h3]
  exact ⟨aj,rfl⟩
 have h3:dt (s.data.toList.getD 0 0)=true:=by simpa using h3
 rw [h3]
 refine bJ (cs:=[(false,[.bool]),(false,[.int .i64])]) (fun x n h'=>h'=h/\∃ k:Nat,x.2.1=(k:Int)/\k<=s.size/\n=s.size-k/\(s.data.toList.take k).all (fun c=>dt c || cJ c)=true)
  (false,(0:Int),()) s.size rfl ⟨rfl,0,rfl,ae,ae,aj⟩ ?_
 rintro ⟨b,n,⟨⟩⟩ m h' ⟨rfl,k,hk,hle,rfl,hall⟩
 simp only at hk
 subst hk
 refine ai (fun hb=>?_) (fun hb=>?_)
 ·have hlt:(k:Int)<s.size:=OE hb
  have hst:=HL (fun c=>dt c || cJ c) s.data.toList k ae
  rw [hall,O3] at hst
  have hfalse:∀ k':Nat,(dt (s.data.toList.getD k 0) || cJ (s.data.toList.getD k 0))=false->s.data.toList.all (fun c=>dt c || cJ c)=false:=by
   intro k' hf
   rw [hf] at hst
   cases hx:s.data.toList.all (fun c=>dt c || cJ c) with
   | false=>rfl
   | true =>
    have:(s.data.toList.take (k+1)).all (fun c=>dt c || cJ c)=true:=O9.2 fun c hc=>O9.1 hx c (List.mem_of_mem_take hc)
    rw [this] at hst; cases hst
  have hnext:(dt (s.data.toList.getD k 0) || cJ (s.data.toList.getD k 0))=true->T.again 0 [.bool b,.int .i64 (IntKind.wrap .i64 ((k:Int)+1))] ([]++[Jl (cs:=[(false,[.bool]),(false,[.int .i64])]) (fun x n h''=>h''=h'/\∃ k:Nat,x.2.1=(k:Int)/\k<=s.size/\n=s.size-k/\(s.data.toList.take k).all (fun c=>dt c || cJ c)=true) (s.size-k)]) (fun v' h''=>v'=.bool (true && true && true && s.data.toList.all (fun c=>dt c || cJ c) && !(fJ s.data.toList).2.2)/\h''=h') h':=by
   intro ht
   rw [wrap_i64 ae ae]
   exact aY (cs:=[(false,[.bool]),(false,[.int .i64])]) (b,(k:Int)+1,()) (s.size-(k+1)) rfl ae rfl ⟨rfl,k+1,(show ((k:Int)+1)=((k+1:Nat):Int) from ae),ae,rfl,by rw [hst,ht]⟩
  refine aC ⟨(by show (0:Int)<=(k:Int); omega),hlt⟩ ?_
  refine aM (mO (s.data.toList.getD k 0) h') ?_
  refine ai (fun h4=>?_) (fun h4=>?_)
  ·have h4:dt (s.data.toList.getD k 0)=false:=by simpa using h4
   refine aC ⟨(by show (0:Int)<=(k:Int); omega),hlt⟩ ?_
   refine aM (na (s.data.toList.getD k 0) h') ?_
   refine ai (fun h5=>?_) (fun h5=>?_)
   ·have h5:cJ (s.data.toList.getD k 0)=false:=by simpa using h5
    rw [hfalse 0 (by rw [h4,h5]; rfl)]
    exact ⟨aj,rfl⟩
   ·have h5:cJ (s.data.toList.getD k 0)=true:=by simpa using h5
    exact hnext (by rw [h5]; simp)
  ·have h4:dt (s.data.toList.getD k 0)=true:=by simpa using h4
   exact hnext (by rw [h4]; simp)
 ·have hge:¬ (k:Int)<s.size:=OF hb
  have hk:k=s.data.toList.length:=ae
  rw [hk,O8] at hall
  rw [hall]
  refine qF (tG s h') ?_
  exact ⟨aj,rfl⟩
def mn (a:Int):T :=
 T.ret (.int .u8 (IntKind.wrap .u8 (((BitVec.toNat ((BitVec.ofInt 8 a) ||| (BitVec.ofInt 8 (32:Int)))):Nat):Int)))
def j9 (a:Int):bD Tryz.prog [] Tryz.f187 [.int .u8 a]=mn a:=aB
def fg (a:XA):T :=
 cond ((a.size:Int)==(0:Int))
 (T.ret (bh))
 (aR (Instr.makeSlice 42 (.int .i64 (a.size:Int)) (.int .i64 (a.size:Int))) fun (b:Option XC) (c:Nat) (d:Nat) =>
 dh (Builtin.copy_ #[42,9] 3 #[.slice b c d,.string a]) false [aQ] fun (e:Int) =>
 T.need (aZ 0 c) <|
 T.aA b fun (f:XC) =>
 dh (Builtin.unsafeString_ #[311,3] 9 #[.pointer (some f),.int .i64 (c:Int)]) false [(false,[.string])] fun (g:XA) =>
 T.ret (.string g))
def iy (a:XA):bD Tryz.prog [] Tryz.f200 [.string a]=fg a:=aB
def iK (a:XA) (b:XA):T :=
 T.ah ⟨4, 0, none⟩ [.interface #[("Error", 85)]] fun (c : XB) =>
 uG 200 [.string b] fun (d:XA) =>
 T.aT [(⟨4,0,none⟩,[c])] <|
 cond (Sx.fE c)
 (T.fail)
 (T.new [.string a,.string d,c] 307 fun (e:XC) =>
 T.aT [(⟨4,0,none⟩,[c])] <|
 T.ret (.pointer (some e)))
def lY (a:XA) (b:XA):bD Tryz.prog [] Tryz.f189 [.string a,.string b]=iK a b:=aB
def jv (a:XA) (b:XA):T :=
 T.ah ⟨5, 0, none⟩ [.interface #[("Error", 85)]] fun (c : XB) =>
 uG 200 [.string b] fun (d:XA) =>
 T.aT [(⟨5,0,none⟩,[c])] <|
 cond (Sx.fE c)
 (T.fail)
 (T.new [.string a,.string d,c] 307 fun (e:XC) =>
 T.aT [(⟨5,0,none⟩,[c])] <|
 T.ret (.pointer (some e)))
def nj (a:XA) (b:XA):bD Tryz.prog [] Tryz.f190 [.string a,.string b]=jv a b:=aB
def iL (a:XA):T :=
 bR (Sx.df (BinOp.eql) 29 (Operand.tmp 11) (Operand.tmp 13) (.iface 299 (.int .i64 (1:Int))) (.iface 299 (.int .i64 (2:Int)))) fun (b:Bool) =>
 cond b
 (aS 189 [.string ⟨#[80,97,114,115,101,85,105,110,116]⟩,.string a] false [(false,[.pointer 307])] fun (c:Option XC) =>
 T.ret (.iface 301 (.pointer c)))
 (bR (Sx.df (BinOp.eql) 29 (Operand.tmp 11) (Operand.tmp 20) (.iface 299 (.int .i64 (1:Int))) (.iface 299 (.int .i64 (1:Int)))) fun (c:Bool) =>
 cond c
  (aS 190 [.string ⟨#[80,97,114,115,101,85,105,110,116]⟩,.string a] false [(false,[.pointer 307])] fun (d:Option XC) =>
  T.ret (.iface 301 (.pointer d)))
  (bR (Sx.df (BinOp.eql) 29 (Operand.tmp 11) (Operand.tmp 27) (.iface 299 (.int .i64 (1:Int))) (.iface 299 (.int .i64 (3:Int)))) fun (d:Bool) =>
  cond d
  (aS 191 [.string ⟨#[80,97,114,115,101,85,105,110,116]⟩,.string a,.int .i64 (10:Int)] false [(false,[.pointer 307])] fun (e:Option XC) =>
  T.ret (.iface 301 (.pointer e)))
  (bR (Sx.df (BinOp.eql) 29 (Operand.tmp 11) (Operand.tmp 35) (.iface 299 (.int .i64 (1:Int))) (.iface 299 (.int .i64 (4:Int)))) fun (e:Bool) =>
  cond e
   (aS 192 [.string ⟨#[80,97,114,115,101,85,105,110,116]⟩,.string a,.int .i64 (32:Int)] false [(false,[.pointer 307])] fun (f:Option XC) =>
   T.ret (.iface 301 (.pointer f)))
   (T.ret (.iface 299 (.int .i64 (1:Int)))))))
def mm (a:XA):bD Tryz.prog [] Tryz.f178 [.string ⟨#[80,97,114,115,101,85,105,110,116]⟩,.string a,.int .i64 (10:Int),.int .i64 (32:Int),.iface 299 (.int .i64 (1:Int))]=iL a:=aB
def iJ (a:XA):T :=
 bR (Sx.df (BinOp.eql) 29 (Operand.tmp 11) (Operand.tmp 13) (.iface 299 (.int .i64 (2:Int))) (.iface 299 (.int .i64 (2:Int)))) fun (b:Bool) =>
 cond b
 (aS 189 [.string ⟨#[80,97,114,115,101,85,105,110,116]⟩,.string a] false [(false,[.pointer 307])] fun (c:Option XC) =>
 T.ret (.iface 301 (.pointer c)))
 (bR (Sx.df (BinOp.eql) 29 (Operand.tmp 11) (Operand.tmp 20) (.iface 299 (.int .i64 (2:Int))) (.iface 299 (.int .i64 (1:Int)))) fun (c:Bool) =>
 cond c
  (aS 190 [.string ⟨#[80,97,114,115,101,85,105,110,116]⟩,.string a] false [(false,[.pointer 307])] fun (d:Option XC) =>
  T.ret (.iface 301 (.pointer d)))
  (bR (Sx.df (BinOp.eql) 29 (Operand.tmp 11) (Operand.tmp 27) (.iface 299 (.int .i64 (2:Int))) (.iface 299 (.int .i64 (3:Int)))) fun (d:Bool) =>
  cond d
  (aS 191 [.string ⟨#[80,97,114,115,101,85,105,110,116]⟩,.string a,.int .i64 (10:Int)] false [(false,[.pointer 307])] fun (e:Option XC) =>
  T.ret (.iface 301 (.pointer e)))
  (bR (Sx.df (BinOp.eql) 29 (Operand.tmp 11) (Operand.tmp 35) (.iface 299 (.int .i64 (2:Int))) (.iface 299 (.int .i64 (4:Int)))) fun (e:Bool) =>
  cond e
   (aS 192 [.string ⟨#[80,97,114,115,101,85,105,110,116]⟩,.string a,.int .i64 (32:Int)] false [(false,[.pointer 307])] fun (f:Option XC) =>
   T.ret (.iface 301 (.pointer f)))
   (T.ret (.iface 299 (.int .i64 (2:Int)))))))
def lU (a:XA):bD Tryz.prog [] Tryz.f178 [.string ⟨#[80,97,114,115,101,85,105,110,116]⟩,.string a,.int .i64 (10:Int),.int .i64 (32:Int),.iface 299 (.int .i64 (2:Int))]=iJ a:=aB
def iQ (a:XA):T :=
 bR (Sx.df (BinOp.eql) 29 (Operand.tmp 11) (Operand.tmp 13) (.iface 299 (.int .i64 (2:Int))) (.iface 299 (.int .i64 (2:Int)))) fun (b:Bool) =>
 cond b
 (aS 189 [.string ⟨#[80,97,114,115,101,85,105,110,116]⟩,.string a] false [(false,[.pointer 307])] fun (c:Option XC) =>
 T.ret (.iface 301 (.pointer c)))
 (bR (Sx.df (BinOp.eql) 29 (Operand.tmp 11) (Operand.tmp 20) (.iface 299 (.int .i64 (2:Int))) (.iface 299 (.int .i64 (1:Int)))) fun (c:Bool) =>
 cond c
  (aS 190 [.string ⟨#[80,97,114,115,101,85,105,110,116]⟩,.string a] false [(false,[.pointer 307])] fun (d:Option XC) =>
  T.ret (.iface 301 (.pointer d)))
  (bR (Sx.df (BinOp.eql) 29 (Operand.tmp 11) (Operand.tmp 27) (.iface 299 (.int .i64 (2:Int))) (.iface 299 (.int .i64 (3:Int)))) fun (d:Bool) =>
  cond d
  (aS 191 [.string ⟨#[80,97,114,115,101,85,105,110,116]⟩,.string a,.int .i64 (16:Int)] false [(false,[.pointer 307])] fun (e:Option XC) =>
  T.ret (.iface 301 (.pointer e)))
  (bR (Sx.df (BinOp.eql) 29 (Operand.tmp 11) (Operand.tmp 35) (.iface 299 (.int .i64 (2:Int))) (.iface 299 (.int .i64 (4:Int)))) fun (e:Bool) =>
  cond e
   (aS 192 [.string ⟨#[80,97,114,115,101,85,105,110,116]⟩,.string a,.int .i64 (32:Int)] false [(false,[.pointer 307])] fun (f:Option XC) =>
   T.ret (.iface 301 (.pointer f)))
   (T.ret (.iface 299 (.int .i64 (2:Int)))))))
def me (a:XA):bD Tryz.prog [] Tryz.f178 [.string ⟨#[80,97,114,115,101,85,105,110,116]⟩,.string a,.int .i64 (16:Int),.int .i64 (32:Int),.iface 299 (.int .i64 (2:Int))]=iQ a:=aB
def ey (a : XA) : T :=
 cond ((ByteArray.toList a) == [])
  (aw #[.int .u64 (0 : Int), .iface 299 (.int .i64 (2 : Int))])
  (T.need ((0 : Int) <= (32 : Int)) <|
  dh (convert 9 42 (.string a)) false [(false, [.slice 0])] fun (b : Option XC) (c : Nat) (d : Nat) =>
  T.loop [(false, [.int .u64]), (false, [.invalid]), (false, [.bool]), (false, [.int .u64]), (false, [.int .i64])] [.int .u64 (0 : Int), .nilIface, .bool false, .int .u64 (0 : Int), .int .i64 (0 : Int)] fun (e : Int) (f : XB) (g : Bool) (h : Int) (i : Int) =>
  cond (decide (i < (c : Int)))
   (T.need (((0 : Int) <= i) /\ (i < (c : Int))) <|
   T.aA b fun (j : XC) =>
   T.ah (j.add ((Int.toNat i) * 1)) [.int .u8] fun (k : Int) =>
   cond (k == (95 : Int))
    (cond (decide ((48 : Int) <= k))
     (cond (decide (k <= (57 : Int)))
      (cond (decide ((IntKind.wrap .u8 (k - (48 : Int))) >= (10 : Int)))
       (aw #[.int .u64 (0 : Int), .iface 299 (.int .i64 (2 : Int))])
       (cond (decide (h >= (1844674407370955162 : Int)))
        (aw #[.int .u64 (4294967295 : Int), .iface 299 (.int .i64 (1 : Int))])
        (cond (decide ((IntKind.wrap .u64 ((IntKind.wrap .u64 (h * (10 : Int))) + (IntKind.wrap .u64 (IntKind.wrap .u8 (k - (48 : Int)))))) < (IntKind.wrap .u64 (h * (10 : Int)))))
         (aw #[.int .u64 (4294967295 : Int), .iface 299 (.int .i64 (1 : Int))])
         (cond (decide ((IntKind.wrap .u64 ((IntKind.wrap .u64 (h * (10 : Int))) + (IntKind.wrap .u64 (IntKind.wrap .u8 (k - (48 : Int)))))) > (4294967295 : Int)))
          (aw #[.int .u64 (4294967295 : Int), .iface 299 (.int .i64 (1 : Int))])
          (T.again 0 [.int .u64 e, f, .bool g, .int .u64 (IntKind.wrap .u64 ((IntKind.wrap .u64 (h * (10 : Int))) + (IntKind.wrap .u64 (IntKind.wrap .u8 (k - (48 : Int)))))), .int .i64 (aH (i + (1 : Int)))])))))
      (aS 187 [.int .u8 k] false [(false, [.int .u8])] fun (l : Int) =>
      cond (decide ((97 : Int) <= l))
       (aS 187 [.int .u8 k] false [(false, [.int .u8])] fun (m : Int) =>
       cond (decide (m <= (122 : Int)))
        (aS 187 [.int .u8 k] false [(false, [.int .u8])] fun (n : Int) =>
        cond (decide ((IntKind.wrap .u8 ((IntKind.wrap .u8 (n - (97 : Int))) + (10 : Int))) >= (10 : Int)))
         (aw #[.int .u64 (0 : Int), .iface 299 (.int .i64 (2 : Int))])
         (cond (decide (h >= (1844674407370955162 : Int)))
          (aw #[.int .u64 (4294967295 : Int), .iface 299 (.int .i64 (1 : Int))])
          (cond (decide ((IntKind.wrap .u64 ((IntKind.wrap .u64 (h * (10 : Int))) + (IntKind.wrap .u64 (IntKind.wrap .u8 ((IntKind.wrap .u8 (n - (97 : Int))) + (10 : Int)))))) < (IntKind.wrap .u64 (h * (10 : Int)))))
           (aw #[.int .u64 (4294967295 : Int), .iface 299 (.int .i64 (1 : Int))])
           (cond (decide ((IntKind.wrap .u64 ((IntKind.wrap .u64 (h * (10 : Int))) + (IntKind.wrap .u64 (IntKind.wrap .u8 ((IntKind.wrap .u8 (n - (97 : Int))) + (10 : Int)))))) > (4294967295 : Int)))
            (aw #[.int .u64 (4294967295 : Int), .iface 299 (.int .i64 (1 : Int))])
            (T.again 0 [.int .u64 e, f, .bool g, .int .u64 (IntKind.wrap .u64 ((IntKind.wrap .u64 (h * (10 : Int))) + (IntKind.wrap .u64 (IntKind.wrap .u8 ((IntKind.wrap .u8 (n - (97 : Int))) + (10 : Int)))))), .int .i64 (aH (i + (1 : Int)))])))))
        (aw #[.int .u64 (0 : Int), .iface 299 (.int .i64 (2 : Int))]))
       (aw #[.int .u64 (0 : Int), .iface 299 (.int .i64 (2 : Int))])))
     (aS 187 [.int .u8 k] false [(false, [.int .u8])] fun (l : Int) =>
     cond (decide ((97 : Int) <= l))
      (aS 187 [.int .u8 k] false [(false, [.int .u8])] fun (m : Int) =>
      cond (decide (m <= (122 : Int)))
       (aS 187 [.int .u8 k] false [(false, [.int .u8])] fun (n : Int) =>
       cond (decide ((IntKind.wrap .u8 ((IntKind.wrap .u8 (n - (97 : Int))) + (10 : Int))) >= (10 : Int)))
        (aw #[.int .u64 (0 : Int), .iface 299 (.int .i64 (2 : Int))])
        (cond (decide (h >= (1844674407370955162 : Int)))
         (aw #[.int .u64 (4294967295 : Int), .iface 299 (.int .i64 (1 : Int))])
         (cond (decide ((IntKind.wrap .u64 ((IntKind.wrap .u64 (h * (10 : Int))) + (IntKind.wrap .u64 (IntKind.wrap .u8 ((IntKind.wrap .u8 (n - (97 : Int))) + (10 : Int)))))) < (IntKind.wrap .u64 (h * (10 : Int)))))
          (aw #[.int .u64 (4294967295 : Int), .iface 299 (.int .i64 (1 : Int))])
          (cond (decide ((IntKind.wrap .u64 ((IntKind.wrap .u64 (h * (10 : Int))) + (IntKind.wrap .u64 (IntKind.wrap .u8 ((IntKind.wrap .u8 (n - (97 : Int))) + (10 : Int)))))) > (4294967295 : Int)))
           (aw #[.int .u64 (4294967295 : Int), .iface 299 (.int .i64 (1 : Int))])
           (T.again 0 [.int .u64 e, f, .bool g, .int .u64 (IntKind.wrap .u64 ((IntKind.wrap .u64 (h * (10 : Int))) + (IntKind.wrap .u64 (IntKind.wrap .u8 ((IntKind.wrap .u8 (n - (97 : Int))) + (10 : Int)))))), .int .i64 (aH (i + (1 : Int)))])))))
       (aw #[.int .u64 (0 : Int), .iface 299 (.int .i64 (2 : Int))]))
      (aw #[.int .u64 (0 : Int), .iface 299 (.int .i64 (2 : Int))])))
    (cond (decide ((48 : Int) <= k))
     (cond (decide (k <= (57 : Int)))
      (cond (decide ((IntKind.wrap .u8 (k - (48 : Int))) >= (10 : Int)))
       (aw #[.int .u64 (0 : Int), .iface 299 (.int .i64 (2 : Int))])
       (cond (decide (h >= (1844674407370955162 : Int)))
        (aw #[.int .u64 (4294967295 : Int), .iface 299 (.int .i64 (1 : Int))])
        (cond (decide ((IntKind.wrap .u64 ((IntKind.wrap .u64 (h * (10 : Int))) + (IntKind.wrap .u64 (IntKind.wrap .u8 (k - (48 : Int)))))) < (IntKind.wrap .u64 (h * (10 : Int)))))
         (aw #[.int .u64 (4294967295 : Int), .iface 299 (.int .i64 (1 : Int))])
         (cond (decide ((IntKind.wrap .u64 ((IntKind.wrap .u64 (h * (10 : Int))) + (IntKind.wrap .u64 (IntKind.wrap .u8 (k - (48 : Int)))))) > (4294967295 : Int)))
          (aw #[.int .u64 (4294967295 : Int), .iface 299 (.int .i64 (1 : Int))])
          (T.again 0 [.int .u64 e, f, .bool g, .int .u64 (IntKind.wrap .u64 ((IntKind.wrap .u64 (h * (10 : Int))) + (IntKind.wrap .u64 (IntKind.wrap .u8 (k - (48 : Int)))))), .int .i64 (aH (i + (1 : Int)))])))))
      (aS 187 [.int .u8 k] false [(false, [.int .u8])] fun (l : Int) =>
      cond (decide ((97 : Int) <= l))
       (aS 187 [.int .u8 k] false [(false, [.int .u8])] fun (m : Int) =>
       cond (decide (m <= (122 : Int)))
        (aS 187 [.int .u8 k] false [(false, [.int .u8])] fun (n : Int) =>
        cond (decide ((IntKind.wrap .u8 ((IntKind.wrap .u8 (n - (97 : Int))) + (10 : Int))) >= (10 : Int)))
         (aw #[.int .u64 (0 : Int), .iface 299 (.int .i64 (2 : Int))])
         (cond (decide (h >= (1844674407370955162 : Int)))
          (aw #[.int .u64 (4294967295 : Int), .iface 299 (.int .i64 (1 : Int))])
          (cond (decide ((IntKind.wrap .u64 ((IntKind.wrap .u64 (h * (10 : Int))) + (IntKind.wrap .u64 (IntKind.wrap .u8 ((IntKind.wrap .u8 (n - (97 : Int))) + (10 : Int)))))) < (IntKind.wrap .u64 (h * (10 : Int)))))
           (aw #[.int .u64 (4294967295 : Int), .iface 299 (.int .i64 (1 : Int))])
           (cond (decide ((IntKind.wrap .u64 ((IntKind.wrap .u64 (h * (10 : Int))) + (IntKind.wrap .u64 (IntKind.wrap .u8 ((IntKind.wrap .u8 (n - (97 : Int))) + (10 : Int)))))) > (4294967295 : Int)))
            (aw #[.int .u64 (4294967295 : Int), .iface 299 (.int .i64 (1 : Int))])
            (T.again 0 [.int .u64 e, f, .bool g, .int .u64 (IntKind.wrap .u64 ((IntKind.wrap .u64 (h * (10 : Int))) + (IntKind.wrap .u64 (IntKind.wrap .u8 ((IntKind.wrap .u8 (n - (97 : Int))) + (10 : Int)))))), .int .i64 (aH (i + (1 : Int)))])))))
        (aw #[.int .u64 (0 : Int), .iface 299 (.int .i64 (2 : Int))]))
       (aw #[.int .u64 (0 : Int), .iface 299 (.int .i64 (2 : Int))])))
     (aS 187 [.int .u8 k] false [(false, [.int .u8])] fun (l : Int) =>
     cond (decide ((97 : Int) <= l))
      (aS 187 [.int .u8 k] false [(false, [.int .u8])] fun (m : Int) =>
      cond (decide (m <= (122 : Int)))
       (aS 187 [.int .u8 k] false [(false, [.int .u8])] fun (n : Int) =>
       cond (decide ((IntKind.wrap .u8 ((IntKind.wrap .u8 (n - (97 : Int))) + (10 : Int))) >= (10 : Int)))
        (aw #[.int .u64 (0 : Int), .iface 299 (.int .i64 (2 : Int))])
        (cond (decide (h >= (1844674407370955162 : Int)))
         (aw #[.int .u64 (4294967295 : Int), .iface 299 (.int .i64 (1 : Int))])
         (cond (decide ((IntKind.wrap .u64 ((IntKind.wrap .u64 (h * (10 : Int))) + (IntKind.wrap .u64 (IntKind.wrap .u8 ((IntKind.wrap .u8 (n - (97 : Int))) + (10 : Int)))))) < (IntKind.wrap .u64 (h * (10 : Int)))))
          (aw #[.int .u64 (4294967295 : Int), .iface 299 (.int .i64 (1 : Int))])
          (cond (decide ((IntKind.wrap .u64 ((IntKind.wrap .u64 (h * (10 : Int))) + (IntKind.wrap .u64 (IntKind.wrap .u8 ((IntKind.wrap .u8 (n - (97 : Int))) + (10 : Int)))))) > (4294967295 : Int)))
           (aw #[.int .u64 (4294967295 : Int), .iface 299 (.int .i64 (1 : Int))])
           (T.again 0 [.int .u64 e, f, .bool g, .int .u64 (IntKind.wrap .u64 ((IntKind.wrap .u64 (h * (10 : Int))) + (IntKind.wrap .u64 (IntKind.wrap .u8 ((IntKind.wrap .u8 (n - (97 : Int))) + (10 : Int)))))), .int .i64 (aH (i + (1 : Int)))])))))
       (aw #[.int .u64 (0 : Int), .iface 299 (.int .i64 (2 : Int))]))
      (aw #[.int .u64 (0 : Int), .iface 299 (.int .i64 (2 : Int))]))))
   (cond g
    (aS 188 [.string a] false [(false, [.bool])] fun (j : Bool) =>
    cond (!j)
     (aw #[.int .u64 (0 : Int), .iface 299 (.int .i64 (2 : Int))])
     (aw #[.int .u64 h, .nilIface]))
    (aw #[.int .u64 h, .nilIface])))
def gC (a:XA):bD Tryz.prog [] Tryz.f177 [.string a,.int .i64 (10:Int),.int .i64 (32:Int)]=ey a:=aB
def et (a : XA) : T :=
 cond ((ByteArray.toList a) == [])
  (aw #[.int .u64 (0 : Int), .iface 299 (.int .i64 (2 : Int))])
  (T.need ((0 : Int) <= (32 : Int)) <|
  dh (convert 9 42 (.string a)) false [(false, [.slice 0])] fun (b : Option XC) (c : Nat) (d : Nat) =>
  T.loop [(false, [.int .u64]), (false, [.invalid]), (false, [.bool]), (false, [.int .u64]), (false, [.int .i64])] [.int .u64 (0 : Int), .nilIface, .bool false, .int .u64 (0 : Int), .int .i64 (0 : Int)] fun (e : Int) (f : XB) (g : Bool) (h : Int) (i : Int) =>
  cond (decide (i < (c : Int)))
   (T.need (((0 : Int) <= i) /\ (i < (c : Int))) <|
   T.aA b fun (j : XC) =>
   T.ah (j.add ((Int.toNat i) * 1)) [.int .u8] fun (k : Int) =>
   cond (k == (95 : Int))
    (cond (decide ((48 : Int) <= k))
     (cond (decide (k <= (57 : Int)))
      (cond (decide ((IntKind.wrap .u8 (k - (48 : Int))) >= (16 : Int)))
       (aw #[.int .u64 (0 : Int), .iface 299 (.int .i64 (2 : Int))])
       (cond (decide (h >= (1152921504606846976 : Int)))
        (aw #[.int .u64 (4294967295 : Int), .iface 299 (.int .i64 (1 : Int))])
        (cond (decide ((IntKind.wrap .u64 ((IntKind.wrap .u64 (h * (16 : Int))) + (IntKind.wrap .u64 (IntKind.wrap .u8 (k - (48 : Int)))))) < (IntKind.wrap .u64 (h * (16 : Int)))))
         (aw #[.int .u64 (4294967295 : Int), .iface 299 (.int .i64 (1 : Int))])
         (cond (decide ((IntKind.wrap .u64 ((IntKind.wrap .u64 (h * (16 : Int))) + (IntKind.wrap .u64 (IntKind.wrap .u8 (k - (48 : Int)))))) > (4294967295 : Int)))
          (aw #[.int .u64 (4294967295 : Int), .iface 299 (.int .i64 (1 : Int))])
          (T.again 0 [.int .u64 e, f, .bool g, .int .u64 (IntKind.wrap .u64 ((IntKind.wrap .u64 (h * (16 : Int))) + (IntKind.wrap .u64 (IntKind.wrap .u8 (k - (48 : Int)))))), .int .i64 (aH (i + (1 : Int)))])))))
      (aS 187 [.int .u8 k] false [(false, [.int .u8])] fun (l : Int) =>
      cond (decide ((97 : Int) <= l))
       (aS 187 [.int .u8 k] false [(false, [.int .u8])] fun (m : Int) =>
       cond (decide (m <= (122 : Int)))
        (aS 187 [.int .u8 k] false [(false, [.int .u8])] fun (n : Int) =>
        cond (decide ((IntKind.wrap .u8 ((IntKind.wrap .u8 (n - (97 : Int))) + (10 : Int))) >= (16 : Int)))
         (aw #[.int .u64 (0 : Int), .iface 299 (.int .i64 (2 : Int))])
         (cond (decide (h >= (1152921504606846976 : Int)))
          (aw #[.int .u64 (4294967295 : Int), .iface 299 (.int .i64 (1 : Int))])
          (cond (decide ((IntKind.wrap .u64 ((IntKind.wrap .u64 (h * (16 : Int))) + (IntKind.wrap .u64 (IntKind.wrap .u8 ((IntKind.wrap .u8 (n - (97 : Int))) + (10 : Int)))))) < (IntKind.wrap .u64 (h * (16 : Int)))))
           (aw #[.int .u64 (4294967295 : Int), .iface 299 (.int .i64 (1 : Int))])
           (cond (decide ((IntKind.wrap .u64 ((IntKind.wrap .u64 (h * (16 : Int))) + (IntKind.wrap .u64 (IntKind.wrap .u8 ((IntKind.wrap .u8 (n - (97 : Int))) + (10 : Int)))))) > (4294967295 : Int)))
            (aw #[.int .u64 (4294967295 : Int), .iface 299 (.int .i64 (1 : Int))])
            (T.again 0 [.int .u64 e, f, .bool g, .int .u64 (IntKind.wrap .u64 ((IntKind.wrap .u64 (h * (16 : Int))) + (IntKind.wrap .u64 (IntKind.wrap .u8 ((IntKind.wrap .u8 (n - (97 : Int))) + (10 : Int)))))), .int .i64 (aH (i + (1 : Int)))])))))
        (aw #[.int .u64 (0 : Int), .iface 299 (.int .i64 (2 : Int))]))
       (aw #[.int .u64 (0 : Int), .iface 299 (.int .i64 (2 : Int))])))
     (aS 187 [.int .u8 k] false [(false, [.int .u8])] fun (l : Int) =>
     cond (decide ((97 : Int) <= l))
      (aS 187 [.int .u8 k] false [(false, [.int .u8])] fun (m : Int) =>
      cond (decide (m <= (122 : Int)))
       (aS 187 [.int .u8 k] false [(false, [.int .u8])] fun (n : Int) =>
       cond (decide ((IntKind.wrap .u8 ((IntKind.wrap .u8 (n - (97 : Int))) + (10 : Int))) >= (16 : Int)))
        (aw #[.int .u64 (0 : Int), .iface 299 (.int .i64 (2 : Int))])
        (cond (decide (h >= (1152921504606846976 : Int)))
         (aw #[.int .u64 (4294967295 : Int), .iface 299 (.int .i64 (1 : Int))])
         (cond (decide ((IntKind.wrap .u64 ((IntKind.wrap .u64 (h * (16 : Int))) + (IntKind.wrap .u64 (IntKind.wrap .u8 ((IntKind.wrap .u8 (n - (97 : Int))) + (10 : Int)))))) < (IntKind.wrap .u64 (h * (16 : Int)))))
          (aw #[.int .u64 (4294967295 : Int), .iface 299 (.int .i64 (1 : Int))])
          (cond (decide ((IntKind.wrap .u64 ((IntKind.wrap .u64 (h * (16 : Int))) + (IntKind.wrap .u64 (IntKind.wrap .u8 ((IntKind.wrap .u8 (n - (97 : Int))) + (10 : Int)))))) > (4294967295 : Int)))
           (aw #[.int .u64 (4294967295 : Int), .iface 299 (.int .i64 (1 : Int))])
           (T.again 0 [.int .u64 e, f, .bool g, .int .u64 (IntKind.wrap .u64 ((IntKind.wrap .u64 (h * (16 : Int))) + (IntKind.wrap .u64 (IntKind.wrap .u8 ((IntKind.wrap .u8 (n - (97 : Int))) + (10 : Int)))))), .int .i64 (aH (i + (1 : Int)))])))))
       (aw #[.int .u64 (0 : Int), .iface 299 (.int .i64 (2 : Int))]))
      (aw #[.int .u64 (0 : Int), .iface 299 (.int .i64 (2 : Int))])))
    (cond (decide ((48 : Int) <= k))
     (cond (decide (k <= (57 : Int)))
      (cond (decide ((IntKind.wrap .u8 (k - (48 : Int))) >= (16 : Int)))
       (aw #[.int .u64 (0 : Int), .iface 299 (.int .i64 (2 : Int))])
       (cond (decide (h >= (1152921504606846976 : Int)))
        (aw #[.int .u64 (4294967295 : Int), .iface 299 (.int .i64 (1 : Int))])
        (cond (decide ((IntKind.wrap .u64 ((IntKind.wrap .u64 (h * (16 : Int))) + (IntKind.wrap .u64 (IntKind.wrap .u8 (k - (48 : Int)))))) < (IntKind.wrap .u64 (h * (16 : Int)))))
         (aw #[.int .u64 (4294967295 : Int), .iface 299 (.int .i64 (1 : Int))])
         (cond (decide ((IntKind.wrap .u64 ((IntKind.wrap .u64 (h * (16 : Int))) + (IntKind.wrap .u64 (IntKind.wrap .u8 (k - (48 : Int)))))) > (4294967295 : Int)))
          (aw #[.int .u64 (4294967295 : Int), .iface 299 (.int .i64 (1 : Int))])
          (T.again 0 [.int .u64 e, f, .bool g, .int .u64 (IntKind.wrap .u64 ((IntKind.wrap .u64 (h * (16 : Int))) + (IntKind.wrap .u64 (IntKind.wrap .u8 (k - (48 : Int)))))), .int .i64 (aH (i + (1 : Int)))])))))
      (aS 187 [.int .u8 k] false [(false, [.int .u8])] fun (l : Int) =>
      cond (decide ((97 : Int) <= l))
       (aS 187 [.int .u8 k] false [(false, [.int .u8])] fun (m : Int) =>
       cond (decide (m <= (122 : Int)))
        (aS 187 [.int .u8 k] false [(false, [.int .u8])] fun (n : Int) =>
        cond (decide ((IntKind.wrap .u8 ((IntKind.wrap .u8 (n - (97 : Int))) + (10 : Int))) >= (16 : Int)))
         (aw #[.int .u64 (0 : Int), .iface 299 (.int .i64 (2 : Int))])
         (cond (decide (h >= (1152921504606846976 : Int)))
          (aw #[.int .u64 (4294967295 : Int), .iface 299 (.int .i64 (1 : Int))])
          (cond (decide ((IntKind.wrap .u64 ((IntKind.wrap .u64 (h * (16 : Int))) + (IntKind.wrap .u64 (IntKind.wrap .u8 ((IntKind.wrap .u8 (n - (97 : Int))) + (10 : Int)))))) < (IntKind.wrap .u64 (h * (16 : Int)))))
           (aw #[.int .u64 (4294967295 : Int), .iface 299 (.int .i64 (1 : Int))])
           (cond (decide ((IntKind.wrap .u64 ((IntKind.wrap .u64 (h * (16 : Int))) + (IntKind.wrap .u64 (IntKind.wrap .u8 ((IntKind.wrap .u8 (n - (97 : Int))) + (10 : Int)))))) > (4294967295 : Int)))
            (aw #[.int .u64 (4294967295 : Int), .iface 299 (.int .i64 (1 : Int))])
            (T.again 0 [.int .u64 e, f, .bool g, .int .u64 (IntKind.wrap .u64 ((IntKind.wrap .u64 (h * (16 : Int))) + (IntKind.wrap .u64 (IntKind.wrap .u8 ((IntKind.wrap .u8 (n - (97 : Int))) + (10 : Int)))))), .int .i64 (aH (i + (1 : Int)))])))))
        (aw #[.int .u64 (0 : Int), .iface 299 (.int .i64 (2 : Int))]))
       (aw #[.int .u64 (0 : Int), .iface 299 (.int .i64 (2 : Int))])))
     (aS 187 [.int .u8 k] false [(false, [.int .u8])] fun (l : Int) =>
     cond (decide ((97 : Int) <= l))
      (aS 187 [.int .u8 k] false [(false, [.int .u8])] fun (m : Int) =>
      cond (decide (m <= (122 : Int)))
       (aS 187 [.int .u8 k] false [(false, [.int .u8])] fun (n : Int) =>
       cond (decide ((IntKind.wrap .u8 ((IntKind.wrap .u8 (n - (97 : Int))) + (10 : Int))) >= (16 : Int)))
        (aw #[.int .u64 (0 : Int), .iface 299 (.int .i64 (2 : Int))])
        (cond (decide (h >= (1152921504606846976 : Int)))
         (aw #[.int .u64 (4294967295 : Int), .iface 299 (.int .i64 (1 : Int))])
         (cond (decide ((IntKind.wrap .u64 ((IntKind.wrap .u64 (h * (16 : Int))) + (IntKind.wrap .u64 (IntKind.wrap .u8 ((IntKind.wrap .u8 (n - (97 : Int))) + (10 : Int)))))) < (IntKind.wrap .u64 (h * (16 : Int)))))
          (aw #[.int .u64 (4294967295 : Int), .iface 299 (.int .i64 (1 : Int))])
          (cond (decide ((IntKind.wrap .u64 ((IntKind.wrap .u64 (h * (16 : Int))) + (IntKind.wrap .u64 (IntKind.wrap .u8 ((IntKind.wrap .u8 (n - (97 : Int))) + (10 : Int)))))) > (4294967295 : Int)))
           (aw #[.int .u64 (4294967295 : Int), .iface 299 (.int .i64 (1 : Int))])
           (T.again 0 [.int .u64 e, f, .bool g, .int .u64 (IntKind.wrap .u64 ((IntKind.wrap .u64 (h * (16 : Int))) + (IntKind.wrap .u64 (IntKind.wrap .u8 ((IntKind.wrap .u8 (n - (97 : Int))) + (10 : Int)))))), .int .i64 (aH (i + (1 : Int)))])))))
       (aw #[.int .u64 (0 : Int), .iface 299 (.int .i64 (2 : Int))]))
      (aw #[.int .u64 (0 : Int), .iface 299 (.int .i64 (2 : Int))]))))
   (cond g
    (aS 188 [.string a] false [(false, [.bool])] fun (j : Bool) =>
    cond (!j)
     (aw #[.int .u64 (0 : Int), .iface 299 (.int .i64 (2 : Int))])
     (aw #[.int .u64 h, .nilIface]))
    (aw #[.int .u64 h, .nilIface])))
def gu (a:XA):bD Tryz.prog [] Tryz.f177 [.string a,.int .i64 (16:Int),.int .i64 (32:Int)]=et a:=aB
def gV (a:XA):T :=
 aS 177 [.string a, .int .i64 (10 : Int), .int .i64 (32 : Int)] true [(false, [.int .u64]), (false, [.interface #[("Error", 85)]])] fun (b : Int) (c : XB) =>
 bR (Sx.df (BinOp.neq) 29 (Operand.tmp 17) (Operand.const Value.nilIface) c .nilIface) fun (d:Bool) =>
 cond d
 (aS 178 [.string ⟨#[80, 97, 114, 115, 101, 85, 105, 110, 116]⟩, .string a, .int .i64 (10 : Int), .int .i64 (32 : Int), c] false [(false, [.interface #[("Error", 85)]])] fun (e : XB) =>
 aw #[.int .u64 b,e])
 (aw #[.int .u64 b,.nilIface])
def kF (a:XA):bD Tryz.prog [] Tryz.f150 [.string a,.int .i64 (10:Int),.int .i64 (32:Int)]=gV a:=aB
def gW (a:XA):T :=
 aS 177 [.string a, .int .i64 (16 : Int), .int .i64 (32 : Int)] true [(false, [.int .u64]), (false, [.interface #[("Error", 85)]])] fun (b : Int) (c : XB) =>
 bR (Sx.df (BinOp.neq) 29 (Operand.tmp 17) (Operand.const Value.nilIface) c .nilIface) fun (d:Bool) =>
 cond d
 (aS 178 [.string ⟨#[80, 97, 114, 115, 101, 85, 105, 110, 116]⟩, .string a, .int .i64 (16 : Int), .int .i64 (32 : Int), c] false [(false, [.interface #[("Error", 85)]])] fun (e : XB) =>
 aw #[.int .u64 b,e])
 (aw #[.int .u64 b,.nilIface])
def lr (a:XA):bD Tryz.prog [] Tryz.f150 [.string a,.int .i64 (16:Int),.int .i64 (32:Int)]=gW a:=aB
def De (s:XA) (h:Hp) (hs:s.size<=2^48):HC Tryz.prog 200 #[.string s] h fun v h'=>v=.string s/\Ext h h':=by
 refine ba (args:=[.string s]) mixed Tryz.func200 aB (iy s) ?_
 unfold fg aR dh aZ bh aQ
 have hsz:s.data.toList.length=s.size:=aj
 refine ai (fun h1=>?_) (fun h1=>?_)
 ·have h1:=eq_of_beq h1
  have:s=⟨#[]⟩:=by
   apply ByteArray.ext
   exact Array.eq_empty_of_size_eq_zero (by have:s.data.size=s.size:=rfl; omega)
  rw [this]
  exact ⟨rfl,Ch.refl _ _⟩
 ·have h1:=ON h1
  obtain ⟨i5,hi5,hz5,hs5,hb5⟩:_:=nI (P:=Tryz.prog) (t:=5) (z:=.int .u8 0) (s:=1) (b:=1) aB
  refine dE ?_
  refine Bi (e:=5) aB hi5 hz5 (OP _) (by rw [hb5]; omega) ae ?_
  intro h1' b1 e1 z1
  refine ⟨_,_,_,rfl,?_⟩
  show T.fb Tryz.prog (Builtin.copy_ #[42,9] 3 #[.slice (some ⟨h.size,0,none⟩) s.size s.size,.string s]) false [(false,[.int .i64])] _ [] _ h1'
  refine Dq (e:=5) aB hi5 b1 rfl (by simp [hs5]) ?_
  intro h2 b2 c2 z2
  refine ⟨(_,()),rfl,?_⟩
  refine aC ⟨ae,ae⟩ (au rfl ?_)
  have hl:j8 ((List.range (s.size*i5.size)).map ((Value.int IntKind.u8 0).cells[· % (Value.int IntKind.u8 0).cells.size]!)) 0 (s.data.toList.map j2)=s.data.toList.map j2:=by
   rw [qZ _ _ _ (by simp [hs5])]
   rw [List.take_zero,PW,Pp (by simp [hs5]),Pr]
  rw [hl] at b2
  have hne:s.data.toList≠[]:=by
   intro hn; rw [hn] at hsz; simp at hsz; omega
  have h63:s.size<=9223372036854775807:=ae
  rw [<- hsz]
  refine wO (e:=5) aB aB b2 s.data.toList hne aj ae (fun i hi=>?_) ?_
  ·rw [b2.cell,Pw,OO hi]; rfl
  ·intro h3 f' hg3 c3 z3
   refine ⟨(_,()),rfl,?_⟩
   refine ⟨?_,?_⟩
   ·congr 1
   ·have hv:∀ i,i∈[h.size]->i<h.size->i∈([]:List Nat):=by
     intro i hi hlt; simp at hi; omega
    exact Ch.trans (Ch.trans e1 c2 hv) c3 hv
structure Laid (h:Hp):Prop where
 Ol:∃ v,fC h ⟨4,0,none⟩=some v/\fE v=false
 On:∃ v,fC h ⟨5,0,none⟩=some v/\fE v=false
def Laid.ext {h h':Hp} (l:Laid h) (e:Ext h h'):Laid h':=by
 obtain ⟨v,h1,h2⟩:=l.Ol
 obtain ⟨u,h3,h4⟩:=l.On
 exact ⟨⟨v,dZ h1 e aj,h2⟩,⟨u,dZ h3 e aj,h4⟩⟩
def qg (fn s:XA) (h:Hp) (hs:s.size<=2^48) (hl:Laid h):HC Tryz.prog 189 #[.string fn,.string s] h fun v h'=>(∃ a,v=.pointer (some a))/\Ext h h':=by
 refine ba (args:=[.string fn,.string s]) mixed Tryz.func189 aB (lY fn s) ?_
 unfold iK uG
 obtain ⟨v,hv,hva⟩:=hl.Ol
 refine aG (v,()) ⟨hv,trivial⟩ ?_
 refine aK (De s h hs) ?_
 rintro _ h1 ⟨rfl,e1⟩
 refine ⟨(s,()),rfl,?_⟩
 refine ⟨⟨⟨dZ hv e1 aj,trivial⟩,trivial⟩,?_⟩
 refine aW hva ?_
 refine bm ?_
 intro h2 b2 e2 z2
 exact ⟨⟨⟨dZ (dZ hv e1 aj) e2 aj,trivial⟩,trivial⟩,⟨_,rfl⟩,e1.trans e2⟩
def y8 (fn s:XA) (h:Hp) (hs:s.size<=2^48) (hl:Laid h):HC Tryz.prog 190 #[.string fn,.string s] h fun v h'=>(∃ a,v=.pointer (some a))/\Ext h h':=by
 refine ba (args:=[.string fn,.string s]) mixed Tryz.func190 aB (nj fn s) ?_
 unfold jv uG
 obtain ⟨v,hv,hva⟩:=hl.On
 refine aG (v,()) ⟨hv,trivial⟩ ?_
 refine aK (De s h hs) ?_
 rintro _ h1 ⟨rfl,e1⟩
 refine ⟨(s,()),rfl,?_⟩
 refine ⟨⟨⟨dZ hv e1 aj,trivial⟩,trivial⟩,?_⟩
 refine aW hva ?_
 refine bm ?_
 intro h2 b2 e2 z2
 exact ⟨⟨⟨dZ (dZ hv e1 aj) e2 aj,trivial⟩,trivial⟩,⟨_,rfl⟩,e1.trans e2⟩
def KX (h:Hp) (K:XB->Hp->Prop):aV Tryz.prog (df (.eql) 29 (.tmp 11) (.tmp 13) (.iface 299 (.int .i64 2)) (.iface 299 (.int .i64 2))) h K=K (.bool true) h:=aB
def MQ (h:Hp) (K:XB->Hp->Prop):aV Tryz.prog (df (.eql) 29 (.tmp 11) (.tmp 13) (.iface 299 (.int .i64 1)) (.iface 299 (.int .i64 2))) h K=K (.bool false) h:=aB
def Mz (h:Hp) (K:XB->Hp->Prop):aV Tryz.prog (df (.eql) 29 (.tmp 11) (.tmp 20) (.iface 299 (.int .i64 1)) (.iface 299 (.int .i64 1))) h K=K (.bool true) h:=aB
abbrev Ga:XA:=⟨#[80,97,114,115,101,85,105,110,116]⟩
def yo (s:XA) (h:Hp) (hs:s.size<=2^48) (hl:Laid h):HC Tryz.prog 178 #[.string Ga,.string s,.int .i64 10,.int .i64 32,.iface 299 (.int .i64 2)] h fun v h'=>(∃ a,v=.iface 301 (.pointer (some a)))/\Ext h h':=by
 refine ba (args:=[.string Ga,.string s,.int .i64 10,.int .i64 32,.iface 299 (.int .i64 2)]) mixed Tryz.func178 aB (lU s) ?_
 unfold iJ aS bR
 refine cI (b:=true) (fun K' hk=>by rw [KX]; exact hk) ?_
 refine aX rfl (aK (qg _ s h hs hl) ?_)
 rintro _ h1 ⟨⟨a,rfl⟩,e1⟩
 exact ⟨(some a,()),rfl,⟨a,rfl⟩,e1⟩
def yT (s:XA) (h:Hp) (hs:s.size<=2^48) (hl:Laid h):HC Tryz.prog 178 #[.string Ga,.string s,.int .i64 16,.int .i64 32,.iface 299 (.int .i64 2)] h fun v h'=>(∃ a,v=.iface 301 (.pointer (some a)))/\Ext h h':=by
 refine ba (args:=[.string Ga,.string s,.int .i64 16,.int .i64 32,.iface 299 (.int .i64 2)]) mixed Tryz.func178 aB (me s) ?_
 unfold iQ aS bR
 refine cI (b:=true) (fun K' hk=>by rw [KX]; exact hk) ?_
 refine aX rfl (aK (qg _ s h hs hl) ?_)
 rintro _ h1 ⟨⟨a,rfl⟩,e1⟩
 exact ⟨(some a,()),rfl,⟨a,rfl⟩,e1⟩
def xp (s:XA) (h:Hp) (hs:s.size<=2^48) (hl:Laid h):HC Tryz.prog 178 #[.string Ga,.string s,.int .i64 10,.int .i64 32,.iface 299 (.int .i64 1)] h fun v h'=>(∃ a,v=.iface 301 (.pointer (some a)))/\Ext h h':=by
 refine ba (args:=[.string Ga,.string s,.int .i64 10,.int .i64 32,.iface 299 (.int .i64 1)]) mixed Tryz.func178 aB (mm s) ?_
 unfold iL aS bR
 refine cI (b:=false) (fun K' hk=>by rw [MQ]; exact hk) (aW rfl ?_)
 refine cI (b:=true) (fun K' hk=>by rw [Mz]; exact hk) ?_
 refine aX rfl (aK (y8 _ s h hs hl) ?_)
 rintro _ h1 ⟨⟨a,rfl⟩,e1⟩
 exact ⟨(some a,()),rfl,⟨a,rfl⟩,e1⟩
def dv (c:UInt8):Nat:=if c.toNat<58 then c.toNat-48 else c.toNat-87
def cb (b:Nat) (l:List UInt8):Nat:=l.foldl (fun n c=>n*b+dv c) 0
def mZ (c:UInt8):Bool:=cJ c || (97<=c.toNat && c.toNat<=102)
def qP (b:Nat) (l:List UInt8) (k:Nat) (hk:k<l.length):cb b (l.take (k+1))=cb b (l.take k)*b+dv (l.getD k 0):=by
 unfold cb
 rw [OT hk,PJ]
 simp [List.getD,List.getElem?_eq_getElem hk]
theorem CZ (b:Nat) (hb:0<b):∀ (l:List UInt8) (n:Nat),n<=l.foldl (fun n c=>n*b+dv c) n
 | [],n=>OP _
 | c::l,n=>by
  rw [Pq]
  refine Pb ?_ (CZ b hb l _)
  have:=Nat.mul_le_mul_left n hb
  omega
def uu (b:Nat) (hb:0<b) (l:List UInt8) (k:Nat):cb b (l.take k)<=cb b l:=by
 conv=>rhs; rw [<- List.take_append_drop k l]
 unfold cb
 rw [PJ]
 exact CZ b hb _ _
def Ik (c:UInt8) (h:Hp) (h1:97<=c.toNat) (h2:c.toNat<=122):pO Tryz.prog 187 [.int .u8 (cN c)] h (.int .u8 (cN c)):=by
 refine dk mixed Tryz.func187 aB (j9 _) ?_
 refine ⟨?_,rfl⟩
 congr 1
 have:=gR (fun c=>!(decide (97<=c.toNat) && decide (c.toNat<=122)) || decide (IntKind.wrap .u8 ((BitVec.toNat ((BitVec.ofInt 8 (cN c)) ||| (BitVec.ofInt 8 (32:Int)))):Int)=cN c)) (fun _=>true) (by decide +kernel) c
 simp only [h1,h2,decide_true,Bool.and_self,Bool.not_true,Bool.false_or,decide_eq_true_eq] at this
 exact this
def yV (b:Nat) (l:List UInt8):Nat × XB:=if l=[] then (0,.iface 299 (.int .i64 2)) else if cb b l<4294967296 then (cb b l,.nilIface) else (4294967295,.iface 299 (.int .i64 1))
def xc (s:XA):s.data.toList=[]↔s.size=0:=by
 have hsz:s.data.toList.length=s.size:=aj
 constructor
 ·intro h; rw [h] at hsz; simpa using hsz.symm
 ·intro h; exact OQ ae
def Il (s:XA) (h:Hp) (hs:s.size<=2^48) (hd:∀ i,i<s.size->cJ (s.data.toList.getD i 0)=true) :
  HC Tryz.prog 177 #[.string s,.int .i64 10,.int .i64 32] h fun v h'=>v=.tuple #[.int .u64 (yV 10 s.data.toList).1,(yV 10 s.data.toList).2]/\Ext h h':=by
 refine ba (args:=[.string s,.int .i64 10,.int .i64 32]) mixed Tryz.func177 aB (gC s) ?_
 unfold ey yV aS dh aH aw
 have hsz:s.data.toList.length=s.size:=aj
 refine ai (fun h1=>?_) (fun h1=>?_)
 ·have h1:s.data.toList=[]:=by rw [toList_nil] at h1; rw [xc]; simpa using h1
  rw [OH h1]
  exact ⟨rfl,Ch.refl _ _⟩
 have h1:s.data.toList≠[]:=by rw [toList_nil] at h1; rw [ne_eq,xc]; simpa using h1
 rw [OG h1]
 refine aC ae (dE ?_)
 refine xe (e:=5) aB aB aB s ?_
 intro cap h1' hcap e1 hcell1
 refine ⟨_,_,_,rfl,?_⟩
 refine bJ (cs:=[(false,[.int .u64]),(false,[.invalid]),(false,[.bool]),(false,[.int .u64]),(false,[.int .i64])])
  (fun x n h'=>h'=h1'/\x.2.2.1=false/\∃ k:Nat,x.2.2.2.2.1=(k:Int)/\x.2.2.2.1=(cb 10 (s.data.toList.take k):Int)/\k<=s.size/\n=s.size-k/\cb 10 (s.data.toList.take k)<4294967296)
  ((0:Int),Value.nilIface,false,(0:Int),(0:Int),()) s.size rfl ⟨rfl,rfl,0,rfl,rfl,ae,ae,by simp [cb]⟩ ?_
 rintro ⟨n4,v5,b6,n7,n8,⟨⟩⟩ m h' ⟨rfl,hb6,k,hk,hn7,hle,rfl,hv⟩
 simp only at hb6 hk hn7
 subst hb6 hk hn7
 refine ai (fun hb=>?_) (fun hb=>?_)
 ·have hlt:(k:Int)<s.size:=OE hb
  have hkl:k<s.size:=ae
  refine aC ⟨(by show (0:Int)<=(k:Int); omega),hlt⟩ (au rfl ?_)
  have hc:=hcell1 k hkl
  have hdk:=(mH _).1 (hd k hkl)
  refine aG (cN (s.data.toList.getD k 0),()) ⟨?_,trivial⟩ ?_
  ·rw [az,az]
   rw [show 0+Int.toNat (k:Int)*1+0=k from ae]
   exact hc
  have hst:=qP 10 s.data.toList k ae
  have hdv:(dv (s.data.toList.getD k 0):Int)=cN (s.data.toList.getD k 0)-48:=by
   unfold dv cN at *
   rw [OH ae]; omega
  generalize cN (s.data.toList.getD k 0)=c at hdk hdv ⊢
  generalize dv (s.data.toList.getD k 0)=d at hst hdv
  have hw1:IntKind.wrap .u8 (c-48)=d:=by rw [wrap_u8 ae ae]; omega
  have hw2:IntKind.wrap .u64 (d:Int)=d:=wrap_u64 ae ae
  have hw3:IntKind.wrap .u64 ((cb 10 (s.data.toList.take k):Int)*10)=(cb 10 (s.data.toList.take k):Int)*10:=wrap_u64 ae ae
  have hw4:IntKind.wrap .u64 ((cb 10 (s.data.toList.take k):Int)*10+d)=(cb 10 (s.data.toList.take (k+1)):Int):=by rw [wrap_u64 ae ae,hst]; omega
  refine aW (show (c==95)=false from by simp; omega) ?_
  refine aX (show decide (48<=c)=true from OK ae) (aX (show decide (c<=57)=true from OK ae) ?_)
  rw [hw1,hw2]
  refine aW (show decide ((d:Int)>=10)=false from OL ae) ?_
  refine aW (show decide ((cb 10 (s.data.toList.take k):Int)>=1844674407370955162)=false from OL ae) ?_
  rw [hw3,hw4]
  refine aW (OL ae) ?_
  have hmono:=uu 10 ae s.data.toList (k+1)
  refine ai (fun h5=>?_) (fun h5=>?_)
  ·have h5:=OE h5
   rw [OG ae]
   exact ⟨rfl,e1⟩
  ·have h5:=OF h5
   have hw5:IntKind.wrap .i64 ((k:Int)+1)=(k:Int)+1:=wrap_i64 ae ae
   exact aY (cs:=[(false,[.int .u64]),(false,[.invalid]),(false,[.bool]),(false,[.int .u64]),(false,[.int .i64])]) (n4,v5,false,(cb 10 (s.data.toList.take (k+1)):Int),(k:Int)+1,()) (s.size-(k+1)) rfl ae (O7 (fun z=>[Value.int .u64 n4,v5,.bool false,.int .u64 (cb 10 (s.data.toList.take (k+1)):Int),.int .i64 z]) hw5)
    ⟨rfl,rfl,k+1,(show ((k:Int)+1)=((k+1:Nat):Int) from ae),rfl,ae,rfl,ae⟩
 ·have hge:¬ (k:Int)<s.size:=OF hb
  have hk:k=s.data.toList.length:=ae
  rw [hk,O8] at hv
  refine aW rfl ?_
  rw [OH hv]
  refine ⟨?_,e1⟩
  show Value.tuple #[.int .u64 (cb 10 (s.data.toList.take k):Int),.nilIface]=_
  rw [hk,O8]
def vB (c:UInt8):mZ c=true↔(48<=cN c/\cN c<=57)\/(97<=cN c/\cN c<=102):=by
 unfold mZ
 rw [Bool.or_eq_true,mH]
 unfold cN
 simp only [Bool.and_eq_true,decide_eq_true_eq]
 omega
def sn (c:UInt8) (h:mZ c=true):(cN c<=57->(dv c:Int)=cN c-48)/\(57<cN c->(dv c:Int)=cN c-87)/\dv c<16:=by
 have:=(vB c).1 h
 unfold dv cN at *
 split <;> omega
def Ii (s:XA) (h:Hp) (hs:s.size<=2^48) (hd:∀ i,i<s.size->mZ (s.data.toList.getD i 0)=true) :
  HC Tryz.prog 177 #[.string s,.int .i64 16,.int .i64 32] h fun v h'=>v=.tuple #[.int .u64 (yV 16 s.data.toList).1,(yV 16 s.data.toList).2]/\Ext h h':=by
 refine ba (args:=[.string s,.int .i64 16,.int .i64 32]) mixed Tryz.func177 aB (gu s) ?_
 unfold et yV aS dh aH aw
 have hsz:s.data.toList.length=s.size:=aj
 refine ai (fun h1=>?_) (fun h1=>?_)
 ·have h1:s.data.toList=[]:=by rw [toList_nil] at h1; rw [xc]; simpa using h1
  rw [OH h1]
  exact ⟨rfl,Ch.refl _ _⟩
 have h1:s.data.toList≠[]:=by rw [toList_nil] at h1; rw [ne_eq,xc]; simpa using h1
 rw [OG h1]
 refine aC ae (dE ?_)
 refine xe (e:=5) aB aB aB s ?_
 intro cap h1' hcap e1 hcell1
 refine ⟨_,_,_,rfl,?_⟩
 refine bJ (cs:=[(false,[.int .u64]),(false,[.invalid]),(false,[.bool]),(false,[.int .u64]),(false,[.int .i64])])
  (fun x n h'=>h'=h1'/\x.2.2.1=false/\∃ k:Nat,x.2.2.2.2.1=(k:Int)/\x.2.2.2.1=(cb 16 (s.data.toList.take k):Int)/\k<=s.size/\n=s.size-k/\cb 16 (s.data.toList.take k)<4294967296)
  ((0:Int),Value.nilIface,false,(0:Int),(0:Int),()) s.size rfl ⟨rfl,rfl,0,rfl,rfl,ae,ae,by simp [cb]⟩ ?_
 rintro ⟨n4,v5,b6,n7,n8,⟨⟩⟩ m h' ⟨rfl,hb6,k,hk,hn7,hle,rfl,hv⟩
 simp only at hb6 hk hn7
 subst hb6 hk hn7
 refine ai (fun hb=>?_) (fun hb=>?_)
 ·have hlt:(k:Int)<s.size:=OE hb
  have hkl:k<s.size:=ae
  refine aC ⟨(by show (0:Int)<=(k:Int); omega),hlt⟩ (au rfl ?_)
  have hc:=hcell1 k hkl
  have hdk:=(vB _).1 (hd k hkl)
  refine aG (cN (s.data.toList.getD k 0),()) ⟨?_,trivial⟩ ?_
  ·rw [az,az]
   rw [show 0+Int.toNat (k:Int)*1+0=k from ae]
   exact hc
  have hst:=qP 16 s.data.toList k ae
  have hdv:=sn _ (hd k hkl)
  have hlo:=fun hh=>Ik (s.data.toList.getD k 0) h' hh
  have hcn:((s.data.toList.getD k 0).toNat:Int)=cN (s.data.toList.getD k 0):=rfl
  generalize (s.data.toList.getD k 0).toNat=cn at hlo hcn
  generalize cN (s.data.toList.getD k 0)=c at hdk hdv hlo hcn ⊢
  generalize dv (s.data.toList.getD k 0)=d at hst hdv
  have hw2:IntKind.wrap .u64 (d:Int)=d:=wrap_u64 ae ae
  have hw3:IntKind.wrap .u64 ((cb 16 (s.data.toList.take k):Int)*16)=(cb 16 (s.data.toList.take k):Int)*16:=wrap_u64 ae ae
  have hw4:IntKind.wrap .u64 ((cb 16 (s.data.toList.take k):Int)*16+d)=(cb 16 (s.data.toList.take (k+1)):Int):=by rw [wrap_u64 ae ae,hst]; omega
  have hw5:IntKind.wrap .i64 ((k:Int)+1)=(k:Int)+1:=wrap_i64 ae ae
  have hmono:=uu 16 ae s.data.toList (k+1)
  refine aW (show (c==95)=false from by simp; omega) ?_
  refine aX (show decide (48<=c)=true from OK ae) ?_
  refine ai (fun h9=>?_) (fun h9=>?_)
  ·have h9:c<=57:=OE h9
   have hw1:IntKind.wrap .u8 (c-48)=d:=by rw [wrap_u8 ae ae]; omega
   rw [hw1,hw2]
   refine aW (show decide ((d:Int)>=16)=false from OL ae) ?_
   refine aW (show decide ((cb 16 (s.data.toList.take k):Int)>=1152921504606846976)=false from OL ae) ?_
   rw [hw3,hw4]
   refine aW (OL ae) ?_
   refine ai (fun h5=>?_) (fun h5=>?_)
   ·have h5:=OE h5
    rw [OG ae]
    exact ⟨rfl,e1⟩
   ·have h5:=OF h5
    exact aY (cs:=[(false,[.int .u64]),(false,[.invalid]),(false,[.bool]),(false,[.int .u64]),(false,[.int .i64])]) (n4,v5,false,(cb 16 (s.data.toList.take (k+1)):Int),(k:Int)+1,()) (s.size-(k+1)) rfl ae (O7 (fun z=>[Value.int .u64 n4,v5,.bool false,.int .u64 (cb 16 (s.data.toList.take (k+1)):Int),.int .i64 z]) hw5)
     ⟨rfl,rfl,k+1,(show ((k:Int)+1)=((k+1:Nat):Int) from ae),rfl,ae,rfl,ae⟩
  ·have h9:¬ c<=57:=OF h9
   have hlo:=hlo ae ae
   refine dN hlo ?_
   refine aX (show decide (97<=c)=true from OK ae) ?_
   refine dN hlo ?_
   refine aX (show decide (c<=122)=true from OK ae) ?_
   refine dN hlo ?_
   have hw0:IntKind.wrap .u8 (c-97)=c-97:=wrap_u8 ae ae
   have hw1:IntKind.wrap .u8 (c-97+10)=d:=by rw [wrap_u8 ae ae]; omega
   rw [hw0,hw1,hw2]
   refine aW (show decide ((d:Int)>=16)=false from OL ae) ?_
   refine aW (show decide ((cb 16 (s.data.toList.take k):Int)>=1152921504606846976)=false from OL ae) ?_
   rw [hw3,hw4]
   refine aW (OL ae) ?_
   refine ai (fun h5=>?_) (fun h5=>?_)
   ·have h5:=OE h5
    rw [OG ae]
    exact ⟨rfl,e1⟩
   ·have h5:=OF h5
    exact aY (cs:=[(false,[.int .u64]),(false,[.invalid]),(false,[.bool]),(false,[.int .u64]),(false,[.int .i64])]) (n4,v5,false,(cb 16 (s.data.toList.take (k+1)):Int),(k:Int)+1,()) (s.size-(k+1)) rfl ae (O7 (fun z=>[Value.int .u64 n4,v5,.bool false,.int .u64 (cb 16 (s.data.toList.take (k+1)):Int),.int .i64 z]) hw5)
     ⟨rfl,rfl,k+1,(show ((k:Int)+1)=((k+1:Nat):Int) from ae),rfl,ae,rfl,ae⟩
 ·have hge:¬ (k:Int)<s.size:=OF hb
  have hk:k=s.data.toList.length:=ae
  rw [hk,O8] at hv
  refine aW rfl ?_
  rw [OH hv]
  refine ⟨?_,e1⟩
  show Value.tuple #[.int .u64 (cb 16 (s.data.toList.take k):Int),.nilIface]=_
  rw [hk,O8]
def MD (h:Hp) (K:XB->Hp->Prop):aV Tryz.prog (df (.neq) 29 (.tmp 17) (.const .nilIface) .nilIface .nilIface) h K=K (.bool false) h:=aB
def MC (h:Hp) (K:XB->Hp->Prop):aV Tryz.prog (df (.neq) 29 (.tmp 17) (.const .nilIface) (.iface 299 (.int .i64 1)) .nilIface) h K=K (.bool true) h:=aB
def KT (h:Hp) (K:XB->Hp->Prop):aV Tryz.prog (df (.neq) 29 (.tmp 17) (.const .nilIface) (.iface 299 (.int .i64 2)) .nilIface) h K=K (.bool true) h:=aB
def Mj (h:Hp) (K:XB->Hp->Prop):aV Tryz.prog (df (.neq) 29 (.tmp 37) (.const .nilIface) .nilIface .nilIface) h K=K (.bool false) h:=aB
def KW (a:XC) (h:Hp) (K:XB->Hp->Prop):aV Tryz.prog (df (.neq) 29 (.tmp 37) (.const .nilIface) (.iface 301 (.pointer (some a))) .nilIface) h K=K (.bool true) h:=aB
def okB (b:Nat) (l:List UInt8):Prop:=l≠[]/\cb b l<4294967296
def HA (b:Nat) (l:List UInt8) (h:Hp) (v:XB) (h':Hp):Prop :=
 ((okB b l/\v=.tuple #[.int .u64 (cb b l),.nilIface])\/(¬ okB b l/\∃ n a,v=.tuple #[.int .u64 n,.iface 301 (.pointer (some a))]))/\Ext h h'
def xh (s:XA) (h:Hp) (hs:s.size<=2^48) (hl:Laid h) (hd:∀ i,i<s.size->cJ (s.data.toList.getD i 0)=true) :
  HC Tryz.prog 150 #[.string s,.int .i64 10,.int .i64 32] h (HA 10 s.data.toList h):=by
 refine ba (args:=[.string s,.int .i64 10,.int .i64 32]) mixed Tryz.func150 aB (kF s) ?_
 unfold gV aS bR aw
 refine aK (Il s h hs hd) ?_
 rintro _ h1 ⟨rfl,e1⟩
 refine ⟨(((yV 10 s.data.toList).1:Int),(yV 10 s.data.toList).2,()),rfl,?_⟩
 show T.fb Tryz.prog (df (.neq) 29 (.tmp 17) (.const .nilIface) (yV 10 s.data.toList).2 .nilIface) false [(false,[.bool])] _ _ _ _
 by_cases h0:s.data.toList=[]
 ·have hr:yV 10 s.data.toList=(0,.iface 299 (.int .i64 2)):=by unfold yV; rw [OH h0]
  have hno:¬ okB 10 s.data.toList:=fun ho=>ho.1 h0
  rw [hr]
  refine cI (b:=true) (fun K' hk=>by rw [KT]; exact hk) (aX rfl ?_)
  refine aK (yo s h1 hs (hl.ext e1)) ?_
  rintro _ h2 ⟨⟨a,rfl⟩,e2⟩
  exact ⟨(.iface 301 (.pointer (some a)),()),rfl,.inr ⟨hno,_,a,rfl⟩,e1.trans e2⟩
 ·by_cases hv:cb 10 s.data.toList<4294967296
  ·have hr:yV 10 s.data.toList=(cb 10 s.data.toList,.nilIface):=by unfold yV; rw [OG h0,OH hv]
   rw [hr]
   refine cI (b:=false) (fun K' hk=>by rw [MD]; exact hk) (aW rfl ?_)
   exact ⟨.inl ⟨⟨h0,hv⟩,rfl⟩,e1⟩
  ·have hr:yV 10 s.data.toList=(4294967295,.iface 299 (.int .i64 1)):=by unfold yV; rw [OG h0,OG hv]
   have hno:¬ okB 10 s.data.toList:=fun ho=>hv ho.2
   rw [hr]
   refine cI (b:=true) (fun K' hk=>by rw [MC]; exact hk) (aX rfl ?_)
   refine aK (xp s h1 hs (hl.ext e1)) ?_
   rintro _ h2 ⟨⟨a,rfl⟩,e2⟩
   exact ⟨(.iface 301 (.pointer (some a)),()),rfl,.inr ⟨hno,_,a,rfl⟩,e1.trans e2⟩
theorem oO:∀ (l:List UInt8) (n:Nat),(∀ c∈l,dv c<16)->l.foldl (fun n c=>n*16+dv c) n<(n+1)*16^l.length
 | [],n,_=>aj
 | c::l,n,hd=>by
  rw [Pq,Pg,Nat.pow_succ]
  have h1:=oO l (n*16+dv c) (fun x hx=>hd x (by simp [hx]))
  have h2:=hd c aj
  have h3:(n*16+dv c+1)*16^l.length<=((n+1)*16)*16^l.length:=PH _ ae
  have h4:((n+1)*16)*16^l.length=(n+1)*(16^l.length*16):=by rw [Nat.mul_assoc,Nat.mul_comm 16]
  omega
def xN (s:XA) (h:Hp) (hs:s.size<=8) (hl:Laid h) (hd:∀ i,i<s.size->mZ (s.data.toList.getD i 0)=true) :
  HC Tryz.prog 150 #[.string s,.int .i64 16,.int .i64 32] h (HA 16 s.data.toList h):=by
 refine ba (args:=[.string s,.int .i64 16,.int .i64 32]) mixed Tryz.func150 aB (lr s) ?_
 unfold gW aS bR aw
 have hsz:s.data.toList.length=s.size:=aj
 have hv:cb 16 s.data.toList<4294967296:=by
  have h1:=oO s.data.toList 0 (fun c hc=>by
   obtain ⟨i,hi,rfl⟩:=PA hc
   have:=hd i ae
   simp only [List.getD,List.getElem?_eq_getElem hi,Option.getD_some] at this
   exact (sn _ this).2.2)
  have h2:16^s.data.toList.length<=16^8:=Pm ae ae
  have h3:(16:Nat)^8=4294967296:=rfl
  unfold cb
  omega
 refine aK (Ii s h ae hd) ?_
 rintro _ h1 ⟨rfl,e1⟩
 refine ⟨(((yV 16 s.data.toList).1:Int),(yV 16 s.data.toList).2,()),rfl,?_⟩
 show T.fb Tryz.prog (df (.neq) 29 (.tmp 17) (.const .nilIface) (yV 16 s.data.toList).2 .nilIface) false [(false,[.bool])] _ _ _ _
 by_cases h0:s.data.toList=[]
 ·have hr:yV 16 s.data.toList=(0,.iface 299 (.int .i64 2)):=by unfold yV; rw [OH h0]
  have hno:¬ okB 16 s.data.toList:=fun ho=>ho.1 h0
  rw [hr]
  refine cI (b:=true) (fun K' hk=>by rw [KT]; exact hk) (aX rfl ?_)
  refine aK (yT s h1 ae (hl.ext e1)) ?_
  rintro _ h2 ⟨⟨a,rfl⟩,e2⟩
  exact ⟨(.iface 301 (.pointer (some a)),()),rfl,.inr ⟨hno,_,a,rfl⟩,e1.trans e2⟩
 ·have hr:yV 16 s.data.toList=(cb 16 s.data.toList,.nilIface):=by unfold yV; rw [OG h0,OH hv]
  rw [hr]
  refine cI (b:=false) (fun K' hk=>by rw [MD]; exact hk) (aW rfl ?_)
  exact ⟨.inl ⟨⟨h0,hv⟩,rfl⟩,e1⟩
def nG (s:XA) (i j:Nat):(s.extract i j).data.toList=(s.data.toList.drop i).take (j-i):=by
 rw [ByteArray.data_extract,Array.toList_extract,List.extract_eq_take_drop]
def gw (s:XA) (i j:Nat):(s.extract i j).size=min j s.size-i:=aj
def JK (a b:List UInt8):(a==b)=decide (a=b):=by
 by_cases h:a=b <;> simp [h]
def Cy {l:List UInt8} (hl:l.length<=8) (hd:∀ i,i<l.length->mZ (l.getD i 0)=true):cb 16 l<4294967296:=by
 have h1:=oO l 0 (fun c hc=>by
  obtain ⟨i,hi,rfl⟩:=PA hc
  have:=hd i hi
  simp only [List.getD,List.getElem?_eq_getElem hi,Option.getD_some] at this
  exact (sn _ this).2.2)
 have h2:16^l.length<=16^8:=Pm ae ae
 have h3:(16:Nat)^8=4294967296:=rfl
 unfold cb
 omega
def getD_take {l:List UInt8} {n i:Nat} (hi:i<n):(l.take n).getD i 0=l.getD i 0:=by
 rw [OV,List.getElem?_take,OH hi,<- OV]
def zi (s t:XA) (h:Hp):pO Tryz.prog 176 [.string s,.string t] h (.bool (decide (s.data.toList.take t.size=t.data.toList))):=by
 refine dk mixed Tryz.func176 aB (gr s t) ?_
 unfold eA bE
 have hsz:s.data.toList.length=s.size:=aj
 have htz:t.data.toList.length=t.size:=aj
 refine ai (fun h1=>?_) (fun h1=>?_)
 ·have h1:=OE h1
  refine aC ⟨ae,ae,ae⟩ ⟨?_,rfl⟩
  congr 1
  rw [ByteArray.toList_eq,ByteArray.toList_eq,nG,JK,Qb,show Int.toNat (t.size:Int)-0=t.size from ae]
 ·have h1:=OF h1
  refine ⟨?_,rfl⟩
  congr 1
  symm
  refine OL fun he=>?_
  have:=O7 List.length he
  rw [O0] at this
  omega
def AV (s t:XA) (h:Hp):pO Tryz.prog 149 [.string s,.string t] h (.bool (decide (s.data.toList.take t.size=t.data.toList))):=by
 refine dk mixed Tryz.func149 aB (oE s t) ?_
 exact aM (zi s t h) ⟨rfl,rfl⟩
def cm:List UInt8:=[48,49,50,51,52,53,54,55,56,57,97,98,99,100,101,102]
def pT (c:UInt8):cm.contains c=mZ c:=gR (fun c=>cm.contains c) mZ (by decide +kernel) c
def eD (l:List UInt8):Nat × Nat :=
 if l.take 2=[48,120] then
  (if 8<bo (l.drop 2) cm\/bo (l.drop 2) cm=0 then (0,0) else (2+bo (l.drop 2) cm,cb 16 ((l.drop 2).take (bo (l.drop 2) cm))))
 else
  (if (1<bo l bj/\l.getD 0 0=48)\/bo l bj=0\/4294967296<=cb 10 (l.take (bo l bj)) then (0,0) else (bo l bj,cb 10 (l.take (bo l bj))))
def qh {s set:List UInt8} {i:Nat} (hi:i<bo s set):set.contains (s.getD i 0)=true:=by
 have hle:=de s set
 exact (fU s set i ae ae).1 hi
def qT (s:XA) (h:Hp) (hs:s.size<=2^48) (hl:Laid h) :
  HC Tryz.prog 123 #[.string s] h fun v h'=>v=.tuple #[.int .i64 (eD s.data.toList).1,.int .u32 (eD s.data.toList).2]/\Ext h h':=by
 refine ba (args:=[.string s]) mixed Tryz.func123 aB (wL s) ?_
 unfold tO eD aN cU aS bR aH aZ av aw
 have hsz:s.data.toList.length=s.size:=aj
 have gd:(⟨#[48,49,50,51,52,53,54,55,56,57]⟩:XA).data.toList=bj:=rfl
 have gh:(⟨#[48,49,50,51,52,53,54,55,56,57,97,98,99,100,101,102]⟩:XA).data.toList=cm:=rfl
 have gp:(⟨#[48,120]⟩:XA).data.toList=[48,120]:=rfl
 refine dN (om s _ h ae) ?_
 rw [gd]
 have hr:=de s.data.toList bj
 generalize hn:bo s.data.toList bj=n at hr ⊢
 refine aM (AV s _ h) ?_
 rw [gp]
 refine ai (fun h1=>?_) (fun h1=>?_)
 ·have h1:s.data.toList.take 2=[48,120]:=OE h1
  rw [OH h1]
  have h2:2<=s.size:=by
   have:=O7 List.length h1
   rw [O0] at this
   simp at this; omega
  refine aC ⟨ae,ae,ae⟩ ?_
  have he:(s.extract 2 (Int.toNat (s.size:Int))).data.toList=s.data.toList.drop 2:=by
   rw [nG]
   exact List.take_of_length_le aj
  refine dN (om _ _ h (by rw [gw]; omega)) ?_
  rw [gh,he]
  have hr2:=de (s.data.toList.drop 2) cm
  have hg2:=fun i=>@qh (s.data.toList.drop 2) cm i
  rw [OR] at hr2
  generalize bo (s.data.toList.drop 2) cm=m at hr2 hg2 ⊢
  refine ai (fun h3=>?_) (fun h3=>?_)
  ·have h3:=OE h3
   rw [OH (.inl ae)]
   exact ⟨rfl,Ch.refl _ _⟩
  ·have h3:=OF h3
   have hw:IntKind.wrap .i64 (2+(m:Int))=2+(m:Int):=wrap_i64 ae ae
   rw [hw]
   refine aC ⟨ae,ae,ae⟩ ?_
   have ht:Int.toNat (2+(m:Int))=2+m:=ae
   rw [ht]
   have he2:(s.extract 2 (2+m)).data.toList=(s.data.toList.drop 2).take m:=by
    rw [nG,show 2+m-2=m from ae]
   have hsm:(s.extract 2 (2+m)).size=m:=by rw [gw]; omega
   refine aK (xN _ h ae hl (fun i hi=>?_)) ?_
   ·rw [hsm] at hi
    have:=hg2 i hi
    rw [pT] at this
    rw [he2]
    rw [getD_take hi]
    exact this
   ·rintro v h' ⟨hv,e1⟩
    rw [he2] at hv
    rcases hv with ⟨ho,rfl⟩ | ⟨hno,nn,a,rfl⟩
    ·have hm0:m≠0:=fun hm=>ho.1 (by rw [hm]; rfl)
     refine ⟨((cb 16 ((s.data.toList.drop 2).take m):Int),.nilIface,()),rfl,?_⟩
     refine cI (b:=false) (fun K' hk=>by rw [Mj]; exact hk) (aW rfl ?_)
     rw [OG ae]
     have:=ho.2
     refine ⟨?_,e1⟩
     rw [show IntKind.wrap .u32 (cb 16 ((s.data.toList.drop 2).take m):Int)=(cb 16 ((s.data.toList.drop 2).take m):Int) from wrap_u32 ae ae]
     simp
    ·refine ⟨(nn,.iface 301 (.pointer (some a)),()),rfl,?_⟩
     refine cI (b:=true) (fun K' hk=>by rw [KW]; exact hk) (aX rfl ?_)
     have hm0:m=0:=by
      rcases Nat.eq_zero_or_pos m with hm | hm
      ·exact hm
      ·refine (hno ⟨fun hh=>?_,?_⟩).elim
       ·have:=O7 List.length hh
        rw [O0,OR] at this
        simp at this; omega
       ·refine Cy (by rw [O0]; omega) (fun i hi=>?_)
        rw [O0] at hi
        rw [getD_take ae,<- pT]
        exact hg2 i ae
     rw [OH (.inr hm0)]
     exact ⟨rfl,e1⟩
 ·have h1:¬ s.data.toList.take 2=[48,120]:=OF h1
  rw [OG h1]
  have hg:=fun i=>@qh s.data.toList bj i
  rw [hn] at hg
  have hw:IntKind.wrap .i64 (0+(n:Int))=(n:Int):=by rw [Int.zero_add]; exact wrap_i64 ae ae
  have he2:(s.extract 0 n).data.toList=s.data.toList.take n:=by rw [nG,Qb,Nat.sub_zero]
  have hsm:(s.extract 0 n).size=n:=by rw [gw]; omega
  have hp:=xh (s.extract 0 n) h ae hl (fun i hi=>by
   rw [hsm] at hi
   rw [he2,getD_take hi,<- mF]
   exact hg i hi)
  have main:¬ (1<n/\s.data.toList.getD 0 0=48)->T.need (((0:Int)<=(0:Int))/\(((0:Int)<=(IntKind.wrap .i64 ((0:Int)+n)))/\((IntKind.wrap .i64 ((0:Int)+n))<=(s.size:Int)))) (
    T.call Tryz.prog 150 [.string (ByteArray.extract s 0 (Int.toNat (IntKind.wrap .i64 ((0 : Int) + n)))), .int .i64 (10 : Int), .int .i64 (32 : Int)] true [(false, [.int .u64]), (false, [.interface #[("Error", 85)]])] fun (n3 : Int) (v4 : XB) =>
    T.fb Tryz.prog (Sx.df (BinOp.neq) 29 (Operand.tmp 37) (Operand.const Value.nilIface) v4 .nilIface) false [(false,[.bool])] fun (b5:Bool) =>
    cond b5
     (T.ret (.tuple #[.int .i64 (0:Int),.int .u32 (0:Int)]))
     (T.ret (.tuple #[.int .i64 (IntKind.wrap .i64 ((0:Int)+n)),.int .u32 (IntKind.wrap .u32 n3)]))) []
    (fun v h'=>v=.tuple #[.int .i64 ((if (1<n/\s.data.toList.getD 0 0=48)\/n=0\/4294967296<=cb 10 (s.data.toList.take n) then (0,0) else (n,cb 10 (s.data.toList.take n)):Nat × Nat).1:Int),.int .u32 ((if (1<n/\s.data.toList.getD 0 0=48)\/n=0\/4294967296<=cb 10 (s.data.toList.take n) then (0,0) else (n,cb 10 (s.data.toList.take n)):Nat × Nat).2:Int)]/\Ext h h') h:=by
   intro hz
   rw [hw]
   refine aC ⟨ae,ae,ae⟩ ?_
   rw [show Int.toNat (n:Int)=n from ae]
   refine aK hp ?_
   rintro v h' ⟨hv,e1⟩
   rw [he2] at hv
   have hnil:s.data.toList.take n=[]↔n=0:=by
    constructor
    ·intro hh
     have:=O7 List.length hh
     rw [O0,PX ae] at this
     exact this
    ·intro hh; rw [hh]; rfl
   rcases hv with ⟨ho,rfl⟩ | ⟨hno,nn,a,rfl⟩
   ·have h5:n≠0:=fun hh=>ho.1 (hnil.2 hh)
    have h6:=ho.2
    refine ⟨((cb 10 (s.data.toList.take n):Int),.nilIface,()),rfl,?_⟩
    refine cI (b:=false) (fun K' hk=>by rw [Mj]; exact hk) (aW rfl ?_)
    rw [OG (by intro hh; rcases hh with hh | hh | hh <;> first | exact hz hh | omega)]
    refine ⟨?_,e1⟩
    rw [show IntKind.wrap .u32 (cb 10 (s.data.toList.take n):Int)=(cb 10 (s.data.toList.take n):Int) from wrap_u32 ae ae]
   ·refine ⟨(nn,.iface 301 (.pointer (some a)),()),rfl,?_⟩
    refine cI (b:=true) (fun K' hk=>by rw [KW]; exact hk) (aX rfl ?_)
    have h7:n=0\/4294967296<=cb 10 (s.data.toList.take n):=by
     by_cases h8:n=0
     ·exact .inl h8
     ·refine .inr ?_
      rcases Po (cb 10 (s.data.toList.take n)) 4294967296 with h9 | h9
      ·exact (hno ⟨fun hh=>h8 (hnil.1 hh),h9⟩).elim
      ·exact h9
    rw [OH (.inr h7)]
    exact ⟨rfl,e1⟩
  refine ai (fun h3=>?_) (fun h3=>?_)
  ·have h3:=OE h3
   refine aC ⟨ae,ae⟩ ?_
   have e0:aU s 0=cN (s.data.toList.getD 0 0):=eG s 0
   rw [e0]
   refine ai (fun h4=>?_) (fun h4=>?_)
   ·have h4:=eq_of_beq h4
    have h5:s.data.toList.getD 0 0=48:=by
     unfold cN at h4
     exact PM.1 (by show _=48; omega)
    rw [OH (.inl ⟨ae,h5⟩)]
    exact ⟨rfl,Ch.refl _ _⟩
   ·have h4:=ON h4
    exact main fun hh=>h4 (by rw [hh.2]; rfl)
  ·have h3:=OF h3
   exact main fun hh=>h3 ae
structure Tok where
 kind:Nat
 text:XA
 num:Nat
 at_:Nat
def enc (t:Tok):List XB:=[.int .i64 t.kind,.string t.text,.int .u32 t.num,.int .i64 t.at_]
def bY:List UInt8:=[9,13,32]
def bt:List UInt8:=cM++bj
def oC:List UInt8:=[58,44,40,41,43,45,42,61]
inductive Step where
 | stop
 | cX (at_:Nat)
 | tok (t:Tok) (next:Nat)
def iP (s:XA) (a:Nat):Step :=
 if a=s.size then .stop
 else if s.data.toList.getD a 0=59 then .stop
 else if dt (s.data.toList.getD a 0)=true then
  if 32<bo (s.data.toList.drop a) bt then .cX a else .tok ⟨1,s.extract a (a+bo (s.data.toList.drop a) bt),0,a⟩ (a+bo (s.data.toList.drop a) bt)
 else if cJ (s.data.toList.getD a 0)=true then
  if (eD (s.data.toList.drop a)).1=0\/0<bo (s.data.toList.drop (a+(eD (s.data.toList.drop a)).1)) bt then .cX a
  else .tok ⟨2,s.extract a (a+(eD (s.data.toList.drop a)).1),(eD (s.data.toList.drop a)).2,a⟩ (a+(eD (s.data.toList.drop a)).1)
 else if s.data.toList.getD a 0=39 then
  if s.size<a+3\/(s.data.toList.getD (a+1) 0).toNat<32\/126<(s.data.toList.getD (a+1) 0).toNat\/s.data.toList.getD (a+1) 0=39\/s.data.toList.getD (a+2) 0≠39 then .cX a
  else .tok ⟨2,s.extract a (a+3),(s.data.toList.getD (a+1) 0).toNat,a⟩ (a+3)
 else if oC.contains (s.data.toList.getD a 0)=true then .tok ⟨3,s.extract a (a+1),0,a⟩ (a+1)
 else .cX a
def cG (s:XA) (k:Nat):Step:=iP s (k+bo (s.data.toList.drop k) bY)
def jr (s:XA):Nat->Nat->List Tok->List Tok × Nat × Nat
 | 0,_,acc=>(acc,0,0)
 | f+1,k,acc =>
  match cG s k with
  | .stop=>(acc,0,0)
  | .cX a=>([],a,20)
  | .tok t k'=>jr s f k' (acc++[t])
def eh (s:XA):List Tok × Nat × Nat:=jr s (s.size+1) 0 []
def wX (l:List UInt8):(eD l).1<=l.length/\(eD l).2<4294967296:=by
 unfold eD
 split
 ·rename_i h
  have h2:=O7 List.length h
  rw [O0] at h2
  simp only [List.length_cons,List.length_nil] at h2
  have h3:=de (l.drop 2) cm
  rw [OR] at h3
  split
  ·simp
  ·rename_i h4
   refine ⟨by simp only; omega,?_⟩
   refine Cy (by rw [O0]; omega) (fun i hi=>?_)
   rw [O0] at hi
   rw [getD_take ae,<- pT]
   exact qh ae
 ·have h3:=de l bj
  split
  ·simp
  ·rename_i h4
   exact ⟨h3,by simp only; omega⟩
def tw {s:XA} {f k k':Nat} {acc:List Tok} {t:Tok} (h:cG s k=.tok t k'):jr s (f+1) k acc=jr s f k' (acc++[t]):=by
 show (match cG s k with
  | .stop=>(acc,0,0)
  | .cX a=>([],a,20)
  | .tok t k'=>jr s f k' (acc++[t]))=_
 rw [h]
def uV {s:XA} {f k:Nat} {acc:List Tok} (h:cG s k=.stop):jr s (f+1) k acc=(acc,0,0):=by
 show (match cG s k with
  | .stop=>(acc,0,0)
  | .cX a=>([],a,20)
  | .tok t k'=>jr s f k' (acc++[t]))=_
 rw [h]
def sv {s:XA} {f k a:Nat} {acc:List Tok} (h:cG s k=.cX a):jr s (f+1) k acc=([],a,20):=by
 show (match cG s k with
  | .stop=>(acc,0,0)
  | .cX a=>([],a,20)
  | .tok t k'=>jr s f k' (acc++[t]))=_
 rw [h]
def Ae {s:XA} {a k':Nat} {t:Tok} (ha:a<=s.size) (h:iP s a=.tok t k'):a<k'/\k'<=s.size/\t.at_=a/\t.text=s.extract a k':=by
 have hsz:s.data.toList.length=s.size:=aj
 unfold iP at h
 split at h
 ·cases h
 split at h
 ·cases h
 have hlen:(s.data.toList.drop a).length=s.size-a:=by rw [OR,hsz]
 split at h
 ·rename_i h1 h2 h3
  split at h
  ·cases h
  ·cases h
   have h5:=de (s.data.toList.drop a) bt
   have h6:=(qm (s:=s.data.toList.drop a) (set:=bt) ae).2 (by
    rw [show (s.data.toList.drop a).getD 0 0=s.data.toList.getD a 0 from by simp [List.getD]]
    show (cM++bj).contains _=true
    rw [kY,h3]; rfl)
   exact ⟨ae,ae,rfl,rfl⟩
 split at h
 ·split at h
  ·cases h
  ·cases h
   have h5:=(wX (s.data.toList.drop a)).1
   exact ⟨ae,ae,rfl,rfl⟩
 split at h
 ·split at h
  ·cases h
  ·cases h
   exact ⟨ae,ae,rfl,rfl⟩
 split at h
 ·cases h
  exact ⟨ae,ae,rfl,rfl⟩
 ·cases h
inductive Md where
 | stop
 | cX
 | tok (kind len num:Nat)
def rD (D:List UInt8):Md :=
 if D=[] then .stop
 else if D.getD 0 0=59 then .stop
 else if dt (D.getD 0 0)=true then
  if 32<bo D bt then .cX else .tok 1 (bo D bt) 0
 else if cJ (D.getD 0 0)=true then
  if (eD D).1=0\/0<bo (D.drop (eD D).1) bt then .cX else .tok 2 (eD D).1 (eD D).2
 else if D.getD 0 0=39 then
  if D.length<3\/(D.getD 1 0).toNat<32\/126<(D.getD 1 0).toNat\/D.getD 1 0=39\/D.getD 2 0≠39 then .cX
  else .tok 2 3 (D.getD 1 0).toNat
 else if oC.contains (D.getD 0 0)=true then .tok 3 1 0
 else .cX
def GR (s:XA) (a:Nat):Md->Step
 | .stop=>.stop
 | .cX=>.cX a
 | .tok k n m=>.tok ⟨k,s.extract a (a+n),m,a⟩ (a+n)
def dS (l:List UInt8) (a j:Nat):(l.drop a).getD j 0=l.getD (a+j) 0:=by
 simp [List.getD_eq_getElem?_getD,List.getElem?_drop]
def yE (s:XA) (a:Nat) (ha:a<=s.size):iP s a=GR s a (rD (s.data.toList.drop a)):=by
 unfold iP rD
 have hsz:s.data.toList.length=s.size:=aj
 simp only [dS,Nat.add_zero,List.drop_drop,List.length_drop,hsz]
 by_cases h1:a=s.size
 ·rw [OH h1,OH (OW ae)]; rfl
 have h1':¬ s.data.toList.drop a=[]:=fun hh=>h1 (by have:=PI.1 hh; omega)
 rw [OG h1,OG h1']
 by_cases h2:s.data.toList.getD a 0=59
 ·rw [OH h2,OH h2]; rfl
 rw [OG h2,OG h2]
 by_cases h3:dt (s.data.toList.getD a 0)=true
 ·rw [OH h3,OH h3]
  split <;> rfl
 rw [OG h3,OG h3]
 by_cases h4:cJ (s.data.toList.getD a 0)=true
 ·rw [OH h4,OH h4]
  split <;> rfl
 rw [OG h4,OG h4]
 by_cases h5:s.data.toList.getD a 0=39
 ·rw [OH h5,OH h5]
  by_cases h6:s.size<a+3
  ·rw [OH (.inl h6),OH (.inl ae)]; rfl
  ·by_cases h7:(s.data.toList.getD (a+1) 0).toNat<32\/126<(s.data.toList.getD (a+1) 0).toNat\/s.data.toList.getD (a+1) 0=39\/s.data.toList.getD (a+2) 0≠39
   ·rw [OH (.inr h7),OH (.inr h7)]; rfl
   ·rw [OG (by intro hh; rcases hh with hh | hh; exact h6 hh; exact h7 hh),OG (by intro hh; rcases hh with hh | hh; omega; exact h7 hh)]; rfl
 rw [OG h5,OG h5]
 split <;> rfl
theorem sh {p:UInt8->Bool}:∀ (l:List UInt8) {c:UInt8},c∈l.takeWhile p->p c=true
 | [],c,h=>by simp at h
 | d::l,c,h=>by
  rw [PT] at h
  cases hd:p d with
  | false=>rw [hd] at h; simp at h
  | true =>
   rw [hd] at h
   simp only [if_true,List.mem_cons] at h
   rcases h with rfl | h
   ·exact hd
   ·exact sh l h
def ja {set D E:List UInt8} (hE:bo E set=0):bo (D.take (bo D set)++E) set=bo D set:=by
 unfold bo at hE ⊢
 have h1:E.takeWhile (fun c=>set.contains c)=[]:=OQ hE
 have h2:D.take (D.takeWhile fun c=>set.contains c).length=D.takeWhile fun c=>set.contains c:=(List.prefix_iff_eq_take.1 (List.takeWhile_prefix _)).symm
 rw [h2,List.takeWhile_append_of_pos,h1,Pr]
 exact fun c hc=>sh D hc
def kj {set D:List UInt8}:bo D set=0↔∀ c r,D=c::r->set.contains c=false:=by
 unfold bo
 cases D with
 | nil=>simp
 | cons c r =>
  simp only [List.takeWhile_cons,List.cons.injEq,and_imp]
  cases h:set.contains c with
  | false=>simp only [Bool.false_eq_true,if_false,List.length_nil,true_iff]; rintro _ _ rfl rfl; exact h
  | true=>simp only [if_true,List.length_cons,Nat.add_one_ne_zero,false_iff]; intro hh; have:=hh c r rfl rfl; rw [h] at this; cases this
def A5 (c:UInt8) (h:bt.contains c=false):bj.contains c=false:=by
 have:=gR (fun c=>bt.contains c || !bj.contains c) (fun _=>true) (by decide +kernel) c
 simp only [h,Bool.false_or,Bool.not_eq_true'] at this
 exact this
def C4 (c:UInt8) (h:bt.contains c=false):cm.contains c=false:=by
 have:=gR (fun c=>bt.contains c || !cm.contains c) (fun _=>true) (by decide +kernel) c
 simp only [h,Bool.false_or,Bool.not_eq_true'] at this
 exact this
def AU {E:List UInt8} (h:bo E bt=0):bo E bj=0:=kj.2 fun c r he=>A5 c (kj.1 h c r he)
def BX {E:List UInt8} (h:bo E bt=0):bo E cm=0:=kj.2 fun c r he=>C4 c (kj.1 h c r he)
def DB {D E:List UInt8} (h0:(eD D).1≠0) (hE:bo E bt=0):eD (D.take (eD D).1++E)=eD D:=by
 by_cases h1:D.take 2=[48,120]
 ·have hD:eD D=if 8<bo (D.drop 2) cm\/bo (D.drop 2) cm=0 then (0,0) else (2+bo (D.drop 2) cm,cb 16 ((D.drop 2).take (bo (D.drop 2) cm))):=by
   unfold eD; rw [OH h1]
  have hlen:2<=D.length:=by
   have:=O7 List.length h1
   rw [O0] at this
   simp at this; omega
  by_cases h2:8<bo (D.drop 2) cm\/bo (D.drop 2) cm=0
  ·rw [OH h2] at hD
   rw [hD] at h0
   exact (h0 rfl).elim
  ·rw [OG h2] at hD
   rw [hD]
   have hr:=de (D.drop 2) cm
   have hloc:=ja (set:=cm) (D:=D.drop 2) (BX hE)
   generalize bo (D.drop 2) cm=r at *
   simp only
   have e1:D.take (2+r)=[48,120]++(D.drop 2).take r:=by
    rw [<- h1,List.take_add]
   rw [e1,Px]
   unfold eD
   rw [OH (by rfl)]
   have e2:([48,120]++((D.drop 2).take r++E)).drop 2=(D.drop 2).take r++E:=rfl
   rw [e2,hloc,OG h2]
   have e3:((D.drop 2).take r++E).take r=(D.drop 2).take r:=by
    rw [List.take_append_of_le_length (by rw [O0]; omega),List.take_take,Nat.min_self]
   rw [e3]
 ·have hD:eD D=if (1<bo D bj/\D.getD 0 0=48)\/bo D bj=0\/4294967296<=cb 10 (D.take (bo D bj)) then (0,0) else (bo D bj,cb 10 (D.take (bo D bj))):=by
   unfold eD; rw [OG h1]
  by_cases h2:(1<bo D bj/\D.getD 0 0=48)\/bo D bj=0\/4294967296<=cb 10 (D.take (bo D bj))
  ·rw [OH h2] at hD
   rw [hD] at h0
   exact (h0 rfl).elim
  ·rw [OG h2] at hD
   rw [hD]
   have hr:=de D bj
   have hloc:=ja (set:=bj) (D:=D) (AU hE)
   generalize bo D bj=r at *
   simp only
   have hrp:0<r:=by
    rcases Nat.eq_zero_or_pos r with h | h
    ·exact (h2 (.inr (.inl h))).elim
    ·exact h
   have e3:(D.take r++E).take r=D.take r:=by
    rw [List.take_append_of_le_length (by rw [O0]; omega),List.take_take,Nat.min_self]
   have e4:(D.take r++E).getD 0 0=D.getD 0 0:=by
    cases D with
    | nil=>simp at hr; omega
    | cons d D=>obtain ⟨r,rfl⟩:∃ r',r=r'+1:=⟨r-1,ae⟩; simp
   have e5:¬ (D.take r++E).take 2=[48,120]:=by
    intro hh
    by_cases h3:2<=r
    ·rw [List.take_append_of_le_length (by rw [O0]; omega),List.take_take,PX h3] at hh
     exact h1 hh
    ·have hr1:r=1:=ae
     subst hr1
     cases D with
     | nil=>simp at hr
     | cons d D =>
      cases E with
      | nil=>simp at hh
      | cons c E =>
       simp at hh
       have:=kj.1 hE c E rfl
       rw [hh.2] at this
       revert this; decide +kernel
   unfold eD
   rw [OG e5,hloc,e3,e4,OG h2]
def Eh {D E:List UInt8} {k n m:Nat} (h:rD D=.tok k n m) (hE:bo E bt=0\/bo (D.drop n) bt≠0):rD (D.take n++E)=.tok k n m/\0<n/\n<=D.length:=by
 cases D with
 | nil=>simp [rD] at h
 | cons d D =>
  unfold rD at h
  rw [OG aj] at h
  rw [List.getD_cons_zero] at h
  have key:0<n->rD ((d::D).take n++E)=(if d=59 then .stop
   else if dt d=true then
    if 32<bo ((d::D).take n++E) bt then .cX else .tok 1 (bo ((d::D).take n++E) bt) 0
   else if cJ d=true then
    if (eD ((d::D).take n++E)).1=0\/0<bo (((d::D).take n++E).drop (eD ((d::D).take n++E)).1) bt then .cX else .tok 2 (eD ((d::D).take n++E)).1 (eD ((d::D).take n++E)).2
   else if d=39 then
    if ((d::D).take n++E).length<3\/(((d::D).take n++E).getD 1 0).toNat<32\/126<(((d::D).take n++E).getD 1 0).toNat\/((d::D).take n++E).getD 1 0=39\/((d::D).take n++E).getD 2 0≠39 then .cX
    else .tok 2 3 (((d::D).take n++E).getD 1 0).toNat
   else if oC.contains d=true then .tok 3 1 0
   else .cX):=by
   intro hn
   have e0:((d::D).take n++E).getD 0 0=d:=by
    obtain ⟨n,rfl⟩:∃ n',n=n'+1:=⟨n-1,ae⟩
    simp
   conv=>lhs; unfold rD
   rw [OG (by obtain ⟨n,rfl⟩:∃ n',n=n'+1:=⟨n-1,ae⟩; simp),e0]
  by_cases h2:d=59
  ·rw [OH h2] at h; cases h
  rw [OG h2] at h
  by_cases h3:dt d=true
  ·rw [OH h3] at h
   have hpos:=fU (d::D) bt 0 ae aj
   rw [List.getD_cons_zero,show bt=cM++bj from rfl,kY,h3] at hpos
   have hpos:=hpos.2 rfl
   rw [<- show bt=cM++bj from rfl] at hpos
   by_cases h4:32<bo (d::D) bt
   ·rw [OH h4] at h; cases h
   rw [OG h4] at h
   injection h with a1 a2 a3
   subst a1 a2 a3
   have hr:=de (d::D) bt
   have hE0:bo E bt=0:=by
    rcases hE with hE | hE
    ·exact hE
    ·refine (hE ?_).elim
     refine kj.2 fun c r he=>?_
     have:=lz (p:=fun c=>bt.contains c) (d::D) (bo (d::D) bt) (OP _) (by
      have:=O7 List.length he
      rw [OR] at this; simp at this ⊢; omega)
     have h5:¬ bo (d::D) bt<((d::D).takeWhile fun c=>bt.contains c).length:=Nat.lt_irrefl _
     rw [this] at h5
     have h6:(d::D).getD (bo (d::D) bt) 0=c:=by
      have:=O7 (fun l=>l.getD 0 0) he
      simp only [dS,Nat.add_zero,List.getD_cons_zero] at this
      exact this
     rw [h6] at h5
     simpa using h5
   refine ⟨?_,hpos,hr⟩
   rw [key hpos,OG h2,OH h3,ja hE0,OG h4]
  rw [OG h3] at h
  by_cases h4:cJ d=true
  ·rw [OH h4] at h
   by_cases h5:(eD (d::D)).1=0\/0<bo ((d::D).drop (eD (d::D)).1) bt
   ·rw [OH h5] at h; cases h
   rw [OG h5] at h
   injection h with a1 a2 a3
   subst a1 a2 a3
   have hE0:bo E bt=0:=by
    rcases hE with hE | hE
    ·exact hE
    ·omega
   have hl:=(wX (d::D)).1
   have hz:(eD (d::D)).1≠0:=fun hh=>h5 (.inl hh)
   have hloc:=DB hz hE0
   refine ⟨?_,ae,hl⟩
   rw [key ae,OG h2,OG h3,OH h4,hloc]
   rw [List.drop_append_of_le_length (by rw [O0]; omega),List.drop_take,Nat.sub_self,List.take_zero,PW,OG ae]
  rw [OG h4] at h
  by_cases h5:d=39
  ·rw [OH h5] at h
   by_cases h6:(d::D).length<3\/((d::D).getD 1 0).toNat<32\/126<((d::D).getD 1 0).toNat\/(d::D).getD 1 0=39\/(d::D).getD 2 0≠39
   ·rw [OH h6] at h; cases h
   rw [OG h6] at h
   injection h with a1 a2 a3
   subst a1 a2 a3
   have hlen:3<=(d::D).length:=ae
   refine ⟨?_,ae,hlen⟩
   match D,hlen with
   | d1::d2::D,_ =>
    rw [key ae,OG h2,OG h3,OG h4,OH h5]
    simp only [List.take_succ_cons,List.take_zero,List.cons_append,List.nil_append,List.getD_cons_succ,List.getD_cons_zero,List.length_cons] at h6 ⊢
    rw [OG (by intro hh; apply h6; rcases hh with hh | hh; omega; exact .inr hh)]
  rw [OG h5] at h
  by_cases h6:oC.contains d=true
  ·rw [OH h6] at h
   injection h with a1 a2 a3
   subst a1 a2 a3
   refine ⟨?_,ae,aj⟩
   rw [key ae,OG h2,OG h3,OG h4,OG h5,OH h6]
  ·rw [OG h6] at h; cases h
abbrev CB:List fX:=[(false,[.slice 0]),(false,[.int .i64]),(false,[.int .i64]),(false,[.slice 0]),(false,[.pointer 0]),(false,[.int .i64]),(false,[.int .i64])]
def Mr (s:XA) (h:Hp) (x:qu (flat CB)) (n:Nat) (h':Hp):Prop :=
 ∃ (k:Nat) (acc:List Tok),x.2.2.2.2.2.2.1=(k:Int)/\x.2.2.2.2.1=some ⟨h.size,0,none⟩/\k<=s.size/\n=s.size-k /\
  (∃ a b c d,bf h' h.size 178 [.int .i64 a,.string b,.int .u32 c,.int .i64 d])/\SL h' (h.size+1) 178 4 x.2.2.2.1.1 x.2.2.2.1.2.1 x.2.2.2.1.2.2 (acc.map enc)/\Ext h h'/\h.size+1<=h'.size /\
  (∃ f,s.size-k<f/\eh s=jr s f k acc)/\acc.length<=k
def Bk (s:XA) (h:Hp) (v:XB) (h':Hp):Prop :=
 ∃ p l c,v=.tuple #[.slice p l c,.int .i64 (eh s).2.1,.int .i64 (eh s).2.2]/\SL h' (h.size+1) 178 4 p l c ((eh s).1.map enc)/\Ext h h'
def mN {s:XA} {a:Nat}:(s.extract a (Int.toNat (s.size:Int))).data.toList=s.data.toList.drop a:=by
 rw [nG,show Int.toNat (s.size:Int)=s.size from ae]
 exact List.take_of_length_le aj
def Ac (l:List UInt8) (a:Nat):(l.drop a).getD 0 0=l.getD a 0:=by simp [List.getD]
def lQ {s:XA} {k k':Nat} {t:Tok} (hk:k<=s.size) (h:cG s k=.tok t k'):k<k'/\k'<=s.size:=by
 have hsz:s.data.toList.length=s.size:=aj
 have h1:=de (s.data.toList.drop k) bY
 rw [OR] at h1
 have:=Ae (a:=k+bo (s.data.toList.drop k) bY) ae h
 omega
def tq {s : XA} {h h2 h5 : Hp} {K : XB -> Hp -> Prop} {k k' : Nat} {acc : List Tok} {t : Tok} {p2 p7 : Option XC} {l3 l4 l8 l9 : Nat} {n5 n6 nn kk : Int} (hs : s.size <= 2 ^ 40) (hle : k <= s.size)
    (hstep : cG s k = .tok t k') (hkk : kk = (k' : Int)) (hbox : bf h5 h.size 178 (enc t)) (hch : Ch [h.size] h2 h5) (hsl : SL h2 (h.size + 1) 178 4 p7 l8 l9 (acc.map enc)) (hext : Ext h h2) (hsz2 : h.size + 1 <= h2.size)
    (hlex : ∃ f, s.size - k < f /\ eh s = jr s f k acc) (hacc : acc.length <= k) :
    (T.ah ⟨h.size, 0, none⟩ [.int .i64, .string, .int .u32, .int .i64] fun (n20 : Int) (s21 : XA) (n22 : Int) (n23 : Int) =>
     T.fb Tryz.prog (Instr.buildSlice 174 1 #[(0, .agg #[.int .i64 n20, .string s21, .int .u32 n22, .int .i64 n23])]) false [(false, [.slice 0])] fun (p24 : Option XC) (l25 : Nat) (l26 : Nat) =>
     T.fb Tryz.prog (Builtin.append_ #[174, 174] 174 #[.slice p7 l8 l9, .slice p24 l25 l26]) false [(false, [.slice 0])] fun (p27 : Option XC) (l28 : Nat) (l29 : Nat) =>
     T.again 0 [.slice p2 l3 l4, .int .i64 n5, .int .i64 n6, .slice p27 l28 l29, .pointer (some ⟨h.size, 0, none⟩), .int .i64 nn, .int .i64 kk]) ([] ++ [Jl (cs := CB) (Mr s h) (s.size - k)]) K h5 := by
  obtain ⟨hlt, hle'⟩ := lQ hle hstep
  have hlacc : l8 = acc.length := by rw [hsl.1, OI]
  refine af hbox ((t.kind : Int), t.text, (t.num : Int), (t.at_ : Int), ()) rfl ?_
  have hpn : ∀ a, p7 = some a -> h.size + 1 <= a.block := by
    intro a ha
    subst ha
    obtain ⟨g, pre, rest, rfl, hbg, _⟩ := hsl.2.2
    exact hbg
  have hsl5 : SL h5 (h.size + 1) 178 4 p7 l8 l9 (acc.map enc) := hsl.an hch (fun a ha => by have := hpn a ha; simp; omega)
  refine fp (z := .agg #[.int .i64 0, .string ⟨#[]⟩, .int .u32 0, .int .i64 0]) (sz := 4) (by' := 40) (e := 178) (vs := enc t) aB aB rfl ae ae aB rfl rfl hsl5 (by have := hch.size; omega) ae ae ?_
  intro p' c' h6 hsl6 hch6 _
  refine aY (cs := CB) ((p2, l3, l4), n5, n6, (p', l8 + 1, c'), some ⟨h.size, 0, none⟩, nn, kk, ()) (s.size - k') rfl ae rfl ?_
  have hnot : h.size ∉ aE p7 := by
    cases p7 with
    | none => simp [aE]
    | some a => have := hpn a rfl; simp [aE]; omega
  refine ⟨k', acc ++ [t], hkk, rfl, hle', rfl, ⟨_, _, _, _, hbox.an hch6 hnot⟩, ?_, ?_, ?_, ?_, ?_⟩
  · rw [OU]; exact hsl6
  · have e5 : Ext h h5 := Ch.trans hext hch (fun i hi hlt => by simp at hi; omega)
    exact Ch.trans e5 hch6 (fun i hi hlt => by
      cases p7 with
      | none => simp [aE] at hi
      | some a => have := hpn a rfl; simp [aE] at hi; omega)
  · have := hch.size; have := hch6.size; omega
  · obtain ⟨f, hf, hl⟩ := hlex
    refine ⟨f - 1, ae, ?_⟩
    rw [hl, show f = (f - 1) + 1 from ae, tw hstep]
    rfl
  · rw [OX]; simp; omega
def Gv (s:XA) (h:Hp) (hs:s.size<=2^40) (hl:Laid h):HC Tryz.prog 95 #[.string s] h (Bk s h):=by
 refine ba (args:=[.string s]) mixed Tryz.func95 aB (wC s) ?_
 unfold tD cU aS aR aH av aw aI bh aQ gK
 have hsz:s.data.toList.length=s.size:=aj
 refine bm ?_
 intro h1 b1 e1 z1
 refine bJ (cs:=CB) (Mr s h) ((none,0,0),(0:Int),(0:Int),(none,0,0),some ⟨h.size,0,none⟩,(0:Int),(0:Int),()) s.size rfl
  ⟨0,[],rfl,rfl,ae,ae,⟨0,⟨#[]⟩,0,0,b1⟩,SL.nil _ _ _ _,e1,ae,⟨s.size+1,ae,rfl⟩,aj⟩ ?_
 rintro ⟨⟨p2,l3,l4⟩,n5,n6,⟨p7,l8,l9⟩,p10,n11,n12,⟨⟩⟩ m h2 ⟨k,acc,hk,hp,hle,rfl,⟨x1,x2,x3,x4,hbox⟩,hsl,hext,hsz2,hlex,hacc⟩
 simp only at hk hp hsl
 subst hk hp
 dsimp only [CB,flat,lW,ix,nA,cA]
 have hr0:=de (s.data.toList.drop k) bY
 rw [OR] at hr0
 obtain ⟨f,hf,hlx⟩:=hlex
 obtain ⟨f,rfl⟩:∃ f',f=f'+1:=⟨f-1,ae⟩
 refine aC ⟨ae,ae,ae⟩ ?_
 refine dN (om _ _ h2 (by rw [gw]; omega)) ?_
 rw [show Int.toNat (k:Int)=k from ae,mN]
 rw [show (⟨#[9,13,32]⟩:XA).data.toList=bY from rfl]
 obtain ⟨a,ha⟩:∃ a,a=k+bo (s.data.toList.drop k) bY:=⟨_,rfl⟩
 have hw:IntKind.wrap .i64 ((k:Int)+(bo (s.data.toList.drop k) bY:Int))=(a:Int):=by rw [wrap_i64 ae ae]; omega
 have hstep0:cG s k=iP s a:=by unfold cG; rw [ha]
 have hat:Int.toNat (a:Int)=a:=ae
 have hale:a<=s.size:=ae
 rw [hw]
 clear hw ha
 have stop:iP s a=.stop->Bk s h (.tuple #[.slice p7 l8 l9,.int .i64 0,.int .i64 0]) h2:=by
  intro hst
  have he:eh s=(acc,0,0):=by rw [hlx,uV (hstep0.trans hst)]
  exact ⟨p7,l8,l9,by rw [he]; rfl,by rw [he]; exact hsl,hext⟩
 have cX:∀ h',iP s a=.cX a->Ext h h'->Bk s h (.tuple #[.slice none 0 0,.int .i64 a,.int .i64 20]) h':=by
  intro h' hst he'
  have he:eh s=([],a,20):=by rw [hlx,sv (hstep0.trans hst)]
  exact ⟨none,0,0,by rw [he]; rfl,by rw [he]; exact SL.nil _ _ _ _,he'⟩
 refine ai (fun h3=>?_) (fun h3=>?_)
 ·have h3:=eq_of_beq h3
  exact stop (by unfold iP; rw [OH ae])
 have h3:=ON h3
 have hlt:a<s.size:=ae
 refine aC ⟨ae,ae⟩ ?_
 rw [eG,hat]
 refine ai (fun h4=>?_) (fun h4=>?_)
 ·have h4:=eq_of_beq h4
  have h4:s.data.toList.getD a 0=59:=PM.1 (by unfold cN at h4; show _=59; omega)
  exact stop (by unfold iP; rw [OG ae,OH h4])
 have h4:=ON h4
 have h4':¬ s.data.toList.getD a 0=59:=fun hh=>h4 (by rw [hh]; rfl)
 have hA:=iP.eq_def s a
 rw [OG ae,OG h4'] at hA
 refine au rfl (ap hbox rfl aj ?_)
 intro h3' hb3 hc3 hz3
 refine aC ⟨ae,ae⟩ (aC ⟨ae,ae,ae⟩ ?_)
 have hdl:(s.data.toList.drop a).length=s.size-a:=by rw [OR,hsz]
 refine dN (om _ _ h3' (by rw [gw]; omega)) ?_
 rw [mN,ML]
 have hpos:=qm (s:=s.data.toList.drop a) (set:=cM) ae
 rw [xu,Ac] at hpos
 refine ai (fun h5=>?_) (fun h5=>?_)
 ·have h5:=OE h5
  have h5:dt (s.data.toList.getD a 0)=true:=hpos.1 ae
  rw [OH h5] at hA
  refine au rfl (ap hb3 rfl (by simp [j8]) ?_)
  intro h4' hb4 hc4 hz4
  refine aC ⟨ae,ae,ae⟩ ?_
  refine dN (om _ _ h4' (by rw [gw]; omega)) ?_
  rw [mN,LX]
  have hr1:=de (s.data.toList.drop a) (cM++bj)
  rw [show bt=cM++bj from rfl] at hA
  generalize bo (s.data.toList.drop a) (cM++bj)=n at hA hr1 ⊢
  have c34:Ch [h.size] h2 h4':=Ch.trans hc3 hc4 (fun i hi _=>hi)
  have e4:Ext h h4':=Ch.trans hext c34 (fun i hi hlt=>by simp at hi; omega)
  refine ai (fun h6=>?_) (fun h6=>?_)
  ·have h6:=OE h6
   rw [OH ae] at hA
   exact cX _ hA e4
  ·have h6:=OF h6
   rw [OG ae] at hA
   have hw2:IntKind.wrap .i64 ((a:Int)+(n:Int))=((a+n:Nat):Int):=by rw [wrap_i64 ae ae]; omega
   rw [hw2,show Int.toNat ((a+n:Nat):Int)=a+n from ae]
   refine aC ⟨ae,ae,ae⟩ ?_
   refine au rfl ?_
   rw [az]
   refine ap hb4 rfl (by simp [j8]) ?_
   intro h5' hb5 hc5 hz5
   refine au rfl ?_
   exact tq (t:=⟨1,s.extract a (a+n),0,a⟩) hs hle (hstep0.trans hA) rfl hb5 (Ch.trans c34 hc5 (fun i hi _=>hi)) hsl hext hsz2 ⟨f+1,hf,hlx⟩ hacc
 have h5:=OF h5
 have h5:¬ dt (s.data.toList.getD a 0)=true:=fun hh=>h5 (by have:=hpos.2 hh; omega)
 rw [OG h5] at hA
 have e3:Ext h h3':=Ch.trans hext hc3 (fun i hi hlt=>by simp at hi; omega)
 refine aC ⟨ae,ae,ae⟩ ?_
 refine dN (om _ _ h3' (by rw [gw]; omega)) ?_
 rw [mN,show (⟨#[48,49,50,51,52,53,54,55,56,57]⟩:XA).data.toList=bj from rfl]
 have hpos2:=qm (s:=s.data.toList.drop a) (set:=bj) ae
 rw [mF,Ac] at hpos2
 refine ai (fun h6=>?_) (fun h6=>?_)
 ·have h6:=OE h6
  have h6:cJ (s.data.toList.getD a 0)=true:=hpos2.1 ae
  rw [OH h6] at hA
  refine au rfl (ap hb3 rfl (by simp [j8]) ?_)
  intro h4' hb4 hc4 hz4
  have c34:Ch [h.size] h2 h4':=Ch.trans hc3 hc4 (fun i hi _=>hi)
  have e4:Ext h h4':=Ch.trans hext c34 (fun i hi hlt=>by simp at hi; omega)
  refine aC ⟨ae,ae,ae⟩ ?_
  refine aK (qT _ h4' (by rw [gw]; omega) (hl.ext e4)) ?_
  rintro v h5' ⟨rfl,e5⟩
  rw [mN]
  obtain ⟨hn1,hn2⟩:=wX (s.data.toList.drop a)
  generalize eD (s.data.toList.drop a)=r at hA hn1 hn2 ⊢
  refine ⟨((r.1:Int),(r.2:Int),()),rfl,?_⟩
  dsimp only [lW,ix,flat,nA,cA]
  have hb5:=hb4.an e5 aj
  refine au rfl ?_
  rw [az]
  refine ap hb5 rfl (by simp [j8]) ?_
  intro h6' hb6 hc6 hz6
  have c36:Ch [h.size] h2 h6':=Ch.trans (Ch.trans c34 e5 aj) hc6 (fun i hi _=>hi)
  have e6:Ext h h6':=Ch.trans hext c36 (fun i hi hlt=>by simp at hi; omega)
  refine ai (fun h7=>?_) (fun h7=>?_)
  ·have h7:(r.1:Int)=0:=eq_of_beq h7
   rw [OH (.inl ae)] at hA
   exact cX _ hA e6
  have h7:(r.1:Int)≠0:=ON h7
  have hw2:IntKind.wrap .i64 ((a:Int)+(r.1:Int))=((a+r.1:Nat):Int):=by rw [wrap_i64 ae ae]; omega
  rw [hw2,show Int.toNat ((a+r.1:Nat):Int)=a+r.1 from ae]
  refine aC ⟨ae,ae,ae⟩ ?_
  refine dN (om _ _ h6' (by rw [gw]; omega)) ?_
  rw [mN,LX]
  rw [show bt=cM++bj from rfl] at hA
  refine ai (fun h8=>?_) (fun h8=>?_)
  ·have h8:=OE h8
   rw [OH (.inr ae)] at hA
   exact cX _ hA e6
  ·have h8:=OF h8
   rw [OG ae] at hA
   refine aC ⟨ae,ae,ae⟩ ?_
   refine au rfl ?_
   rw [az]
   refine ap hb6 rfl (by simp [j8]) ?_
   intro h7' hb7 hc7 hz7
   refine au rfl ?_
   exact tq (t:=⟨2,s.extract a (a+r.1),r.2,a⟩) hs hle (hstep0.trans hA) rfl hb7 (Ch.trans c36 hc7 (fun i hi _=>hi)) hsl hext hsz2 ⟨f+1,hf,hlx⟩ hacc
 have h6:=OF h6
 have h6:¬ cJ (s.data.toList.getD a 0)=true:=fun hh=>h6 (by have:=hpos2.2 hh; omega)
 rw [OG h6] at hA
 have hsb:∀ j:Nat,aU s ((a+j:Nat):Int)=cN (s.data.toList.getD (a+j) 0):=fun j=>by rw [eG,show Int.toNat ((a+j:Nat):Int)=a+j from ae]
 have hcc:∀ (c:UInt8) (n:Nat),n<256->((cN c=(n:Int))↔c.toNat=n):=fun c n hn=>by unfold cN; omega
 refine ai (fun h7=>?_) (fun h7=>?_)
 ·have h7:cN (s.data.toList.getD a 0)=39:=eq_of_beq h7
  have h7:s.data.toList.getD a 0=39:=PM.1 (by unfold cN at h7; show _=39; omega)
  rw [OH h7] at hA
  have hw3:IntKind.wrap .i64 ((s.size:Int)-(a:Int))=(s.size:Int)-(a:Int):=wrap_i64 ae ae
  have hw4:IntKind.wrap .i64 ((a:Int)+1)=((a+1:Nat):Int):=by rw [wrap_i64 ae ae]; omega
  have hw5:IntKind.wrap .i64 ((a:Int)+2)=((a+2:Nat):Int):=by rw [wrap_i64 ae ae]; omega
  have hw6:IntKind.wrap .i64 ((a:Int)+3)=((a+3:Nat):Int):=by rw [wrap_i64 ae ae]; omega
  rw [hw3,hw4,hw5,hw6,hsb 1,hsb 2]
  refine ai (fun h8=>?_) (fun h8=>?_)
  ·have h8:=OE h8
   rw [OH (.inl ae)] at hA
   exact cX _ hA e3
  have h8:=OF h8
  have hb1:=(s.data.toList.getD (a+1) 0).toNat_lt
  refine aC ⟨ae,ae⟩ ?_
  refine ai (fun h9=>?_) (fun h9=>?_)
  ·have h9:=OE h9
   rw [OH (.inr (.inl (by unfold cN at h9; omega)))] at hA
   exact cX _ hA e3
  have h9:=OF h9
  refine aC ⟨ae,ae⟩ ?_
  refine ai (fun h10=>?_) (fun h10=>?_)
  ·have h10:=OE h10
   rw [OH (.inr (.inr (.inl (by unfold cN at h10; omega))))] at hA
   exact cX _ hA e3
  have h10:=OF h10
  refine aC ⟨ae,ae⟩ ?_
  refine ai (fun h11=>?_) (fun h11=>?_)
  ·have h11:=eq_of_beq h11
   rw [OH (.inr (.inr (.inr (.inl (PM.1 (by unfold cN at h11; show _=39; omega))))))] at hA
   exact cX _ hA e3
  have h11:=ON h11
  refine aC ⟨ae,ae⟩ ?_
  refine ai (fun h12=>?_) (fun h12=>?_)
  ·have h12:cN (s.data.toList.getD (a+2) 0)≠39:=by simpa using h12
   rw [OH (.inr (.inr (.inr (.inr (fun hh=>h12 (by rw [hh]; rfl))))))] at hA
   exact cX _ hA e3
  have h12:cN (s.data.toList.getD (a+2) 0)=39:=by simpa using h12
  have h12:s.data.toList.getD (a+2) 0=39:=PM.1 (by unfold cN at h12; show _=39; omega)
  rw [OG (by
   intro hh
   rcases hh with hh | hh | hh | hh | hh
   ·omega
   ·unfold cN at h9; omega
   ·unfold cN at h10; omega
   ·exact h11 (by rw [hh]; rfl)
   ·exact hh h12)] at hA
  refine aC ⟨ae,ae⟩ ?_
  refine au rfl (ap hb3 rfl (by simp [j8]) ?_)
  intro h4' hb4 hc4 hz4
  refine au rfl ?_
  rw [az]
  refine ap hb4 rfl (by simp [j8]) ?_
  intro h5' hb5 hc5 hz5
  refine aC ⟨ae,ae,ae⟩ ?_
  refine au rfl ?_
  rw [az]
  refine ap hb5 rfl (by simp [j8]) ?_
  intro h6' hb6 hc6 hz6
  refine au rfl ?_
  rw [show Int.toNat ((a+3:Nat):Int)=a+3 from ae] at hb6
  rw [show IntKind.wrap .u32 (cN (s.data.toList.getD (a+1) 0))=(((s.data.toList.getD (a+1) 0).toNat:Nat):Int) from wrap_u32 (by unfold cN; omega) (by unfold cN; omega)] at hb6
  have c36:Ch [h.size] h2 h6':=Ch.trans (Ch.trans (Ch.trans hc3 hc4 (fun i hi _=>hi)) hc5 (fun i hi _=>hi)) hc6 (fun i hi _=>hi)
  exact tq (t:=⟨2,s.extract a (a+3),(s.data.toList.getD (a+1) 0).toNat,a⟩) hs hle (hstep0.trans hA) rfl hb6 c36 hsl hext hsz2 ⟨f+1,hf,hlx⟩ hacc
 have h7:=ON h7
 have h7:¬ s.data.toList.getD a 0=39:=fun hh=>h7 (by rw [hh]; rfl)
 rw [OG h7] at hA
 refine dN (uK _ _ _) ?_
 rw [show (⟨#[58,44,40,41,43,45,42,61]⟩:XA).data.toList=oC from rfl]
 have hcon:=Lib.contains_iff_indexByte oC (s.data.toList.getD a 0)
 rw [show (cN (s.data.toList.getD a 0)).toNat.toUInt8=s.data.toList.getD a 0 from by unfold cN; simp]
 refine ai (fun h8=>?_) (fun h8=>?_)
 ·have h8:=OE h8
  rw [OH (by rw [hcon]; exact OK h8)] at hA
  refine au rfl (ap hb3 rfl (by simp [j8]) ?_)
  intro h4' hb4 hc4 hz4
  have hw4:IntKind.wrap .i64 ((a:Int)+1)=((a+1:Nat):Int):=by rw [wrap_i64 ae ae]; omega
  rw [hw4]
  refine aC ⟨ae,ae,ae⟩ ?_
  refine au rfl ?_
  rw [az]
  refine ap hb4 rfl (by simp [j8]) ?_
  intro h5' hb5 hc5 hz5
  refine au rfl ?_
  rw [show Int.toNat ((a+1:Nat):Int)=a+1 from ae] at hb5
  exact tq (t:=⟨3,s.extract a (a+1),0,a⟩) hs hle (hstep0.trans hA) rfl hb5 (Ch.trans (Ch.trans hc3 hc4 (fun i hi _=>hi)) hc5 (fun i hi _=>hi)) hsl hext hsz2 ⟨f+1,hf,hlx⟩ hacc
 ·have h8:=OF h8
  rw [OG (by rw [hcon]; exact fun hh=>h8 (OE hh))] at hA
  exact cX _ hA e3
def G0 (P:Program) (t:TypeId):Array Field :=
 match P.underlying t with
 | some (.struct fs)=>fs
 | _=>#[]
def bytes_beq (t:XA):(t==t)=true:=by
 cases t with | mk d=>show (d==d)=true; simp
def hv (c:UInt8):Int:=if mZ c=true then (dv c:Int) else -1
def IV (c:UInt8) (h:Hp):pO Tryz.prog 180 [.int .u8 (cN c)] h (.int .i64 (hv c)):=by
 refine dk mixed Tryz.func180 aB (pJ _) ?_
 unfold ln aN aH
 refine aM (na c h) ?_
 have hlt:c.toNat<256:=c.toNat_lt
 have hdi:=mH c
 have hhi:=vB c
 refine ai (fun h1=>?_) (fun h1=>?_)
 ·have h2:=hdi.1 h1
  have h3:mZ c=true:=hhi.2 (.inl h2)
  have h4:=(sn c h3).1 h2.2
  refine ⟨?_,rfl⟩
  congr 1
  unfold hv
  rw [OH h3,h4,wrap_u8 ae ae,wrap_i64 ae ae]
 ·have h2:¬ (48<=cN c/\cN c<=57):=fun hh=>by rw [hdi.2 hh] at h1; cases h1
  refine ai (fun h3=>?_) (fun h3=>?_)
  ·have h3:cN c>=97:=OE h3
   refine ai (fun h4=>?_) (fun h4=>?_)
   ·have h4:cN c<=102:=OE h4
    have h5:mZ c=true:=hhi.2 (.inr ⟨h3,h4⟩)
    have h6:=(sn c h5).2.1 ae
    refine ⟨?_,rfl⟩
    congr 1
    unfold hv
    rw [OH h5,h6,wrap_u8 (x:=cN c-97) ae ae,wrap_i64 (x:=cN c-97) ae ae,wrap_i64 ae ae]
    omega
   ·have h4:¬ cN c<=102:=OF h4
    refine ⟨?_,rfl⟩
    unfold hv
    rw [OG (fun hh=>by have:=hhi.1 hh; omega)]
  ·have h3:¬ cN c>=97:=OF h3
   refine ⟨?_,rfl⟩
   unfold hv
   rw [OG (fun hh=>by have:=hhi.1 hh; omega)]
def kd (D:List UInt8):Nat × Nat :=
 if D.getD 0 0=39 then
  (if D.length<3\/(D.getD 1 0).toNat<32\/126<(D.getD 1 0).toNat\/D.getD 1 0=39\/D.getD 2 0≠39 then (0,0) else ((D.getD 1 0).toNat,3))
 else if (eD D).1=0\/0<bo (D.drop (eD D).1) bt then (0,0) else ((eD D).2,(eD D).1)
def GW {D:List UInt8} (h:cJ (D.getD 0 0)=true\/D.getD 0 0=39) (h0:D≠[]):rD D=if (kd D).2=0 then .cX else .tok 2 (kd D).2 (kd D).1:=by
 have hc:D.getD 0 0≠59/\dt (D.getD 0 0)=false:=by
  have:=gR (fun c=>!(cJ c || decide (c=39)) || (!decide (c=59) && !dt c)) (fun _=>true) (by decide +kernel) (D.getD 0 0)
  have h':(cJ (D.getD 0 0) || decide (D.getD 0 0=39))=true:=by
   rcases h with h | h
   ·rw [h]; rfl
   ·rw [h]; rfl
  simp only [h',Bool.not_true,Bool.false_or,Bool.and_eq_true,Bool.not_eq_true',decide_eq_false_iff_not] at this
  exact this
 unfold rD kd
 rw [OG h0,OG hc.1,OG (by rw [hc.2]; simp)]
 by_cases h1:cJ (D.getD 0 0)=true
 ·have h2:D.getD 0 0≠39:=fun hh=>by rw [hh] at h1; revert h1; decide
  rw [OH h1,OG h2]
  by_cases h3:(eD D).1=0\/0<bo (D.drop (eD D).1) bt
  ·rw [OH h3,OH h3]; rfl
  ·rw [OG h3,OG h3,OG (fun hh=>h3 (.inl hh))]
 ·have h2:D.getD 0 0=39:=h.resolve_left h1
  rw [OG h1,OH h2,OH h2]
  split <;> rfl
theorem Ay (b:Nat):∀ (l:List UInt8) (n:Nat),n*b^l.length<=l.foldl (fun n c=>n*b+dv c) n
 | [],n=>aj
 | c::l,n=>by
  rw [Pq,Pg,Nat.pow_succ]
  refine Pb ?_ (Ay b l _)
  rw [Nat.mul_comm (b^l.length) b,<- Nat.mul_assoc]
  exact PH _ (Nat.le_add_right _ _)
def Jm {D:List UInt8} {n:Nat} (hn:0<n) (hl:n<=D.length) (hd:cJ (D.getD 0 0)=true) (h0:D.getD 0 0≠48):10^(n-1)<=cb 10 (D.take n):=by
 cases D with
 | nil=>simp at hl; omega
 | cons d D =>
  obtain ⟨n,rfl⟩:∃ n',n=n'+1:=⟨n-1,ae⟩
  simp only [List.getD_cons_zero,List.length_cons] at hd h0 hl
  rw [List.take_succ_cons]
  unfold cb
  rw [Pq]
  have h1:=Ay 10 (D.take n) (0*10+dv d)
  rw [O0,PX ae] at h1
  refine Pb ?_ h1
  have h2:=(mH d).1 hd
  have h3:d.toNat≠48:=fun hh=>h0 (PM.1 hh)
  have h4:1<=0*10+dv d:=by
   unfold cN at h2
   unfold dv
   split <;> omega
  have:=PH (10^n) h4
  simpa using this
theorem vj (b:Nat) (hb:0<b):∀ (l:List UInt8) (n:Nat),(∀ c∈l,dv c<b)->l.foldl (fun n c=>n*b+dv c) n<(n+1)*b^l.length
 | [],n,_=>aj
 | c::l,n,h=>by
  rw [Pq,Pg,Nat.pow_succ]
  refine PE (vj b hb l _ fun d hd=>h d (by simp [hd])) ?_
  rw [Nat.mul_comm (b^l.length) b,<- Nat.mul_assoc]
  refine PH _ ?_
  have:=h c aj
  rw [PP]; omega
def Hq (c:UInt8) (h:cJ c=true):(dv c:Int)=cN c-48/\dv c<10:=by
 have h2:=(mH c).1 h
 unfold dv cN at *
 split <;> omega
def CU {set l:List UInt8} {k:Nat} (hk:k<=bo l set) {c:UInt8} (hc:c∈l.take k):set.contains c=true:=by
 obtain ⟨i,hi,rfl⟩:=PA hc
 rw [O0] at hi
 have:=qh (s:=l) (set:=set) (i:=i) ae
 rw [OV,OO ae,Option.getD_some] at this
 rw [List.getElem_take]
 exact this
def CD {l:List UInt8} {k:Nat} (hk:k<=bo l bj):cb 10 (l.take k)<10^k:=by
 have hle:=de l bj
 have:=vj 10 ae (l.take k) 0 (fun c hc=>(Hq c (by rw [<- mF]; exact CU hk hc)).2)
 rw [O0,PX ae] at this
 unfold cb
 omega
def Ax {l:List UInt8} {k:Nat} (hk:k<=bo l cm):cb 16 (l.take k)<16^k:=by
 have hle:=de l cm
 have:=vj 16 ae (l.take k) 0 (fun c hc=>(sn c (by rw [<- pT]; exact CU hk hc)).2.2)
 rw [O0,PX ae] at this
 unfold cb
 omega
def AN (D:List UInt8) (a:Nat):XB:=.tuple #[.int .u32 (kd D).1,.int .i64 (if (kd D).2=0 then (0:Nat) else a+(kd D).2:Nat)]
def zo (s0:XA) (n2 n3:Int):T :=
 cond (decide (n2<(s0.size:Int)))
 (T.need (cz n2 s0.size) <|
 aN 87 [.int .u8 (aU s0 n2)] fun (b4:Bool) =>
 cond b4
  (aw #[av (0:Int),.int .i64 (0:Int)])
  (T.need (cz n2 s0.size) <|
  aN 88 [.int .u8 (aU s0 n2)] fun (b5:Bool) =>
  cond b5
  (aw #[av (0:Int),.int .i64 (0:Int)])
  (aw #[av (IntKind.wrap .u32 n3),.int .i64 n2])))
 (aw #[av (IntKind.wrap .u32 n3),.int .i64 n2])
def zc {s:XA} {i:Nat} (hi:i<s.size):0<bo (s.data.toList.drop i) bt↔(dt (s.data.toList.getD i 0) || cJ (s.data.toList.getD i 0))=true:=by
 have hsz:s.data.toList.length=s.size:=aj
 rw [<- kY]
 have:=fU (s.data.toList.drop i) bt 0 ae (by rw [OR]; omega)
 rw [dS,P4] at this
 exact this
def EM {s:XA} {i n:Nat} {L:Lp} {K:XB->Hp->Prop} {h:Hp} (hi:i<=s.size) (hn:n<4294967296)
  (hk:K (if 0<bo (s.data.toList.drop i) bt then .tuple #[.int .u32 0,.int .i64 0] else .tuple #[.int .u32 n,.int .i64 i]) h):zo s i n L K h:=by
 unfold zo aN cz av aw
 have hsz:s.data.toList.length=s.size:=aj
 have hw:IntKind.wrap .u32 (n:Int)=n:=wrap_u32 ae ae
 rw [hw]
 refine ai (fun h1=>?_) (fun h1=>?_)
 ·have h1:=OE h1
  have hp:=zc (s:=s) (i:=i) ae
  have hb:aU s (i:Int)=cN (s.data.toList.getD i 0):=by rw [eG,show Int.toNat (i:Int)=i from ae]
  refine aC ⟨ae,ae⟩ ?_
  rw [hb]
  refine aM (mO _ h) (ai (fun h2=>?_) (fun h2=>?_))
  ·rw [OH (hp.2 (by rw [h2]; rfl))] at hk
   exact hk
  ·refine aC ⟨ae,ae⟩ (aM (na _ h) (ai (fun h3=>?_) (fun h3=>?_)))
   ·rw [OH (hp.2 (by rw [h3]; simp))] at hk
    exact hk
   ·rw [OG (fun hh=>by have:=hp.1 hh; rw [h2,h3] at this; cases this)] at hk
    exact hk
 ·have h1:=OF h1
  rw [OG (by rw [OW ae]; simp [bo])] at hk
  exact hk
def tB (s0 : XA) (n1 n2 n3 : Int) : T :=
 cond (decide ((aH (n2 - n1)) > (10 : Int)))
  (aw #[av (0 : Int), .int .i64 (0 : Int)])
  (cond (decide (n3 > (4294967295 : Int)))
   (aw #[av (0 : Int), .int .i64 (0 : Int)])
   (T.need (((0 : Int) <= n1) /\ (n1 < (s0.size : Int))) <|
    cond ((aU s0 n1) == (48 : Int))
     (cond (decide ((aH (n2 - n1)) > (1 : Int)))
      (aw #[av (0 : Int), .int .i64 (0 : Int)])
      (zo s0 n2 n3))
     (zo s0 n2 n3)))
def ft (c d:UInt8) {n:Int} (hn:cN d=n):cN c=n↔c=d:=by
 subst hn
 unfold cN
 constructor
 ·intro h
  exact PM.1 ae
 ·intro h
  rw [h]
def Hk {D:List UInt8} (h39:D.getD 0 0≠39) (hx:¬ D.take 2=[48,120]) (h:(1<bo D bj/\D.getD 0 0=48)\/bo D bj=0\/4294967296<=cb 10 (D.take (bo D bj))):kd D=(0,0):=by
 unfold kd
 have:eD D=(0,0):=by unfold eD; rw [OG hx,OH h]
 rw [OG h39,this,OH (.inl rfl)]
def FM {D:List UInt8} (h39:D.getD 0 0≠39) (hx:¬ D.take 2=[48,120]) (h:¬ ((1<bo D bj/\D.getD 0 0=48)\/bo D bj=0\/4294967296<=cb 10 (D.take (bo D bj)))) :
  kd D=if 0<bo (D.drop (bo D bj)) bt then (0,0) else (cb 10 (D.take (bo D bj)),bo D bj):=by
 unfold kd
 have:eD D=(bo D bj,cb 10 (D.take (bo D bj))):=by unfold eD; rw [OG hx,OG h]
 rw [OG h39,this]
 simp only
 by_cases h2:0<bo (D.drop (bo D bj)) bt
 ·rw [OH (.inr h2),OH h2]
 ·rw [OG h2,OG (by rintro (hh | hh); exact h (.inr (.inl hh)); exact h2 hh)]
def DH {s:XA} {a j:Nat} {L:Lp} {K:XB->Hp->Prop} {h:Hp} (hs:s.size<=2^40) (ha:a<s.size) (hd:cJ (s.data.toList.getD a 0)=true) (hx:¬ (s.data.toList.drop a).take 2=[48,120])
  (hj:j=min (bo (s.data.toList.drop a) bj) 12)
  (hk:K (AN (s.data.toList.drop a) a) h):tB s a ((a+j:Nat):Int) (cb 10 ((s.data.toList.drop a).take j):Nat) L K h:=by
 have hsz:s.data.toList.length=s.size:=aj
 have hr:=de (s.data.toList.drop a) bj
 rw [OR] at hr
 have hD0:(s.data.toList.drop a).getD 0 0=s.data.toList.getD a 0:=by rw [dS,P4]
 have h39:(s.data.toList.drop a).getD 0 0≠39:=fun hh=>by rw [hD0] at hh; rw [hh] at hd; revert hd; decide
 have hpos:0<bo (s.data.toList.drop a) bj:=by
  have:=(fU (s.data.toList.drop a) bj 0 ae (by rw [OR]; omega)).2 (by rw [hD0,mF]; exact hd)
  exact this
 have hbig:=fun h0=>Jm (D:=s.data.toList.drop a) (n:=bo (s.data.toList.drop a) bj) hpos (by rw [OR]; omega) (by rw [hD0]; exact hd) h0
 have hN:=Hk h39 hx
 have hN':=FM h39 hx
 unfold AN at hk
 unfold tB aH av aw
 have hw:IntKind.wrap .i64 (((a+j:Nat):Int)-(a:Int))=(j:Int):=by rw [wrap_i64 ae ae]; omega
 rw [hw]
 have hsb:aU s (a:Int)=cN ((s.data.toList.drop a).getD 0 0):=by rw [hD0,eG,show Int.toNat (a:Int)=a from ae]
 have hlt:=CD (l:=s.data.toList.drop a) (k:=j) ae
 refine ai (fun h1=>?_) (fun h1=>?_)
 ·have h1:=OE h1
  rw [hN (by
   by_cases h0:(s.data.toList.drop a).getD 0 0=48
   ·exact .inl ⟨ae,h0⟩
   ·refine .inr (.inr ?_)
    refine Pb ?_ (hbig h0)
    refine Pb (show 4294967296<=10^10 from bO) (Pm ae ae))] at hk
  exact hk
 have h1:=OF h1
 have hjr:bo (s.data.toList.drop a) bj=j:=ae
 rw [hjr] at hN hN'
 refine ai (fun h2=>?_) (fun h2=>?_)
 ·have h2:=OE h2
  rw [hN (.inr (.inr ae))] at hk
  exact hk
 have h2:=OF h2
 have hglue:(¬ (1<j/\(s.data.toList.drop a).getD 0 0=48))->zo s ((a+j:Nat):Int) (cb 10 ((s.data.toList.drop a).take j):Nat) L K h:=by
  intro hh
  refine EM ae ae ?_
  rw [hN' (by rintro (h3 | h3 | h3); exact hh h3; omega; omega),P2] at hk
  by_cases h3:0<bo (s.data.toList.drop (a+j)) bt
  ·rw [OH h3] at hk ⊢
   exact hk
  ·rw [OG h3] at hk ⊢
   simp only at hk
   rw [OG ae] at hk
   exact hk
 refine aC ⟨ae,ae⟩ ?_
 rw [hsb]
 refine ai (fun h3=>?_) (fun h3=>?_)
 ·have h3:=(ft _ 48 rfl).1 (eq_of_beq h3)
  refine ai (fun h4=>?_) (fun h4=>?_)
  ·have h4:=OE h4
   rw [hN (.inl ⟨ae,h3⟩)] at hk
   exact hk
  ·have h4:=OF h4
   exact hglue ae
 ·have h3:¬ (s.data.toList.drop a).getD 0 0=48:=fun hh=>ON h3 ((ft _ 48 rfl).2 hh)
  exact hglue (fun hh=>h3 hh.2)
def Bp (s0 : XA) (n1 : Int) : T :=
 T.loop [(false, [.int .i64]), (false, [.int .u64])] [.int .i64 n1, .int .u64 (0 : Int)] fun (n2 : Int) (n3 : Int) =>
 cond (decide (n2 < (s0.size : Int)))
  (T.need (((0 : Int) <= n2) /\ (n2 < (s0.size : Int))) <|
  aS 88 [.int .u8 (aU s0 n2)] false [(false, [.bool])] fun (b4 : Bool) =>
  cond b4
   (cond (decide ((aH (n2 - n1)) < (12 : Int)))
    (T.need (((0 : Int) <= n2) /\ (n2 < (s0.size : Int))) <|
    T.again 0 [.int .i64 (aH (n2 + (1 : Int))), .int .u64 (IntKind.wrap .u64 ((IntKind.wrap .u64 (n3 * (10 : Int))) + (IntKind.wrap .u64 (IntKind.wrap .u8 ((aU s0 n2) - (48 : Int))))))])
    (tB s0 n1 n2 n3))
   (tB s0 n1 n2 n3))
  (tB s0 n1 n2 n3)
def D5 {s:XA} {a:Nat} {K:XB->Hp->Prop} {h:Hp} (hs:s.size<=2^40) (ha:a<s.size) (hd:cJ (s.data.toList.getD a 0)=true) (hx:¬ (s.data.toList.drop a).take 2=[48,120])
  (hk:K (AN (s.data.toList.drop a) a) h):Bp s a [] K h:=by
 have hsz:s.data.toList.length=s.size:=aj
 have hr:=de (s.data.toList.drop a) bj
 rw [OR] at hr
 unfold Bp aS aH
 refine bJ (cs:=[(false,[.int .i64]),(false,[.int .u64])]) (fun x n h'=>h'=h/\∃ j:Nat,x.1=((a+j:Nat):Int)/\x.2.1=((cb 10 ((s.data.toList.drop a).take j):Nat):Int)/\j<=12/\j<=bo (s.data.toList.drop a) bj/\n=12-j)
  ((a:Int),(0:Int),()) 12 rfl ⟨rfl,0,rfl,rfl,ae,ae,ae⟩ ?_
 rintro ⟨n2,n3,⟨⟩⟩ m h' ⟨rfl,j,hn2,hn3,hj12,hjr,rfl⟩
 simp only at hn2 hn3
 subst hn2 hn3
 refine ao ?_
 have hst:=fU (s.data.toList.drop a) bj j hjr
 rw [dS,mF,OR] at hst
 have hlt:=CD hjr
 have hp12:10^j<=10^12:=Pm ae hj12
 have h12:(10:Nat)^12=1000000000000:=rfl
 refine ai (fun h1=>?_) (fun h1=>?_)
 ·have h1:=OE h1
  have hb:aU s ((a+j:Nat):Int)=cN (s.data.toList.getD (a+j) 0):=by rw [eG,show Int.toNat ((a+j:Nat):Int)=a+j from ae]
  refine aC ⟨ae,ae⟩ ?_
  rw [hb]
  have hst:=hst ae
  refine aM (na _ _) (ai (fun h2=>?_) (fun h2=>?_))
  ·have hlt2:=hst.2 h2
   have hw:IntKind.wrap .i64 (((a+j:Nat):Int)-(a:Int))=(j:Int):=by rw [wrap_i64 ae ae]; omega
   refine ai (fun h3=>?_) (fun h3=>?_)
   ·rw [hw] at h3
    have h3:=OE h3
    refine aC ⟨ae,ae⟩ ?_
    have hsn:=qP 10 (s.data.toList.drop a) j (by rw [OR]; omega)
    rw [dS] at hsn
    obtain ⟨hd1,hd2⟩:=Hq _ h2
    generalize hv:cb 10 ((s.data.toList.drop a).take j)=v at hlt hsn ⊢
    generalize dv (s.data.toList.getD (a+j) 0)=d at hsn hd1 hd2
    have hw1:IntKind.wrap .u8 (cN (s.data.toList.getD (a+j) 0)-48)=(d:Int):=by rw [wrap_u8 ae ae]; omega
    have hw2:IntKind.wrap .u64 (d:Int)=d:=wrap_u64 ae ae
    have hw3:IntKind.wrap .u64 ((v:Int)*10)=(v:Int)*10:=wrap_u64 ae ae
    have hw4:IntKind.wrap .u64 ((v:Int)*10+(d:Int))=((cb 10 ((s.data.toList.drop a).take (j+1)):Nat):Int):=by rw [wrap_u64 ae ae,hsn]; omega
    have hw5:IntKind.wrap .i64 (((a+j:Nat):Int)+1)=((a+(j+1):Nat):Int):=by rw [wrap_i64 ae ae]; omega
    rw [hw1,hw2,hw3,hw4,hw5]
    exact aY (cs:=[(false,[.int .i64]),(false,[.int .u64])]) (((a+(j+1):Nat):Int),((cb 10 ((s.data.toList.drop a).take (j+1)):Nat):Int),()) (12-(j+1)) rfl ae rfl ⟨rfl,j+1,rfl,rfl,ae,ae,rfl⟩
   ·rw [hw] at h3
    have h3:=OF h3
    exact DH hs ha hd hx ae hk
  ·refine DH hs ha hd hx ?_ hk
   have:¬ j<bo (s.data.toList.drop a) bj:=fun hh=>by rw [hst.1 hh] at h2; cases h2
   omega
 ·have h1:=OF h1
  exact DH hs ha hd hx ae hk
def tL (s0 : XA) (n1 n2 n3 : Int) : T :=
 cond (decide ((aH (n2 - n1)) < (3 : Int)))
  (aw #[av (0 : Int), .int .i64 (0 : Int)])
  (cond (decide ((aH (n2 - n1)) > (10 : Int)))
   (aw #[av (0 : Int), .int .i64 (0 : Int)])
   (zo s0 n2 n3))
def DI {s:XA} {a j:Nat} {L:Lp} {K:XB->Hp->Prop} {h:Hp} (hs:s.size<=2^40) (ha:a+1<s.size) (hx:(s.data.toList.drop a).take 2=[48,120])
  (hj:j=min (bo (s.data.toList.drop (a+2)) cm) 10)
  (hk:K (AN (s.data.toList.drop a) a) h):tL s a ((a+2+j:Nat):Int) (cb 16 ((s.data.toList.drop (a+2)).take j):Nat) L K h:=by
 have hsz:s.data.toList.length=s.size:=aj
 have hr:=de (s.data.toList.drop (a+2)) cm
 rw [OR] at hr
 have h39:(s.data.toList.drop a).getD 0 0≠39:=by
  have:=O7 (fun l=>l.getD 0 0) hx
  simp only [List.getD_cons_zero] at this
  rw [getD_take ae] at this
  rw [this]; decide
 have hN:kd (s.data.toList.drop a)=if 8<bo (s.data.toList.drop (a+2)) cm\/bo (s.data.toList.drop (a+2)) cm=0 then (0,0)
   else if 0<bo (s.data.toList.drop (a+2+bo (s.data.toList.drop (a+2)) cm)) bt then (0,0) else (cb 16 ((s.data.toList.drop (a+2)).take (bo (s.data.toList.drop (a+2)) cm)),2+bo (s.data.toList.drop (a+2)) cm):=by
  unfold kd eD
  rw [OG h39,OH hx,P2]
  by_cases h1:8<bo (s.data.toList.drop (a+2)) cm\/bo (s.data.toList.drop (a+2)) cm=0
  ·rw [OH h1,OH h1,OH (.inl rfl)]
  ·rw [OG h1,OG h1]
   simp only [List.drop_drop]
   rw [<- Nat.add_assoc]
   by_cases h2:0<bo (s.data.toList.drop (a+2+bo (s.data.toList.drop (a+2)) cm)) bt
   ·rw [OH h2,OH (.inr h2)]
   ·rw [OG h2,OG (by rintro (hh | hh); omega; exact h2 hh)]
 unfold AN at hk
 rw [hN] at hk
 unfold tL aH av aw
 have hw:IntKind.wrap .i64 (((a+2+j:Nat):Int)-(a:Int))=((2+j:Nat):Int):=by rw [wrap_i64 ae ae]; omega
 rw [hw]
 refine ai (fun h1=>?_) (fun h1=>?_)
 ·have h1:=OE h1
  rw [OH (.inr ae)] at hk
  exact hk
 have h1:=OF h1
 refine ai (fun h2=>?_) (fun h2=>?_)
 ·have h2:=OE h2
  rw [OH (.inl ae)] at hk
  exact hk
 have h2:=OF h2
 have hjr:bo (s.data.toList.drop (a+2)) cm=j:=ae
 rw [hjr,OG ae] at hk
 have hlt:=Ax (l:=s.data.toList.drop (a+2)) (k:=j) ae
 have hp:16^j<=16^8:=Pm ae ae
 have h8:(16:Nat)^8=4294967296:=rfl
 refine EM ae ae ?_
 by_cases h3:0<bo (s.data.toList.drop (a+2+j)) bt
 ·rw [OH h3] at hk ⊢
  exact hk
 ·rw [OG h3] at hk ⊢
  simp only at hk
  rw [OG ae,<- Nat.add_assoc] at hk
  exact hk
def EO (s0 : XA) (n1 : Int) : T :=
 T.loop [(false, [.int .i64]), (false, [.int .u64])] [.int .i64 (aH (n1 + (2 : Int))), .int .u64 (0 : Int)] fun (n2 : Int) (n3 : Int) =>
 cond (decide (n2 < (s0.size : Int)))
  (T.need (((0 : Int) <= n2) /\ (n2 < (s0.size : Int))) <|
  aS 180 [.int .u8 (aU s0 n2)] false [(false, [.int .i64])] fun (n4 : Int) =>
  cond (decide (n4 >= (0 : Int)))
   (cond (decide ((aH (n2 - n1)) < (12 : Int)))
    (T.need (((0 : Int) <= n2) /\ (n2 < (s0.size : Int))) <|
    aS 180 [.int .u8 (aU s0 n2)] false [(false, [.int .i64])] fun (n5 : Int) =>
    T.again 0 [.int .i64 (aH (n2 + (1 : Int))), .int .u64 (IntKind.wrap .u64 ((IntKind.wrap .u64 (n3 * (16 : Int))) + (IntKind.wrap .u64 n5)))])
    (tL s0 n1 n2 n3))
   (tL s0 n1 n2 n3))
  (tL s0 n1 n2 n3)
def Eg {s:XA} {a:Nat} {K:XB->Hp->Prop} {h:Hp} (hs:s.size<=2^40) (ha:a+1<s.size) (hx:(s.data.toList.drop a).take 2=[48,120])
  (hk:K (AN (s.data.toList.drop a) a) h):EO s a [] K h:=by
 have hsz:s.data.toList.length=s.size:=aj
 have hr:=de (s.data.toList.drop (a+2)) cm
 rw [OR] at hr
 unfold EO aS aH
 have hw0:IntKind.wrap .i64 ((a:Int)+2)=((a+2+0:Nat):Int):=by rw [wrap_i64 ae ae]; omega
 rw [hw0]
 refine bJ (cs:=[(false,[.int .i64]),(false,[.int .u64])]) (fun x n h'=>h'=h/\∃ j:Nat,x.1=((a+2+j:Nat):Int)/\x.2.1=((cb 16 ((s.data.toList.drop (a+2)).take j):Nat):Int)/\j<=10/\j<=bo (s.data.toList.drop (a+2)) cm/\n=10-j)
  (((a+2+0:Nat):Int),(0:Int),()) 10 rfl ⟨rfl,0,rfl,rfl,ae,ae,ae⟩ ?_
 rintro ⟨n2,n3,⟨⟩⟩ m h' ⟨rfl,j,hn2,hn3,hj12,hjr,rfl⟩
 simp only at hn2 hn3
 subst hn2 hn3
 refine ao ?_
 have hst:=fU (s.data.toList.drop (a+2)) cm j hjr
 rw [dS,pT,OR] at hst
 have hlt:=Ax hjr
 have hp12:16^j<=16^10:=Pm ae hj12
 have h12:(16:Nat)^10=1099511627776:=rfl
 refine ai (fun h1=>?_) (fun h1=>?_)
 ·have h1:=OE h1
  have hb:aU s ((a+2+j:Nat):Int)=cN (s.data.toList.getD (a+2+j) 0):=by rw [eG,show Int.toNat ((a+2+j:Nat):Int)=a+2+j from ae]
  refine aC ⟨ae,ae⟩ ?_
  rw [hb]
  have hst:=hst ae
  refine dN (IV _ _) (ai (fun h2=>?_) (fun h2=>?_))
  ·have h2:=OE h2
   have h2':mZ (s.data.toList.getD (a+2+j) 0)=true:=by
    unfold hv at h2
    by_cases hh:mZ (s.data.toList.getD (a+2+j) 0)=true
    ·exact hh
    ·rw [OG hh] at h2; omega
   have hlt2:=hst.2 h2'
   have hw:IntKind.wrap .i64 (((a+2+j:Nat):Int)-(a:Int))=((2+j:Nat):Int):=by rw [wrap_i64 ae ae]; omega
   refine ai (fun h3=>?_) (fun h3=>?_)
   ·rw [hw] at h3
    have h3:=OE h3
    refine aC ⟨ae,ae⟩ (dN (IV _ _) ?_)
    have hsn:=qP 16 (s.data.toList.drop (a+2)) j (by rw [OR]; omega)
    rw [dS] at hsn
    have hd2:=(sn _ h2').2.2
    have hhv:hv (s.data.toList.getD (a+2+j) 0)=(dv (s.data.toList.getD (a+2+j) 0):Int):=by unfold hv; rw [OH h2']
    rw [hhv]
    generalize hvv:cb 16 ((s.data.toList.drop (a+2)).take j)=v at hlt hsn ⊢
    generalize dv (s.data.toList.getD (a+2+j) 0)=d at hsn hd2
    have hw2:IntKind.wrap .u64 (d:Int)=d:=wrap_u64 ae ae
    have hw3:IntKind.wrap .u64 ((v:Int)*16)=(v:Int)*16:=wrap_u64 ae ae
    have hw4:IntKind.wrap .u64 ((v:Int)*16+(d:Int))=((cb 16 ((s.data.toList.drop (a+2)).take (j+1)):Nat):Int):=by rw [wrap_u64 ae ae,hsn]; omega
    have hw5:IntKind.wrap .i64 (((a+2+j:Nat):Int)+1)=((a+2+(j+1):Nat):Int):=by rw [wrap_i64 ae ae]; omega
    rw [hw2,hw3,hw4,hw5]
    exact aY (cs:=[(false,[.int .i64]),(false,[.int .u64])]) (((a+2+(j+1):Nat):Int),((cb 16 ((s.data.toList.drop (a+2)).take (j+1)):Nat):Int),()) (10-(j+1)) rfl ae rfl ⟨rfl,j+1,rfl,rfl,ae,ae,rfl⟩
   ·rw [hw] at h3
    have h3:=OF h3
    exact DI hs ha hx ae hk
  ·refine DI hs ha hx ?_ hk
   have h2:=OF h2
   have:¬ j<bo (s.data.toList.drop (a+2)) cm:=fun hh=>by
    have h4:=hst.1 hh
    unfold hv at h2
    rw [OH h4] at h2
    omega
   omega
 ·have h1:=OF h1
  exact DI hs ha hx ae hk
def Dy (s:XA) (a:Nat) (h:Hp) (hs:s.size<=2^40) (ha:a<s.size) (hd:cJ (s.data.toList.getD a 0)=true\/s.data.toList.getD a 0=39) :
  pO Tryz.prog 160 [.string s,.int .i64 a] h (AN (s.data.toList.drop a) a):=by
 refine dk mixed Tryz.func160 aB (mu s a) ?_
 unfold iA bN aN cU aH cz av aw aQ
 have hsz:s.data.toList.length=s.size:=aj
 refine aC ⟨ae,ae⟩ ?_
 have hsb:∀ j:Nat,aU s ((a+j:Nat):Int)=cN (s.data.toList.getD (a+j) 0):=fun j=>by rw [eG,show Int.toNat ((a+j:Nat):Int)=a+j from ae]
 have hsb0:aU s (a:Int)=cN (s.data.toList.getD a 0):=hsb 0
 rw [hsb0]
 have hw1:a+3<=2^50->∀ j:Nat,j<=3->IntKind.wrap .i64 ((a:Int)+(j:Int))=((a+j:Nat):Int):=fun _ j hj=>by rw [wrap_i64 ae ae]; omega
 have hw1:=hw1 ae
 have e1:IntKind.wrap .i64 ((a:Int)+1)=((a+1:Nat):Int):=hw1 1 ae
 have e2:IntKind.wrap .i64 ((a:Int)+2)=((a+2:Nat):Int):=hw1 2 ae
 have e3:IntKind.wrap .i64 ((a:Int)+3)=((a+3:Nat):Int):=hw1 3 ae
 have hD0:(s.data.toList.drop a).getD 0 0=s.data.toList.getD a 0:=by rw [dS,P4]
 refine ai (fun h1=>?_) (fun h1=>?_)
 ·have h1:=(ft _ 39 rfl).1 (eq_of_beq h1)
  have hN:kd (s.data.toList.drop a)=if s.size-a<3\/(s.data.toList.getD (a+1) 0).toNat<32\/126<(s.data.toList.getD (a+1) 0).toNat\/s.data.toList.getD (a+1) 0=39\/s.data.toList.getD (a+2) 0≠39 then (0,0) else ((s.data.toList.getD (a+1) 0).toNat,3):=by
   unfold kd
   rw [hD0,OH h1]
   simp only [dS,List.length_drop,hsz]
  unfold AN
  rw [hN,e1,e2,e3,hsb 1,hsb 2]
  refine ai (fun h2=>?_) (fun h2=>?_)
  ·have h2:=OE h2
   rw [OH (.inl ae)]
   exact ⟨rfl,rfl⟩
  have h2:=OF h2
  refine aC ⟨ae,ae⟩ (ai (fun h3=>?_) (fun h3=>?_))
  ·have h3:=OE h3
   rw [OH (.inr (.inl (by unfold cN at h3; omega)))]
   exact ⟨rfl,rfl⟩
  have h3:=OF h3
  refine aC ⟨ae,ae⟩ (ai (fun h4=>?_) (fun h4=>?_))
  ·have h4:=OE h4
   rw [OH (.inr (.inr (.inl (by unfold cN at h4; omega))))]
   exact ⟨rfl,rfl⟩
  have h4:=OF h4
  refine aC ⟨ae,ae⟩ (ai (fun h5=>?_) (fun h5=>?_))
  ·have h5:=(ft _ 39 rfl).1 (eq_of_beq h5)
   rw [OH (.inr (.inr (.inr (.inl h5))))]
   exact ⟨rfl,rfl⟩
  have h5:=ON h5
  refine aC ⟨ae,ae⟩ (ai (fun h6=>?_) (fun h6=>?_))
  ·have h6:cN (s.data.toList.getD (a+2) 0)≠39:=by simpa using h6
   rw [OH (.inr (.inr (.inr (.inr (fun hh=>h6 ((ft _ 39 rfl).2 hh))))))]
   exact ⟨rfl,rfl⟩
  have h6:cN (s.data.toList.getD (a+2) 0)=39:=by simpa using h6
  have hcn:cN (s.data.toList.getD (a+1) 0)=((s.data.toList.getD (a+1) 0).toNat:Int):=rfl
  rw [OG (by
   rintro (hh | hh | hh | hh | hh)
   ·omega
   ·omega
   ·omega
   ·exact h5 ((ft _ 39 rfl).2 hh)
   ·exact hh ((ft _ 39 rfl).1 h6))]
  refine aC ⟨ae,ae⟩ ⟨?_,rfl⟩
  have hb:=(s.data.toList.getD (a+1) 0).toNat_lt
  rw [wrap_u32 ae ae,hcn]
  rfl
 have h1:s.data.toList.getD a 0≠39:=fun hh=>ON h1 ((ft _ 39 rfl).2 hh)
 have hd:cJ (s.data.toList.getD a 0)=true:=hd.resolve_right h1
 refine aC ⟨ae,ae⟩ ?_
 have dec:¬ (s.data.toList.drop a).take 2=[48,120]->Bp s a [] (fun v' h'=>v'=AN (s.data.toList.drop a) a/\h'=h) h:=fun hx=>D5 hs ha hd hx ⟨rfl,rfl⟩
 have htake:∀ b:UInt8,(s.data.toList.drop a).take 2=[48,b]↔s.data.toList.getD a 0=48/\a+1<s.size/\s.data.toList.getD (a+1) 0=b:=by
  intro b
  have ea:s.data.toList.drop a=s.data.toList.getD a 0::s.data.toList.drop (a+1):=by
   rw [OM ae]
   congr 1
   rw [OV,OO ae]; rfl
  rw [ea]
  by_cases h2:a+1<s.size
  ·have eb:s.data.toList.drop (a+1)=s.data.toList.getD (a+1) 0::s.data.toList.drop (a+2):=by
    rw [OM ae]
    congr 1
    rw [OV,OO ae]; rfl
   rw [eb]
   simp [h2]
  ·rw [OW (i:=a+1) ae]
   simp [h2]
 refine ai (fun h2=>?_) (fun h2=>?_)
 ·have h2:=(ft _ 48 rfl).1 (eq_of_beq h2)
  rw [e1]
  refine ai (fun h3=>?_) (fun h3=>?_)
  ·have h3:=OE h3
   refine aC ⟨ae,ae⟩ ?_
   rw [hsb 1]
   refine ai (fun h4=>?_) (fun h4=>?_)
   ·have h4:=(ft _ 120 rfl).1 (eq_of_beq h4)
    exact Eg hs ae ((htake 120).2 ⟨h2,ae,h4⟩) ⟨rfl,rfl⟩
   ·exact dec (fun hh=>ON h4 ((ft _ 120 rfl).2 ((htake 120).1 hh).2.2))
  ·have h3:=OF h3
   exact dec (fun hh=>h3 (by have:=((htake 120).1 hh).2.1; omega))
 ·exact dec (fun hh=>ON h2 ((ft _ 48 rfl).2 ((htake 120).1 hh).1))
inductive zr (s:XA):Nat->List Tok->Prop where
 | stop (k:Nat):k<=s.size->rD (s.data.toList.drop (k+bo (s.data.toList.drop k) bY))=.stop->zr s k []
 | tok (k kind n m:Nat) (ts:List Tok):k<=s.size->rD (s.data.toList.drop (k+bo (s.data.toList.drop k) bY))=.tok kind n m->zr s (k+bo (s.data.toList.drop k) bY+n) ts ->
   zr s k (⟨kind,s.extract (k+bo (s.data.toList.drop k) bY) (k+bo (s.data.toList.drop k) bY+n),m,k+bo (s.data.toList.drop k) bY⟩::ts)
def CQ {s:XA} {k:Nat} (hk:k<=s.size):k+bo (s.data.toList.drop k) bY<=s.size:=by
 have h1:=de (s.data.toList.drop k) bY
 rw [OR] at h1
 have hsz:s.data.toList.length=s.size:=aj
 omega
def AW {s:XA} {k:Nat} (hk:k<=s.size):cG s k=GR s (k+bo (s.data.toList.drop k) bY) (rD (s.data.toList.drop (k+bo (s.data.toList.drop k) bY))):=by
 unfold cG
 exact yE s _ (CQ hk)
def Cj {D:List UInt8} {k n m:Nat} (h:rD D=.tok k n m):0<n/\n<=D.length:=(Eh (E:=[]) h (.inl rfl)).2
def Jd:rD []=.stop:=rfl
theorem yg {s:XA}:∀ (f k:Nat) (acc:List Tok),k<=s.size->s.size-k<f ->
  (∃ ts,zr s k ts/\jr s f k acc=(acc++ts,0,0))\/(∃ a,a<s.size/\jr s f k acc=([],a,20))
 | 0,k,acc,hk,hf=>ae
 | f+1,k,acc,hk,hf=>by
  have hst:=AW hk
  have ha:=CQ hk
  have hsz:s.data.toList.length=s.size:=aj
  cases hD:rD (s.data.toList.drop (k+bo (s.data.toList.drop k) bY)) with
  | stop =>
   rw [hD] at hst
   exact .inl ⟨[],.stop k hk hD,by rw [uV hst,Pr]⟩
  | cX =>
   rw [hD] at hst
   refine .inr ⟨_,?_,sv hst⟩
   rcases Po (k+bo (s.data.toList.drop k) bY) s.size with h | h
   ·exact h
   ·rw [OW ae,Jd] at hD; cases hD
  | tok kind n m =>
   rw [hD] at hst
   obtain ⟨h1,h2⟩:=Cj hD
   rw [OR] at h2
   rcases yg (s:=s) f (k+bo (s.data.toList.drop k) bY+n) (acc++[⟨kind,s.extract (k+bo (s.data.toList.drop k) bY) (k+bo (s.data.toList.drop k) bY+n),m,k+bo (s.data.toList.drop k) bY⟩]) ae ae with ⟨ts,hc,he⟩ | ⟨a,ha',he⟩
   ·refine .inl ⟨_,.tok k kind n m ts hk hD hc,?_⟩
    rw [tw hst,he,Px,List.singleton_append]
   ·exact .inr ⟨a,ha',by rw [tw hst,he]⟩
def DJ (s:XA):(zr s 0 (eh s).1/\(eh s).2=(0,0))\/(∃ a,a<s.size/\eh s=([],a,20)):=by
 rcases yg (s:=s) (s.size+1) 0 [] ae ae with ⟨ts,hc,he⟩ | ⟨a,ha,he⟩
 ·refine .inl ?_
  unfold eh
  rw [he]
  exact ⟨hc,rfl⟩
 ·exact .inr ⟨a,ha,he⟩
def nL {s t:XA} (h:s.data.toList=t.data.toList):s=t:=by
 cases s; cases t
 simp only at h
 congr 1
 exact O5.1 h
abbrev kX:List fX:=[(false,[.slice 0]),(false,[.int .i64]),(false,[.int .i64]),(false,[.slice 0]),(false,[.int .i64])]
def xV (s:XA) (h:Hp) (x:qu (flat kX)) (n:Nat) (h':Hp):Prop :=
 ∃ (k:Nat) (acc:List Tok),x.2.2.2.2.1=(k:Int)/\k<=s.size/\n=s.size-k /\
  SL h' h.size 236 4 x.2.2.2.1.1 x.2.2.2.1.2.1 x.2.2.2.1.2.2 (acc.map enc)/\Ext h h' /\
  (∃ f,s.size-k<f/\eh s=jr s f k acc)/\acc.length<=k
def jC (s:XA) (h:Hp) (v:XB) (h':Hp):Prop :=
 ∃ p l c,v=.tuple #[.slice p l c,.int .i64 (eh s).2.1,.int .i64 (eh s).2.2]/\SL h' h.size 236 4 p l c ((eh s).1.map enc)/\Ext h h'
def zV (s0:XA) (p1:Option XC) (l2 l3:Nat) (n4 n5:Int) (p6:Option XC) (l7 l8:Nat) (kind num n9 n11:Int):T :=
 T.need (((0:Int)<=n9)/\((n9<=n11)/\(n11<=(s0.size:Int)))) <|
 aR (Instr.buildSlice 233 1 #[(0,.agg #[.int .i64 kind,.string (ByteArray.extract s0 (Int.toNat n9) (Int.toNat n11)),av num,.int .i64 n9])]) fun (p14:Option XC) (l15:Nat) (l16:Nat) =>
 aR (Builtin.append_ #[233,233] 233 #[.slice p6 l7 l8,.slice p14 l15 l16]) fun (p17:Option XC) (l18:Nat) (l19:Nat) =>
 T.again 0 [.slice p1 l2 l3,.int .i64 n4,.int .i64 n5,.slice p17 l18 l19,.int .i64 n11]
def yx {s:XA} {h h2:Hp} {L:Lp} {K:XB->Hp->Prop} {k k' kind num:Nat} {acc:List Tok} {p1 p6:Option XC} {l2 l3 l7 l8:Nat} {n4 n5 nk' nkind nnum:Int} (hs:s.size<=2^40) (hle:k<=s.size)
  (hL:L[0]?=some (Jl (cs:=kX) (xV s h) (s.size-k))) (e1:nk'=(k':Int)) (e2:nkind=(kind:Int)) (e3:nnum=(num:Int))
  (hstep:cG s k=.tok ⟨kind,s.extract k k',num,k⟩ k') (hsl:SL h2 h.size 236 4 p6 l7 l8 (acc.map enc)) (hext:Ext h h2)
  (hlex:∃ f,s.size-k<f/\eh s=jr s f k acc) (hacc:acc.length<=k):zV s p1 l2 l3 n4 n5 p6 l7 l8 nkind nnum k nk' L K h2:=by
 subst e1 e2 e3
 obtain ⟨hlt,hle'⟩:=lQ hle hstep
 have hlacc:l7=acc.length:=by rw [hsl.1,OI]
 unfold zV aR av
 refine aC ⟨ae,ae,ae⟩ ?_
 rw [show Int.toNat (k:Int)=k from ae,show Int.toNat (k':Int)=k' from ae]
 refine fp (z:=.agg #[.int .i64 0,.string ⟨#[]⟩,.int .u32 0,.int .i64 0]) (sz:=4) (by':=40) (e:=236) (vs:=enc ⟨kind,s.extract k k',num,k⟩) aB aB rfl ae ae aB rfl rfl hsl hext.size ae ae ?_
 intro p' c' h6 hsl6 hch6 _
 refine aY (cs:=kX) ((p1,l2,l3),n4,n5,(p',l7+1,c'),(k':Int),()) (s.size-k') hL ae rfl ?_
 refine ⟨k',acc++[⟨kind,s.extract k k',num,k⟩],rfl,hle',rfl,?_,?_,?_,?_⟩
 ·rw [OU]; exact hsl6
 ·exact Ch.trans hext hch6 (fun i hi hlt=>by
   cases p6 with
   | none=>simp [aE] at hi
   | some a =>
    obtain ⟨g,pre,rest,rfl,hbg,_⟩:=hsl.2.2
    simp [aE] at hi; omega)
 ·obtain ⟨f,hf,hl⟩:=hlex
  refine ⟨f-1,ae,?_⟩
  rw [hl,show f=(f-1)+1 from ae,tw hstep]
  rfl
 ·rw [OX]; simp; omega
def ub (s0:XA) (p1:Option XC) (l2 l3:Nat) (n4 n5:Int) (p6:Option XC) (l7 l8:Nat) (n9 n11:Int):T :=
 cond (decide ((aH (n11-n9))>(32:Int)))
  (aw #[aI,.int .i64 n9,.int .i64 (20:Int)])
  (zV s0 p1 l2 l3 n4 n5 p6 l7 l8 1 0 n9 n11)
def GB {s:XA} {f k k':Nat} {acc:List Tok} (h:cG s k=cG s k'):jr s (f+1) k acc=jr s (f+1) k' acc:=by
 show (match cG s k with
  | .stop=>(acc,0,0)
  | .cX a=>([],a,20)
  | .tok t k'=>jr s f k' (acc++[t]))=(match cG s k' with
  | .stop=>(acc,0,0)
  | .cX a=>([],a,20)
  | .tok t k'=>jr s f k' (acc++[t]))
 rw [h]
def drop_cons {s:XA} {k:Nat} (hk:k<s.size):s.data.toList.drop k=s.data.toList.getD k 0::s.data.toList.drop (k+1):=by
 have hsz:s.data.toList.length=s.size:=aj
 rw [OM ae]
 congr 1
 rw [OV,OO ae]; rfl
def za {s:XA} {k:Nat} (hk:k<s.size) (hb:bY.contains (s.data.toList.getD k 0)=true):cG s k=cG s (k+1):=by
 unfold cG
 have:bo (s.data.toList.drop k) bY=bo (s.data.toList.drop (k+1)) bY+1:=by
  rw [drop_cons hk]
  unfold bo
  rw [PT,hb]
  simp
 rw [this]
 congr 1
 omega
def oM {s:XA} {k:Nat} (hb:k<s.size->bY.contains (s.data.toList.getD k 0)=false):cG s k=iP s k:=by
 have hsz:s.data.toList.length=s.size:=aj
 unfold cG
 have:bo (s.data.toList.drop k) bY=0:=by
  rcases Po k s.size with hk | hk
  ·rw [drop_cons hk]
   unfold bo
   rw [PT,hb hk]
   simp
  ·rw [OW ae]; rfl
 rw [this,P4]
def Du (s:XA) (h:Hp) (hs:s.size<=2^40):HC Tryz.prog 131 #[.string s] h (jC s h):=by
 refine ba (args:=[.string s]) mixed Tryz.func131 aB (mi s) ?_
 unfold iC bN aN aS aR aH cz av aw aI aQ gK
 have hsz:s.data.toList.length=s.size:=aj
 refine bJ (cs:=kX) (xV s h) ((none,0,0),(0:Int),(0:Int),(none,0,0),(0:Int),()) s.size rfl
  ⟨0,[],rfl,ae,ae,SL.nil _ _ _ _,Ch.refl _ _,⟨s.size+1,ae,rfl⟩,aj⟩ ?_
 rintro ⟨⟨p1,l2,l3⟩,n4,n5,⟨p6,l7,l8⟩,n9,⟨⟩⟩ m h2 ⟨k,acc,hk,hle,rfl,hsl,hext,hlex,hacc⟩
 simp only at hk hsl
 subst hk
 dsimp only [kX,flat,lW,ix,nA,cA]
 have stop:cG s k=.stop->jC s h (.tuple #[.slice p6 l7 l8,.int .i64 0,.int .i64 0]) h2:=by
  intro hst
  obtain ⟨f,hf,hlx⟩:=hlex
  obtain ⟨f,rfl⟩:∃ f',f=f'+1:=⟨f-1,ae⟩
  have he:eh s=(acc,0,0):=by rw [hlx,uV hst]
  exact ⟨p6,l7,l8,by rw [he]; rfl,by rw [he]; exact hsl,hext⟩
 have cX:cG s k=.cX k->jC s h (.tuple #[.slice none 0 0,.int .i64 k,.int .i64 20]) h2:=by
  intro hst
  obtain ⟨f,hf,hlx⟩:=hlex
  obtain ⟨f,rfl⟩:∃ f',f=f'+1:=⟨f-1,ae⟩
  have he:eh s=([],k,20):=by rw [hlx,sv hst]
  exact ⟨none,0,0,by rw [he]; rfl,by rw [he]; exact SL.nil _ _ _ _,hext⟩
 refine ai (fun h1=>?_) (fun h1=>?_)
 ·have h1:=OE h1
  have hlt:k<s.size:=ae
  refine aC ⟨ae,ae⟩ ?_
  have hb:aU s (k:Int)=cN (s.data.toList.getD k 0):=by rw [eG,show Int.toNat (k:Int)=k from ae]
  have hw1:IntKind.wrap .i64 ((k:Int)+1)=((k+1:Nat):Int):=by rw [wrap_i64 ae ae]; omega
  rw [hb,hw1]
  have blank:bY.contains (s.data.toList.getD k 0)=true->(T.again 0 [.slice p1 l2 l3,.int .i64 n4,.int .i64 n5,.slice p6 l7 l8,.int .i64 ((k+1:Nat):Int)]) [Jl (cs:=kX) (xV s h) (s.size-k)] (jC s h) h2:=by
   intro hbl
   refine aY (cs:=kX) ((p1,l2,l3),n4,n5,(p6,l7,l8),((k+1:Nat):Int),()) (s.size-(k+1)) rfl ae rfl ?_
   refine ⟨k+1,acc,rfl,ae,rfl,hsl,hext,?_,ae⟩
   obtain ⟨f,hf,hlx⟩:=hlex
   obtain ⟨f,rfl⟩:∃ f',f=f'+1:=⟨f-1,ae⟩
   exact ⟨f+1,ae,by rw [hlx,GB (za hlt hbl)]⟩
  refine ai (fun h59=>?_) (fun h59=>?_)
  ·have h59:=(ft _ 59 rfl).1 (eq_of_beq h59)
   refine stop ?_
   rw [oM (fun _=>by rw [h59]; rfl)]
   unfold iP
   rw [OG ae,OH h59]
  have h2':=fun hh=>ON h59 ((ft _ 59 rfl).2 hh)
  refine ai (fun h3=>?_) (fun h3=>?_)
  ·have h3:=(ft _ 9 rfl).1 (eq_of_beq h3)
   exact blank (by rw [h3]; rfl)
  have h3':=fun hh=>ON h3 ((ft _ 9 rfl).2 hh)
  refine ai (fun h4=>?_) (fun h4=>?_)
  ·have h4:=(ft _ 13 rfl).1 (eq_of_beq h4)
   exact blank (by rw [h4]; rfl)
  have h4':=fun hh=>ON h4 ((ft _ 13 rfl).2 hh)
  refine ai (fun h5=>?_) (fun h5=>?_)
  ·have h5:=(ft _ 32 rfl).1 (eq_of_beq h5)
   exact blank (by rw [h5]; rfl)
  have h5':=fun hh=>ON h5 ((ft _ 32 rfl).2 hh)
  have hnone:cG s k=iP s k:=oM (fun _=>by
   simp only [bY,List.contains_cons,List.contains_nil,Bool.or_false,Bool.or_eq_false_iff,beq_eq_false_iff_ne]
   exact ⟨h3',h4',h5'⟩)
  have hA:=iP.eq_def s k
  rw [OG ae,OG h2'] at hA
  have hAD:=yE s k hle
  have hD0:(s.data.toList.drop k).getD 0 0=s.data.toList.getD k 0:=by rw [dS,P4]
  have hDne:s.data.toList.drop k≠[]:=by rw [drop_cons hlt]; simp
  have num:(cJ (s.data.toList.getD k 0)=true\/s.data.toList.getD k 0=39) ->
    (T.call Tryz.prog 160 [.string s,.int .i64 k] true [(false,[.int .u32]),(false,[.int .i64])] fun (n12:Int) (n13:Int) =>
     cond (n13==(0:Int))
      (T.ret (.tuple #[.slice none 0 0,.int .i64 k,.int .i64 (20:Int)]))
      (zV s p1 l2 l3 n4 n5 p6 l7 l8 2 n12 k n13)) [Jl (cs:=kX) (xV s h) (s.size-k)] (jC s h) h2:=by
   intro hd
   refine JT (Dy s k _ hs hlt hd) ?_
   have hl:=GW (D:=s.data.toList.drop k) (by rw [hD0]; exact hd) hDne
   refine ai (fun h6=>?_) (fun h6=>?_)
   ·have h6:((if (kd (s.data.toList.drop k)).2=0 then (0:Nat) else k+(kd (s.data.toList.drop k)).2:Nat):Int)=0:=eq_of_beq h6
    have h7:(kd (s.data.toList.drop k)).2=0:=by
     by_cases h7:(kd (s.data.toList.drop k)).2=0
     ·exact h7
     ·rw [OG h7] at h6; omega
    rw [OH h7] at hl
    refine cX ?_
    rw [hnone,hAD,hl]
    rfl
   ·have h6:((if (kd (s.data.toList.drop k)).2=0 then (0:Nat) else k+(kd (s.data.toList.drop k)).2:Nat):Int)≠0:=ON h6
    have h7:(kd (s.data.toList.drop k)).2≠0:=fun h7=>by rw [OH h7] at h6; exact h6 rfl
    rw [OG h7] at hl
    refine yx (k':=k+(kd (s.data.toList.drop k)).2) (kind:=2) (num:=(kd (s.data.toList.drop k)).1) hs hle rfl (by rw [OG h7]) rfl rfl ?_ hsl hext hlex hacc
    rw [hnone,hAD,hl]
    rfl
  refine aM (mO _ _) (ai (fun h6=>?_) (fun h6=>?_))
  ·rw [OH h6] at hA
   have hr:=de (s.data.toList.drop k) bt
   rw [OR] at hr
   have tail:(ub s p1 l2 l3 n4 n5 p6 l7 l8 k ((k+bo (s.data.toList.drop k) bt:Nat):Int))=(ub s p1 l2 l3 n4 n5 p6 l7 l8 k ((k+bo (s.data.toList.drop k) bt:Nat):Int)):=rfl
   have tailok:∀ Q,(ub s p1 l2 l3 n4 n5 p6 l7 l8 k ((k+bo (s.data.toList.drop k) bt:Nat):Int)) [Jl (cs:=kX) (xV s h) (s.size-k),Q] (jC s h) h2:=by
    intro Q
    unfold ub aH aw aI
    have hw:IntKind.wrap .i64 (((k+bo (s.data.toList.drop k) bt:Nat):Int)-(k:Int))=(bo (s.data.toList.drop k) bt:Int):=by rw [wrap_i64 ae ae]; omega
    rw [hw]
    refine ai (fun h7=>?_) (fun h7=>?_)
    ·have h7:=OE h7
     rw [OH ae] at hA
     exact cX (hnone.trans hA)
    ·have h7:=OF h7
     rw [OG ae] at hA
     exact yx (kind:=1) (num:=0) hs hle rfl rfl rfl rfl (hnone.trans hA) hsl hext hlex hacc
   clear tail
   refine bJ (cs:=[(false,[.int .i64])]) (fun x n h'=>h'=h2/\∃ j:Nat,x.1=((k+j:Nat):Int)/\j<=bo (s.data.toList.drop k) bt/\n=bo (s.data.toList.drop k) bt-j)
    ((k:Int),()) (bo (s.data.toList.drop k) bt) rfl ⟨rfl,0,rfl,ae,ae⟩ ?_
   rintro ⟨n11,⟨⟩⟩ m h3 ⟨rfl,j,hn11,hjr,rfl⟩
   simp only at hn11
   subst hn11
   refine ao ?_
   have hst:=fU (s.data.toList.drop k) bt j hjr
   rw [dS,show bt=cM++bj from rfl,kY,OR,<- show bt=cM++bj from rfl] at hst
   have hw2:k+j<s.size->IntKind.wrap .i64 (((k+j:Nat):Int)+1)=((k+(j+1):Nat):Int):=fun _=>by rw [wrap_i64 ae ae]; omega
   refine ai (fun h7=>?_) (fun h7=>?_)
   ·have h7:=OE h7
    have hst:=hst ae
    have hb:aU s ((k+j:Nat):Int)=cN (s.data.toList.getD (k+j) 0):=by rw [eG,show Int.toNat ((k+j:Nat):Int)=k+j from ae]
    refine aC ⟨ae,ae⟩ ?_
    rw [hb,hw2 ae]
    refine aM (mO _ _) (ai (fun h8=>?_) (fun h8=>?_))
    ·have h9:=hst.2 (by rw [h8]; rfl)
     exact aY (cs:=[(false,[.int .i64])]) (((k+(j+1):Nat):Int),()) (bo (s.data.toList.drop k) bt-(j+1)) rfl ae rfl ⟨rfl,j+1,rfl,ae,rfl⟩
    ·refine aC ⟨ae,ae⟩ (aM (na _ _) (ai (fun h9=>?_) (fun h9=>?_)))
     ·have h10:=hst.2 (by rw [h9]; simp)
      exact aY (cs:=[(false,[.int .i64])]) (((k+(j+1):Nat):Int),()) (bo (s.data.toList.drop k) bt-(j+1)) rfl ae rfl ⟨rfl,j+1,rfl,ae,rfl⟩
     ·have h10:j=bo (s.data.toList.drop k) bt:=by
       have:¬ j<bo (s.data.toList.drop k) bt:=fun hh=>by have:=hst.1 hh; rw [h8,h9] at this; cases this
       omega
      subst h10
      exact tailok _
   ·have h7:=OF h7
    have h10:j=bo (s.data.toList.drop k) bt:=ae
    subst h10
    exact tailok _
  rw [OG (by rw [h6]; simp)] at hA
  refine aM (na _ _) (ai (fun h7=>?_) (fun h7=>?_))
  ·exact num (.inl h7)
  rw [OG (by rw [h7]; simp)] at hA
  refine ai (fun h8=>?_) (fun h8=>?_)
  ·exact num (.inr ((ft _ 39 rfl).1 (eq_of_beq h8)))
  rw [OG (fun hh=>ON h8 ((ft _ 39 rfl).2 hh))] at hA
  have sign:oC.contains (s.data.toList.getD k 0)=true->(zV s p1 l2 l3 n4 n5 p6 l7 l8 3 0 k ((k+1:Nat):Int)) [Jl (cs:=kX) (xV s h) (s.size-k)] (jC s h) h2:=by
   intro hsg
   rw [OH hsg] at hA
   exact yx (kind:=3) (num:=0) hs hle rfl rfl rfl rfl (hnone.trans hA) hsl hext hlex hacc
  have sg:∀ (d:UInt8) (n:Int),cN d=n->oC.contains d=true->(cN (s.data.toList.getD k 0) != n)=false->(zV s p1 l2 l3 n4 n5 p6 l7 l8 3 0 k ((k+1:Nat):Int)) [Jl (cs:=kX) (xV s h) (s.size-k)] (jC s h) h2:=by
   intro d n hd hc he
   have he:cN (s.data.toList.getD k 0)=n:=by simpa using he
   exact sign (by rw [(ft _ d hd).1 he]; exact hc)
  have ns:∀ (d:UInt8) (n:Int),cN d=n->(cN (s.data.toList.getD k 0) != n)=true->s.data.toList.getD k 0≠d:=by
   intro d n hd he hh
   have he:cN (s.data.toList.getD k 0)≠n:=by simpa using he
   exact he ((ft _ d hd).2 hh)
  refine ai (fun g1=>?_) (fun g1=>sg 58 58 rfl rfl g1)
  refine ai (fun g2=>?_) (fun g2=>sg 44 44 rfl rfl g2)
  refine ai (fun g3=>?_) (fun g3=>sg 40 40 rfl rfl g3)
  refine ai (fun g4=>?_) (fun g4=>sg 41 41 rfl rfl g4)
  refine ai (fun g5=>?_) (fun g5=>sg 43 43 rfl rfl g5)
  refine ai (fun g6=>?_) (fun g6=>sg 45 45 rfl rfl g6)
  refine ai (fun g7=>?_) (fun g7=>sg 42 42 rfl rfl g7)
  refine ai (fun g8=>?_) (fun g8=>sg 61 61 rfl rfl g8)
  rw [OG (by
   simp only [oC,List.contains_cons,List.contains_nil,Bool.or_false,Bool.or_eq_true,beq_iff_eq]
   rintro (hh | hh | hh | hh | hh | hh | hh | hh)
   ·exact ns 58 58 rfl g1 hh
   ·exact ns 44 44 rfl g2 hh
   ·exact ns 40 40 rfl g3 hh
   ·exact ns 41 41 rfl g4 hh
   ·exact ns 43 43 rfl g5 hh
   ·exact ns 45 45 rfl g6 hh
   ·exact ns 42 42 rfl g7 hh
   ·exact ns 61 61 rfl g8 hh)] at hA
  exact cX (hnone.trans hA)
 ·have h1:=OF h1
  refine stop ?_
  rw [oM (fun hh=>ae)]
  unfold iP
  rw [OH ae]
def FO {s:XA} {k:Nat} {ts:List Tok} (h:zr s k ts):k+ts.length<=s.size:=by
 induction h with
 | stop k hk _=>simpa using hk
 | tok k kind n m ts hk hD hc ih =>
  have:=(Cj hD).1
  rw [Pg]
  omega
def yO (s:XA):(eh s).1.length<=s.size:=by
 rcases DJ s with ⟨hc,_⟩ | ⟨a,ha,he⟩
 ·have:=FO hc; omega
 ·rw [he]; simp
def FR (p:Option XC) (k:Nat):aE (p.map fun a=>a.add k)=aE p:=by
 cases p with
 | none=>rfl
 | some a=>simp [aE,fh]
def eE (t:Tok) (c:UInt8):Bool:=t.kind==3 && t.text.data.toList==[c]
def eN (n:Nat):List Tok->List (List Tok)->List Tok->Except Nat (List (List Tok))
 | [],done,dJ=>if dJ=[] then .error n else .ok (done++[dJ])
 | t::ts,done,dJ=>if (eE t 58 || (eE t 44 && decide (dJ=[])))=true then .error t.at_ else if eE t 44=true then eN n ts (done++[dJ]) [] else eN n ts done (dJ++[t])
def gj (n:Nat) (ts:List Tok):Except Nat (List (List Tok)):=if ts=[] then .ok [] else eN n ts [] []
structure Ln where
 label:XA
 op:XA
 args:List (List Tok)
def gX:Ln:=⟨⟨#[]⟩,⟨#[]⟩,[]⟩
def FE:List Tok->Bool
 | t::u::_=>decide (t.kind=1) && eE u 58
 | _=>false
def bS (n:Nat) (cO:XA):List Tok->Ln × Nat × Nat
 | []=>(⟨cO,⟨#[]⟩,[]⟩,0,0)
 | t::ts=>if t.kind≠1 then (gX,t.at_,20) else match gj n ts with
  | .error a=>(gX,a,20)
  | .ok l=>(⟨cO,t.text,l⟩,0,0)
def ga (n:Nat) (ts:List Tok):Ln × Nat × Nat :=
 if FE ts=true then bS n ((ts.head?.map (·.text)).getD ⟨#[]⟩) (ts.drop 2) else bS n ⟨#[]⟩ ts
def bi (s:XA):Ln × Nat × Nat:=if (eh s).2.2≠0 then (gX,(eh s).2.1,(eh s).2.2) else ga s.size (eh s).1
def wQ {t:Tok} {c:UInt8}:(((t.kind:Int)==3) && (ByteArray.toList t.text==ByteArray.toList ⟨#[c]⟩))=eE t c:=by
 unfold eE
 rw [ByteArray.toList_eq,ByteArray.toList_eq]
 congr 1
 by_cases h:t.kind=3
 ·rw [h]; rfl
 ·have h1:((t.kind:Int)==3)=false:=by simp; omega
  have h2:(t.kind==3)=false:=by simp; omega
  rw [h1,h2]
def AF (t:Tok) (c:UInt8) (h:Hp):HC Tryz.prog 96 #[.agg #[.int .i64 t.kind,.string t.text,.int .u32 t.num,.int .i64 t.at_],.string ⟨#[c]⟩] h fun v h'=>v=.bool (eE t c)/\Ext h h':=by
 refine ba (args:=[.agg #[.int .i64 t.kind,.string t.text,.int .u32 t.num,.int .i64 t.at_],.string ⟨#[c]⟩]) mixed Tryz.func96 aB (Bn _ _ _ _ _) ?_
 unfold Ao av bE
 refine bm ?_
 intro h1 b1 e1 z1
 refine af b1 ((t.kind:Int),()) rfl (ao ?_)
 rw [<- wQ]
 refine ai (fun g1=>?_) (fun g1=>?_)
 ·rw [az]
  refine af b1 (t.text,()) rfl ?_
  exact ⟨by rw [g1]; rfl,e1⟩
 ·exact ⟨by rw [g1]; rfl,e1⟩
def xb (t:Tok) (c:UInt8) (h:Hp):HC Tryz.prog 132 #[.agg #[.int .i64 t.kind,.string t.text,.int .u32 t.num,.int .i64 t.at_],.string ⟨#[c]⟩] h fun v h'=>v=.bool (eE t c)/\Ext h h':=by
 refine ba (args:=[.agg #[.int .i64 t.kind,.string t.text,.int .u32 t.num,.int .i64 t.at_],.string ⟨#[c]⟩]) mixed Tryz.func132 aB (ob _ _ _ _ _) ?_
 unfold j4 av bE
 refine bm ?_
 intro h1 b1 e1 z1
 refine af b1 ((t.kind:Int),()) rfl (ao ?_)
 rw [<- wQ]
 refine ai (fun g1=>?_) (fun g1=>?_)
 ·rw [az]
  refine af b1 (t.text,()) rfl ?_
  exact ⟨by rw [g1]; rfl,e1⟩
 ·exact ⟨by rw [g1]; rfl,e1⟩
structure In where
 p:Option XC
 l:Nat
 c:Nat
 ts:List Tok
def In.val (a:In):List XB:=[.slice a.p a.l a.c]
structure eY (h:Hp) (b:Nat) (te es:TypeId) (p:Option XC) (c:Nat) (al:List In):Prop where
 out:SL h b te 1 p al.length c (al.map In.val)
 lK:∀ a,a∈al->SL h b es 4 a.p a.l a.c (a.ts.map enc)
 po:∀ a,a∈al->∀ i,i∈aE a.p->i∉aE p
 pp:al.Pairwise fun a a'=>∀ i,i∈aE a.p->i∉aE a'.p
def eY.an {ws:List Nat} {h h':Hp} {b:Nat} {te es:TypeId} {p:Option XC} {c:Nat} {al:List In} (A:eY h b te es p c al) (k:Ch ws h h') (h1:∀ i,i∈aE p->i∉ws) (h2:∀ a,a∈al->∀ i,i∈aE a.p->i∉ws):eY h' b te es p c al :=
 ⟨A.out.bd k h1,fun a ha=>(A.lK a ha).bd k (h2 a ha),A.po,A.pp⟩
def eY.mono {h:Hp} {b b':Nat} {te es:TypeId} {p:Option XC} {c:Nat} {al:List In} (A:eY h b te es p c al) (hb:b'<=b):eY h b' te es p c al :=
 ⟨A.out.mono hb,fun a ha=>(A.lK a ha).mono hb,A.po,A.pp⟩
def eY.nil (h:Hp) (b:Nat) (te es:TypeId):eY h b te es none 0 []:=⟨SL.nil _ _ _ _,aj,aj,List.Pairwise.nil⟩
def eY.snoc {h h':Hp} {b:Nat} {te es:TypeId} {p p':Option XC} {c c':Nat} {al:List In} (A:eY h b te es p c al) {a:In} (hb:b<=h.size) (o:SL h' b te 1 p' (al.length+1) c' (al.map In.val++[a.val])) (k:Ch (aE p) h h') (hp:p'=p\/∃ x,p'=some x/\h.size<=x.block)
  (ha:SL h b es 4 a.p a.l a.c (a.ts.map enc)) (h1:∀ i,i∈aE a.p->i∉aE p) (h2:∀ x,x∈al->∀ i,i∈aE x.p->i∉aE a.p):eY h' b te es p' c' (al++[a]):=by
 have hp':∀ i,i∈aE p'->i∈aE p\/h.size<=i:=by
  intro i hi
  rcases hp with rfl | ⟨x,rfl,hx⟩
  ·exact .inl hi
  ·simp [aE] at hi; right; omega
 refine ⟨by rw [OX,OU]; exact o,fun x hx=>?_,fun x hx i hi hh=>?_,P3.2 ⟨A.pp,aj,fun x hx y hy i hi=>?_⟩⟩
 ·rcases OS.1 hx with hx | hx
  ·exact (A.lK x hx).bd k fun i hi=>A.po x hx i hi
  ·have hx:x=a:=by simpa using hx
   subst hx
   exact ha.bd k h1
 ·rcases OS.1 hx with hx | hx
  ·rcases hp' i hh with h' | h'
   ·exact A.po x hx i hi h'
   ·have:=((A.lK x hx).bH hi).2; omega
  ·have hx:x=a:=by simpa using hx
   subst hx
   rcases hp' i hh with h' | h'
   ·exact h1 i hi h'
   ·have:=(ha.bH hi).2; omega
 ·have hy:y=a:=by simpa using hy
  subst hy
  exact h2 x hx i hi
def eY.last {h h' h'':Hp} {b:Nat} {te es:TypeId} {p:Option XC} {c:Nat} {dn:List In} {a a':In} (A:eY h b te es p c (dn++[a])) (ha:SL h' b es 4 a'.p a'.l a'.c (a'.ts.map enc)) (k:Ch (aE a.p) h h') (hp:a'.p=a.p\/∃ x,a'.p=some x/\h.size<=x.block)
  (o:SL h'' b te 1 p (dn++[a]).length c (((dn++[a]).map In.val).set dn.length a'.val)) (k':Ch (aE p) h' h''):eY h'' b te es p c (dn++[a']):=by
 have hp':∀ i,i∈aE a'.p->i∈aE a.p\/h.size<=i:=by
  intro i hi
  rcases hp with hp | ⟨x,hp,hx⟩
  ·rw [hp] at hi; exact .inl hi
  ·rw [hp] at hi; simp [aE] at hi; right; omega
 obtain ⟨A1,A2,A3,A4⟩:=A
 have hpp:=P3.1 A4
 have kl:((dn++[a]).map In.val).set dn.length a'.val=(dn++[a']).map In.val:=by
  rw [OU,OU,List.set_append_right _ _ aj]
  simp
 rw [kl] at o
 have pa:∀ i,i∈aE a.p->i∉aE p:=A3 a aj
 have pa':∀ i,i∈aE a'.p->i∉aE p:=by
  intro i hi hh
  rcases hp' i hi with h1 | h1
  ·exact pa i h1 hh
  ·have:=(A1.bH hh).2; omega
 refine ⟨by simpa using o,fun x hx=>?_,fun x hx i hi=>?_,P3.2 ⟨hpp.1,aj,fun x hx y hy i hi hh=>?_⟩⟩
 ·rcases OS.1 hx with hx | hx
  ·exact ((A2 x (by simp [hx])).bd k fun i hi=>hpp.2.2 x hx a aj i hi).bd k' fun i hi=>A3 x (by simp [hx]) i hi
  ·have hx:x=a':=by simpa using hx
   subst hx
   exact ha.bd k' pa'
 ·rcases OS.1 hx with hx | hx
  ·exact A3 x (by simp [hx]) i hi
  ·have hx:x=a':=by simpa using hx
   subst hx
   exact pa' i hi
 ·have hy:y=a':=by simpa using hy
  subst hy
  rcases hp' i hh with h1 | h1
  ·exact hpp.2.2 x hx a aj i hi h1
  ·have:=((A2 x (by simp [hx])).bH hi).2; omega
structure Vw (h:Hp) (p:Option XC) (l c:Nat) (us:List Tok):Prop where
 len:l=us.length
 cap:l<=c
 cells:∀ i,(hi:i<us.length)->∃ a,p=some a/\bk h (a.add (i*4)) 0 (enc us[i])
def Vw.an {ws:List Nat} {h h':Hp} {p:Option XC} {l c:Nat} {us:List Tok} (v:Vw h p l c us) (k:Ch ws h h') (hw:∀ i,i∈aE p->i∉ws):Vw h' p l c us :=
 ⟨v.len,v.cap,fun i hi=>by
  obtain ⟨a,ha,hc⟩:=v.cells i hi
  exact ⟨a,ha,bF k (by rw [fh]; exact hw _ (by rw [ha]; simp [aE])) _ _ hc⟩⟩
def SL.vw {h:Hp} {b:Nat} {e:TypeId} {p:Option XC} {l c:Nat} {us:List Tok} (s:SL h b e 4 p l c (us.map enc)):Vw h p l c us:=by
 refine ⟨by rw [s.1,OI],?_,fun i hi=>?_⟩
 ·cases p with
  | none =>
   have h1:=s.1
   rw [s.2.2.2,List.length_nil] at h1
   omega
  | some a=>obtain ⟨_,_,_,_,_,hh,_⟩:=s.2.2; exact hh.1
 ·obtain ⟨a,ha,hc⟩:=s.cells (i:=i) (by simpa using hi)
  rw [O4] at hc
  exact ⟨a,ha,hc⟩
def add_add (a:XC) (i j:Nat):(a.add i).add j=a.add (i+j):=by
 unfold Addr.add
 by_cases hi:i=0 <;> by_cases hj:j=0 <;> simp [hi,hj] <;> omega
def Vw.drop {h:Hp} {p:Option XC} {l c:Nat} {us:List Tok} (v:Vw h p l c us) {k:Nat} (hk:k<=l):Vw h (if c=k then p else p.map fun a=>a.add (k*4)) (l-k) (c-k) (us.drop k):=by
 have:=v.len
 have:=v.cap
 refine ⟨by rw [OR]; omega,ae,fun i hi=>?_⟩
 rw [OR] at hi
 rw [OG ae]
 obtain ⟨a,rfl,hc⟩:=v.cells (k+i) ae
 refine ⟨_,rfl,?_⟩
 rw [add_add,<- PP,List.getElem_drop]
 exact hc
def kD (p:Option XC) (c k n:Nat):aE (if c=k then p else p.map fun a=>a.add n)=aE p:=by
 split
 ·rfl
 ·exact FR p n
def IQ (n:Nat) (ts:List Tok) (h:Hp) (v:XB) (h':Hp):Prop :=
 Ext h h'/\match gj n ts with
 | .error a=>v=.tuple #[.slice none 0 0,.int .i64 a,.int .i64 20]
 | .ok l=>∃ p c al,v=.tuple #[.slice p al.length c,.int .i64 0,.int .i64 0]/\eY h' h.size 174 178 p c al/\al.map In.ts=l
abbrev Cu:List fX:=[(false,[.slice 0]),(false,[.int .i64]),(false,[.int .i64]),(false,[.slice 0]),(false,[.int .i64])]
def Oe (n:Nat) (us:List Tok) (h:Hp) (x:qu (flat Cu)) (m:Nat) (h':Hp):Prop :=
 ∃ (i:Nat) (dn:List In) (cu:In),x.2.2.2.2.1=(i:Int)/\i<=us.length/\m=us.length-i/\Ext h h'/\x.2.2.2.1.2.1=dn.length+1/\eY h' h.size 174 178 x.2.2.2.1.1 x.2.2.2.1.2.2 (dn++[cu]) /\
  eN n us [] []=eN n (us.drop i) (dn.map In.ts) cu.ts/\dn.length<=i/\cu.ts.length<=i
def NC:(Tryz.prog.info? 178).map (fun i=>(i.zero,i.size,i.bytes))=some (some (.agg #[.int .i64 0,.string ⟨#[]⟩,.int .u32 0,.int .i64 0]),4,40):=aB
def Ni:(Tryz.prog.info? 174).map (fun i=>(i.zero,i.size,i.bytes))=some (some (.slice none 0 0),1,24):=aB
def KN:Tryz.prog.underlying 128=some (.slice 174):=aB
def M1:Tryz.prog.underlying 174=some (.slice 178):=aB
def Bc (s:XA) {h:Hp} {pp:Option XC} {ll cc:Nat} {us:List Tok} (hu:us.length<=2^40) (sl:Vw h pp ll cc us) :
  HC Tryz.prog 97 #[.string s,.slice pp ll cc] h (IQ s.size us h):=by
 refine ba (args:=[.string s,.slice pp ll cc]) mixed Tryz.func97 aB (ry s pp ll cc) ?_
 unfold mP cv bN dH bW aN aR aH av aw aI bh aQ bZ gK
 have hll:ll=us.length:=sl.len
 refine ai (fun g1=>?_) (fun g1=>?_)
 ·have g1:(ll:Int)=0:=eq_of_beq g1
  have:us=[]:=OQ ae
  subst this
  exact ⟨Ch.refl _ _,none,0,[],rfl,eY.nil _ _ _ _,rfl⟩
 have g1:(ll:Int)≠0:=ON g1
 have hne:us≠[]:=fun hh=>by rw [hh] at hll; simp at hll; omega
 refine eM (e:=174) (cells:=[.slice none 0 0]) KN Ni ae ae aB ?_
 intro h1 b1 e1 z1
 have A1:eY h1 h.size 174 178 (some ⟨h.size,0,none⟩) 1 ([]++[⟨none,0,0,[]⟩]):=by
  refine ⟨⟨rfl,by simp [In.val],h.size,[],[],rfl,OP _,⟨aj,ae⟩,?_,rfl⟩,?_,?_,aj⟩
  ·simpa [In.val] using b1
  ·intro a ha
   have ha:a=⟨none,0,0,[]⟩:=by simpa using ha
   subst ha
   exact SL.nil _ _ _ _
  ·intro a ha i hi
   have ha:a=⟨none,0,0,[]⟩:=by simpa using ha
   subst ha
   simp [aE] at hi
 refine bJ (cs:=Cu) (Oe s.size us h) ((none,0,0),(0:Int),(0:Int),(some ⟨h.size,0,none⟩,1,1),(0:Int),()) us.length rfl
  ⟨0,[],⟨none,0,0,[]⟩,rfl,ae,ae,e1,rfl,A1,rfl,aj,aj⟩ ?_
 clear A1 b1 e1 z1 h1
 rintro ⟨⟨p5,l6,l7⟩,n8,n9,⟨p10,l11,l12⟩,n13,⟨⟩⟩ m h2 ⟨i,dn,cu,hi,hile,rfl,e2,hl11,A,hrec,hdn,hcu⟩
 simp only at hi hl11 A
 subst hi hl11
 dsimp only [Cu,flat,lW,ix,nA,cA]
 have hlen:(dn++[cu]).length=dn.length+1:=aj
 have hwl:IntKind.wrap .i64 (((dn.length+1:Nat):Int)-1)=(dn.length:Int):=by rw [wrap_i64 ae ae]; omega
 rw [hwl]
 have hlast:∀ {hh:Hp} {p':Option XC} {c':Nat},eY hh h.size 174 178 p' c' (dn++[cu])->∃ a,p'=some a/\bk hh (a.add (dn.length*1)) 0 [.slice cu.p cu.l cu.c]:=by
  intro hh p' c' A'
  obtain ⟨a,ha,hc⟩:=A'.out.cells (i:=dn.length) aj
  refine ⟨a,ha,?_⟩
  have:((dn++[cu]).map In.val)[dn.length]'aj=[.slice cu.p cu.l cu.c]:=by simp [In.val]
  rw [this] at hc
  exact hc
 have hcul:cu.l=cu.ts.length:=by have:=(A.lK cu aj).1; rw [this,OI]
 refine ai (fun g2=>?_) (fun g2=>?_)
 ·have g2:=OE g2
  have hlt:i<us.length:=ae
  obtain ⟨a,rfl,fC⟩:=(sl.an e2 aj).cells i hlt
  have hdr:us.drop i=us[i]::us.drop (i+1):=OM hlt
  rw [hdr] at hrec
  generalize us[i]=t at fC hrec
  refine aC ⟨ae,ae⟩ (au rfl ?_)
  rw [show Int.toNat (i:Int)=i from ae]
  refine aG ((t.kind:Int),t.text,(t.num:Int),(t.at_:Int),()) fC (ao ?_)
  refine bm ?_
  intro h3 b3 e3 z3
  refine ap b3 rfl aj ?_
  intro h4 b4 k4 z4
  have b4:bf h4 h2.size 178 (enc t):=b4
  have e24:Ext h2 h4:=Ch.trans e3 k4 (fun j hj hjl=>by simp at hj; omega)
  have A4:=A.an e24 aj aj
  have hld:∀ {hh:Hp} {L:Lp} {K:XB->Hp->Prop} {kk:Int->XA->Int->Int->T},Ext h4 hh->kk t.kind t.text t.num t.at_ L K hh->T.ah (⟨h2.size,0,none⟩:XC) [.int .i64,.string,.int .u32,.int .i64] kk L K hh:=by
   intro hh L K kk e hk
   exact af (b4.an e aj) ((t.kind:Int),t.text,(t.num:Int),(t.at_:Int),()) rfl hk
  refine bG (cs:=[(false,[.bool])]) (fun y h'=>y.1=(eE t 58 || (eE t 44 && decide (cu.ts=[])))/\Ext h4 h') ?_ ?_
  ·refine hld (Ch.refl _ _) ?_
   refine fL (AF t 58 h4) ?_
   intro h5 e5
   refine ai (fun g3=>?_) (fun g3=>?_)
   ·exact aO (cs:=[(false,[.bool])]) (true,()) rfl rfl ⟨by rw [g3]; rfl,e5⟩
   ·refine hld e5 ?_
    refine fL (AF t 44 h5) ?_
    intro h6 e6
    refine ai (fun g4=>?_) (fun g4=>?_)
    ·obtain ⟨a',ha',hc'⟩:=hlast (A4.an (e5.trans e6) aj aj)
     refine aC ⟨ae,ae⟩ (au ha' ?_)
     rw [show Int.toNat (dn.length:Int)=dn.length from ae]
     refine aG ((cu.p,cu.l,cu.c),()) hc' (ao ?_)
     refine aO (cs:=[(false,[.bool])]) (((cu.l:Int)==0),()) rfl rfl ⟨?_,e5.trans e6⟩
     show ((cu.l:Int)==0)=_
     rw [g3,g4,P7,O3,hcul]
     by_cases hh:cu.ts=[]
     ·rw [hh]; rfl
     ·have:cu.ts.length≠0:=fun h0=>hh (OQ h0)
      rw [OL hh]
      simp only [beq_eq_false_iff_ne,ne_eq]
      omega
    ·exact aO (cs:=[(false,[.bool])]) (false,()) rfl rfl ⟨by rw [g3,g4]; rfl,e5.trans e6⟩
  ·rintro ⟨b20,⟨⟩⟩ h5 ⟨hb20,e5⟩
   simp only at hb20
   subst hb20
   refine ao ?_
   have e25:=e2.trans (e24.trans e5)
   refine ai (fun g3=>?_) (fun g3=>?_)
   ·rw [az]
    refine af (b4.an e5 aj) ((t.at_:Int),()) rfl ?_
    refine ⟨⟨(b4.an e5 aj).cells _ rfl,trivial⟩,?_⟩
    refine ⟨e25,?_⟩
    have:gj s.size us=.error t.at_:=by
     unfold gj
     rw [OG hne,hrec]
     unfold eN
     rw [OH g3]
    rw [this]
   ·rw [show eN s.size (t::us.drop (i+1)) (dn.map In.ts) cu.ts=if eE t 44=true then eN s.size (us.drop (i+1)) (dn.map In.ts++[cu.ts]) [] else eN s.size (us.drop (i+1)) (dn.map In.ts) (cu.ts++[t]) by
     conv=>lhs; unfold eN
     rw [OG (by rw [g3]; simp)]] at hrec
    refine hld e5 ?_
    refine fL (AF t 44 h5) ?_
    intro h6 e6
    have hw:IntKind.wrap .i64 ((i:Int)+1)=((i+1:Nat):Int):=by rw [wrap_i64 ae ae]; omega
    have A6:=A4.an (e5.trans e6) aj aj
    have e26:Ext h h6:=e25.trans e6
    have hs6:=e26.size
    refine ai (fun g4=>?_) (fun g4=>?_)
    ·rw [OH g4] at hrec
     refine fp (e:=174) (vs:=[.slice none 0 0]) KN Ni rfl ae ae aB rfl rfl (by rw [<- hlen]; exact A6.out) hs6 ae ae ?_
     intro p' c' h7 o7 k7 hp7
     refine aY (cs:=Cu) ((p5,l6,l7),n8,n9,(p',dn.length+1+1,c'),((i+1:Nat):Int),()) (us.length-(i+1)) rfl ae (by rw [hw]; rfl) ?_
     refine ⟨i+1,dn++[cu],⟨none,0,0,[]⟩,rfl,ae,rfl,?_,aj,A6.snoc hs6 (by rw [hlen]; exact o7) k7 hp7 (SL.nil _ _ _ _) (by simp [aE]) (by simp [aE]),?_,by simp; omega,aj⟩
     ·exact Ch.trans e26 k7 (fun j hj hjl=>by have:=(A6.out.bH hj).1; omega)
     ·rw [hrec,OU]; rfl
    ·rw [OG (by rw [g4]; simp)] at hrec
     obtain ⟨a',rfl,hc'⟩:=hlast A6
     refine aC ⟨ae,ae⟩ (au rfl ?_)
     rw [show Int.toNat (dn.length:Int)=dn.length from ae]
     refine aG ((cu.p,cu.l,cu.c),()) hc' (ao ?_)
     refine hld (e5.trans e6) ?_
     have ab:a'.block∈aE (some a'):=by simp [aE]
     refine lL (e:=178) (vs:=enc t) M1 NC rfl ae ae aB rfl rfl (A6.lK cu aj) hs6 ae ae (fun h' e=>⟨bF e aj _ _ hc',trivial⟩) ?_
     intro p7 c7 h7 o7 k7 hp7
     have hch7:h2.size∉aE cu.p:=fun hh=>by have:=((A.lK cu aj).bH hh).2; omega
     refine ⟨⟨((b4.an (e5.trans e6) aj).an k7 hch7).cells _ rfl,trivial⟩,?_⟩
     refine aC ⟨ae,ae⟩ (au rfl ?_)
     have o6:=A6.out.bd k7 (fun j hj hh=>A6.po cu aj j hh hj)
     refine o6.store (P:=Tryz.prog) (i:=dn.length) aj (vs:=[.slice p7 (cu.l+1) c7]) rfl rfl rfl ?_
     intro h8 o8 k8 z8
     refine aY (cs:=Cu) ((p5,l6,l7),n8,n9,(some a',dn.length+1,l12),((i+1:Nat):Int),()) (us.length-(i+1)) rfl ae (by rw [hw]; rfl) ?_
     refine ⟨i+1,dn,⟨p7,cu.l+1,c7,cu.ts++[t]⟩,rfl,ae,rfl,?_,rfl,?_,hrec,ae,by simp; omega⟩
     ·refine Ch.trans (Ch.trans e26 k7 (fun j hj hjl=>by have:=((A6.lK cu aj).bH hj).1; omega)) k8 (fun j hj hjl=>by have:=(A6.out.bH hj).1; omega)
     ·exact A6.last (a':=⟨p7,cu.l+1,c7,cu.ts++[t]⟩) (by rw [OU]; exact o7) k7 hp7 o8 k8
 ·have g2:=OF g2
  have hi:i=us.length:=ae
  subst hi
  rw [PU] at hrec
  obtain ⟨a',rfl,hc'⟩:=hlast A
  refine aC ⟨ae,ae⟩ (au rfl ?_)
  rw [show Int.toNat (dn.length:Int)=dn.length from ae]
  refine aG ((cu.p,cu.l,cu.c),()) hc' (ao ?_)
  have hA:gj s.size us=if cu.ts=[] then .error s.size else .ok (dn.map In.ts++[cu.ts]):=by
   unfold gj
   rw [OG hne,hrec]
   rfl
  refine ai (fun g3=>?_) (fun g3=>?_)
  ·have g3:(cu.l:Int)=0:=eq_of_beq g3
   refine ⟨e2,?_⟩
   rw [hA,OH (OQ ae)]
  ·have g3:(cu.l:Int)≠0:=ON g3
   refine ⟨e2,?_⟩
   rw [hA,OG (fun hh=>by rw [hh] at hcul; simp at hcul; omega)]
   exact ⟨some a',l12,dn++[cu],by rw [hlen],A,aj⟩
def qX (te es:TypeId) (s:XA) (h:Hp) (v:XB) (h':Hp):Prop :=
 Ext h h'/\∃ p c al,v=.tuple #[.agg #[.string (bi s).1.label,.string (bi s).1.op,.slice p al.length c],.int .i64 (bi s).2.1,.int .i64 (bi s).2.2]/\eY h' h.size te es p c al/\al.map In.ts=(bi s).1.args
def jb {ts:List Tok} (hh:∀ t u r,ts=t::u::r->t.kind=1->eE u 58=true->False):FE ts=false:=by
 match ts,hh with
 | [],_=>rfl
 | [_],_=>rfl
 | t::u::r,hh =>
  cases hl:FE (t::u::r) with
  | false=>rfl
  | true =>
   simp only [FE,Bool.and_eq_true,decide_eq_true_eq] at hl
   exact (hh t u r rfl hl.1 hl.2).elim
def Iv (s:XA) (h:Hp) (hs:s.size<=2^40) (hl:Laid h):HC Tryz.prog 64 #[.string s] h (qX 174 178 s h):=by
 refine ba (args:=[.string s]) mixed Tryz.func64 aB (wB s) ?_
 unfold tS aN aS aZ av aw aI bh aQ gK
 refine bm ?_
 intro h1 b1 e1 z1
 refine aK (Gv s h1 hs (hl.ext e1)) ?_
 rintro _ h2 ⟨p2,l3,l4,rfl,sl,e2⟩
 refine ⟨((p2,l3,l4),((eh s).2.1:Int),((eh s).2.2:Int),()),rfl,?_⟩
 dsimp only [lW,ix,flat,nA,cA]
 have b2:=b1.an e2 aj
 have e12:=e1.trans e2
 have hlen:=yO s
 have hz2:=e2.size
 have hE:∀ {hh h':Hp},Ext h hh->Ch [h.size] hh h'->Ext h h':=fun e k=>Ch.trans e k (fun i hi hl=>by simp at hi; omega)
 refine ai (fun g1=>?_) (fun g1=>?_)
 ·have g1:((eh s).2.2:Int)≠0:=by simpa using g1
  have hp:bi s=(gX,(eh s).2.1,(eh s).2.2):=by unfold bi; rw [OH ae]
  refine ap b2 rfl aj ?_
  intro h3 b3 k3 z3
  have b3:bf h3 h.size 130 [.string ⟨#[]⟩,.string ⟨#[]⟩,.slice none 0 0]:=b3
  refine af b3 ((⟨#[]⟩:XA),(⟨#[]⟩:XA),(none,0,0),()) rfl ?_
  exact ⟨hE e12 k3,none,0,[],by rw [hp]; rfl,eY.nil _ _ _ _,by rw [hp]; rfl⟩
 have g1:((eh s).2.2:Int)=0:=by simpa using g1
 have hp:bi s=ga s.size (eh s).1:=by unfold bi; rw [OG ae]
 have vw:=sl.vw
 have hblk:∀ i,i∈aE p2->h1.size+1<=i/\i<h2.size:=fun i hi=>sl.bH hi
 clear sl
 generalize (eh s).1=ts at hp vw hlen
 unfold qX
 rw [hp]
 refine bm ?_
 intro h3 b7 e3 z3
 have hz1:=z1
 have vw3:=vw.an e3 aj
 have hl3:=vw.len
 have hcap:=vw.cap
 refine bG (cs:=[(false,[.slice 0])]) (fun y h'=>∃ lb us,ga s.size ts=bS s.size lb us/\us.length<=s.size/\Vw h' y.1.1 y.1.2.1 y.1.2.2 us/\(∀ i,i∈aE y.1.1->h1.size+1<=i/\i<h2.size)/\bf h' h2.size 130 [.string lb,.string ⟨#[]⟩,.slice none 0 0]/\Ch [h2.size] h3 h') ?_ ?_
 ·have plain:∀ {L:Lp} {K:XB->Hp->Prop} {h':Hp},Ext h3 h'->FE ts=false->(T.again 0 [.slice p2 l3 l4]) ((fun vs h'=>∃ y:qu (flat [(false,[.slice 0])]),vs=parts [(false,[.slice 0])] (gb _ y)/\∃ lb us,ga s.size ts=bS s.size lb us/\us.length<=s.size/\Vw h' y.1.1 y.1.2.1 y.1.2.2 us/\(∀ i,i∈aE y.1.1->h1.size+1<=i/\i<h2.size)/\bf h' h2.size 130 [.string lb,.string ⟨#[]⟩,.slice none 0 0]/\Ch [h2.size] h3 h')::L) K h':=by
   intro L K h' e hlab
   refine aO (cs:=[(false,[.slice 0])]) ((p2,l3,l4),()) rfl rfl ⟨⟨#[]⟩,ts,?_,hlen,vw3.an e aj,hblk,b7.an e aj,e.mono aj⟩
   unfold ga
   rw [OG (by rw [hlab]; simp)]
  refine ai (fun g2=>?_) (fun g2=>?_)
  ·have g2:=OE g2
   match ts,hl3 with
   | [],hl3=>simp at hl3; omega
   | [_],hl3=>simp at hl3; omega
   | t::u::r,hl3 =>
    obtain ⟨a,rfl,c0⟩:=vw3.cells 0 aj
    obtain ⟨a',ha',c1⟩:=vw3.cells 1 aj
    cases ha'
    have c0:bk h3 (a.add (0*4)) 0 (enc t):=c0
    have c1:bk h3 (a.add (1*4)) 0 (enc u):=c1
    have ab:a.block∈aE (some a):=by simp [aE]
    refine aC ⟨ae,ae⟩ (au rfl (aG ((t.kind:Int),()) ⟨c0.1,trivial⟩ ?_))
    dsimp only [lW,ix,flat,nA,cA]
    refine ai (fun g3=>?_) (fun g3=>?_)
    ·have g3:(t.kind:Int)=1:=eq_of_beq g3
     refine aC ⟨ae,ae⟩ (au rfl (aG ((u.kind:Int),u.text,(u.num:Int),(u.at_:Int),()) c1 ?_))
     refine fL (AF u 58 h3) ?_
     intro h4 e4
     refine ai (fun g4=>?_) (fun g4=>?_)
     ·have c0':=bF e4 aj _ _ c0
      refine aC ⟨ae,ae⟩ (au rfl (aG (t.text,()) ⟨c0'.2.1,trivial⟩ ?_))
      refine ap (b7.an e4 aj) rfl aj ?_
      intro h5 b5 k5 z5
      refine aC ⟨ae,ae,ae⟩ ?_
      have e35:Ch [h2.size] h3 h5:=Ch.trans (e4.mono aj) k5 (fun i hi _=>hi)
      have vd:=((vw3.an e4 aj).an k5 (fun i hi=>by have:=(hblk i hi).2; simp; omega)).drop (k:=2) ae
      refine aO (cs:=[(false,[.slice 0])]) ((if l4=2 then some a else (some a).map fun a=>a.add (2*4),l3-2,l4-2),()) rfl ?_ ⟨t.text,r,?_,by simp at hlen; omega,vd,?_,b5,e35⟩
      ·show [Value.slice _ (Int.toNat (l3:Int)-2) (l4-2)]=_
       rw [show Int.toNat (l3:Int)=l3 from ae]
       rfl
      ·unfold ga
       rw [OH (by show (decide (t.kind=1) && eE u 58)=true; rw [g4,OK ae]; rfl)]
       rfl
      ·intro i hi
       rw [show aE (if l4=2 then some a else (some a).map fun a=>a.add (2*4))=aE (some a) from kD _ _ _ _] at hi
       exact hblk i hi
     ·exact plain e4 (jb (by rintro _ _ _ hh h1 h2; injection hh with q1 q2; injection q2 with q2 _; subst q1 q2; rw [h2] at g4; cases g4))
    ·have g3:(t.kind:Int)≠1:=ON g3
     exact plain (Ch.refl _ _) (jb (by rintro _ _ _ hh h1 h2; injection hh with q1 q2; subst q1; omega))
  ·have g2:=OF g2
   exact plain (Ch.refl _ _) (jb (by rintro t u r rfl h1 h2; simp at hl3; omega))
 ·rintro ⟨⟨p8,l9,l10⟩,⟨⟩⟩ h4 ⟨lb,us,hpl,hus,v4,hb4,b4,k4⟩
  simp only at v4 hb4
  dsimp only [lW,ix,flat,nA,cA]
  rw [hpl]
  have hl9:=v4.len
  have hc9:=v4.cap
  have hne:h.size≠h2.size:=ae
  have a4:bf h4 h.size 130 [.string ⟨#[]⟩,.string ⟨#[]⟩,.slice none 0 0]:=(b2.an e3 aj).an k4 (by simp; omega)
  have e04:Ext h h4:=Ch.trans (e12.trans e3) k4 (fun i hi hl=>by simp at hi; omega)
  have hz4:=k4.size
  have hz3:=e3.size
  have out:∀ {hh:Hp} {L:Lp} {op:XA} {al:List In} {p:Option XC} {c:Nat},(∃ v w u,bf hh h.size 130 [v,w,u])->bf hh h2.size 130 [.string lb,.string op,.slice p al.length c]->Ext h hh->eY hh h4.size 174 178 p c al->bS s.size lb us=(⟨lb,op,al.map In.ts⟩,0,0) ->
    (T.ah ⟨h2.size,0,none⟩ [.string,.string,.slice 174] fun (s11:XA) (s12:XA) (p13:Option XC) (l14:Nat) (l15:Nat) =>
     T.ak ⟨h.size,0,none⟩ [.string s11,.string s12,.slice p13 l14 l15] <|
     T.ah ⟨h.size,0,none⟩ [.string,.string,.slice 174] fun (s16:XA) (s17:XA) (p18:Option XC) (l19:Nat) (l20:Nat) =>
     T.ret (.tuple #[.agg #[.string s16,.string s17,.slice p18 l19 l20],.int .i64 (0:Int),.int .i64 (0:Int)])) L
     (fun v h'=>Ext h h'/\∃ p c al,v=.tuple #[.agg #[.string (bS s.size lb us).1.label,.string (bS s.size lb us).1.op,.slice p al.length c],.int .i64 (bS s.size lb us).2.1,.int .i64 (bS s.size lb us).2.2]/\eY h' h.size 174 178 p c al/\al.map In.ts=(bS s.size lb us).1.args) hh:=by
   rintro hh L op al p c ⟨v,w,u,bb⟩ b7' e A hpt
   refine af b7' (lb,op,(p,al.length,c),()) rfl ?_
   refine ap bb rfl aj ?_
   intro h' b' k' z'
   have b':bf h' h.size 130 [.string lb,.string op,.slice p al.length c]:=b'
   refine af b' (lb,op,(p,al.length,c),()) rfl ?_
   rw [hpt]
   exact ⟨hE e k',p,c,al,rfl,(A.an k' (fun i hi=>by have:=(A.out.bH hi).1; simp; omega) (fun x hx i hi=>by have:=((A.lK x hx).bH hi).1; simp; omega)).mono ae,rfl⟩
  refine ai (fun g2=>?_) (fun g2=>?_)
  ·have g2:(l9:Int)=0:=eq_of_beq g2
   have:us=[]:=OQ ae
   subst this
   exact out (al:=[]) ⟨_,_,_,a4⟩ b4 e04 (eY.nil _ _ _ _) rfl
  have g2:(l9:Int)≠0:=ON g2
  cases us with
  | nil=>simp at hl9; omega
  | cons t us =>
   obtain ⟨a,rfl,c0⟩:=v4.cells 0 aj
   have c0:bk h4 (a.add (0*4)) 0 (enc t):=c0
   have ab:=hb4 a.block (by simp [aE])
   refine aC ⟨ae,ae⟩ (au rfl (aG ((t.kind:Int),()) ⟨c0.1,trivial⟩ ?_))
   dsimp only [lW,ix,flat,nA,cA]
   refine ai (fun g3=>?_) (fun g3=>?_)
   ·have g3:(t.kind:Int)≠1:=by simpa using g3
    have hpt:bS s.size lb (t::us)=(gX,t.at_,20):=by simp only [bS]; rw [OH ae]
    refine aC ⟨ae,ae⟩ (au rfl (aG ((t.at_:Int),()) ⟨c0.2.2.2.1,trivial⟩ ?_))
    dsimp only [lW,ix,flat,nA,cA]
    refine ap a4 rfl aj ?_
    intro h5 b5 k5 z5
    have b5:bf h5 h.size 130 [.string ⟨#[]⟩,.string ⟨#[]⟩,.slice none 0 0]:=b5
    have c5:=bF k5 (by rw [fh]; simp; omega) _ _ c0
    refine ⟨⟨⟨c5.2.2.2.1,trivial⟩,trivial⟩,?_⟩
    refine af b5 ((⟨#[]⟩:XA),(⟨#[]⟩:XA),(none,0,0),()) rfl ?_
    rw [hpt]
    exact ⟨hE e04 k5,none,0,[],rfl,eY.nil _ _ _ _,rfl⟩
   have g3:(t.kind:Int)=1:=by simpa using g3
   have hpt:bS s.size lb (t::us)=match gj s.size us with
     | .error a=>(gX,a,20)
     | .ok l=>(⟨lb,t.text,l⟩,0,0):=by simp only [bS]; rw [OG ae]; all_goals (cases gj s.size us <;> rfl)
   refine aC ⟨ae,ae⟩ (au rfl (aG (t.text,()) ⟨c0.2.1,trivial⟩ ?_))
   dsimp only [lW,ix,flat,nA,cA]
   rw [az]
   refine ap b4 rfl aj ?_
   intro h5 b5 k5 z5
   have b5:bf h5 h2.size 130 [.string lb,.string t.text,.slice none 0 0]:=b5
   have a5:=a4.an k5 (by simp; omega)
   have e05:Ext h h5:=Ch.trans e04 k5 (fun i hi hl=>by simp at hi; omega)
   refine aC ⟨ae,ae,ae⟩ ?_
   have vd:=(v4.an k5 (fun i hi=>by have:=(hb4 i hi).2; simp; omega)).drop (k:=1) ae
   refine aK (args:=[.string s,.slice _ _ _]) (Bc s (us:=us) (by simp at hus; omega) ?vv) ?_
   case vv=>rw [show Int.toNat (l9:Int)=l9 from ae]; exact vd
   rintro v h6 ⟨e6,hv⟩
   have a6:=a5.an e6 aj
   have b6:=b5.an e6 aj
   have e06:=e05.trans e6
   cases hA:gj s.size us with
   | error aa =>
    rw [hA] at hv hpt
    simp only at hv hpt
    subst hv
    refine ⟨((none,0,0),(aa:Int),(20:Int),()),rfl,?_⟩
    dsimp only [lW,ix,flat,nA,cA]
    refine aX rfl ?_
    refine ap a6 rfl aj ?_
    intro h7 b7 k7 z7
    have b7:bf h7 h.size 130 [.string ⟨#[]⟩,.string ⟨#[]⟩,.slice none 0 0]:=b7
    refine af b7 ((⟨#[]⟩:XA),(⟨#[]⟩:XA),(none,0,0),()) rfl ?_
    rw [hpt]
    exact ⟨hE e06 k7,none,0,[],rfl,eY.nil _ _ _ _,rfl⟩
   | ok ll =>
    rw [hA] at hv hpt
    simp only at hv hpt
    obtain ⟨p,c,al,rfl,A,hal⟩:=hv
    refine ⟨((p,al.length,c),(0:Int),(0:Int),()),rfl,?_⟩
    dsimp only [lW,ix,flat,nA,cA]
    refine aW rfl ?_
    rw [az]
    refine ap b6 rfl aj ?_
    intro h7 b7 k7 z7
    have b7:bf h7 h2.size 130 [.string lb,.string t.text,.slice p al.length c]:=b7
    have hz5:=k5.size
    refine out (op:=t.text) (al:=al) ⟨_,_,_,a6.an k7 (by simp; omega)⟩ b7 (Ch.trans e06 k7 (fun i hi hl=>by simp at hi; omega)) ((A.an k7 (fun i hi=>by have:=(A.out.bH hi).1; simp; omega) (fun x hx i hi=>by have:=((A.lK x hx).bH hi).1; simp; omega)).mono ae) (by rw [hpt,hal])
theorem qe (n N:Nat):∀ (ts:List Tok) (done:List (List Tok)) (dJ:List Tok) (r:List (List Tok)),eN n ts done dJ=.ok r->(∀ l,l∈done->l.length<=N)->dJ.length+ts.length<=N ->
  (∀ l,l∈r->l.length<=N)/\r.length<=done.length+1+ts.length
 | [],done,dJ,r,h,hd,hc=>by
  simp only [eN] at h
  split at h
  ·cases h
  ·injection h with h
   subst h
   refine ⟨fun l hl=>?_,aj⟩
   rcases OS.1 hl with hl | hl
   ·exact hd l hl
   ·have:l=dJ:=by simpa using hl
    subst this
    simpa using hc
 | t::ts,done,dJ,r,h,hd,hc=>by
  simp only [eN] at h
  simp only [List.length_cons] at hc
  split at h
  ·cases h
  ·split at h
   ·have:=qe n N ts (done++[dJ]) [] r h (fun l hl=>by
     rcases OS.1 hl with hl | hl
     ·exact hd l hl
     ·have:l=dJ:=by simpa using hl
      subst this
      omega) (by simp; omega)
    refine ⟨this.1,?_⟩
    have h2:=this.2
    simp at h2 ⊢
    omega
   ·have:=qe n N ts done (dJ++[t]) r h hd (by simp; omega)
    refine ⟨this.1,?_⟩
    have h2:=this.2
    simp at h2 ⊢
    omega
def tI (n N:Nat) (lb:XA) (us:List Tok) (h:us.length<=N):(∀ l,l∈(bS n lb us).1.args->l.length<=N)/\(bS n lb us).1.args.length<=N+1:=by
 cases us with
 | nil=>simp [bS]
 | cons t us =>
  simp only [List.length_cons] at h
  simp only [bS]
  split
  ·simp [gX]
  ·cases hA:gj n us with
   | error a=>simp [gX]
   | ok l =>
    unfold gj at hA
    split at hA
    ·injection hA with hA
     subst hA
     simp
    ·have:=qe n N us [] [] l hA aj (by simp; omega)
     refine ⟨this.1,?_⟩
     have h2:=this.2
     simp at h2 ⊢
     omega
def ep (s:XA):(∀ l,l∈(bi s).1.args->l.length<=s.size)/\(bi s).1.args.length<=s.size+1:=by
 have hlen:=yO s
 unfold bi
 split
 ·simp [gX]
 ·unfold ga
  split
  ·exact tI _ _ _ _ (by rw [OR]; omega)
  ·exact tI _ _ _ _ hlen
end Go.Sx
