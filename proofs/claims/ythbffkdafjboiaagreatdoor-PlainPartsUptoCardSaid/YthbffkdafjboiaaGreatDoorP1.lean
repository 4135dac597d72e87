/- Contracts over heaps, part 1. Condition: as each statement says. -/
import Derived.Test.YthbffkdafjboiaaGreatDoorBtA
import Derived.Test.YthbffkdafjboiaaGreatDoorCShelf
import Derived.Test.YthbffkdafjboiaaGreatDoorSxG
import Derived.Test.YthbffkdafjboiaaGreatDoorSxE
import Derived.Test.YthbffkdafjboiaaGreatDoorBtB
import Derived.Test.YthbffkdafjboiaaGreatDoorBtC
set_option linter.all false
set_option maxRecDepth 100000
set_option maxHeartbeats 4000000
namespace Go.Sx
open Go.Proofs
def mixed:Tryz.prog.follows .mixedOrders=true:=az
def RC : (Tryz.f153.name == "runtime.NumGoroutine") = false :=az
def QL:Tryz.f153.body.isNone=true:=az
def Q7:Extern.findNext Tryz.f153=none:=az
def Rs:Extern.find Tryz.f153=some Extern.BytealgIndexByte.indexByte:=az
def Ay (s:ZA) (c:Int) (h:Hp):vz Tryz.prog 137 [.string s,.int .u8 c] h (.int .i64 (Lib.indexByte s.data.toList c.toNat.toUInt8)):=by
 refine et mixed Tryz.func137 az (gC s c) ?_;refine EU Tryz.func153 RC QL Q7 Rs ?_;rw [qo];exact ⟨(_,()),rfl,rfl,rfl⟩
def Dh (s:ZA) (c:Int) (h:Hp):vz Tryz.prog 114 [.string s,.int .u8 c] h (.int .i64 (Lib.indexByte s.data.toList c.toNat.toUInt8)):=by
 refine et mixed Tryz.func114 az (oO s c) ?_;exact jY (Ay s c h) ⟨rfl,rfl⟩
def me (s set:List UInt8):Nat:=(s.takeWhile fun c=>set.contains c).length
def Qr (s set:List UInt8):me s set<=s.length:=by
 unfold me;exact (List.takeWhile_prefix _).length_le
theorem rq {p:UInt8->Bool}:∀ (l:List UInt8) (k:Nat),k<=(l.takeWhile p).length->k<l.length->(k<(l.takeWhile p).length↔p (l.getD k 0)=true)
 | [],k,_,h=>by simp at h
 | c::l,0,_,_=>by
  simp only [List.takeWhile_cons,List.getD_cons_zero];cases hp:p c <;> simp
 | c::l,k+1,h,hl=>by
  simp only [List.takeWhile_cons] at h ⊢;cases hp:p c with
  | false=>rw [hp] at h; simp at h
  | true =>
   rw [hp] at h;simp at h hl
   have:=rq l k (by simpa using h) hl
   simpa using this
def BL (s set:List UInt8) (k:Nat) (hk:k<=me s set) (hl:k<s.length):(k<me s set↔set.contains (s.getD k 0)=true):=rq s k hk hl
def Nt (s:ZA) (n:Int):(cR s n).toNat.toUInt8=s.data.toList.getD n.toNat 0:=by
 unfold cR; simp
def Mk (s set:ZA) (h:Hp) (hs:s.size<=9223372036854775807):vz Tryz.prog 88 [.string s,.string set] h (.int .i64 (me s.data.toList set.data.toList)):=by
 refine et mixed Tryz.func88 az (Ci s set) ?_;have hsz:s.data.toList.length=s.size:=aj
 have hle:=Qr s.data.toList set.data.toList;refine aU (cs:=[(false,[.int .i64])]) (fun x n h'=>h'=h/\∃ k:Nat,x.1=(k:Int)/\k<=me s.data.toList set.data.toList/\n=s.size-k) ((0:Int),()) s.size rfl ⟨rfl,0,rfl,ad,ad⟩ ?_;rintro ⟨n,⟨⟩⟩ m h' ⟨rfl,k,hk,hle',rfl⟩;simp only at hk;subst hk;refine ak (fun hb=>?_) (fun hb=>?_)
 ·have hlt:(k:Int)<s.size:=W2 hb;have hst:=BL s.data.toList set.data.toList k hle' ad;refine ay ⟨ad,hlt⟩ ?_;refine jY (Dh _ _ _) ?_;rw [Nt];have hc:=Lib.contains_iff_indexByte set.data.toList (s.data.toList.getD k 0);refine ak (fun hb2=>?_) (fun hb2=>?_)
  ·have h2:=W2 hb2;rw [wrap_i64 ad ad];have hin:set.data.toList.contains (s.data.toList.getD k 0)=true:=by rw [hc]; exact W9 h2
   exact aI (cs:=[(false,[.int .i64])]) ((k:Int)+1,()) (s.size-(k+1)) rfl ad rfl ⟨rfl,k+1,(show ((k:Int)+1)=((k+1:Nat):Int) from ad),hst.2 hin,rfl⟩
  ·have h2:=W4 hb2;have hin:¬ set.data.toList.contains (s.data.toList.getD k 0)=true:=by rw [hc]; exact fun hh=>h2 (W2 hh)
   have:k=me s.data.toList set.data.toList:=by
    have:¬ k<me s.data.toList set.data.toList:=fun hh=>hin (hst.1 hh)
    omega
   exact ⟨by rw [<- this],rfl⟩
 ·have hge:¬ (k:Int)<s.size:=W4 hb
  have:k=me s.data.toList set.data.toList:=ad
  exact ⟨by rw [<- this],rfl⟩
def eW (c:UInt8):Bool:=(97<=c.toNat && c.toNat<=122) || (65<=c.toNat && c.toNat<=90) || c.toNat==95
def hY (c:UInt8):Bool:=48<=c.toNat && c.toNat<=57
def gz:List UInt8:=[97,98,99,100,101,102,103,104,105,106,107,108,109,110,111,112,113,114,115,116,117,118,119,120,121,122,65,66,67,68,69,70,71,72,73,74,75,76,77,78,79,80,81,82,83,84,85,86,87,88,89,90,95]
def iJ:List UInt8:=[48,49,50,51,52,53,54,55,56,57]
def BA (p q:UInt8->Bool) (h:(List.range 256).all (fun n=>p (UInt8.ofNat n)==q (UInt8.ofNat n))=true) (c:UInt8):p c=q c:=by
 have:=XA.1 h c.toNat (YM.2 (by have:=c.toNat_lt; omega))
 simpa using this
def F5 (c:UInt8):gz.contains c=eW c:=BA (fun c=>gz.contains c) eW (by decide +kernel) c
def MG (c:UInt8):(gz++iJ).contains c=(eW c || hY c):=BA (fun c=>(gz++iJ).contains c) (fun c=>eW c || hY c) (by decide +kernel) c
def cN (c:UInt8):Int:=(c.toNat:Nat)
def Na (c:UInt8) (h:Hp):vz Tryz.prog 107 [.int .u8 (cN c)] h (.bool (hY c)):=by
 refine et mixed Tryz.func107 az (nI _) ?_;unfold jJ hY cN bC;refine ak (fun h1=>?_) (fun h1=>?_)
 ·have h1:=W2 h1;refine ⟨?_,rfl⟩
  congr 1
  rw [show decide (48<=c.toNat)=true from W9 ad,Xu];exact Y8.2 ad
 ·have h1:=W4 h1;refine ⟨?_,rfl⟩
  congr 1
  rw [show decide (48<=c.toNat)=false from Xa ad,Bool.false_and]
def Jo (c:UInt8):eW c=true↔(97<=cN c/\cN c<=122)\/(65<=cN c/\cN c<=90)\/cN c=95:=by
 unfold eW cN;simp only [Bool.or_eq_true,Bool.and_eq_true,decide_eq_true_eq,beq_iff_eq];omega
def Bb (c:UInt8) (h:Hp):vz Tryz.prog 106 [.int .u8 (cN c)] h (.bool (eW c)):=by
 refine et mixed Tryz.func106 az (mY _) ?_;unfold iV dL;have hl:=Jo c
 repeat' (refine ak (fun h1=>?_) (fun h1=>?_) <;> first | replace h1:=W2 h1 | replace h1:=W4 h1)
 all_goals exact ⟨Xj Value.bool (YS.2 (by simp only [hl,true_iff,beq_iff_eq]; omega)),rfl⟩
def x8 (s:List UInt8):Int × Bool × Bool :=
 match s with
 | [a,b]=>if cN a=114/\48<=cN b/\cN b<=55 then (cN b-48,false,true) else if cN a=122/\48<=cN b/\cN b<=51 then (cN b-48,true,true) else (0,false,false)
 | _=>(0,false,false)
def Ei {s:List UInt8} (h:s.length≠2):x8 s=(0,false,false):=by
 unfold x8;split
 ·simp at h
 ·rfl
def uY (s:ZA) (n:Int):cR s n=cN (s.data.toList.getD n.toNat 0):=rfl
def two_bytes {s:ZA} (h1:(s.size:Int)=2):∃ a b,s.data.toList=[a,b]:=by
 have hsz:s.data.toList.length=s.size:=aj
 match hl:s.data.toList with
 | [a,b]=>exact ⟨a,b,rfl⟩
 | []=>rw [hl] at hsz; simp at hsz; omega
 | [a]=>rw [hl] at hsz; simp at hsz; omega
 | a::b::c::l=>rw [hl] at hsz; simp at hsz; omega
def Dx (s:ZA) (h:Hp):vz Tryz.prog 87 [.string s] h (.tuple #[.int .i64 (x8 s.data.toList).1,.bool (x8 s.data.toList).2.1,.bool (x8 s.data.toList).2.2]):=by
 refine et mixed Tryz.func87 az (ux s) ?_;have hsz:s.data.toList.length=s.size:=aj
 unfold qi bt iG br;refine ak (fun h1=>?_) (fun h1=>?_)
 ·have h1:(s.size:Int)≠2:=by simpa using h1
  rw [Ei ad];exact ⟨rfl,rfl⟩
 ·have h1:(s.size:Int)=2:=by simpa using h1
  obtain ⟨a,b,hab⟩:=two_bytes h1;have e0:cR s 0=cN a:=by rw [uY,hab]; rfl
  have e1:cR s 1=cN b:=by rw [uY,hab]; rfl
  have hb:=b.toNat_lt;have w1:IntKind.wrap .i64 (IntKind.wrap .i64 (cR s 1)-48)=cN b-48:=by
   rw [e1,wrap_i64 (x:=cN b) (by unfold cN; omega) (by unfold cN; omega),wrap_i64 (by unfold cN; omega) (by unfold cN; omega)]
  rw [w1,e0,hab];unfold x8
  repeat' (first | refine ay ⟨ad,ad⟩ ?_ | (refine ak (fun h1=>?_) (fun h1=>?_) <;> first | replace h1:=W2 h1 | replace h1:=W4 h1 | replace h1:=eq_of_beq h1 | replace h1:=ne_of_beq_false h1))
  all_goals
   refine ⟨?_,rfl⟩;simp only
   first
    | (exfalso; omega)
    | rw [Xb ad]
    | rw [W6 ad,Xb ad]
    | rw [W6 ad,W6 ad]
def Co (s:ZA) (h:Hp):vz Tryz.prog 108 [.string s] h (.tuple #[.int .i64 (x8 s.data.toList).1,.bool (x8 s.data.toList).2.1,.bool (x8 s.data.toList).2.2]):=by
 refine et mixed Tryz.func108 az (lK s) ?_;have hsz:s.data.toList.length=s.size:=aj
 unfold ic bt iG br;refine ak (fun h1=>?_) (fun h1=>?_)
 ·have h1:(s.size:Int)≠2:=by simpa using h1
  rw [Ei ad];exact ⟨rfl,rfl⟩
 ·have h1:(s.size:Int)=2:=by simpa using h1
  obtain ⟨a,b,hab⟩:=two_bytes h1;have e0:cR s 0=cN a:=by rw [uY,hab]; rfl
  have e1:cR s 1=cN b:=by rw [uY,hab]; rfl
  have hb:=b.toNat_lt;have w1:IntKind.wrap .i64 (IntKind.wrap .i64 (cR s 1)-48)=cN b-48:=by
   rw [e1,wrap_i64 (x:=cN b) (by unfold cN; omega) (by unfold cN; omega),wrap_i64 (by unfold cN; omega) (by unfold cN; omega)]
  rw [w1,e0,hab];unfold x8
  repeat' (first | refine ay ⟨ad,ad⟩ ?_ | (refine ak (fun h1=>?_) (fun h1=>?_) <;> first | replace h1:=W2 h1 | replace h1:=W4 h1 | replace h1:=eq_of_beq h1 | replace h1:=ne_of_beq_false h1))
  all_goals
   refine ⟨?_,rfl⟩;simp only
   first
    | (exfalso; omega)
    | rw [Xb ad]
    | rw [W6 ad,Xb ad]
    | rw [W6 ad,W6 ad]
def cT (s:List UInt8):Bool:=decide (0<s.length) && decide (s.length<=32) && eW (s.getD 0 0) && s.all (fun c=>eW c || hY c) && !(x8 s).2.2
def MS {s set:List UInt8} (h:0<s.length):0<me s set↔set.contains (s.getD 0 0)=true:=BL s set 0 (Y5 _) h
def Ki {s set:List UInt8}:me s set=s.length↔s.all (fun c=>set.contains c)=true:=by
 unfold me
 induction s with
 | nil=>simp
 | cons c s ih =>
  rw [List.takeWhile_cons,Zd];cases hc:set.contains c with
  | true=>simp only [if_true,List.length_cons,Bool.true_and]; rw [<- ih]; omega
  | false=>simp
def VU:(⟨#[97,98,99,100,101,102,103,104,105,106,107,108,109,110,111,112,113,114,115,116,117,118,119,120,121,122,65,66,67,68,69,70,71,72,73,74,75,76,77,78,79,80,81,82,83,84,85,86,87,88,89,90,95]⟩:ZA).data.toList=gz:=rfl
def Wf:(⟨#[97,98,99,100,101,102,103,104,105,106,107,108,109,110,111,112,113,114,115,116,117,118,119,120,121,122,65,66,67,68,69,70,71,72,73,74,75,76,77,78,79,80,81,82,83,84,85,86,87,88,89,90,95,48,49,50,51,52,53,54,55,56,57]⟩:ZA).data.toList=gz++iJ:=rfl
def toList_nil {s:ZA}:(s.toList==[])=decide (s.size=0):=by
 have:s.toList=s.data.toList:=ByteArray.toList_eq s
 rw [this];have hsz:s.data.toList.length=s.size:=aj
 cases hl:s.data.toList with
 | nil=>rw [hl] at hsz; simp at hsz; simp [<- hsz]
 | cons a l=>rw [hl] at hsz; simp at hsz; simp [<- hsz]
def ua (s:ZA) (h:Hp) (hs:s.size<=9223372036854775807):vz Tryz.prog 60 [.string s] h (.bool (cT s.data.toList)):=by
 refine et mixed Tryz.func60 az (zj s) ?_;have hsz:s.data.toList.length=s.size:=aj
 unfold xJ cD bK bC aR cg;refine FG (Dx s h) ?_;unfold cT;rw [hsz];refine ak (fun h1=>?_) (fun h1=>?_)
 ·have h1:s.size≠0:=by rw [toList_nil] at h1; simpa using h1
  refine ak (fun h2=>?_) (fun h2=>?_)
  ·have h2:=W2 h2;refine jY (Mk s _ h hs) ?_;rw [VU];have hp:=MS (set:=gz) (by omega:0<s.data.toList.length);rw [F5] at hp;refine ak (fun h3=>?_) (fun h3=>?_)
   ·have h3:=W2 h3;refine jY (Mk s _ h hs) ?_;rw [Wf];have ha:=Ki (s:=s.data.toList) (set:=gz++iJ);have hg:(fun c=>(gz++iJ).contains c)=(fun c=>eW c || hY c):=funext MG;rw [hg] at ha;rw [show decide (0<s.size)=true from W9 ad,show decide (s.size<=32)=true from W9 ad,hp.1 ad];refine ak (fun h4=>?_) (fun h4=>?_)
    ·have h4:=eq_of_beq h4;rw [ha.1 ad];exact ⟨rfl,rfl⟩
    ·have h4:=ne_of_beq_false h4
     have:s.data.toList.all (fun c=>eW c || hY c)=false:=by
      cases hx:s.data.toList.all (fun c=>eW c || hY c) with
      | false=>rfl
      | true=>exact (h4 (by rw [ha.2 hx]; omega)).elim
     rw [this];exact ⟨rfl,rfl⟩
   ·have h3:=W4 h3
    have:eW (s.data.toList.getD 0 0)=false:=by
     cases hx:eW (s.data.toList.getD 0 0) with
     | false=>rfl
     | true=>have:=hp.2 hx; omega
    rw [this];exact ⟨aj,rfl⟩
  ·have h2:=W4 h2;rw [show decide (s.size<=32)=false from Xa ad];exact ⟨aj,rfl⟩
 ·have h1:s.size=0:=by rw [toList_nil] at h1; simpa using h1
  rw [show decide (0<s.size)=false from Xa ad];exact ⟨aj,rfl⟩
open Go.Proofs Go.MapKept Go.WideAt Go.WideMaps Go.Maps Go.RowKit Go.WideElems Go.WideElems
def JQ:ZB->Option (DataW Unit × List MemPlace):=fun _=>some (.nil,[])
def wM:Tryz.prog.underlying 9=some .string:=az
def QH:Tryz.prog.underlying 183=some (.map 9 67):=az
def keysOf (D:List (ZA × ZB)):List (List UInt8):=(D.map fun p=>p.1.data.toList).mergeSort fun x y=>decide (x<=y)
def L6 {x:MapEntry} {s:ZA} (hk:x.key=.string s) (hs:s.size<=maxLen):WideElems.rd Tryz.prog 9 JQ x=some (.string s.data.toList,.nil):=by
 unfold WideElems.rd;rw [hk,keyOf_string_mk wM hs] <;> rfl
def dT.owns {W:World} {g:Nat} {D:List (ZA × ZB)} (m:dT W.heap g D) (hl:D.length<=maxLen) :
  ∃ D0:DataW Unit,W.ownsMap Tryz.prog 9 JQ g D.length D0/\(strKeys D0).Perm (D.map fun p=>p.1.data.toList)/\Maps.size D0=D.length:=by
 obtain ⟨es,clock,hg,he,hs,hd⟩:=m;have hlen:es.size=D.length:=by
  have:=Xj List.length he
  simpa using this
 have hrd:es.toList.map (WideElems.rg Tryz.prog 9 JQ)=D.map fun p=>(Lit.string p.1.data.toList,DataW.nil):=by
  apply Yd;intro i;have h1:(es.toList.map (fun e=>(e.key,e.val)))[i]?=(D.map (fun p=>(Value.string p.1,p.2)))[i]?:=by rw [he]
  simp only [List.getElem?_map] at h1 ⊢;rcases XR i D.length with hi | hi
  ·rw [W5 hi,W5 (show i<es.toList.length by simp; omega)] at h1 ⊢;simp only [Option.map_some,Option.some.injEq,Prod.mk.injEq] at h1 ⊢;exact WideElems.rg_of (L6 h1.1 (hd _ (Xe hi)))
  ·rw [XI hi,XI (show es.toList.length<=i by simp; omega)] <;> rfl
 refine ⟨_,⟨es,clock,hg,⟨ad,hs,?_⟩,ad,rfl⟩,?_,?_⟩
 ·intro x hx;obtain ⟨i,hi,rfl⟩:=Xw hx;have hi':i<D.length:=by simp at hi; omega
  have h1:(es.toList.map (fun e=>(e.key,e.val)))[i]?=(D.map (fun p=>(Value.string p.1,p.2)))[i]?:=by rw [he]
  simp only [List.getElem?_map,List.getElem?_eq_getElem hi',List.getElem?_eq_getElem hi,Option.map_some,Option.some.injEq,Prod.mk.injEq] at h1;exact ⟨_,L6 h1.1 (hd _ (Xe hi'))⟩
 ·show List.Perm (((es.toList.map (WideElems.rg Tryz.prog 9 JQ)).foldr DataW.insert []).map fun p=>strOf p.1) _;rw [hrd];refine ((WideShapes.sorted_perm _).map _).trans ?_;rw [Xv];exact List.Perm.refl _
 ·show ((es.toList.map (WideElems.rg Tryz.prog 9 JQ)).foldr DataW.insert []).length=D.length;rw [hrd,length_sorted,W3]
def World.Kt {W:World} {h:Hp} {o:Obj} (hW:W.heap=h.push o):({ W with heap:=h }:World).alloc o=W:=by
 cases W;simp only at hW;subst hW;rfl
def dG.alloc (w:World) (o:Obj):dG w (w.alloc o):=⟨rfl,rfl,rfl⟩
def H2 (r:Option Nat) (h:Hp):HC Tryz.prog 93 #[.map r] h fun v h'=>v=.func (.func 117) #[] #[.pointer (some ⟨h.size,0,none⟩)]/\h'=h.push (.cells #[.map r] 183):=by
 intro W hW;subst hW;exact (callsIn_wide.1 (Tryz.Ax r W)).mono fun e w' ⟨he,hw⟩=>⟨_,he,by rw [hw]; exact dG.alloc _ _,rfl,by rw [hw]; rfl⟩
def SL.R5 {W:World} {b:Nat} {e:TypeId} {v:ZB} {xs:List ZB} (r:W.ownsRow b e 1 v xs.length xs):∃ p l c,v=.slice p l c/\SL W.heap b e 1 p l c (xs.map fun x=>[x]):=by
 have hfl:∀ ys:List ZB,(ys.map fun x=>[x]).flatten=ys:=by
  intro ys
  induction ys with
  | nil=>rfl
  | cons y ys ih=>simp [ih]
 obtain ⟨h1,h2⟩:=r;rcases h2 with ⟨hv,hn⟩ | ⟨g,cap,jj,hv,hb,hg,hle,hc,hs,ht⟩
 ·have:xs=[]:=X7 hn
  subst this;exact ⟨none,0,0,hv,SL.nil _ _ _ _⟩
 ·refine ⟨some ⟨g,0,none⟩,xs.length,cap,hv,aj,aj,g,[],jj.toList.drop xs.length,rfl,hb,⟨hle,by unfold maxLen at hc; omega⟩,?_,?_⟩
  ·rw [hfl,Yr]
   have:xs=jj.toList.take xs.length:=by rw [<- ht]; simp
   unfold bH;rw [hg]
   congr 2
   conv=>lhs; rw [<- Array.toArray_toList (xs:=jj),<- XN xs.length jj.toList]
   rw [<- this]
  ·rw [X3,Yb,hs]; omega
def rW {h:Hp} {g:Nat} {D:List (ZA × ZB)} (m:dT h g D) (hl:D.length<=2^40) :
  HC Tryz.prog 92 #[.func (.func 117) #[] #[.pointer (some ⟨h.size,0,none⟩)]] (h.push (.cells #[.map (some g)] 183)) fun v h'=>∃ p l c,v=.slice p l c/\SL h' (h.size+1) 9 1 p l c ((keysOf D).map fun k=>[encStr k]) /\
   Ext (h.push (.cells #[.map (some g)] 183)) h':=by
 intro W hW;obtain ⟨D0,hown,hperm,hsize⟩:=dT.owns (W:={ W with heap:=h }) m (by unfold maxLen; omega);have hc:=callsIn_wide.1 (Tryz.lu g D.length D0 JQ { W with heap:=h } hown (by rw [hsize]; unfold maxLen; omega) (by rw [hsize]; omega));rw [World.Kt hW] at hc;refine hc.mono fun e w' hr=>?_
 obtain ⟨v,ss,he,hp,hrow,_,hb⟩:=hr;have hss:ss.mergeSort (fun x y=>decide (x<=y))=keysOf D:=mergeSort_of_perm (hp.trans hperm);have hlen:ss.length=((ss.mergeSort (fun x y=>decide (x<=y))).map encStr).length:=by rw [W3,List.length_mergeSort]
 rw [hlen,hss] at hrow;obtain ⟨p,l,c,hv,hsl⟩:=SL.R5 hrow;refine ⟨v,he,⟨hb.os,hb.tape,hb.output⟩,p,l,c,hv,?_,?_⟩
 ·rw [Xv] at hsl
  have:W.heap.size=h.size+1:=by rw [hW]; simp
  rw [this] at hsl;exact hsl
 ·rw [<- hW];exact ⟨hb.size,fun i hi _=>hb.block i hi⟩
abbrev da:=List (ZA × Nat)
def dc (p:ZA × Nat):List ZB:=[.string p.1,.int .u32 p.2]
def vm (D:da):List (ZA × ZB):=D.map fun p=>(p.1,Value.int .u32 p.2)
def dO (D:da) (s:ZA):Nat:=((D.find? fun p=>decide (s=p.1)).map (·.2)).getD 0
def uf (D:da) (s:ZA) (v:Nat):da:=if (D.find? fun p=>decide (s=p.1)).isSome then D.map fun p=>if s=p.1 then (p.1,v) else p else D++[(s,v)]
def iR (D:da) (p:ZA × Nat):da:=uf D p.1 ((dO D p.1+p.2) % 4294967296)
def Du (D:da):da:=(keysOf (vm D)).filterMap fun k=>if dO D ⟨k.toArray⟩=0 then none else some (⟨k.toArray⟩,dO D ⟨k.toArray⟩)
def Qu (D:da) (s:ZA):(vm D).find? (fun p=>decide (s=p.1))=(D.find? fun p=>decide (s=p.1)).map fun p=>(p.1,Value.int .u32 p.2):=by
 unfold vm
 induction D with
 | nil=>rfl
 | cons p D ih =>
  by_cases h:s=p.1
  ·simp [h]
  ·simp only [List.map_cons,List.find?_cons,decide_eq_false h];exact ih
def Ip (D:da) (s:ZA):look (vm D) s=(D.find? fun p=>decide (s=p.1)).map fun p=>Value.int .u32 p.2:=by
 unfold look;rw [Qu,Option.map_map] <;> rfl
def I1 (D:da) (s:ZA):(look (vm D) s).getD (.int .u32 0)=.int .u32 (dO D s):=by
 rw [Ip];unfold dO
 all_goals (cases D.find? fun p=>decide (s=p.1) <;> rfl)
def Sa (D:da) (s:ZA) (v:Nat):je (vm D) s (.int .u32 v)=vm (uf D s v):=by
 unfold je uf;rw [Ip];cases h:(D.find? fun p=>decide (s=p.1)) with
 | none=>simp [vm]
 | some q =>
  simp only [Option.map_some,Option.isSome_some,if_true,vm,List.map_map];refine XQ fun p hp=>?_
  simp only [Function.comp];split <;> simp_all
def FE (D:da) (s:ZA) (v:Nat):(uf D s v).length<=D.length+1:=by
 unfold uf;split <;> simp
def S7:(Tryz.prog.info? 67).bind (·.zero)=some (.int .u32 0):=az
def yK:Tryz.prog.underlying 66=some (.slice 117):=az
def sD:(Tryz.prog.info? 117).map (fun i=>(i.zero,i.size,i.bytes))=some (some (.agg #[.string ⟨#[]⟩,.int .u32 0]),2,24):=az
def oS {L:Lp} {K:ZB->Hp->Prop} {h:Hp} {g:Nat} {D:da} (m:dT h g (vm D)) (s:ZA) {k:Int->T} (hk:k (dO D s) L K h):T.ek Tryz.prog (Instr.lookup 183 (.map (some g)) (.string s) false) false [(false,[.int .u32])] k L K h:=by
 refine hZ QH wM S7 m s false _ ?_;refine ⟨((dO D s:Int),()),?_,hk⟩;simp only [Bool.false_eq_true,if_false];rw [I1] <;> rfl
def Gu {L:Lp} {K:ZB->Hp->Prop} {h:Hp} {g:Nat} {D:da} (m:dT h g (vm D)) {s:ZA} (hs:s.size<=maxLen) {v:Int} {n:Nat} (hv:v=(n:Int)) {k:T} (hk:∀ h',dT h' g (vm (uf D s n))->Ch [g] h h'->h'.size=h.size->k L K h') :
  T.ei Tryz.prog (Instr.mapUpdate 183 (.map (some g)) (.string s) (.int .u32 v)) k L K h:=by
 subst hv;refine fg QH wM m hs _ _ ?_;intro h' m' c' z';rw [Sa] at m';exact hk h' m' c' z'
def Pq {h:Hp} {g:Nat} {D:da} (m:dT h g (vm D)) (hl:D.length<=2^40) (n:Int) :
  HC Tryz.prog 94 #[.map (some g),.int .u32 n] h fun v h'=>Ext h h'/\∃ p l c,v=.agg #[.slice p l c,.int .u32 n]/\SL h' h.size 117 2 p l c ((Du D).map dc):=by
 refine bd (args:=[.map (some g),.int .u32 n]) mixed Tryz.func94 az (yV (some g) n) ?_;unfold xI bf bh bG aQ bK bm bR aH bi aR;refine bk ?_;intro h1 b1 e1 z1;refine bk ?_;intro h2 b2 e2 z2;refine aw b2 rfl aj ?_;intro h3 b3 k3 z3;have b3:bH h3 h1.size 69 [.slice none 0 0,.int .u32 n]:=b3;have e3:Ext h h3:=Ch.trans (e1.trans e2) k3 (fun i hi hl=>by simp at hi; omega);have m3:=m.an e3 aj;have c3:bH h3 h.size 69 [.slice none 0 0,.int .u32 0]:=(b1.an e2 aj).an k3 (by simp; omega);refine aK (H2 (some g) h3) ?_;rintro _ h4 ⟨rfl,rfl⟩;refine ⟨(.func (.func 117) #[] #[.pointer (some ⟨h3.size,0,none⟩)],()),rfl,ao ?_⟩;have e4:Ext h3 (h3.push (.cells #[.map (some g)] 183)):=Ext.push _ _;have hkl:(vm D).length<=2^40:=by unfold vm; rw [W3]; exact hl
 refine aK (rW m3 hkl) ?_;rintro _ h5 ⟨pk,lk,ck,rfl,sk,e5⟩;refine ⟨((pk,lk,ck),()),rfl,ao ?_⟩;have e35:=e4.trans e5;have hkeys:(keysOf (vm D)).length<=2^40:=by
  unfold keysOf;rw [List.length_mergeSort,W3];exact hkl
 have hlk:lk=(keysOf (vm D)).length:=by rw [sk.1,W3]
 unfold Du;generalize keysOf (vm D)=ks at sk hkeys hlk ⊢;have b5:=b3.an e35 aj;have c5:=c3.an e35 aj;have m5:=m3.an e35 aj;have e05:=e3.trans e35;have hz3:=e35.size;have hb3:=b3.lt;have hg:=m.lt;refine aU (cs:=[(false,[.int .i64])]) (fun x w h'=>∃ (i:Nat) (p:ZC) (l c:Nat),x.1=(i:Int)/\i<=ks.length/\w=ks.length-i/\Ch [h1.size] h5 h'/\bH h' h1.size 69 [.slice p l c,.int .u32 n] /\
  SL h' h5.size 117 2 p l c (((ks.take i).filterMap fun k=>if dO D ⟨k.toArray⟩=0 then none else some ((⟨k.toArray⟩:ZA),dO D ⟨k.toArray⟩)).map dc)/\l<=i) ((0:Int),()) ks.length rfl
  ⟨0,none,0,0,rfl,ad,ad,Ch.refl _ _,b5,SL.nil _ _ _ _,ad⟩ ?_
 rintro ⟨n8,⟨⟩⟩ w h6 ⟨i,p,l,c,hi,hile,rfl,k6,b6,s6,hli⟩;simp only at hi;subst hi;refine ao ?_;have m6:=m5.an k6 (by simp; omega);have hz6:=k6.size;have e06:Ext h h6:=Ch.trans e05 k6 (fun j hj hl=>by simp at hj; omega);refine ak (fun g1=>?_) (fun g1=>?_)
 ·have g1:=W2 g1;have hilt:i<ks.length:=ad
  have sk6:=sk.bM k6 (fun j hj=>by have:=(sk.cj hj).1; simp; omega);obtain ⟨a,rfl,hc⟩:=sk6.cells (i:=i) (by simpa using hilt);rw [Xc] at hc;have htk:ks.take (i+1)=ks.take i++[ks[i]]:=W7 hilt;generalize ks[i]=k at hc htk;refine ay ⟨ad,ad⟩ (ax rfl ?_);rw [show Int.toNat (i:Int)=i from ad];refine aC ((⟨k.toArray⟩:ZA),()) hc (ao ?_);have hw:IntKind.wrap .i64 ((i:Int)+1)=((i+1:Nat):Int):=by rw [wrap_i64 ad ad]; omega
  refine oS m6 _ (ak (fun g2=>?_) (fun g2=>?_))
  ·have g2:((dO D ⟨k.toArray⟩:Nat):Int)≠0:=by simpa using g2
   refine af b6 ((p,l,c),()) rfl (ao ?_);refine oS m6 _ ?_;refine mi (vs:=dc (⟨k.toArray⟩,dO D ⟨k.toArray⟩)) yK sD rfl ad ad az rfl rfl s6 hz6 ad ad ?_;intro p' c' h7 s7 k7 hp7;have b7:=b6.an k7 (fun hh=>by have:=(s6.cj hh).1; omega);refine aw b7 rfl aj ?_;intro h8 b8 k8 z8;refine aI (cs:=[(false,[.int .i64])]) (((i+1:Nat):Int),()) (ks.length-(i+1)) rfl ad (Xj (fun z=>[Value.int .i64 z]) hw) ⟨i+1,p',l+1,c',rfl,ad,rfl,?_,b8,?_,ad⟩
   ·exact Ch.trans (Ch.trans k6 k7 (fun j hj hl=>by have:=(s6.cj hj).1; omega)) k8 (fun j hj _=>hj)
   ·rw [htk,YB,Xf];have hf:([k].filterMap fun k=>if dO D ⟨k.toArray⟩=0 then none else some ((⟨k.toArray⟩:ZA),dO D ⟨k.toArray⟩))=[((⟨k.toArray⟩:ZA),dO D ⟨k.toArray⟩)]:=by
     simp only [List.filterMap_cons,List.filterMap_nil];rw [W6 ad]
    rw [hf];exact s7.bM k8 (fun j hj=>by have:=(s7.cj hj).1; simp; omega)
  ·have g2:((dO D ⟨k.toArray⟩:Nat):Int)=0:=by simpa using g2
   refine aI (cs:=[(false,[.int .i64])]) (((i+1:Nat):Int),()) (ks.length-(i+1)) rfl ad (Xj (fun z=>[Value.int .i64 z]) hw) ⟨i+1,p,l,c,rfl,ad,rfl,k6,b6,?_,ad⟩;rw [htk,YB];have hf:([k].filterMap fun k=>if dO D ⟨k.toArray⟩=0 then none else some ((⟨k.toArray⟩:ZA),dO D ⟨k.toArray⟩))=[]:=by
    simp only [List.filterMap_cons,List.filterMap_nil];rw [Xb ad]
   rw [hf,X4];exact s6
 ·have g1:=W4 g1;have hi:i=ks.length:=ad
  subst hi;rw [XB] at s6;have c6:=c5.an k6 (by simp; omega);refine af b6 ((p,l,c),n,()) rfl (ao ?_);refine aw c6 rfl aj ?_;intro h7 b7 k7 z7;have b7:bH h7 h.size 69 [.slice p l c,.int .u32 n]:=b7;refine af b7 ((p,l,c),n,()) rfl ?_;have hz5:=e05.size;exact ⟨Ch.trans e06 k7 (fun j hj hl=>by simp at hj; omega),p,l,c,rfl,(s6.bM k7 (fun j hj=>by have:=(s6.cj hj).1; simp; omega)).mono ad⟩
structure gK (h:Hp) (p:ZC) (l:Nat) (us:da):Prop where
 len:l=us.length
 cells:∀ i,(hi:i<us.length)->∃ a,p=some a/\aJ h (a.add (i*2)) 0 (dc us[i])
def gK.an {ws:List Nat} {h h':Hp} {p:ZC} {l:Nat} {us:da} (v:gK h p l us) (k:Ch ws h h') (hw:∀ i,i∈aP p->i∉ws):gK h' p l us :=
 ⟨v.len,fun i hi=>by
  obtain ⟨a,ha,hc⟩:=v.cells i hi;exact ⟨a,ha,aX k (by rw [gU]; exact hw _ (by rw [ha]; simp [aP])) _ _ hc⟩⟩
def SL.QD {h:Hp} {b:Nat} {e:TypeId} {p:ZC} {l c:Nat} {us:da} (s:SL h b e 2 p l c (us.map dc)):gK h p l us:=by
 refine ⟨by rw [s.1,W3],fun i hi=>?_⟩;obtain ⟨a,ha,hc⟩:=s.cells (i:=i) (by simpa using hi);rw [Xc] at hc;exact ⟨a,ha,hc⟩
structure cm where
 ai:da
 num:Nat
def iA (p:ZC) (l c:Nat) (x:cm):ZB:=.agg #[.slice p l c,.int .u32 x.num]
def Dl (l:da):da:=Du (l.foldl iR [])
def lS (x y:cm):cm:=⟨Dl (x.ai++y.ai),(x.num+y.num) % 4294967296⟩
def dS (x:Int):IntKind.wrap .u32 x=x % 4294967296:=by
 simp only [IntKind.wrap] <;> rfl
def iy (a:Nat):((a % 4294967296:Nat):Int)=(a:Int) % 4294967296:=Int.natCast_emod a 4294967296
def gS (a b:ZA):Prop:=a.data.toList<b.data.toList
instance (a b:ZA):Decidable (gS a b):=inferInstanceAs (Decidable (a.data.toList<b.data.toList))
def Aa (a:ZA):¬ gS a a:=List.lt_irrefl (α:=UInt8) _
def jr {a b c:ZA} (h:gS a b) (k:gS b c):gS a c:=List.lt_trans (α:=UInt8) h k
def xw {a b:ZA} (h:a.data.toList=b.data.toList):a=b:=by
 cases a; cases b;simp only at h;rw [XM.1 h]
def yx (a b:ZA) (h:¬ gS a b) (k:¬ gS b a):a=b :=
 xw (List.le_antisymm (α:=UInt8) (List.not_lt.1 k) (List.not_lt.1 h))
def j7 {a b:ZA} (h:gS a b):a≠b:=fun e=>by subst e; exact Aa _ h
def Bq {a b:ZA} (h:gS a b):¬ gS b a:=fun k=>Aa _ (jr h k)
structure Nf (l:da):Prop where
 RJ:l.Pairwise fun p q=>gS p.1 q.1
 EI:∀ p,p∈l->p.2≠0/\p.2<4294967296
def cf:da->ZA->Nat
 | [],_=>0
 | p::l,s=>(if p.1=s then p.2 else 0)+cf l s
def y5 (s:ZA):cf [] s=0:=rfl
def eJ (p:ZA × Nat) (l:da) (s:ZA):cf (p::l) s=(if p.1=s then p.2 else 0)+cf l s:=rfl
def Nf.tail {p:ZA × Nat} {l:da} (h:Nf (p::l)):Nf l:=⟨(Yp.1 h.1).2,fun q hq=>h.2 q (Xh _ hq)⟩
def Nf.head {p:ZA × Nat} {l:da} (h:Nf (p::l)):∀ q,q∈l->gS p.1 q.1:=(Yp.1 h.1).1
def Nf.nil:Nf []:=⟨List.Pairwise.nil,aj⟩
def yo {l:da} {s:ZA} (h:∀ p,p∈l->p.1≠s):cf l s=0:=by
 induction l with
 | nil=>rfl
 | cons p l ih =>
  rw [eJ,W6 (h p (YD ..)),ih fun q hq=>h q (Xh _ hq)]
def Jg (l m:da) (s:ZA):cf (l++m) s=cf l s+cf m s:=by
 induction l with
 | nil=>simp [cf]
 | cons p l ih=>simp only [List.cons_append,cf,ih]; omega
def Nf.mz {p:ZA × Nat} {l:da} (h:Nf (p::l)):cf (p::l) p.1=p.2:=by
 rw [eJ,Xb rfl,yo fun q hq=>(j7 (h.head q hq)).symm] <;> rfl
def Nf.CM {l:da} {s:ZA} (h:∀ p,p∈l->gS s p.1):cf l s=0:=yo fun p hp=>(j7 (h p hp)).symm
theorem Nf.PL:∀ {l m:da},Nf l->Nf m->(∀ s,cf l s % 4294967296=cf m s % 4294967296)->l=m
 | [],[],_,_,_=>rfl
 | [],q::m,_,hm,h=>by
  have:=h q.1
  rw [hm.mz] at this;have hq:=hm.EI q (YD ..);simp only [cf] at this;omega
 | p::l,[],hl,_,h=>by
  have:=h p.1
  rw [hl.mz] at this;have hq:=hl.EI p (YD ..);simp only [cf] at this;omega
 | p::l,q::m,hl,hm,h=>by
  have hp:=hl.EI p (YD ..);have hq:=hm.EI q (YD ..)
  by_cases h1:gS p.1 q.1
  ·exfalso
   have:=h p.1
   rw [hl.mz,Nf.CM (l:=q::m) (s:=p.1) (by
    intro r hr;rcases Xq.1 hr with rfl | hr
    ·exact h1
    ·exact jr h1 (hm.head r hr))] at this
   omega
  ·by_cases h2:gS q.1 p.1
   ·exfalso
    have:=h q.1
    rw [hm.mz,Nf.CM (l:=p::l) (s:=q.1) (by
     intro r hr;rcases Xq.1 hr with rfl | hr
     ·exact h2
     ·exact jr h2 (hl.head r hr))] at this
    omega
   ·have he:=yx _ _ h1 h2;have h3:=h p.1;rw [hl.mz,he,hm.mz] at h3;have hpq:p=q:=by
     obtain ⟨a,b⟩:=p;obtain ⟨c,d⟩:=q;simp only at he h3 hp hq;subst he
     congr 1
     rw [YL hp.2,YL hq.2] at h3;exact h3
    subst hpq
    congr 1
    refine Nf.PL hl.tail hm.tail fun s=>?_
    by_cases hs:p.1=s
    ·subst hs;rw [Nf.CM hl.head,Nf.CM hm.head]
    ·have:=h s
     simp only [cf,if_neg hs,Nat.zero_add] at this;exact this
def qk (s:ZA):dO [] s=0:=rfl
def ob (p:ZA × Nat) (D:da) (s:ZA):dO (p::D) s=if s=p.1 then p.2 else dO D s:=by
 unfold dO;rw [Y1]
 by_cases h:s=p.1
 ·simp [h]
 ·simp [h]
def Es (D:da) (s t:ZA) (v:Nat):dO (D++[(t,v)]) s=if (D.find? fun p=>decide (s=p.1)).isSome then dO D s else if s=t then v else 0:=by
 induction D with
 | nil=>simp [ob,qk]
 | cons p D ih =>
  rw [YK,ob,ob,ih,Y1]
  by_cases h:s=p.1
  ·simp [h]
  ·simp only [decide_eq_false h,if_neg h]
def Bn {D:da} {s:ZA} (h:(D.find? fun p=>decide (s=p.1)).isSome=false):dO D s=0:=by
 unfold dO;cases hf:(D.find? fun p=>decide (s=p.1)) with
 | none=>rfl
 | some x=>rw [hf] at h; cases h
def Kz (D:da) (t:ZA) (v:Nat) (s:ZA):dO (D.map fun p=>if t=p.1 then (p.1,v) else p) s=if s=t/\(D.find? fun p=>decide (t=p.1)).isSome then v else dO D s:=by
 induction D with
 | nil=>simp [qk]
 | cons p D ih =>
  rw [XH,ob,ih,ob,Y1]
  by_cases h:t=p.1
  ·subst h
   by_cases k:s=p.1 <;> simp [k]
  ·rw [W6 h]
   by_cases k:s=p.1
   ·subst k
    have:¬ p.1=t:=fun e=>h e.symm
    simp [this]
   ·simp only [decide_eq_false h,if_neg k]
def BE (D:da) (t:ZA) (v:Nat) (s:ZA):dO (uf D t v) s=if s=t then v else dO D s:=by
 unfold uf;split
 ·rename_i hh;rw [Kz]
  by_cases k:s=t <;> simp [k,hh]
 ·rename_i hh;rw [Es]
  by_cases k:s=t
  ·subst k;simp [hh]
  ·rw [W6 k];split
   ·rfl
   ·rename_i h2;rw [Bn (Bool.eq_false_iff.2 h2)]
def Gr (l:da) (s:ZA):∀ D:da,dO (l.foldl iR D) s % 4294967296=(dO D s+cf l s) % 4294967296:=by
 induction l with
 | nil=>intro D; simp [cf]
 | cons p l ih =>
  intro D;rw [XE,ih];unfold iR;rw [eJ,BE]
  by_cases h:s=p.1
  ·subst h;rw [Xb rfl,Xb rfl,Nat.mod_add_mod]
   congr 1; omega
  ·rw [W6 h,W6 fun e=>h e.symm]
   congr 1; omega
def GB {D:da} (h:(D.map (·.1)).Nodup) (t:ZA) (v:Nat):((uf D t v).map (·.1)).Nodup:=by
 unfold uf;have h1:(D.find? fun p=>decide (t=p.1)).isSome=true↔t∈D.map (·.1):=by
  rw [List.find?_isSome];simp [eq_comm]
 split
 ·have e:(D.map fun p=>if t=p.1 then (p.1,v) else p).map (·.1)=D.map (·.1):=by
   rw [Xv];refine XQ fun p hp=>?_
   simp only [Function.comp];split <;> rfl
  rw [e]; exact h
 ·rename_i hn;rw [Xf,XW];refine ⟨h,aj,?_⟩;rintro a ha b hb rfl;simp only [List.map_cons,List.map_nil,List.mem_singleton] at hb;subst hb;exact hn (h1.2 ha)
def zc (l:da):∀ D:da,(D.map (·.1)).Nodup->((l.foldl iR D).map (·.1)).Nodup:=by
 induction l with
 | nil=>intro D h; exact h
 | cons p l ih =>
  intro D h;rw [XE];exact ih _ (GB h _ _)
def HW (l:da):∀ D:da,(∀ s,dO D s<4294967296)->∀ s,dO (l.foldl iR D) s<4294967296:=by
 induction l with
 | nil=>intro D h; exact h
 | cons p l ih =>
  intro D h;rw [XE];refine ih _ fun s=>?_
  unfold iR;rw [BE];split
  ·exact Zg _ cn
  ·exact h s
def NX {D:da} {s:ZA} (h:s∉D.map (·.1)):dO D s=0:=by
 refine Bn ?_;cases hf:(D.find? fun p=>decide (s=p.1)).isSome with
 | false=>rfl
 | true =>
  rw [List.find?_isSome] at hf;obtain ⟨x,hx,hs⟩:=hf;exact absurd (Xd.2 ⟨x,hx,(W2 hs).symm⟩) h
def pick (g:ZA->Nat) (ks:List (List UInt8)):da:=ks.filterMap fun k=>if g ⟨k.toArray⟩=0 then none else some (⟨k.toArray⟩,g ⟨k.toArray⟩)
def Qp (g:ZA->Nat) (s:ZA):∀ ks:List (List UInt8),ks.Nodup->cf (pick g ks) s=if s.data.toList∈ks then g s else 0:=by
 intro ks
 induction ks with
 | nil=>intro _; simp [pick,cf]
 | cons k ks ih =>
  intro h;rw [YA] at h;have ih:=ih h.2;unfold pick at ih ⊢;rw [List.filterMap_cons];have e1:(⟨k.toArray⟩:ZA)=s↔s.data.toList=k:=by
   constructor
   ·rintro rfl; simp
   ·intro e; exact xw (by simp [e])
  by_cases hk:s.data.toList=k
  ·have hs:=e1.2 hk;rw [hs];split
   ·rename_i hg;split at hg
    ·rename_i h0;rw [ih,h0]
     simp
    ·cases hg
   ·rename_i hg;split at hg
    ·cases hg
    ·cases hg;rw [eJ,ih,Xb rfl,W6 (by rw [hk]; exact h.1),Xb (by rw [hk]; simp)] <;> rfl
  ·have hs:¬ (⟨k.toArray⟩:ZA)=s:=fun e=>hk (e1.1 e)
   split
   ·rw [ih];simp [hk]
   ·rename_i hg;split at hg
    ·cases hg
    ·cases hg;rw [eJ,ih,W6 hs];simp [hk]
def Qg (g:ZA->Nat) (hg:∀ s,g s<4294967296) {ks:List (List UInt8)} (h:ks.Pairwise fun a b=>a<b):Nf (pick g ks):=by
 refine ⟨?_,?_⟩
 ·unfold pick;refine List.Pairwise.filterMap _ ?_ h;intro a b hab p hp q hq;split at hp
  ·cases hp
  ·split at hq
   ·cases hq
   ·cases hp; cases hq;unfold gS;simpa using hab
 ·intro p hp;unfold pick at hp;rw [Yw] at hp;obtain ⟨k,_,hk⟩:=hp;split at hk
  ·cases hk
  ·rename_i h0;cases hk;exact ⟨h0,hg _⟩
def xp (D:da):(keysOf (vm D)).Perm (D.map fun p=>p.1.data.toList):=by
 unfold keysOf vm;rw [Xv];exact List.mergeSort_perm _ _
def sG {D:da} (h:(D.map (·.1)).Nodup):(keysOf (vm D)).Pairwise fun a b=>a<b:=by
 have hn:(keysOf (vm D)).Nodup:=by
  refine (xp D).nodup_iff.2 ?_
  have:(D.map fun p=>p.1.data.toList)=(D.map (·.1)).map fun s=>s.data.toList:=by rw [Xv]; rfl
  rw [this];exact X5.2 (h.imp fun hne e=>hne (xw e))
 have hs:(keysOf (vm D)).Pairwise fun a b=>a<=b:=by
  unfold keysOf;refine (List.pairwise_mergeSort ?_ ?_ _).imp ?_
  ·intro a b c h1 h2;exact W9 (List.le_trans (α:=UInt8) (W2 h1) (W2 h2))
  ·intro a b;simp only [Bool.or_eq_true,decide_eq_true_eq];exact List.le_total (α:=UInt8) a b
  ·intro a b hab;exact W2 hab
 refine (hs.and hn).imp ?_;rintro a b ⟨h1,h2⟩
 by_cases hlt:a<b
 ·exact hlt
 ·exact absurd (List.le_antisymm (α:=UInt8) h1 (List.not_lt.1 hlt)) h2
def Fu (l:da):Dl l=pick (dO (l.foldl iR [])) (keysOf (vm (l.foldl iR []))):=rfl
def zu (l:da):Nf (Dl l):=by
 rw [Fu];exact Qg _ (HW l [] (fun s=>by rw [qk]; decide)) (sG (zc l [] aj))
def Ac (l:da) (s:ZA):cf (Dl l) s=cf l s % 4294967296:=by
 have h1:=Gr l s [];rw [qk,XK,YL (HW l [] (fun s=>by rw [qk]; decide) s)] at h1;rw [Fu,Qp _ _ _ ((sG (zc l [] aj)).imp fun h e=>by subst e; exact List.lt_irrefl (α:=UInt8) _ h)];split
 ·exact h1
 ·rename_i hn;rw [<- h1,NX];intro hm;refine hn ((xp _).mem_iff.2 ?_);obtain ⟨p,hp,rfl⟩:=Xd.1 hm;exact Xd.2 ⟨p,hp,rfl⟩
def ff (n:Nat) (l:da):da:=l.filterMap fun p=>if p.2*n % 4294967296=0 then none else some (p.1,p.2*n % 4294967296)
def fh:Nat->da->da->da
 | 0,_,_=>[]
 | n+1,x,y=>match x,y with
  | [],[]=>[]
  | p::x,[]=>p::fh n x []
  | [],q::y=>q::fh n [] y
  | p::x,q::y=>if gS p.1 q.1 then p::fh n x (q::y) else if gS q.1 p.1 then q::fh n (p::x) y else if (p.2+q.2) % 4294967296=0 then fh n x y else (p.1,(p.2+q.2) % 4294967296)::fh n x y
def Jp (x y:da):da:=fh (x.length+y.length) x y
def IJ {n:Nat} {l:da} (h:Nf l):Nf (ff n l):=by
 refine ⟨?_,?_⟩
 ·unfold ff;refine List.Pairwise.filterMap _ ?_ h.1;intro a b hab p hp q hq;split at hp
  ·cases hp
  ·split at hq
   ·cases hq
   ·cases hp; cases hq;exact hab
 ·intro p hp;unfold ff at hp;rw [Yw] at hp;obtain ⟨k,_,hk⟩:=hp;split at hk
  ·cases hk
  ·rename_i h0;cases hk;exact ⟨h0,Zg _ cn⟩
def JN (n:Nat) (l:da) (s:ZA):cf (ff n l) s % 4294967296=cf l s*n % 4294967296:=by
 induction l with
 | nil=>simp [ff,cf]
 | cons p l ih =>
  have hc:cf (ff n (p::l)) s=(if p.1=s then p.2*n % 4294967296 else 0)+cf (ff n l) s:=by
   unfold ff;rw [List.filterMap_cons];split
   ·rename_i hg;split at hg
    ·rename_i h0;rw [h0]; simp
    ·cases hg
   ·rename_i hg;split at hg
    ·cases hg
    ·cases hg;rfl
  rw [hc,YE,ih,eJ]
  by_cases h:p.1=s
  ·rw [Xb h,Xb h,Ya,Zl,<- YE]
  ·rw [W6 h,W6 h,XK]; simp
def ql {n:Nat} {x y:da} {r:ZA × Nat} (h:r∈fh n x y):(∃ p,p∈x/\p.1=r.1)\/(∃ q,q∈y/\q.1=r.1):=by
 induction n generalizing x y with
 | zero=>simp [fh] at h
 | succ n ih =>
  rcases x with _ | ⟨p,x⟩ <;> rcases y with _ | ⟨q,y⟩
  ·simp [fh] at h
  ·simp only [fh,List.mem_cons] at h;rcases h with rfl | h
   ·exact .inr ⟨_,aj,rfl⟩
   ·rcases ih h with ⟨a,ha,e⟩ | ⟨a,ha,e⟩
    ·simp at ha
    ·exact .inr ⟨a,by simp [ha],e⟩
  ·simp only [fh,List.mem_cons] at h;rcases h with rfl | h
   ·exact .inl ⟨_,aj,rfl⟩
   ·rcases ih h with ⟨a,ha,e⟩ | ⟨a,ha,e⟩
    ·exact .inl ⟨a,by simp [ha],e⟩
    ·simp at ha
  ·simp only [fh] at h;split at h
   ·rcases Xq.1 h with rfl | h
    ·exact .inl ⟨_,aj,rfl⟩
    ·rcases ih h with ⟨a,ha,e⟩ | ⟨a,ha,e⟩
     ·exact .inl ⟨a,by simp [ha],e⟩
     ·exact .inr ⟨a,ha,e⟩
   ·split at h
    ·rcases Xq.1 h with rfl | h
     ·exact .inr ⟨_,aj,rfl⟩
     ·rcases ih h with ⟨a,ha,e⟩ | ⟨a,ha,e⟩
      ·exact .inl ⟨a,ha,e⟩
      ·exact .inr ⟨a,by simp [ha],e⟩
    ·split at h
     ·rcases ih h with ⟨a,ha,e⟩ | ⟨a,ha,e⟩
      ·exact .inl ⟨a,by simp [ha],e⟩
      ·exact .inr ⟨a,by simp [ha],e⟩
     ·rcases Xq.1 h with rfl | h
      ·exact .inl ⟨p,aj,rfl⟩
      ·rcases ih h with ⟨a,ha,e⟩ | ⟨a,ha,e⟩
       ·exact .inl ⟨a,by simp [ha],e⟩
       ·exact .inr ⟨a,by simp [ha],e⟩
def Nf.cons {p:ZA × Nat} {l:da} (h:Nf l) (hc:p.2≠0/\p.2<4294967296) (hl:∀ q,q∈l->gS p.1 q.1):Nf (p::l) :=
 ⟨Yp.2 ⟨hl,h.1⟩,fun q hq=>by rcases Xq.1 hq with rfl | hq; exact hc; exact h.2 q hq⟩
def PS {n:Nat} {x y:da} (hx:Nf x) (hy:Nf y):Nf (fh n x y):=by
 induction n generalizing x y with
 | zero=>exact Nf.nil
 | succ n ih =>
  rcases x with _ | ⟨p,x⟩ <;> rcases y with _ | ⟨q,y⟩
  ·exact Nf.nil
  ·simp only [fh];refine (ih Nf.nil hy.tail).cons (hy.2 q aj) fun r hr=>?_
   rcases ql hr with ⟨a,ha,e⟩ | ⟨a,ha,e⟩
   ·simp at ha
   ·rw [<- e]; exact hy.head a ha
  ·simp only [fh];refine (ih hx.tail Nf.nil).cons (hx.2 p aj) fun r hr=>?_
   rcases ql hr with ⟨a,ha,e⟩ | ⟨a,ha,e⟩
   ·rw [<- e]; exact hx.head a ha
   ·simp at ha
  ·simp only [fh];split
   ·rename_i h1;refine (ih hx.tail hy).cons (hx.2 p aj) fun r hr=>?_
    rcases ql hr with ⟨a,ha,e⟩ | ⟨a,ha,e⟩
    ·rw [<- e]; exact hx.head a ha
    ·rw [<- e];rcases Xq.1 ha with rfl | ha
     ·exact h1
     ·exact jr h1 (hy.head a ha)
   ·rename_i h1;split
    ·rename_i h2;refine (ih hx hy.tail).cons (hy.2 q aj) fun r hr=>?_
     rcases ql hr with ⟨a,ha,e⟩ | ⟨a,ha,e⟩
     ·rw [<- e];rcases Xq.1 ha with rfl | ha
      ·exact h2
      ·exact jr h2 (hx.head a ha)
     ·rw [<- e]; exact hy.head a ha
    ·rename_i h2;have he:=yx _ _ h1 h2;split
     ·exact ih hx.tail hy.tail
     ·rename_i h0;refine (ih hx.tail hy.tail).cons ⟨h0,Zg _ cn⟩ fun r hr=>?_
      rcases ql hr with ⟨a,ha,e⟩ | ⟨a,ha,e⟩
      ·rw [<- e]; exact hx.head a ha
      ·rw [<- e];show gS p.1 a.1;rw [he]; exact hy.head a ha
def Pf {n:Nat} {x y:da} (hn:x.length+y.length<=n) (s:ZA):cf (fh n x y) s % 4294967296=(cf x s+cf y s) % 4294967296:=by
 induction n generalizing x y with
 | zero =>
  have h1:x=[]:=YG.1 ad;have h2:y=[]:=YG.1 ad;subst h1 h2;rfl
 | succ n ih =>
  rcases x with _ | ⟨p,x⟩ <;> rcases y with _ | ⟨q,y⟩
  ·rfl
  ·simp only [fh,eJ,y5]
   have:=ih (x:=[]) (y:=y) (by simp at hn ⊢; omega)
   simp only [y5] at this;omega
  ·simp only [fh,eJ,y5]
   have:=ih (x:=x) (y:=[]) (by simp at hn ⊢; omega)
   simp only [y5] at this;omega
  ·simp only [List.length_cons] at hn;simp only [fh];split
   ·have:=ih (x:=x) (y:=q::y) (by simp; omega)
    simp only [eJ] at this ⊢;omega
   ·rename_i h1;split
    ·have:=ih (x:=p::x) (y:=y) (by simp; omega)
     simp only [eJ] at this ⊢;omega
    ·rename_i h2;have he:=yx _ _ h1 h2
     have:=ih (x:=x) (y:=y) ad
     split
     ·rename_i h0;simp only [eJ,<- he];split
      ·omega
      ·omega
     ·simp only [eJ,<- he];split
      ·omega
      ·omega
def P7 {x y:da} (hx:Nf x) (hy:Nf y):Nf (Jp x y):=PS hx hy
def PX (x y:da) (s:ZA):cf (Jp x y) s % 4294967296=(cf x s+cf y s) % 4294967296:=Pf (Xk _) s
def CP (n:Nat) (l:da) (s:ZA):cf (l.map fun p=>(p.1,p.2*n % 4294967296)) s % 4294967296=cf l s*n % 4294967296:=by
 induction l with
 | nil=>simp [cf]
 | cons p l ih =>
  simp only [List.map_cons,cf];rw [YE,ih]
  by_cases h:p.1=s
  ·rw [Xb h,Xb h,Ya,Zl,<- YE]
  ·rw [W6 h,W6 h,XK]; simp
def B1 (x:cm) (n:Nat):cm:=⟨ff n x.ai,x.num*n % 4294967296⟩
def w7 (x y:cm):cm:=⟨Jp x.ai y.ai,(x.num+y.num) % 4294967296⟩
def AB (n:Nat) (l:da):(ff n l).length<=l.length:=List.length_filterMap_le _ _
def T' (r:Option Nat) (p:ZC) (l lv:Nat) (k:T):T :=
 T.loop [aR] [.int .i64 (0:Int)] <| fun (n20:Int) =>
 bG n20 l
  (T.need (fo n20 l) <|
  T.bF p <| fun (a21:Zx) =>
  T.ah (a21.add (aQ n20 2)) [.string,.int .u32] <| fun (s22:ZA) (n23:Int) =>
  T.new [bT,aH (0:Int)] 117 <| fun (a24:Zx) =>
  T.aE a24 [.string s22,aH n23] <|
  T.ah a24 [.string] <| fun (s25:ZA) =>
  bR (Instr.lookup 183 (.map r) (.string s25) false) false [(false,[.int .u32])] <| fun (n26:Int) =>
  T.ah (a24.add 1) [.int .u32] <| fun (n27:Int) =>
  T.ei Tryz.prog (Instr.mapUpdate 183 (.map r) (.string s25) (aH (IntKind.wrap .u32 (n26+n27)))) <|
  T.again lv [.int .i64 (bt (n20+(1:Int)))]) k
def uq (l:da):∀ D:da,(l.foldl iR D).length<=D.length+l.length:=by
 induction l with
 | nil=>intro D; simp
 | cons p l ih =>
  intro D;rw [XE];have h1:=ih (iR D p);have h2:=FE D p.1 ((dO D p.1+p.2) % 4294967296);have h3:(iR D p).length<=D.length+1:=h2;simp only [List.length_cons];omega
def Iw {L:Lp} {K:ZB->Hp->Prop} {h:Hp} {g:Nat} {p:ZC} {l:Nat} {us D:da} {k:T} {lv:Nat} (hlv:L.length=lv) (v:gK h p l us) (hl:us.length<=2^40) (hs:∀ t,t∈us->t.1.size<=maxLen) (m:dT h g (vm D)) (hg:g∉aP p)
  (hk:∀ J h',dT h' g (vm (us.foldl iR D))->Ch [g] h h'->k (L++[J]) K h'):T' (some g) p l lv k L K h:=by
 have hll:=v.len;have hL:∀ J:List ZB->Hp->Prop,(L++[J])[lv]?=some J:=by intro J; subst hlv; simp
 unfold T' bG aQ bR bt fo aH bT aR;refine aU (cs:=[(false,[.int .i64])]) (fun y w h'=>∃ (i:Nat),y.1=(i:Int)/\i<=us.length/\w=us.length-i/\Ch [g] h h'/\dT h' g (vm ((us.take i).foldl iR D))) ((0:Int),()) us.length rfl
  ⟨0,rfl,ad,ad,Ch.refl _ _,by simpa using m⟩ ?_
 rintro ⟨n8,⟨⟩⟩ w h4 ⟨i,hi,hile,rfl,k4,m4⟩;simp only at hi;subst hi;refine ao ?_;refine ak (fun g1=>?_) (fun g1=>?_)
 ·have g1:=W2 g1;have hilt:i<us.length:=ad
  obtain ⟨a,rfl,hc⟩:=(v.an k4 (by intro j hj hm; rw [Xm] at hm; subst hm; exact hg hj)).cells i hilt;have htk:us.take (i+1)=us.take i++[us[i]]:=W7 hilt;have hsz:=hs us[i] (Xe hilt);generalize us[i]=t at hc htk hsz;refine ay ⟨ad,ad⟩ (ax rfl ?_);rw [show Int.toNat (i:Int)=i from ad];refine aC (t.1,(t.2:Int),()) hc (ao ?_);refine bk ?_;intro h5 b5 e5 z5;refine aw b5 rfl aj ?_;intro h6 b6 k6 z6;have b6:bH h6 h4.size 117 (dc t):=b6;have e46:Ext h4 h6:=Ch.trans e5 k6 (fun j hj hl=>by simp at hj; omega);have m6:=m4.an e46 aj;refine af b6 (t.1,()) rfl (ao ?_);refine oS m6 _ ?_;rw [aG];refine af b6 ((t.2:Int),()) rfl (ao ?_);generalize hDD:(us.take i).foldl iR D=D' at m6;refine Gu (n:=(dO D' t.1+t.2) % 4294967296) m6 hsz ?_ ?_
  ·rw [dS,iy,Y2]
  ·intro h7 m7 k7 z7;have hw:IntKind.wrap .i64 ((i:Int)+1)=((i+1:Nat):Int):=by rw [wrap_i64 ad ad]; omega
   have hf:(us.take (i+1)).foldl iR D=uf D' t.1 ((dO D' t.1+t.2) % 4294967296):=by
    rw [htk,XX,hDD] <;> rfl
   refine aI (cs:=[(false,[.int .i64])]) (((i+1:Nat):Int),()) (us.length-(i+1)) (hL _) ad (Xj (fun z=>[Value.int .i64 z]) hw) ⟨i+1,rfl,ad,rfl,?_,by rw [hf]; exact m7⟩;exact Ch.trans (Ch.trans k4 e46 aj) k7 (fun j hj _=>hj)
 ·have g1:=W4 g1;have hi:i=us.length:=ad
  subst hi;rw [XB] at m4;exact hk _ _ m4 k4
def gK.Tw {h:Hp} {p:ZC} {l:Nat} {us:da} (v:gK h p l us) (hn:us≠[]):∀ i,i∈aP p->i<h.size:=by
 intro i hi;cases us with
 | nil=>exact absurd rfl hn
 | cons t us =>
  obtain ⟨a,rfl,hc⟩:=v.cells 0 aj;simp only [aP,List.mem_singleton] at hi;subst hi;rw [show a.add (0*2)=a by simp [Addr.add]] at hc;have h1:=hc.1;unfold iq at h1;split at h1
  ·rename_i hg
   have:=eX hg
   simpa [gU] using this
  ·cases h1
def Ur:Tryz.prog.underlying 188=some (.slice 66):=az
def UO:(Tryz.prog.info? 66).map (fun i=>(i.zero,i.size,i.bytes))=some (some (.slice none 0 0),1,24):=az
def R3 {h:Hp} {p q:ZC} {l c m d:Nat} {x y:cm} (v:gK h p l x.ai) (u:gK h q m y.ai) (hp:∀ i,i∈aP p->i<h.size) (hq:∀ i,i∈aP q->i<h.size)
  (hl:x.ai.length+y.ai.length<=2^40) (hx:∀ t,t∈x.ai->t.1.size<=maxLen) (hy:∀ t,t∈y.ai->t.1.size<=maxLen) :
  HC Tryz.prog 67 #[iA p l c x,iA q m d y] h fun w h'=>Ext h h'/\∃ p' l' c',w=iA p' l' c' (lS x y)/\SL h' h.size 117 2 p' l' c' ((lS x y).ai.map dc):=by
 refine bd (args:=[.agg #[.slice p l c,.int .u32 x.num],.agg #[.slice q m d,.int .u32 y.num]]) mixed Tryz.func67 az (Av p l c x.num q m d y.num) ?_;unfold zG bf bh bG aQ bK bm bR aH bi bT aR;refine bk ?_;intro h1 b1 e1 z1;refine bk ?_;intro h2 b2 e2 z2;refine bk ?_;intro h3 b3 e3 z3;refine jx _ ?_;intro h4 m4 e4 z4;refine ⟨(some h3.size,()),rfl,ao ?_⟩;have b1:=((b1.an e2 aj).an e3 aj).an e4 aj;have b2:=(b2.an e3 aj).an e4 aj;have b3:=b3.an e4 aj;have e04:=((e1.trans e2).trans e3).trans e4;refine af b1 ((p,l,c),()) rfl (ao ?_);refine af b2 ((q,m,d),()) rfl (ao ?_);refine mH (cells:=[.slice p l c,.slice q m d]) Ur UO cn cn az ?_;intro h5 b5 e5 z5;have m5:dT h5 h3.size (vm []):=m4.an e5 aj;have b1:=b1.an e5 aj;have b2:=b2.an e5 aj;have b3:=b3.an e5 aj;have e05:=e04.trans e5;have hb5:=b5.lt;have hm4:=m4.lt;refine aU (cs:=[(false,[.int .i64])]) (fun z w h'=>∃ (i:Nat),z.1=(i:Int)/\i<=2/\w=2-i/\Ch [h3.size] h5 h'/\dT h' h3.size (vm ((([x.ai,y.ai].take i).flatten).foldl iR []))) ((0:Int),()) 2 rfl
  ⟨0,rfl,ad,ad,Ch.refl _ _,m5⟩ ?_
 rintro ⟨n8,⟨⟩⟩ w h6 ⟨i,hi,hile,rfl,k6,m6⟩;simp only at hi;subst hi;refine ao ?_;have b6:=b5.an k6 (by simp; omega);have e06:Ext h h6:=Ch.trans e05 k6 (fun j hj hl=>by simp at hj; omega);refine ak (fun g1=>?_) (fun g1=>?_)
 ·have g1:=W2 g1;refine ay ⟨ad,ad⟩ (ax rfl ?_);rw [show Int.toNat (i:Int)=i from ad,aG];have hw:IntKind.wrap .i64 ((i:Int)+1)=((i+1:Nat):Int):=by rw [wrap_i64 ad ad]; omega
  have hi2:i=0\/i=1:=ad
  rcases hi2 with rfl | rfl
  ·refine af b6 ((p,l,c),()) rfl (ao ?_);refine Iw (us:=x.ai) (D:=[]) rfl (v.an e06 aj) ad hx m6 (fun hh=>by have:=hp _ hh; omega) ?_;intro J h7 m7 k7;refine aI (cs:=[(false,[.int .i64])]) (((0+1:Nat):Int),()) (2-(0+1)) rfl ad (Xj (fun z=>[Value.int .i64 z]) hw) ⟨0+1,rfl,ad,rfl,Ch.trans k6 k7 (fun j hj _=>hj),?_⟩;simpa using m7
  ·refine af b6 ((q,m,d),()) rfl (ao ?_);refine Iw (us:=y.ai) (D:=x.ai.foldl iR []) rfl (u.an e06 aj) ad hy (by simpa using m6) (fun hh=>by have:=hq _ hh; omega) ?_;intro J h7 m7 k7;refine aI (cs:=[(false,[.int .i64])]) (((1+1:Nat):Int),()) (2-(1+1)) rfl ad (Xj (fun z=>[Value.int .i64 z]) hw) ⟨1+1,rfl,ad,rfl,Ch.trans k6 k7 (fun j hj _=>hj),?_⟩;simpa using m7
 ·have g1:=W4 g1;have hi:i=2:=ad
  subst hi;have m6:dT h6 h3.size (vm ((x.ai++y.ai).foldl iR [])):=by simpa using m6
  have b1:=b1.an k6 (by simp; omega);have b2:=b2.an k6 (by simp; omega);have b3:=b3.an k6 (by simp; omega);rw [aG,aG];refine af b1 ((x.num:Int),()) rfl (ao ?_);refine af b2 ((y.num:Int),()) rfl (ao ?_);refine aK (Pq m6 (by have:=uq (x.ai++y.ai) []; rw [W8,List.length_nil] at this; omega) _) ?_;rintro _ h7 ⟨e7,p',l',c',rfl,s7⟩;refine ⟨((p',l',c'),IntKind.wrap .u32 ((x.num:Int)+(y.num:Int)),()),rfl,ao ?_⟩;refine aw (b3.an e7 aj) rfl aj ?_;intro h8 b8 k8 z8;have b8:bH h8 h2.size 69 [.slice p' l' c',.int .u32 (IntKind.wrap .u32 ((x.num:Int)+(y.num:Int)))]:=b8;refine af b8 ((p',l',c'),IntKind.wrap .u32 ((x.num:Int)+(y.num:Int)),()) rfl ?_;have hz6:=e06.size;have hz2:=(e1.trans e2).size;have hb3:=b3.lt;refine ⟨Ch.trans (e06.trans e7) k8 (fun j hj hl=>by simp at hj; omega),p',l',c',?_,(s7.bM k8 (fun j hj=>by have:=(s7.cj hj).1; simp; omega)).mono ad⟩;unfold iA lS;rw [dS];dsimp only;rw [iy,Y2]
def qC (p:UInt8->Bool) (l:List UInt8) (k:Nat) (hk:k<l.length):(l.take (k+1)).all p=((l.take k).all p && p (l.getD k 0)):=by
 rw [W7 hk,List.all_append];simp [List.getD,List.getElem?_eq_getElem hk]
def rJ (s:ZA) (h:Hp) (hs:s.size<=9223372036854775807):vz Tryz.prog 82 [.string s] h (.bool (cT s.data.toList)):=by
 refine et mixed Tryz.func82 az (om s) ?_;have hsz:s.data.toList.length=s.size:=aj
 unfold jE bh aT bK fo iG bC aR cg;unfold cT;rw [hsz];refine ak (fun h1=>?_) (fun h1=>?_)
 ·have h1:=W2 h1;rw [show decide (0<s.size)=false from Xa ad];exact ⟨aj,rfl⟩
 have h1:=W4 h1;refine ak (fun h2=>?_) (fun h2=>?_)
 ·have h2:=W2 h2;rw [show decide (s.size<=32)=false from Xa ad];exact ⟨aj,rfl⟩
 have h2:=W4 h2;rw [show decide (0<s.size)=true from W9 ad,show decide (s.size<=32)=true from W9 ad];refine ay ⟨ad,ad⟩ ?_;refine aM (Bb (s.data.toList.getD 0 0) h) ?_;refine ak (fun h3=>?_) (fun h3=>?_)
 ·have h3:eW (s.data.toList.getD 0 0)=false:=by simpa using h3
  rw [h3];exact ⟨aj,rfl⟩
 have h3:eW (s.data.toList.getD 0 0)=true:=by simpa using h3
 rw [h3];refine aU (cs:=[(false,[.bool]),(false,[.int .i64])]) (fun x n h'=>h'=h/\∃ k:Nat,x.2.1=(k:Int)/\k<=s.size/\n=s.size-k/\(s.data.toList.take k).all (fun c=>eW c || hY c)=true)
  (false,(0:Int),()) s.size rfl ⟨rfl,0,rfl,ad,ad,aj⟩ ?_
 rintro ⟨b,n,⟨⟩⟩ m h' ⟨rfl,k,hk,hle,rfl,hall⟩;simp only at hk;subst hk;refine ak (fun hb=>?_) (fun hb=>?_)
 ·have hlt:(k:Int)<s.size:=W2 hb;have hst:=qC (fun c=>eW c || hY c) s.data.toList k ad;rw [hall,Xu] at hst;have hfalse:∀ k':Nat,(eW (s.data.toList.getD k 0) || hY (s.data.toList.getD k 0))=false->s.data.toList.all (fun c=>eW c || hY c)=false:=by
   intro k' hf;rw [hf] at hst;cases hx:s.data.toList.all (fun c=>eW c || hY c) with
   | false=>rfl
   | true =>
    have:(s.data.toList.take (k+1)).all (fun c=>eW c || hY c)=true:=XA.2 fun c hc=>XA.1 hx c (X9 hc)
    rw [this] at hst; cases hst
  have hnext:(eW (s.data.toList.getD k 0) || hY (s.data.toList.getD k 0))=true->T.again 0 [.bool b,.int .i64 (IntKind.wrap .i64 ((k:Int)+1))] ([]++[Jl (cs:=[(false,[.bool]),(false,[.int .i64])]) (fun x n h''=>h''=h'/\∃ k:Nat,x.2.1=(k:Int)/\k<=s.size/\n=s.size-k/\(s.data.toList.take k).all (fun c=>eW c || hY c)=true) (s.size-k)]) (fun v' h''=>v'=.bool (true && true && true && s.data.toList.all (fun c=>eW c || hY c) && !(x8 s.data.toList).2.2)/\h''=h') h':=by
   intro ht;rw [wrap_i64 ad ad];exact aI (cs:=[(false,[.bool]),(false,[.int .i64])]) (b,(k:Int)+1,()) (s.size-(k+1)) rfl ad rfl ⟨rfl,k+1,(show ((k:Int)+1)=((k+1:Nat):Int) from ad),ad,rfl,by rw [hst,ht]⟩
  refine ay ⟨(by show (0:Int)<=(k:Int); omega),hlt⟩ ?_;refine aM (Bb (s.data.toList.getD k 0) h') ?_;refine ak (fun h4=>?_) (fun h4=>?_)
  ·have h4:eW (s.data.toList.getD k 0)=false:=by simpa using h4
   refine ay ⟨(by show (0:Int)<=(k:Int); omega),hlt⟩ ?_;refine aM (Na (s.data.toList.getD k 0) h') ?_;refine ak (fun h5=>?_) (fun h5=>?_)
   ·have h5:hY (s.data.toList.getD k 0)=false:=by simpa using h5
    rw [hfalse 0 (by rw [h4,h5]; rfl)];exact ⟨aj,rfl⟩
   ·have h5:hY (s.data.toList.getD k 0)=true:=by simpa using h5
    exact hnext (by rw [h5]; simp)
  ·have h4:eW (s.data.toList.getD k 0)=true:=by simpa using h4
   exact hnext (by rw [h4]; simp)
 ·have hge:¬ (k:Int)<s.size:=W4 hb;have hk:k=s.data.toList.length:=ad
  rw [hk,XB] at hall;rw [hall];refine FG (Co s h') ?_;exact ⟨aj,rfl⟩
def dv (c:UInt8):Nat:=if c.toNat<58 then c.toNat-48 else c.toNat-87
def S0 (b:Nat) (l:List UInt8):Nat:=l.foldl (fun n c=>n*b+dv c) 0
def U1 (c:UInt8):Bool:=hY c || (97<=c.toNat && c.toNat<=102)
def Cs:List UInt8:=[48,49,50,51,52,53,54,55,56,57,97,98,99,100,101,102]
def PW (l:List UInt8):Nat × Nat :=
 if l.take 2=[48,120] then
  (if 8<me (l.drop 2) Cs\/me (l.drop 2) Cs=0 then (0,0) else (2+me (l.drop 2) Cs,S0 16 ((l.drop 2).take (me (l.drop 2) Cs))))
 else
  (if (1<me l iJ/\l.getD 0 0=48)\/me l iJ=0\/4294967296<=S0 10 (l.take (me l iJ)) then (0,0) else (me l iJ,S0 10 (l.take (me l iJ))))
def Sb:List UInt8:=gz++iJ
def Aw (P:Program) (t:TypeId):Array Field :=
 match P.underlying t with
 | some (.struct fs)=>fs
 | _=>#[]
def bytes_beq (t:ZA):(t==t)=true:=by
 cases t with | mk d=>show (d==d)=true; simp
def hv (c:UInt8):Int:=if U1 c=true then (dv c:Int) else -1
def tF (D:List UInt8):Nat × Nat :=
 if D.getD 0 0=39 then
  (if D.length<3\/(D.getD 1 0).toNat<32\/126<(D.getD 1 0).toNat\/D.getD 1 0=39\/D.getD 2 0≠39 then (0,0) else ((D.getD 1 0).toNat,3))
 else if (PW D).1=0\/0<me (D.drop (PW D).1) Sb then (0,0) else ((PW D).2,(PW D).1)
def B9 {s t:ZA} (h:s.data.toList=t.data.toList):s=t:=by
 cases s; cases t;simp only at h
 congr 1
 exact XM.1 h
def add_add (a:Zx) (i j:Nat):(a.add i).add j=a.add (i+j):=by
 unfold Addr.add
 by_cases hi:i=0 <;> by_cases hj:j=0 <;> simp [hi,hj] <;> omega
def tD:cm:=⟨[],0⟩
structure Good (x:cm):Prop where
 nf:Nf x.ai
 LI:∀ t,t∈x.ai->cT t.1.data.toList=true
 num:x.num<4294967296
def GC {s:ZA} (h:cT s.data.toList=true):s.size<=32:=by
 unfold cT at h;simp only [Bool.and_eq_true,decide_eq_true_eq] at h
 have:s.data.toList.length=s.size:=aj
 omega
abbrev ptr (a:Nat):ZB:=.pointer (some ⟨a,0,none⟩)
def cQ {h:Hp} {b:Zx} {t:ZA × Nat} (hc:aJ h b 0 (dc t)):aJ h b 0 [.string t.1]/\aJ h (b.add 1) 0 [.int .u32 (t.2:Int)]:=by
 obtain ⟨h1,h2,h3⟩:=hc;exact ⟨⟨h1,trivial⟩,⟨by rw [add_add]; exact h2,trivial⟩⟩
def H0 (a n:Nat):IntKind.wrap .u32 ((a:Int)*(n:Int))=((a*n % 4294967296:Nat):Int):=by rw [dS,iy,Int.natCast_mul]
def HY (a n:Nat):IntKind.wrap .u32 ((a:Int)+(n:Int))=(((a+n) % 4294967296:Nat):Int):=by rw [dS,iy,Y2]
def Gy {h:Hp} {p:ZC} {l c:Nat} {x:cm} (v:gK h p l x.ai) (hl:x.ai.length<=2^40) (hp:∀ i,i∈aP p->i<h.size) (n:Nat) :
  HC Tryz.prog 102 #[iA p l c x,.int .u32 n] h fun w h'=>Ext h h'/\∃ p' l' c',w=iA p' l' c' (B1 x n)/\SL h' h.size 117 2 p' l' c' ((B1 x n).ai.map dc):=by
 refine bd (args:=[.agg #[.slice p l c,.int .u32 x.num],.int .u32 n]) mixed Tryz.func102 az (nJ p l c x.num n) ?_;unfold jR bf bh bG aQ bm aH bi aR;have hll:=v.len;refine bk ?_;intro h1 b1 e1 z1;refine bk ?_;intro h2 b2 e2 z2;have b1:=b1.an e2 aj;rw [aG];refine af b1 ((x.num:Int),()) rfl (ao ?_);refine bk ?_;intro h3 b3 e3 z3;refine aw b3 rfl aj ?_;intro h4 b4 k4 z4;rw [H0] at b4;have b4:bH h4 h2.size 69 [.slice none 0 0,.int .u32 ((x.num*n % 4294967296:Nat):Int)]:=b4;have e24:Ext h2 h4:=Ch.trans e3 k4 (fun j hj hl=>by simp at hj; omega);have b1:=b1.an e24 aj;have b2:=b2.an e24 aj;have e04:=(e1.trans e2).trans e24;have hb4:=b4.lt;refine aU (cs:=[(false,[.int .i64])]) (fun y w h'=>∃ (i:Nat) (q:ZC) (m d:Nat),y.1=(i:Int)/\i<=x.ai.length/\w=x.ai.length-i/\Ch [h2.size] h4 h'/\bH h' h2.size 69 [.slice q m d,.int .u32 ((x.num*n % 4294967296:Nat):Int)] /\
  SL h' h4.size 117 2 q m d ((ff n (x.ai.take i)).map dc)/\m<=i) ((0:Int),()) x.ai.length rfl ⟨0,none,0,0,rfl,ad,ad,Ch.refl _ _,b4,SL.nil _ _ _ _,ad⟩ ?_
 rintro ⟨n8,⟨⟩⟩ w h5 ⟨i,q,m,d,hi,hile,rfl,k5,b5,s5,hm⟩;simp only at hi;subst hi;refine ao ?_;have b15:=b1.an k5 (by simp; omega);have hz5:=k5.size;have e05:Ext h h5:=Ch.trans e04 k5 (fun j hj hl=>by simp at hj; omega);have v5:=v.an e05 aj;refine af b15 ((p,l,c),()) rfl (ao ?_);have hw:IntKind.wrap .i64 ((i:Int)+1)=((i+1:Nat):Int):=by rw [wrap_i64 ad ad]; omega
 refine ak (fun g1=>?_) (fun g1=>?_)
 ·have g1:=W2 g1;have hilt:i<x.ai.length:=ad
  have htk:x.ai.take (i+1)=x.ai.take i++[x.ai[i]]:=W7 hilt;obtain ⟨a,rfl,hc⟩:=v5.cells i hilt;generalize x.ai[i]=t at hc htk;obtain ⟨c1,c2⟩:=cQ hc;refine af b15 ((some a,l,c),()) rfl (ao ?_);refine ay ⟨ad,ad⟩ (ax rfl ?_);rw [show Int.toNat (i:Int)=i from ad];refine aC ((t.2:Int),()) c2 (ao ?_);rw [H0];refine ak (fun g2=>?_) (fun g2=>?_)
  ·have g2:¬ t.2*n % 4294967296=0:=by
    intro hh;rw [hh] at g2;cases g2
   refine af b5 ((q,m,d),()) rfl (ao ?_);refine af b15 ((some a,l,c),()) rfl (ao ?_);refine ay ⟨ad,ad⟩ (ax rfl ?_);refine aC (t.1,()) c1 (ao ?_);have hab:=hp a.block (by simp [aP]);refine gI (vs:=dc (t.1,t.2*n % 4294967296)) yK sD rfl ad ad az rfl rfl s5 hz5 ad ad (fun h' e=>⟨aX e aj _ _ c1,(b15.an e aj).cells _ rfl,(b5.an e aj).cells _ rfl,trivial⟩) ?_;intro p' c' h7 s7 k7 hp7;have hnot:∀ j,j<h4.size->j∉aP q:=fun j hj hm=>by have:=(s5.cj hm).1; omega
   refine ⟨⟨aX k7 (by rw [gU]; exact hnot _ (by have:=e04.size; omega)) _ _ c1,(b15.an k7 (hnot _ ad)).cells _ rfl,trivial⟩,?_⟩;refine aw (b5.an k7 (hnot _ ad)) rfl aj ?_;intro h8 b8 k8 z8;refine aI (cs:=[(false,[.int .i64])]) (((i+1:Nat):Int),()) (x.ai.length-(i+1)) rfl ad (Xj (fun z=>[Value.int .i64 z]) hw) ⟨i+1,p',m+1,c',rfl,ad,rfl,?_,b8,?_,ad⟩
   ·exact Ch.trans (Ch.trans k5 k7 (fun j hj hl=>by have:=(s5.cj hj).1; omega)) k8 (fun j hj _=>hj)
   ·have hf:ff n (x.ai.take (i+1))=ff n (x.ai.take i)++[(t.1,t.2*n % 4294967296)]:=by
     unfold ff;rw [htk,YB]
     congr 1
     simp only [List.filterMap_cons,List.filterMap_nil];rw [W6 g2]
    rw [hf,Xf];exact s7.bM k8 (fun j hj=>by have:=(s7.cj hj).1; simp; omega)
  ·have g2:t.2*n % 4294967296=0:=by
    have:((t.2*n % 4294967296:Nat):Int)=0:=by simpa using g2
    omega
   refine aI (cs:=[(false,[.int .i64])]) (((i+1:Nat):Int),()) (x.ai.length-(i+1)) rfl ad (Xj (fun z=>[Value.int .i64 z]) hw) ⟨i+1,q,m,d,rfl,ad,rfl,k5,b5,?_,ad⟩;have hf:ff n (x.ai.take (i+1))=ff n (x.ai.take i):=by
    unfold ff;rw [htk,YB];simp only [List.filterMap_cons,List.filterMap_nil];rw [Xb g2,X4]
   rw [hf];exact s5
 ·have g1:=W4 g1;have hi:i=x.ai.length:=ad
  subst hi;rw [XB] at s5;refine af b5 ((q,m,d),((x.num*n % 4294967296:Nat):Int),()) rfl (ao ?_);refine aw (b2.an k5 (by simp; omega)) rfl aj ?_;intro h7 b7 k7 z7;have b7:bH h7 h1.size 69 [.slice q m d,.int .u32 ((x.num*n % 4294967296:Nat):Int)]:=b7;refine af b7 ((q,m,d),((x.num*n % 4294967296:Nat):Int),()) rfl ?_;have hz4:=e04.size;exact ⟨Ch.trans e05 k7 (fun j hj hl=>by simp at hj; omega),q,m,d,rfl,(s5.bM k7 (fun j hj=>by have:=(s5.cj hj).1; simp; omega)).mono ad⟩
def leB (a b:ZA):(Op.bytesLess (ByteArray.toList a) (ByteArray.toList b) || (ByteArray.toList a==ByteArray.toList b))=!decide (gS b a):=by
 rw [ByteArray.toList_eq,ByteArray.toList_eq,Proofs.bytesLess_eq]
 by_cases h:gS b a
 ·rw [W9 h];have h1:¬ a.data.toList<b.data.toList:=Bq h;have h2:¬ a.data.toList=b.data.toList:=fun e=>j7 h (B9 e).symm
  have h3:¬ a.data=b.data:=fun e=>h2 (by rw [e])
  simp [h1,h3]
 ·rw [Xa h]
  by_cases h1:gS a b
  ·have h1:a.data.toList<b.data.toList:=h1;simp [h1]
  ·have:=yx a b h1 h
   subst this
   simp
def ni:Option ZA->da->Bool
 | _,[]=>true
 | o,t::r=>cT t.1.data.toList && decide (t.2≠0) && (match o with
  | none=>true
  | some s=>decide (gS s t.1)) && ni (some t.1) r
def HX (l:da) (i:Nat):Option ZA:=if i=0 then none else (l[i-1]?).map (·.1)
def Hd {o:Option ZA} {l:da} (h:ni o l=true):(∀ t,t∈l->cT t.1.data.toList=true/\t.2≠0)/\(l.Pairwise fun p q=>gS p.1 q.1)/\∀ s,o=some s->∀ t,t∈l->gS s t.1:=by
 induction l generalizing o with
 | nil=>exact ⟨aj,List.Pairwise.nil,aj⟩
 | cons t r ih =>
  unfold ni at h;simp only [Bool.and_eq_true,decide_eq_true_eq] at h;obtain ⟨⟨⟨h1,h2⟩,h3⟩,h4⟩:=h;obtain ⟨i1,i2,i3⟩:=ih h4;refine ⟨?_,Yp.2 ⟨fun q hq=>i3 _ rfl q hq,i2⟩,?_⟩
  ·intro u hu;rcases Xq.1 hu with rfl | hu
   ·exact ⟨h1,h2⟩
   ·exact i1 u hu
  ·rintro s rfl u hu;have h3:gS s t.1:=by simpa using h3
   rcases Xq.1 hu with rfl | hu
   ·exact h3
   ·exact jr h3 (i3 _ rfl u hu)
def CZ {x:cm} (h:ni none x.ai=true) (hc:∀ t,t∈x.ai->t.2<4294967296) (hn:x.num<4294967296):Good x :=
 ⟨⟨(Hd h).2.1,fun p hp=>⟨((Hd h).1 p hp).2,hc p hp⟩⟩,fun t ht=>((Hd h).1 t ht).1,hn⟩
def tu {h : Hp} {p : ZC} {l c : Nat} {x : cm} (v : gK h p l x.ai) (hl : x.ai.length <= 9223372036854775807) (hs : ∀ t, t ∈ x.ai -> t.1.size <= maxLen) :
    HC Tryz.prog 61 #[iA p l c x] h fun w h' => w = .bool (ni none x.ai) /\ Ext h h' := by
  refine bd (args := [.agg #[.slice p l c, .int .u32 x.num]]) mixed Tryz.func61 az (ya p l c x.num) ?_;unfold ue bf bh bG aQ aT bt aH bC dL bT aR cg;have hll := v.len;refine bk ?_;intro h1 b1 e1 z1;refine af b1 ((p, l, c), ()) rfl (ao ?_)
  refine aU (cs := [(false, [.bool]), (false, [.int .i64])]) (fun y w h' => ∃ (i : Nat), y.2.1 = (i : Int) /\ i <= x.ai.length /\ w = x.ai.length - i /\ Ext h1 h' /\ ni none x.ai = ni (HX x.ai i) (x.ai.drop i)) (false, (0 : Int), ()) x.ai.length rfl
    ⟨0, rfl, ad, ad, Ch.refl _ _, rfl⟩ ?_
  rintro ⟨b8, n8, ⟨⟩⟩ w h2 ⟨i, hi, hile, rfl, e2, hq⟩;simp only at hi;subst hi;refine ao ?_;have e02 := e1.trans e2;refine ak (fun g1 => ?_) (fun g1 => ?_)
  · have g1 := W2 g1
    have hilt : i < x.ai.length :=ad
    have v2 := v.an e02 aj;obtain ⟨a, rfl, hc⟩ := v2.cells i hilt;have hdr : x.ai.drop i = x.ai[i] :: x.ai.drop (i + 1) := Xi hilt
    have hpv : HX x.ai (i + 1) = some x.ai[i].1 := by
      unfold HX;rw [W6 ad, Nat.add_sub_cancel, W5 hilt] <;> rfl
    have hsz := hs x.ai[i] (Xe hilt);rw [hdr] at hq;generalize x.ai[i] = t at hc hq hpv hsz;refine ay ⟨ad, ad⟩ (ax rfl ?_);rw [show Int.toNat (i : Int) = i from ad];refine aC (t.1, (t.2 : Int), ()) hc (ao ?_);refine bk ?_;intro h3 b3 e3 z3;refine aw b3 rfl aj ?_;intro h4 b4 k4 z4;have b4 : bH h4 h2.size 117 [.string t.1, .int .u32 t.2] := b4;have e24 : Ext h2 h4 := Ch.trans e3 k4 (fun j hj hl => by simp at hj; omega);have e04 := e02.trans e24;rw [aG];refine af b4 ((t.2 : Int), ()) rfl (ao ?_);refine ak (fun g2 => ?_) (fun g2 => ?_)
    · have g2 : t.2 = 0 := by have : (t.2 : Int) = 0 := by simpa using g2
                              omega
      refine ⟨?_, e04⟩;rw [hq];unfold ni;rw [Xa ad]
      simp
    · have g2 : t.2 ≠ 0 := by have : ¬ (t.2 : Int) = 0 := by simpa using g2
                              omega
      refine af b4 (t.1, ()) rfl (ao ?_);refine aM (ua t.1 h4 (by have : maxLen = 9223372036854775807 := rfl; omega)) ?_;refine ⟨⟨b4.cells _ rfl, trivial⟩, ?_⟩;refine ak (fun g3 => ?_) (fun g3 => ?_)
      · have g3 : cT t.1.data.toList = false := by simpa using g3
        refine ⟨?_, e04⟩;rw [hq];unfold ni;rw [g3]
        simp
      · have g3 : cT t.1.data.toList = true := by simpa using g3
        have hw : IntKind.wrap .i64 ((i : Int) + 1) = ((i + 1 : Nat) : Int) := by rw [wrap_i64 ad ad]; omega
        have hgo : (match HX x.ai i with
            | none => true
            | some s => decide (gS s t.1)) = true -> ni none x.ai = ni (HX x.ai (i + 1)) (x.ai.drop (i + 1)) := by
          intro hm;rw [hq, hpv]
          conv => lhs; unfold ni
          rw [g3, W9 g2, hm] <;> rfl
        refine ak (fun g4 => ?_) (fun g4 => ?_)
        · have g4 := W2 g4
          have hw1 : IntKind.wrap .i64 ((i : Int) - 1) = ((i - 1 : Nat) : Int) := by rw [wrap_i64 ad ad]; omega
          have hi1 : i - 1 < x.ai.length :=ad
          obtain ⟨a', ha', hc'⟩ := (v.an e04 aj).cells (i - 1) hi1;cases ha'
          have hpi : HX x.ai i = some x.ai[i - 1].1 := by
            unfold HX;rw [W6 ad, W5 hi1] <;> rfl
          rw [hpi] at hgo hq;generalize x.ai[i - 1] = u at hc' hpi hgo hq;refine af b4 (t.1, ()) rfl (ao ?_);refine af ((b1.an e2 aj).an e24 aj) ((some a, l, c), ()) rfl (ao ?_);rw [hw1];refine ay ⟨ad, ad⟩ (ax rfl ?_);rw [show Int.toNat ((i - 1 : Nat) : Int) = i - 1 from ad];refine aC (u.1, ()) (cQ hc').1 (ao ?_);rw [leB];refine ak (fun g5 => ?_) (fun g5 => ?_)
          · have g5 : ¬ gS u.1 t.1 := by simpa using g5
            refine ⟨?_, e04⟩;rw [hq];unfold ni;dsimp only;rw [Xa g5]
            simp
          · have g5 : gS u.1 t.1 := by simpa using g5
            exact aI (cs := [(false, [.bool]), (false, [.int .i64])]) (b8, ((i + 1 : Nat) : Int), ()) (x.ai.length - (i + 1)) rfl ad (Xj (fun z => [Value.bool b8, Value.int .i64 z]) hw) ⟨i + 1, rfl, ad, rfl, e2.trans e24, hgo (W9 g5)⟩
        · have g4 := W4 g4
          have hi0 : i = 0 :=ad
          subst hi0;exact aI (cs := [(false, [.bool]), (false, [.int .i64])]) (b8, ((0 + 1 : Nat) : Int), ()) (x.ai.length - (0 + 1)) rfl ad (Xj (fun z => [Value.bool b8, Value.int .i64 z]) hw) ⟨0 + 1, rfl, ad, rfl, e2.trans e24, hgo rfl⟩
  · have g1 := W4 g1
    have hi : i = x.ai.length :=ad
    subst hi;refine ⟨?_, e02⟩;rw [hq, Yi] <;> rfl
def sW {h : Hp} {p : ZC} {l c : Nat} {x : cm} (v : gK h p l x.ai) (hl : x.ai.length <= 9223372036854775807) (hs : ∀ t, t ∈ x.ai -> t.1.size <= maxLen) :
    HC Tryz.prog 97 #[iA p l c x] h fun w h' => w = .bool (ni none x.ai) /\ Ext h h' := by
  refine bd (args := [.agg #[.slice p l c, .int .u32 x.num]]) mixed Tryz.func97 az (nS p l c x.num) ?_;unfold jP bf bh bG aQ aT bt aH bC dL aR cg;have hll := v.len;refine bk ?_;intro h1 b1 e1 z1;have v := v.an e1 aj
  refine aU (cs := [(false, [.bool]), (false, [.int .i64])]) (fun y w h' => ∃ (i : Nat), y.2.1 = (i : Int) /\ i <= x.ai.length /\ w = x.ai.length - i /\ h1 = h' /\ ni none x.ai = ni (HX x.ai i) (x.ai.drop i)) (false, (0 : Int), ()) x.ai.length rfl
    ⟨0, rfl, ad, ad, rfl, rfl⟩ ?_
  rintro ⟨b8, n8, ⟨⟩⟩ w h2 ⟨i, hi, hile, rfl, rfl, hq⟩;simp only at hi;subst hi;refine ao ?_;refine af b1 ((p, l, c), ()) rfl (ao ?_);refine ak (fun g1 => ?_) (fun g1 => ?_)
  · have g1 := W2 g1
    have hilt : i < x.ai.length :=ad
    obtain ⟨a, rfl, hc⟩ := v.cells i hilt;have hdr : x.ai.drop i = x.ai[i] :: x.ai.drop (i + 1) := Xi hilt
    have hpv : HX x.ai (i + 1) = some x.ai[i].1 := by
      unfold HX;rw [W6 ad, Nat.add_sub_cancel, W5 hilt] <;> rfl
    have hsz := hs x.ai[i] (Xe hilt);rw [hdr] at hq;generalize x.ai[i] = t at hc hq hpv hsz;refine af b1 ((some a, l, c), ()) rfl (ao ?_);refine ay ⟨ad, ad⟩ (ax rfl ?_);rw [show Int.toNat (i : Int) = i from ad];refine aC (t.1, ()) (cQ hc).1 (ao ?_);refine aM (rJ t.1 h1 (by have : maxLen = 9223372036854775807 := rfl; omega)) ?_;refine ⟨⟨b1.cells _ rfl, trivial⟩, ?_⟩;refine ak (fun g3 => ?_) (fun g3 => ?_)
    · have g3 : cT t.1.data.toList = false := by simpa using g3
      refine ⟨?_, e1⟩;rw [hq];unfold ni;rw [g3]
      simp
    · have g3 : cT t.1.data.toList = true := by simpa using g3
      refine af b1 ((some a, l, c), ()) rfl (ao ?_);refine ay ⟨ad, ad⟩ (ax rfl ?_);refine aC ((t.2 : Int), ()) (cQ hc).2 (ao ?_);refine ak (fun g2 => ?_) (fun g2 => ?_)
      · have g2 : t.2 = 0 := by have : (t.2 : Int) = 0 := by simpa using g2
                                omega
        refine ⟨?_, e1⟩;rw [hq];unfold ni;rw [Xa ad]
        simp
      · have g2 : t.2 ≠ 0 := by have : ¬ (t.2 : Int) = 0 := by simpa using g2
                                omega
        have hw : IntKind.wrap .i64 ((i : Int) + 1) = ((i + 1 : Nat) : Int) := by rw [wrap_i64 ad ad]; omega
        have hgo : (match HX x.ai i with
            | none => true
            | some s => decide (gS s t.1)) = true -> ni none x.ai = ni (HX x.ai (i + 1)) (x.ai.drop (i + 1)) := by
          intro hm;rw [hq, hpv]
          conv => lhs; unfold ni
          rw [g3, W9 g2, hm] <;> rfl
        refine ak (fun g4 => ?_) (fun g4 => ?_)
        · have g4 := W2 g4
          have hw1 : IntKind.wrap .i64 ((i : Int) - 1) = ((i - 1 : Nat) : Int) := by rw [wrap_i64 ad ad]; omega
          have hi1 : i - 1 < x.ai.length :=ad
          obtain ⟨a', ha', hc'⟩ := v.cells (i - 1) hi1;cases ha'
          have hpi : HX x.ai i = some x.ai[i - 1].1 := by
            unfold HX;rw [W6 ad, W5 hi1] <;> rfl
          rw [hpi] at hgo hq;generalize x.ai[i - 1] = u at hc' hpi hgo hq;refine af b1 ((some a, l, c), ()) rfl (ao ?_);refine ay ⟨ad, ad⟩ (ax rfl ?_);refine aC (t.1, ()) (cQ hc).1 (ao ?_);refine af b1 ((some a, l, c), ()) rfl (ao ?_);rw [hw1];refine ay ⟨ad, ad⟩ (ax rfl ?_);rw [show Int.toNat ((i - 1 : Nat) : Int) = i - 1 from ad];refine aC (u.1, ()) (cQ hc').1 (ao ?_);rw [leB];refine ak (fun g5 => ?_) (fun g5 => ?_)
          · have g5 : ¬ gS u.1 t.1 := by simpa using g5
            refine ⟨?_, e1⟩;rw [hq];unfold ni;dsimp only;rw [Xa g5]
            simp
          · have g5 : gS u.1 t.1 := by simpa using g5
            exact aI (cs := [(false, [.bool]), (false, [.int .i64])]) (b8, ((i + 1 : Nat) : Int), ()) (x.ai.length - (i + 1)) rfl ad (Xj (fun z => [Value.bool b8, Value.int .i64 z]) hw) ⟨i + 1, rfl, ad, rfl, rfl, hgo (W9 g5)⟩
        · have g4 := W4 g4
          have hi0 : i = 0 :=ad
          subst hi0;exact aI (cs := [(false, [.bool]), (false, [.int .i64])]) (b8, ((0 + 1 : Nat) : Int), ()) (x.ai.length - (0 + 1)) rfl ad (Xj (fun z => [Value.bool b8, Value.int .i64 z]) hw) ⟨0 + 1, rfl, ad, rfl, rfl, hgo rfl⟩
  · have g1 := W4 g1
    have hi : i = x.ai.length :=ad
    subst hi;refine ⟨?_, e1⟩;rw [hq, Yi] <;> rfl
end Go.Sx
namespace Go.Sx.Ob
abbrev Bt:=List UInt8
def tE:Nat->Nat->Bt
 | _,0=>[]
 | n,w+1=>UInt8.ofNat n::tE (n / 256) w
def M5:Bt->Nat
 | []=>0
 | b::l=>b.toNat+256*M5 l
theorem dq:∀ (w n:Nat),(tE n w).length=w
 | 0,_=>rfl
 | w+1,n=>by rw [tE,XP,dq w]
theorem Bs:∀ (w n:Nat),M5 (tE n w)=n % 256^w
 | 0,n=>by simp [tE,M5,Nat.mod_one]
 | w+1,n=>by
  rw [tE,M5,Bs w,Nat.pow_succ,Zj (256^w) 256,Nat.mod_mul]
  congr 1
abbrev Rd (α:Type):=Except (Nat × Nat) (α × Bt)
def kH {α β:Type} (a:Rd α) (f:α->Bt->Rd β):Rd β :=
 match a with
 | .ok p=>f p.1 p.2
 | .error e=>.error e
@[simp] theorem uG {α β:Type} (x:α) (r:Bt) (f:α->Bt->Rd β):kH (.ok (x,r)) f=f x r:=rfl
def tF (w:Nat) (r:Bt):Rd Nat:=if w<=r.length then .ok (M5 (r.take w),r.drop w) else .error (0,10)
def FD (r:Bt):Rd ZA:=kH (tF 2 r) fun n r=>if n<=r.length then .ok (⟨(r.take n).toArray⟩,r.drop n) else .error (0,10)
def NN:Nat->Bt->Rd da
 | 0,r=>.ok ([],r)
 | n+1,r=>kH (FD r) fun s r=>kH (tF 4 r) fun c r=>kH (NN n r) fun ts r=>.ok ((s,c)::ts,r)
def ik (r:Bt):Rd cm:=kH (tF 2 r) fun n r=>kH (NN n r) fun ts r=>kH (tF 4 r) fun c r=>.ok (⟨ts,c⟩,r)
def iY (s:ZA):Bt:=tE s.size 2++s.data.toList
def EO (t:ZA × Nat):Bt:=iY t.1++tE t.2 4
def lj (x:cm):Bt:=tE x.ai.length 2++(x.ai.flatMap EO++tE x.num 4)
def Lw (w n:Nat) (t:Bt):tF w (tE n w++t)=.ok (n % 256^w,t):=by
 unfold tF;rw [Xb (by rw [W8,dq]; omega),List.take_left' (dq w n),List.drop_left' (dq w n),Bs]
def JF {s:ZA} (h:s.size<65536) (t:Bt):FD (iY s++t)=.ok (s,t):=by
 unfold FD iY;rw [Xs,Lw,uG,YL ad];have hl:s.data.toList.length=s.size:=aj
 rw [Xb (by rw [W8,hl]; omega),List.take_left' hl,List.drop_left' hl]
structure Ins where
 op:Int
 a:Int
 b:Int
 n:Int
 form:Int
deriving DecidableEq
structure cF where
 kind:Int
 name:ZA
 inst:Ins
 e:cm
 n:Int
def Qk:Ins:=⟨0,0,0,0,0⟩
def Eu:cm:=⟨[],0⟩
def dF:ZA:=⟨#[]⟩
def fl (k:Int):cF:=⟨k,dF,Qk,Eu,0⟩
def jG:List Nat:=[1,1,1,2,2,2,2,2,2,2,3,3,4,4,4,4,4,4,4,4,4,4,4,4,4,4,4,4,5,5,5,5,6,6,7,8,9,10,11,12,12,13,13]
def cP (op:Int):Nat:=if op<1 then 0 else jG.getD (op-1).toNat 0
def vA (n m:Int):Bool:=decide (0<=n) && decide (n<m)
def cG (s:Nat) (a b n:Int):Bool :=
 if s=1\/s=9\/s=12 then decide (a=0) && decide (b=0)
 else if s=2\/s=8\/s=10\/s=11\/s=13 then vA a 8 && decide (b=0)
 else if s=3 then vA a 4 && decide (b=0)
 else if s=4 then vA a 8 && vA b 8
 else if s=5 then vA a 4 && vA b 4
 else if s=6 then vA a 8 && vA b 4
 else vA a 4 && vA b 8 && vA n 8
def lU (n form:Int):Bool :=
 if form=1 then decide (-128<=n) && decide (n<=127)
 else if form=2 then decide (-32768<=n) && decide (n<=32767)
 else decide (form=4)
def nR (s:Nat) (n form:Int):Bool :=
 if s=8 then lU n 1
 else if s=9 then decide (0<=n) && decide (n<=255)
 else if s=10\/s=7 then true
 else if s=11 then decide (0<=n) && decide (n<=4095)
 else if s=12\/s=13 then lU n form
 else decide (n=0)
def px (op:Int):Bool:=decide (12<=cP op)
def Fz (op:Int):Bool:=decide (10<=cP op)
def gk (i:Ins):Int :=
 if cP i.op=0 then 11
 else if cG (cP i.op) i.a i.b i.n=false then 12
 else if (!px i.op && decide (i.form≠0) || !nR (cP i.op) i.n i.form)=true then 13
 else 0
def N8 (x:cm):Bool:=decide (x.ai=[]) && decide (x.num=0)
def yF (i:Ins) (e:cm):Bool :=
 decide (cP i.op≠0) && decide (i.form=0) && (if Fz i.op then decide (i.n=0) && decide (gk { i with form:=if px i.op then 1 else 0 }=0) && ni none e.ai
  else decide (gk i=0) && N8 e)
def tQ (n:Int):Bool:=decide (n=1) || decide (n=2) || decide (n=4) || decide (n=8) || decide (n=16) || decide (n=32) || decide (n=64) || decide (n=128) || decide (n=256)
def z1 (x:cF):Bool:=decide (x.name=dF)
def z2 (x:cF):Bool:=decide (x.inst=Qk)
def z3 (x:cF):Bool:=N8 x.e
def z4 (x:cF):Bool:=decide (x.n=0)
def cw (x:cF) (sec:Nat):Bool :=
 if x.kind=1 then cT x.name.data.toList && z2 x && z3 x && z4 x
 else if x.kind=2 then decide (sec=0) && yF x.inst x.e && z1 x && z4 x
 else if x.kind=3 then tQ x.n && z1 x && z2 x && z3 x
 else if x.kind=4 then decide (sec=0) && z1 x && z2 x && z3 x && z4 x
 else if x.kind=5 then decide (sec=1) && decide (-128<=x.n) && decide (x.n<=255) && z1 x && z2 x && z3 x
 else if x.kind=6 then decide (sec=1) && ni none x.e.ai && z1 x && z2 x && z4 x
 else if x.kind=7 then decide (sec=1) && decide (0<=x.n) && decide (x.n<=1048576) && z1 x && z2 x && z3 x
 else false
def u32 (n:Int):Nat:=(n % 4294967296).toNat
def Rw (n:Nat):Int:=if n<2147483648 then (n:Int) else (n:Int)-4294967296
def WW (n:Nat):Int:=if n<32768 then (n:Int) else (n:Int)-65536
def Cc (n:Int) (w:Nat):Bt:=tE (u32 n) w
def G' (x:cF):Bt:=Cc x.kind 1 ++
 (if x.kind=1 then iY x.name
 else if x.kind=2 then Cc x.inst.op 1++(Cc x.inst.a 1++(Cc x.inst.b 1++(Cc x.inst.n 4++if Fz x.inst.op then lj x.e else [])))
 else if x.kind=3\/x.kind=5 then Cc x.n 2
 else if x.kind=6 then lj x.e
 else if x.kind=7 then Cc x.n 4
 else [])
def Wb (r:Bt):Rd cF:=kH (tF 1 r) fun op r=>kH (tF 1 r) fun a r=>kH (tF 1 r) fun b r=>kH (tF 4 r) fun n r =>
 if Fz (op:Int) then kH (ik r) fun e r=>.ok ({ fl 2 with inst:=⟨op,a,b,Rw n,0⟩,e:=e },r) else .ok ({ fl 2 with inst:=⟨op,a,b,Rw n,0⟩ },r)
def VF (k:Nat) (r:Bt):Rd cF :=
 if k=1 then kH (FD r) fun s r=>.ok ({ fl 1 with name:=s },r)
 else if k=2 then Wb r
 else if k=3 then kH (tF 2 r) fun n r=>.ok ({ fl 3 with n:=n },r)
 else if k=5 then kH (tF 2 r) fun n r=>.ok ({ fl 5 with n:=WW n },r)
 else if k=6 then kH (ik r) fun e r=>.ok ({ fl 6 with e:=e },r)
 else if k=7 then kH (tF 4 r) fun n r=>.ok ({ fl 7 with n:=n },r)
 else .ok (fl k,r)
def at_ {α:Type} (r:Bt) (pW:Nat) (ok:α->Bool) (a:Rd α):Rd α:=kH a fun x r'=>if ok x then .ok (x,r') else .error (r.length,pW)
def fX (D:List ZA) (s:ZA):Bool:=D.any fun t=>decide (t=s)
def xr (sec:Nat) (D:List ZA) (x:cF):Bool:=cw x sec && !(decide (x.kind=1) && fX D x.name)
def tg (D:List ZA) (x:cF):List ZA:=if x.kind=1 then x.name::D else D
def UN (sec:Nat) (D:List ZA) (r:Bt):Rd cF:=at_ r 31 (xr sec D) (kH (tF 1 r) VF)
def Sp {α:Type} {r r':Bt} {pW:Nat} {ok:α->Bool} {a:Rd α} {x:α} (h:a=.ok (x,r')) (h2:ok x=true):at_ r pW ok a=.ok (x,r'):=by
 unfold at_;rw [h,uG,Xb h2]
def CB (op:Int) (h:cP op≠0):1<=op/\op<=43:=by
 unfold cP at h;split at h
 ·exact absurd rfl h
 ·refine ⟨ad,?_⟩
  by_cases g:op<=43
  ·exact g
  ·exfalso;apply h;rw [XT,XI (by simp [jG]; omega)] <;> rfl
def DF {i:Ins} (h:gk i=0):cP i.op≠0/\cG (cP i.op) i.a i.b i.n=true:=by
 unfold gk at h;split at h
 ·cases h
 ·split at h
  ·cases h
  ·rename_i h1 h2;exact ⟨h1,by simpa using h2⟩
def gV (op:Int):cP op=0\/(1<=cP op/\cP op<=13):=by
 by_cases h:cP op=0
 ·exact .inl h
 ·right
  have h1:=CB op h;unfold cP;rw [W6 ad];have h2:(op-1).toNat<43:=ad
  generalize (op-1).toNat=k at h2
  have:∀ k:Fin 43,1<=jG.getD k.1 0/\jG.getD k.1 0<=13:=cn
  exact this ⟨k,h2⟩
abbrev qY:=ZA × cm
structure cd where
 text:List cF
 data:List cF
 bg:List qY
 aY:List ZA
def wa (sec:Nat):Nat->List ZA->Bt->Rd (List cF)
 | 0,_,r=>.ok ([],r)
 | n+1,D,r=>kH (UN sec D r) fun x r=>kH (wa sec n (tg D x) r) fun l r=>.ok (x::l,r)
def BQ (D:List ZA) (p:qY):Bool:=!(fX D p.1) && cT p.1.data.toList && ni none p.2.ai
def Qc (D:List ZA) (last g:ZA):Bool:=fX D g && decide (gS last g)
def Ra (D:List ZA) (last:ZA) (r:Bt):Rd ZA:=at_ r 31 (Qc D last) (FD r)
def Gz (D:List ZA):Nat->ZA->Bt->Rd (List ZA)
 | 0,_,r=>.ok ([],r)
 | n+1,last,r=>kH (Ra D last r) fun x r=>kH (Gz D n x r) fun l r=>.ok (x::l,r)
def MT:Bt:=[83,80,65,78,1]
def cO (D:List ZA) (l:List cF):List ZA:=l.foldl tg D
def aZ (D:List ZA) (l:List qY):List ZA:=l.foldl (fun D p=>p.1::D) D
def eK (sec:Nat):List ZA->List cF->Bool
 | _,[]=>true
 | D,x::l=>xr sec D x && eK sec (tg D x) l
def gh:List ZA->List qY->Bool
 | _,[]=>true
 | D,x::l=>BQ D x && gh (x.1::D) l
def cS (D:List ZA):ZA->List ZA->Bool
 | _,[]=>true
 | last,x::l=>Qc D last x && cS D x l
def cd.names (u:cd):List ZA:=aZ (cO (cO [] u.text) u.data) u.bg
def vk (u:cd):Bool:=eK 0 [] u.text && eK 1 (cO [] u.text) u.data && gh (cO (cO [] u.text) u.data) u.bg && cS u.names dF u.aY
def uF (u:cd):Bool:=decide (8192<u.text.length+u.data.length) || decide (8192<u.bg.length)
def eS (u:cd):Nat:=if uF u then 4 else if vk u then 0 else 31
def KU (p:qY):Bt:=iY p.1++lj p.2
def BZ {α:Type} (w:α->Bt) (l:List α):Bt:=tE l.length 2++l.flatMap w
def VN (u:cd):Bt:=MT++(BZ G' u.text++(BZ G' u.data++(BZ KU u.bg++BZ iY u.aY)))
theorem Gd (D:List ZA) (hD:∀ s,s∈D->s.size<65536):∀ (l:List ZA) (o:ZA) (t:Bt),cS D o l=true->Gz D l.length o (l.flatMap iY++t)=.ok (l,t)
 | [],o,t,_=>rfl
 | x::l,o,t,h=>by
  unfold cS at h;rw [Xz] at h;obtain ⟨h1,h2⟩:=h;have h3:x.size<65536:=by
   unfold Qc fX at h1;simp only [Bool.and_eq_true,List.any_eq_true,decide_eq_true_eq] at h1;obtain ⟨⟨y,hy,rfl⟩,_⟩:=h1;exact hD y hy
  rw [XP,XJ,Xs,Gz];have h5:Ra D o (iY x++(l.flatMap iY++t))=.ok (x,l.flatMap iY++t):=Sp (JF h3 _) h1;rw [h5,uG,Gd D hD l _ t h2,uG]
theorem xn (D:List ZA):∀ (l:List ZA) (o:ZA),cS D o l=true->(∀ x,x∈l->x∈D/\gS o x)/\l.Pairwise gS
 | [],o,_=>⟨aj,List.Pairwise.nil⟩
 | x::l,o,h=>by
  unfold cS Qc fX at h;simp only [Bool.and_eq_true,List.any_eq_true,decide_eq_true_eq] at h;obtain ⟨⟨⟨y,hy,rfl⟩,h2⟩,h3⟩:=h;obtain ⟨a,b⟩:=xn D l y h3;refine ⟨?_,Yp.2 ⟨fun z hz=>(a z hz).2,b⟩⟩;intro z hz;rcases Xq.1 hz with rfl | hz
  ·exact ⟨hy,h2⟩
  ·exact ⟨(a z hz).1,jr h2 (a z hz).2⟩
def ze {u:cd} (h:eS u=0):uF u=false/\vk u=true:=by
 unfold eS at h;split at h
 ·cases h
 ·rename_i h1;split at h
  ·rename_i h2;exact ⟨by simpa using h1,h2⟩
  ·cases h
end Go.Sx.Ob
namespace Go.Sx
open Go.Proofs
def U3:Tryz.prog.underlying 117=some (.struct (Aw Tryz.prog 117)):=az
def Td (x y:Operand) (a:ZA) (b:Int) (a':ZA) (b':Int) (h:Hp) (K:ZB->Hp->Prop) (hk:K (.bool !(a==a' && b==b')) h) :
  aS Tryz.prog (Sx.ir (BinOp.neq) 117 x y (.agg #[.string a,.int .u32 b]) (.agg #[.string a',.int .u32 b'])) h K:=by
 refine yC U3 az az az K ?_;have he:(Aw Tryz.prog 117).all (FJ #[.string a,.int .u32 b] #[.string a',.int .u32 b'])=(a==a' && (b==b' && true)):=by
  rw [<- Yj]
  kernel_rfl
 rw [he,Yk];exact hk
def RX (t u:ZA × Nat):(!(t.1==u.1 && (t.2:Int)==(u.2:Int)))=decide (t≠u):=by
 obtain ⟨a,b⟩:=t;obtain ⟨a',b'⟩:=u
 by_cases h1:a=a'
 ·subst h1;rw [bytes_beq]
  by_cases h2:b=b'
  ·subst h2
   simp
  ·have h3:¬ ((b:Int)=(b':Int)):=ad
   have h4:((b:Int)==(b':Int))=false:=by simpa using h3
   simp [h2,h4]
 ·have h3:(a==a')=false:=by
   obtain ⟨d⟩:=a;obtain ⟨d'⟩:=a';show (d==d')=false;have h4:¬ d=d':=fun e=>h1 (by rw [e])
   simpa using h4
  simp [h1,h3]
def GA {α:Type} {l m:List α} {i:Nat} (hi:i<l.length) (hj:i<m.length) (h:l[i]≠m[i]):l≠m:=by
 rintro rfl;exact h rfl
def Dc {α:Type} {l m:List α} {i:Nat} (hi:i<l.length) (hj:i<m.length) (h:l[i]=m[i]):(l.drop i=m.drop i)↔(l.drop (i+1)=m.drop (i+1)):=by
 rw [Xi hi,Xi hj,h];exact ⟨fun e=>(List.cons.inj e).2,fun e=>by rw [e]⟩
instance:DecidableEq da:=inferInstance
def FQ {h:Hp} {p q:ZC} {l m c d:Nat} {us vs:da} (v:gK h p l us) (w:gK h q m vs) (hl:us.length<=2^60):vz Tryz.prog 113 [.slice p l c,.slice q m d] h (.bool (decide (us=vs))):=by
 refine et mixed Tryz.func113 az (fN p l c q m d) ?_;unfold dX bf bh bG aQ dr aH bC dL aR cg;have h1:=v.len;have h2:=w.len;refine ak (fun g1=>?_) (fun g1=>?_)
 ·have g1:¬ (l:Int)=(m:Int):=by simpa using g1
  exact ⟨by rw [Xa (fun e=>by rw [e] at h1; omega)],rfl⟩
 ·have g1:(l:Int)=(m:Int):=by simpa using g1
  refine aU (cs:=[(false,[.bool]),(false,[.int .i64])]) (fun y n h'=>∃ (i:Nat),y.2.1=(i:Int)/\i<=us.length/\n=us.length-i/\h=h'/\(us=vs↔us.drop i=vs.drop i)) (false,(0:Int),()) us.length rfl
   ⟨0,rfl,ad,ad,rfl,Iff.rfl⟩ ?_
  rintro ⟨b8,n8,⟨⟩⟩ n h2 ⟨i,hi,hile,rfl,rfl,hq⟩;simp only at hi;subst hi;refine ao ?_;refine ak (fun g2=>?_) (fun g2=>?_)
  ·have g2:=W2 g2;have hi1:i<us.length:=ad
   have hi2:i<vs.length:=ad
   obtain ⟨a,rfl,hc⟩:=v.cells i hi1;obtain ⟨a',rfl,hc'⟩:=w.cells i hi2;have hst:=Dc hi1 hi2;have hno:=GA hi1 hi2;generalize us[i]=t at hc hst hno;generalize vs[i]=u at hc' hst hno;refine ay ⟨ad,ad⟩ (ax rfl ?_);rw [show Int.toNat (i:Int)=i from ad];refine aC (t.1,(t.2:Int),()) hc (ao ?_);refine ay ⟨ad,ad⟩ (ax rfl ?_);refine aC (u.1,(u.2:Int),()) hc' (ao ?_);refine lz (b:=decide (t≠u)) (fun K' hk=>Td _ _ _ _ _ _ _ _ (by rw [RX]; exact hk)) ?_;refine ak (fun g3=>?_) (fun g3=>?_)
   ·exact ⟨by rw [Xa (hno (W2 g3))],rfl⟩
   ·have g3:t=u:=by simpa using g3
    have hw:IntKind.wrap .i64 ((i:Int)+1)=((i+1:Nat):Int):=by rw [wrap_i64 ad ad]; omega
    exact aI (cs:=[(false,[.bool]),(false,[.int .i64])]) (b8,((i+1:Nat):Int),()) (us.length-(i+1)) rfl ad (Xj (fun z=>[Value.bool b8,Value.int .i64 z]) hw) ⟨i+1,rfl,ad,rfl,rfl,hq.trans (hst g3)⟩
  ·have g2:=W4 g2;refine ⟨?_,rfl⟩;rw [W9 (hq.2 (by rw [XZ ad,XZ ad]))]
def vY (x y:cm):Bool:=decide (x.num=y.num) && decide (x.ai=y.ai)
def IN (x:cm):vY x x=true:=by unfold vY; simp
def AS {h : Hp} {p q : ZC} {l m c d : Nat} {x y : cm} (v : gK h p l x.ai) (w : gK h q m y.ai) (hl : x.ai.length <= 2 ^ 60) :
    HC Tryz.prog 86 #[iA p l c x, iA q m d y] h fun r h' => r = .bool (vY x y) /\ Ext h h' := by
  refine bd (args := [.agg #[.slice p l c, .int .u32 x.num], .agg #[.slice q m d, .int .u32 y.num]]) mixed Tryz.func86 az (zz p l c x.num q m d y.num) ?_;unfold xv aT aH bC;refine bk ?_;intro h1 b1 e1 z1;refine bk ?_;intro h2 b2 e2 z2;have b1 := b1.an e2 aj;have e02 := e1.trans e2;rw [aG, aG];refine af b1 ((x.num : Int), ()) rfl (ao ?_);refine af b2 ((y.num : Int), ()) rfl (ao ?_);refine ak (fun g1 => ?_) (fun g1 => ?_)
  · have g1 : x.num = y.num := by have : (x.num : Int) = y.num := by simpa using g1
                                  omega
    refine af b1 ((p, l, c), ()) rfl (ao ?_);refine af b2 ((q, m, d), ()) rfl (ao ?_);refine aM (FQ (v.an e02 aj) (w.an e02 aj) hl) ?_;refine ⟨?_, e02⟩;unfold vY;rw [W9 g1] <;> rfl
  · have g1 : ¬ x.num = y.num := by have : ¬ (x.num : Int) = y.num := by simpa using g1
                                    omega
    refine ⟨?_, e02⟩;unfold vY;rw [Xa g1] <;> rfl
def HI {P:Program} {L:Lp} {K:ZB->Hp->Prop} {h:Hp} {k:ZC->Nat->Nat->T} {t e:TypeId} {z:ZB} {sz by':Nat} (ht:P.underlying t=some (.slice e)) (hinf:(P.info? e).map (fun i=>(i.zero,i.size,i.bytes))=some (some z,sz,by'))
  (hk:∀ h' ,SL h' h.size e sz (some ⟨h.size,0,none⟩) 0 0 []->Ext h h'->k (some ⟨h.size,0,none⟩) 0 0 L K h'):T.ek P (Instr.buildSlice t 0 #[]) false [(false,[.slice 0])] k L K h:=by
 obtain ⟨i,hi,hz,rfl,rfl⟩:=ou hinf;refine dt ?_;unfold Instr.buildSlice;rw [ar,aF ht];simp only;rw [ar,bS hi];simp only [Nat.zero_mul];rw [W6 ad];have h0:∀ f:Nat->ZB,Array.map f (Array.range 0)=#[]:=fun f=>aj
 simp only [h0];refine ⟨_,_,_,rfl,hk _ ?_ (Ext.push h _)⟩;exact ⟨rfl,aj,h.size,[],[],rfl,Xk _,⟨Xk _,ad⟩,by simpa using bH.new h e [],aj⟩
theorem uM {h:Hp} {a:Zx}:∀ (us:da) (k:Nat),(∀ i,(hi:i<us.length)->aJ h (a.add ((k+i)*2)) 0 (dc us[i]))->aJ h a (k*2) (us.map dc).flatten
 | [],_,_=>trivial
 | t::us,k,hc=>by
  have h0:=hc 0 aj;obtain ⟨h1,h2,_⟩:=h0;rw [add_add] at h1 h2;have ih:=uM us (k+1) (fun i hi=>by
   have:=hc (i+1) (by simpa using hi)
   rw [show k+(i+1)=k+1+i from ad] at this;exact this)
  rw [show (k+1)*2=k*2+1+1 from ad] at ih;exact ⟨h1,by simpa using h2,ih⟩
def gK.flat {h:Hp} {a:Zx} {l:Nat} {us:da} (v:gK h (some a) l us):aJ h a 0 (us.map dc).flatten:=by
 have:=uM (h:=h) (a:=a) us 0 (fun i hi=>by
  obtain ⟨a',e,hc⟩:=v.cells i hi;cases e;rw [XK];exact hc)
 simpa using this
def F' (us:da):(us.map dc).flatten.all cX=true:=by
 rw [XA];intro v hv;obtain ⟨x,hx,hv⟩:=YX.1 hv;obtain ⟨t,_,rfl⟩:=Xd.1 hx;simp only [dc,List.mem_cons,List.not_mem_nil,or_false] at hv;rcases hv with rfl | rfl <;> rfl
end Go.Sx
namespace Go.Sx.Ob
open Go.Proofs
variable {h':Hp} {e2 e1:TypeId} {sec:Nat}
def _root_.Go.Sx.Ch.st {h a b:Hp} {g:Nat} (e:Ext h a) (k:Ch [g] a b) (hg:h.size<=g):Ext h b:=Ch.trans e k (fun i hi hl=>by simp at hi; omega)
def iT (nm:Nat->ZA) (by_:Nat->Int):List ZB:=(List.range 43).flatMap fun k=>[.string (nm k),.int .u8 (by_ k),.int .i64 (jG.getD k 0:Nat)]
def Ar (h:Hp):Prop:=∃ nm by_ e f,h[0]?=some (.cells (iT nm by_).toArray e f)
def Ar.an {ws:List Nat} {h:Hp} (t:Ar h) (k:Ch ws h h') (hw:0∉ws):Ar h':=by
 obtain ⟨nm,by_,e,f,ht⟩:=t;exact ⟨nm,by_,e,f,k.get ht hw⟩
theorem qZ {α β:Type} (f:α->List β) (m:Nat) (hf:∀ x,(f x).length=m):∀ (l:List α) (i j:Nat),j<m->(l.flatMap f)[i*m+j]?=(l[i]?).bind fun x=>(f x)[j]?
 | [],i,j,hj=>aj
 | x::l,0,j,hj=>by
  rw [XJ,XG (by rw [hf]; omega)]
  simp
 | x::l,i+1,j,hj=>by
  rw [XJ,XC (by rw [hf,Ya]; omega),hf,show (i+1)*m+j-m=i*m+j by rw [Ya]; omega,qZ f m hf l i j hj]
  simp
def Ar.cells {h:Hp} (t:Ar h) {k:Nat} (hk:k<43):∃ (s:ZA) (b:Int),aJ h ((⟨0,0,none⟩:Zx).add (k*3)) 0 [.string s,.int .u8 b,.int .i64 (jG.getD k 0:Nat)]:=by
 obtain ⟨nm,by_,e,f,ht⟩:=t;refine ⟨nm k,by_ k,?_⟩;have hg:∀ j,j<3->(iT nm by_)[k*3+j]?=([.string (nm k),.int .u8 (by_ k),.int .i64 (jG.getD k 0:Nat)]:List ZB)[j]?:=by
  intro j hj;unfold iT;rw [qZ _ 3 aj _ _ _ hj];simp [hk]
 rw [aG];refine ⟨?_,?_,?_,trivial⟩
 ·rw [aG,jI ht]
  have:=hg 0 ad
  simpa using this
 ·rw [aG,jI ht]
  have:=hg 1 ad
  simpa using this
 ·rw [aG,jI ht]
  have:=hg 2 ad
  simpa using this
def MU {h:Hp} (t:Ar h) (op:Int) (h1:-9223372036854775808<=op) (h2:op<=9223372036854775807) :
  HC Tryz.prog 44 #[.int .i64 op] h fun w h'=>∃ (s:ZA) (b:Int),w=.tuple #[.agg #[.string s,.int .u8 b,.int .i64 (cP op:Nat)],.bool (decide (cP op≠0))]/\Ext h h':=by
 refine bd (args:=[.int .i64 op]) mixed Tryz.func44 az (xP op) ?_;unfold yT bt br bT;refine bk ?_;intro g1 b1 e1 z1;have hz:∀ (hh:cP op=0),(∃ (s:ZA) (b:Int),(Value.tuple #[.agg #[.string ⟨#[]⟩,.int .u8 0,.int .i64 0],.bool false])=.tuple #[.agg #[.string s,.int .u8 b,.int .i64 (cP op:Nat)],.bool (decide (cP op≠0))]) :=
  fun hh=>⟨⟨#[]⟩,0,by rw [hh]; rfl⟩
 refine ak (fun q=>?_) (fun q=>?_)
 ·have q:=W2 q;refine aw b1 rfl aj ?_;intro g2 b2 k2 z2;refine af b2 ((⟨#[]⟩:ZA),(0:Int),(0:Int),()) rfl ?_;obtain ⟨s,b,e⟩:=hz (by unfold cP; rw [Xb q]);exact ⟨s,b,e,Ch.trans e1 k2 (fun i hi hl=>by simp at hi; omega)⟩
 refine ak (fun r=>?_) (fun r=>?_)
 ·have r:=W2 r;refine aw b1 rfl aj ?_;intro g2 b2 k2 z2;refine af b2 ((⟨#[]⟩:ZA),(0:Int),(0:Int),()) rfl ?_;obtain ⟨s,b,e⟩:=hz (by
   by_cases g:cP op=0
   ·exact g
   ·have:=CB op g
    omega)
  exact ⟨s,b,e,Ch.trans e1 k2 (fun i hi hl=>by simp at hi; omega)⟩
 ·have q:=W4 q;have r:=W4 r;rw [wrap_i64 ad ad];refine ay ⟨ad,ad⟩ ?_;obtain ⟨s,b,hc⟩:=(t.an e1 aj).cells (k:=(op-1).toNat) ad;refine aC (s,b,((jG.getD (op-1).toNat 0:Nat):Int),()) hc (ao ?_);refine aw b1 rfl aj ?_;intro g2 b2 k2 z2;refine af b2 (s,b,((jG.getD (op-1).toNat 0:Nat):Int),()) rfl ?_;refine ⟨s,b,?_,Ch.trans e1 k2 (fun i hi hl=>by simp at hi; omega)⟩;have h3:cP op=jG.getD (op-1).toNat 0:=by unfold cP; rw [W6 ad]
  have h4:cP op≠0:=by
   rw [h3]
   have:∀ k:Fin 43,jG.getD k.1 0≠0:=cn
   exact this ⟨(op-1).toNat,ad⟩
  rw [W9 h4,h3]
def zE {h:Hp} (t:Ar h) (op:Int) (h1:-9223372036854775808<=op) (h2:op<=9223372036854775807) :
  HC Tryz.prog 45 #[.int .i64 op] h fun w h'=>w=.bool (px op)/\Ext h h':=by
 refine bd (args:=[.int .i64 op]) mixed Tryz.func45 az (yX op) ?_;unfold xz bK dL bT cg;refine aK (MU t op h1 h2) ?_;rintro _ g1 ⟨s,b,rfl,e1⟩;refine ⟨(s,b,((cP op:Nat):Int),decide (cP op≠0),()),rfl,ao ?_⟩;refine bk ?_;intro g2 b2 e2 z2;refine aw b2 rfl aj ?_;intro g3 b3 k3 z3;have e3:=(e1.trans e2).st k3 (by have:=e1.size; omega);have b3:bH g3 g1.size 120 [.string s,.int .u8 b,.int .i64 (cP op:Nat)]:=b3;rw [aG];refine af b3 (((cP op:Nat):Int),()) rfl (ao ?_);have hc:=gV op;refine ak (fun q=>?_) (fun q=>?_)
 ·have q:((cP op:Nat):Int)=12:=by simpa using q
  refine ⟨?_,e3⟩;unfold px;rw [W9 ad]
 ·have q:¬ ((cP op:Nat):Int)=12:=by simpa using q
  refine af b3 (((cP op:Nat):Int),()) rfl ?_;refine ⟨?_,e3⟩;unfold px
  by_cases r:cP op=13
  ·rw [r]; rfl
  ·rw [Xa ad]
   congr 1
   simp
   omega
def GD (n:Int):(n==IntKind.wrap .i32 (IntKind.wrap .i8 n))=(decide (-128<=n) && decide (n<=127)):=by
 have h1:IntKind.wrap .i8 n=if n % 256<128 then n % 256 else n % 256-256:=by
  simp only [IntKind.wrap,IntKind.bits,IntKind.signed,Bool.true_and];split <;> rename_i hh
  ·have:=W2 hh
   rw [W6 ad] <;> rfl
  ·have:¬ _:=fun h=>hh (W9 h)
   rw [Xb ad] <;> rfl
 have h2:IntKind.wrap .i32 (IntKind.wrap .i8 n)=IntKind.wrap .i8 n:=by
  have:-128<=IntKind.wrap .i8 n/\IntKind.wrap .i8 n<=127:=by rw [h1]; split <;> omega
  generalize IntKind.wrap .i8 n=m at this;simp only [IntKind.wrap,IntKind.bits,IntKind.signed,Bool.true_and];split <;> rename_i hh
  ·have:=W2 hh; omega
  ·have:¬ _:=fun h=>hh (W9 h); omega
 rw [h2,h1]
 by_cases g:-128<=n/\n<=127
 ·rw [W9 g.1,W9 g.2]
  simp
  split <;> omega
 ·have:(decide (-128<=n) && decide (n<=127))=false:=by
   rw [Bool.and_eq_false_iff]
   simp
   omega
  rw [this]
  simp
  split <;> omega
def EK (n:Int):(n==IntKind.wrap .i32 (IntKind.wrap .i16 n))=(decide (-32768<=n) && decide (n<=32767)):=by
 have h1:IntKind.wrap .i16 n=if n % 65536<32768 then n % 65536 else n % 65536-65536:=by
  simp only [IntKind.wrap,IntKind.bits,IntKind.signed,Bool.true_and];split <;> rename_i hh
  ·have:=W2 hh
   rw [W6 ad] <;> rfl
  ·have:¬ _:=fun h=>hh (W9 h)
   rw [Xb ad] <;> rfl
 have h2:IntKind.wrap .i32 (IntKind.wrap .i16 n)=IntKind.wrap .i16 n:=by
  have:-32768<=IntKind.wrap .i16 n/\IntKind.wrap .i16 n<=32767:=by rw [h1]; split <;> omega
  generalize IntKind.wrap .i16 n=m at this;simp only [IntKind.wrap,IntKind.bits,IntKind.signed,Bool.true_and];split <;> rename_i hh
  ·have:=W2 hh; omega
  ·have:¬ _:=fun h=>hh (W9 h); omega
 rw [h2,h1]
 by_cases g:-32768<=n/\n<=32767
 ·rw [W9 g.1,W9 g.2]
  simp
  split <;> omega
 ·have:(decide (-32768<=n) && decide (n<=32767))=false:=by
   rw [Bool.and_eq_false_iff]
   simp
   omega
  rw [this]
  simp
  split <;> omega
def bZ (h:Hp) (n f:Int):vz Tryz.prog 152 [.int .i32 n,.int .i64 f] h (.bool (lU n f)):=by
 refine et mixed Tryz.func152 az (wv n f) ?_;unfold sE;rw [GD,EK];refine ak (fun q=>?_) (fun q=>?_)
 ·have q:f=1:=by simpa using q
  exact ⟨by unfold lU; rw [Xb q],rfl⟩
 have q:¬ f=1:=by simpa using q
 refine ak (fun r=>?_) (fun r=>?_)
 ·have r:f=2:=by simpa using r
  exact ⟨by unfold lU; rw [W6 q,Xb r],rfl⟩
 have r:¬ f=2:=by simpa using r
 exact ⟨by unfold lU; rw [W6 q,W6 r]; rfl,rfl⟩
def En (h:Hp) (n:Int):vz Tryz.prog 85 [.int .i64 n] h (.bool (tQ n)):=by
 refine et mixed Tryz.func85 az (yb n) ?_;unfold uN bt bC;have hf:¬ (1<=n/\n<=256)->tQ n=false:=by
  intro g;cases hp:tQ n with
  | false=>rfl
  | true =>
   exfalso;unfold tQ at hp;simp only [Bool.or_eq_true,decide_eq_true_eq] at hp;omega
 refine ak (fun q=>?_) (fun q=>?_)
 ·have q:=W2 q;refine ak (fun r=>?_) (fun r=>?_)
  ·have r:=W2 r;refine ⟨?_,rfl⟩;obtain ⟨k,rfl,hk⟩:∃ k:Nat,n=((k+1:Nat):Int)/\k<256:=⟨(n-1).toNat,ad,ad⟩
   have:∀ k:Fin 256,(IntKind.wrap .i64 (((BitVec.toNat ((BitVec.ofInt 64 ((k.1+1:Nat):Int)) &&& (BitVec.ofInt 64 (IntKind.wrap .i64 (((k.1+1:Nat):Int)-(1:Int)))))):Nat):Int)==(0:Int))=tQ ((k.1+1:Nat):Int):=by
    decide +kernel
   rw [this ⟨k,hk⟩]
  ·have r:=W4 r;exact ⟨by rw [hf ad],rfl⟩
 ·have q:=W4 q;exact ⟨by rw [hf ad],rfl⟩
def cC (h:Hp) (n m:Int):vz Tryz.prog 151 [.int .i64 n,.int .i64 m] h (.bool (vA n m)):=by
 refine et mixed Tryz.func151 az (Ae n m) ?_;unfold xc bC;refine ak (fun q=>?_) (fun q=>?_)
 ·have q:=W2 q;refine ⟨?_,rfl⟩;unfold vA;rw [W9 (show 0<=n from ad)] <;> rfl
 ·have q:=W4 q;refine ⟨?_,rfl⟩;unfold vA;rw [Xa (show ¬ 0<=n from ad)] <;> rfl
def cZ (a b:Int):(a==b)=decide (a=b):=rfl
def dk (op a b n form:Int):ZB:=.agg #[.int .i64 op,.int .i64 a,.int .i64 b,.int .i32 n,.int .i64 form]
def M7 (h:Hp) (op a b n form:Int):HC Tryz.prog 135 #[dk op a b n form,.int .i64 1] h fun w h'=>w=.bool (cG 1 a b n)/\Ext h h':=by
 refine bd (args:=[dk op a b n form,.int .i64 1]) mixed Tryz.func135 az (pZ op a b n form) ?_;unfold lx bC;refine bk ?_;intro g1 b1 e1 z1
 try simp only [aG]
 repeat' (first
  | (refine af b1 (_,()) rfl ?_; refine ao ?_)
  | (refine aM (cC _ _ _) ?_)
  | (refine aM (bZ _ _ _) ?_)
  | (refine ak (fun q=>?_) (fun q=>?_)))
 all_goals (refine ⟨?_,e1⟩; first | (simp_all [cG,cZ]; done) | (simp_all [cG,cZ] <;> simp [vA] <;> omega))
def P2 (h:Hp) (op a b n form:Int):HC Tryz.prog 136 #[dk op a b n form,.int .i64 1] h fun w h'=>w=.bool (nR 1 n form)/\Ext h h':=by
 refine bd (args:=[dk op a b n form,.int .i64 1]) mixed Tryz.func136 az (tq op a b n form) ?_;unfold pI;refine bk ?_;intro g1 b1 e1 z1
 try simp only [aG]
 repeat' (first
  | (refine af b1 (_,()) rfl ?_; refine ao ?_)
  | (refine aM (cC _ _ _) ?_)
  | (refine aM (bZ _ _ _) ?_)
  | (refine ak (fun q=>?_) (fun q=>?_)))
 all_goals (refine ⟨?_,e1⟩; first | (simp_all [nR,cZ]; done) | (simp_all [nR,cZ] <;> omega))
def M' (h:Hp) (op a b n form:Int):HC Tryz.prog 135 #[dk op a b n form,.int .i64 2] h fun w h'=>w=.bool (cG 2 a b n)/\Ext h h':=by
 refine bd (args:=[dk op a b n form,.int .i64 2]) mixed Tryz.func135 az (pT op a b n form) ?_;unfold lL aT bC;refine bk ?_;intro g1 b1 e1 z1
 try simp only [aG]
 repeat' (first
  | (refine af b1 (_,()) rfl ?_; refine ao ?_)
  | (refine aM (cC _ _ _) ?_)
  | (refine aM (bZ _ _ _) ?_)
  | (refine ak (fun q=>?_) (fun q=>?_)))
 all_goals (refine ⟨?_,e1⟩; first | (simp_all [cG,cZ]; done) | (simp_all [cG,cZ] <;> simp [vA] <;> omega))
def P4 (h:Hp) (op a b n form:Int):HC Tryz.prog 136 #[dk op a b n form,.int .i64 2] h fun w h'=>w=.bool (nR 2 n form)/\Ext h h':=by
 refine bd (args:=[dk op a b n form,.int .i64 2]) mixed Tryz.func136 az (te op a b n form) ?_;unfold pF;refine bk ?_;intro g1 b1 e1 z1
 try simp only [aG]
 repeat' (first
  | (refine af b1 (_,()) rfl ?_; refine ao ?_)
  | (refine aM (cC _ _ _) ?_)
  | (refine aM (bZ _ _ _) ?_)
  | (refine ak (fun q=>?_) (fun q=>?_)))
 all_goals (refine ⟨?_,e1⟩; first | (simp_all [nR,cZ]; done) | (simp_all [nR,cZ] <;> omega))
def Mz (h:Hp) (op a b n form:Int):HC Tryz.prog 135 #[dk op a b n form,.int .i64 3] h fun w h'=>w=.bool (cG 3 a b n)/\Ext h h':=by
 refine bd (args:=[dk op a b n form,.int .i64 3]) mixed Tryz.func135 az (qe op a b n form) ?_;unfold kZ aT bC;refine bk ?_;intro g1 b1 e1 z1
 try simp only [aG]
 repeat' (first
  | (refine af b1 (_,()) rfl ?_; refine ao ?_)
  | (refine aM (cC _ _ _) ?_)
  | (refine aM (bZ _ _ _) ?_)
  | (refine ak (fun q=>?_) (fun q=>?_)))
 all_goals (refine ⟨?_,e1⟩; first | (simp_all [cG,cZ]; done) | (simp_all [cG,cZ] <;> simp [vA] <;> omega))
def Oj (h:Hp) (op a b n form:Int):HC Tryz.prog 136 #[dk op a b n form,.int .i64 3] h fun w h'=>w=.bool (nR 3 n form)/\Ext h h':=by
 refine bd (args:=[dk op a b n form,.int .i64 3]) mixed Tryz.func136 az (sX op a b n form) ?_;unfold pJ;refine bk ?_;intro g1 b1 e1 z1
 try simp only [aG]
 repeat' (first
  | (refine af b1 (_,()) rfl ?_; refine ao ?_)
  | (refine aM (cC _ _ _) ?_)
  | (refine aM (bZ _ _ _) ?_)
  | (refine ak (fun q=>?_) (fun q=>?_)))
 all_goals (refine ⟨?_,e1⟩; first | (simp_all [nR,cZ]; done) | (simp_all [nR,cZ] <;> omega))
def NH (h:Hp) (op a b n form:Int):HC Tryz.prog 135 #[dk op a b n form,.int .i64 4] h fun w h'=>w=.bool (cG 4 a b n)/\Ext h h':=by
 refine bd (args:=[dk op a b n form,.int .i64 4]) mixed Tryz.func135 az (pO op a b n form) ?_;unfold kT aT bC;refine bk ?_;intro g1 b1 e1 z1
 try simp only [aG]
 repeat' (first
  | (refine af b1 (_,()) rfl ?_; refine ao ?_)
  | (refine aM (cC _ _ _) ?_)
  | (refine aM (bZ _ _ _) ?_)
  | (refine ak (fun q=>?_) (fun q=>?_)))
 all_goals (refine ⟨?_,e1⟩; first | (simp_all [cG,cZ]; done) | (simp_all [cG,cZ] <;> simp [vA] <;> omega))
def Pm (h:Hp) (op a b n form:Int):HC Tryz.prog 136 #[dk op a b n form,.int .i64 4] h fun w h'=>w=.bool (nR 4 n form)/\Ext h h':=by
 refine bd (args:=[dk op a b n form,.int .i64 4]) mixed Tryz.func136 az (th op a b n form) ?_;unfold pH;refine bk ?_;intro g1 b1 e1 z1
 try simp only [aG]
 repeat' (first
  | (refine af b1 (_,()) rfl ?_; refine ao ?_)
  | (refine aM (cC _ _ _) ?_)
  | (refine aM (bZ _ _ _) ?_)
  | (refine ak (fun q=>?_) (fun q=>?_)))
 all_goals (refine ⟨?_,e1⟩; first | (simp_all [nR,cZ]; done) | (simp_all [nR,cZ] <;> omega))
def Mv (h:Hp) (op a b n form:Int):HC Tryz.prog 135 #[dk op a b n form,.int .i64 5] h fun w h'=>w=.bool (cG 5 a b n)/\Ext h h':=by
 refine bd (args:=[dk op a b n form,.int .i64 5]) mixed Tryz.func135 az (qc op a b n form) ?_;unfold lC aT bC;refine bk ?_;intro g1 b1 e1 z1
 try simp only [aG]
 repeat' (first
  | (refine af b1 (_,()) rfl ?_; refine ao ?_)
  | (refine aM (cC _ _ _) ?_)
  | (refine aM (bZ _ _ _) ?_)
  | (refine ak (fun q=>?_) (fun q=>?_)))
 all_goals (refine ⟨?_,e1⟩; first | (simp_all [cG,cZ]; done) | (simp_all [cG,cZ] <;> simp [vA] <;> omega))
def OO (h:Hp) (op a b n form:Int):HC Tryz.prog 136 #[dk op a b n form,.int .i64 5] h fun w h'=>w=.bool (nR 5 n form)/\Ext h h':=by
 refine bd (args:=[dk op a b n form,.int .i64 5]) mixed Tryz.func136 az (sS op a b n form) ?_;unfold pD;refine bk ?_;intro g1 b1 e1 z1
 try simp only [aG]
 repeat' (first
  | (refine af b1 (_,()) rfl ?_; refine ao ?_)
  | (refine aM (cC _ _ _) ?_)
  | (refine aM (bZ _ _ _) ?_)
  | (refine ak (fun q=>?_) (fun q=>?_)))
 all_goals (refine ⟨?_,e1⟩; first | (simp_all [nR,cZ]; done) | (simp_all [nR,cZ] <;> omega))
def Mi (h:Hp) (op a b n form:Int):HC Tryz.prog 135 #[dk op a b n form,.int .i64 6] h fun w h'=>w=.bool (cG 6 a b n)/\Ext h h':=by
 refine bd (args:=[dk op a b n form,.int .i64 6]) mixed Tryz.func135 az (pR op a b n form) ?_;unfold kX aT bC;refine bk ?_;intro g1 b1 e1 z1
 try simp only [aG]
 repeat' (first
  | (refine af b1 (_,()) rfl ?_; refine ao ?_)
  | (refine aM (cC _ _ _) ?_)
  | (refine aM (bZ _ _ _) ?_)
  | (refine ak (fun q=>?_) (fun q=>?_)))
 all_goals (refine ⟨?_,e1⟩; first | (simp_all [cG,cZ]; done) | (simp_all [cG,cZ] <;> simp [vA] <;> omega))
def Pd (h:Hp) (op a b n form:Int):HC Tryz.prog 136 #[dk op a b n form,.int .i64 6] h fun w h'=>w=.bool (nR 6 n form)/\Ext h h':=by
 refine bd (args:=[dk op a b n form,.int .i64 6]) mixed Tryz.func136 az (tJ op a b n form) ?_;unfold pK;refine bk ?_;intro g1 b1 e1 z1
 try simp only [aG]
 repeat' (first
  | (refine af b1 (_,()) rfl ?_; refine ao ?_)
  | (refine aM (cC _ _ _) ?_)
  | (refine aM (bZ _ _ _) ?_)
  | (refine ak (fun q=>?_) (fun q=>?_)))
 all_goals (refine ⟨?_,e1⟩; first | (simp_all [nR,cZ]; done) | (simp_all [nR,cZ] <;> omega))
def K4 (h:Hp) (op a b n form:Int):HC Tryz.prog 135 #[dk op a b n form,.int .i64 7] h fun w h'=>w=.bool (cG 7 a b n)/\Ext h h':=by
 refine bd (args:=[dk op a b n form,.int .i64 7]) mixed Tryz.func135 az (qa op a b n form) ?_;unfold kR aT bC;refine bk ?_;intro g1 b1 e1 z1
 try simp only [aG]
 repeat' (first
  | (refine af b1 (_,()) rfl ?_; refine ao ?_)
  | (refine aM (cC _ _ _) ?_)
  | (refine aM (bZ _ _ _) ?_)
  | (refine ak (fun q=>?_) (fun q=>?_)))
 all_goals (refine ⟨?_,e1⟩; first | (simp_all [cG,cZ]; done) | (simp_all [cG,cZ] <;> simp [vA] <;> omega))
def Qt (h:Hp) (op a b n form:Int):HC Tryz.prog 136 #[dk op a b n form,.int .i64 7] h fun w h'=>w=.bool (nR 7 n form)/\Ext h h':=by
 refine bd (args:=[dk op a b n form,.int .i64 7]) mixed Tryz.func136 az (tM op a b n form) ?_;unfold pN;refine bk ?_;intro g1 b1 e1 z1
 try simp only [aG]
 repeat' (first
  | (refine af b1 (_,()) rfl ?_; refine ao ?_)
  | (refine aM (cC _ _ _) ?_)
  | (refine aM (bZ _ _ _) ?_)
  | (refine ak (fun q=>?_) (fun q=>?_)))
 all_goals (refine ⟨?_,e1⟩; first | (simp_all [nR,cZ]; done) | (simp_all [nR,cZ] <;> omega))
def LY (h:Hp) (op a b n form:Int):HC Tryz.prog 135 #[dk op a b n form,.int .i64 8] h fun w h'=>w=.bool (cG 8 a b n)/\Ext h h':=by
 refine bd (args:=[dk op a b n form,.int .i64 8]) mixed Tryz.func135 az (qf op a b n form) ?_;unfold kV aT bC;refine bk ?_;intro g1 b1 e1 z1
 try simp only [aG]
 repeat' (first
  | (refine af b1 (_,()) rfl ?_; refine ao ?_)
  | (refine aM (cC _ _ _) ?_)
  | (refine aM (bZ _ _ _) ?_)
  | (refine ak (fun q=>?_) (fun q=>?_)))
 all_goals (refine ⟨?_,e1⟩; first | (simp_all [cG,cZ]; done) | (simp_all [cG,cZ] <;> simp [vA] <;> omega))
def Qf (h:Hp) (op a b n form:Int):HC Tryz.prog 136 #[dk op a b n form,.int .i64 8] h fun w h'=>w=.bool (nR 8 n form)/\Ext h h':=by
 refine bd (args:=[dk op a b n form,.int .i64 8]) mixed Tryz.func136 az (tB op a b n form) ?_;unfold pL aT;refine bk ?_;intro g1 b1 e1 z1
 try simp only [aG]
 repeat' (first
  | (refine af b1 (_,()) rfl ?_; refine ao ?_)
  | (refine aM (cC _ _ _) ?_)
  | (refine aM (bZ _ _ _) ?_)
  | (refine ak (fun q=>?_) (fun q=>?_)))
 all_goals (refine ⟨?_,e1⟩; first | (simp_all [nR,cZ]; done) | (simp_all [nR,cZ] <;> omega))
def NQ (h:Hp) (op a b n form:Int):HC Tryz.prog 135 #[dk op a b n form,.int .i64 9] h fun w h'=>w=.bool (cG 9 a b n)/\Ext h h':=by
 refine bd (args:=[dk op a b n form,.int .i64 9]) mixed Tryz.func135 az (pQ op a b n form) ?_;unfold lh bC;refine bk ?_;intro g1 b1 e1 z1
 try simp only [aG]
 repeat' (first
  | (refine af b1 (_,()) rfl ?_; refine ao ?_)
  | (refine aM (cC _ _ _) ?_)
  | (refine aM (bZ _ _ _) ?_)
  | (refine ak (fun q=>?_) (fun q=>?_)))
 all_goals (refine ⟨?_,e1⟩; first | (simp_all [cG,cZ]; done) | (simp_all [cG,cZ] <;> simp [vA] <;> omega))
def O3 (h:Hp) (op a b n form:Int):HC Tryz.prog 136 #[dk op a b n form,.int .i64 9] h fun w h'=>w=.bool (nR 9 n form)/\Ext h h':=by
 refine bd (args:=[dk op a b n form,.int .i64 9]) mixed Tryz.func136 az (sY op a b n form) ?_;unfold pC bC;refine bk ?_;intro g1 b1 e1 z1
 try simp only [aG]
 repeat' (first
  | (refine af b1 (_,()) rfl ?_; refine ao ?_)
  | (refine aM (cC _ _ _) ?_)
  | (refine aM (bZ _ _ _) ?_)
  | (refine ak (fun q=>?_) (fun q=>?_)))
 all_goals (refine ⟨?_,e1⟩; first | (simp_all [nR,cZ]; done) | (simp_all [nR,cZ] <;> omega))
def JV (h:Hp) (op a b n form:Int):HC Tryz.prog 135 #[dk op a b n form,.int .i64 10] h fun w h'=>w=.bool (cG 10 a b n)/\Ext h h':=by
 refine bd (args:=[dk op a b n form,.int .i64 10]) mixed Tryz.func135 az (pa op a b n form) ?_;unfold kg aT bC;refine bk ?_;intro g1 b1 e1 z1
 try simp only [aG]
 repeat' (first
  | (refine af b1 (_,()) rfl ?_; refine ao ?_)
  | (refine aM (cC _ _ _) ?_)
  | (refine aM (bZ _ _ _) ?_)
  | (refine ak (fun q=>?_) (fun q=>?_)))
 all_goals (refine ⟨?_,e1⟩; first | (simp_all [cG,cZ]; done) | (simp_all [cG,cZ] <;> simp [vA] <;> omega))
def My (h:Hp) (op a b n form:Int):HC Tryz.prog 136 #[dk op a b n form,.int .i64 10] h fun w h'=>w=.bool (nR 10 n form)/\Ext h h':=by
 refine bd (args:=[dk op a b n form,.int .i64 10]) mixed Tryz.func136 az (r9 op a b n form) ?_;unfold nQ;refine bk ?_;intro g1 b1 e1 z1
 try simp only [aG]
 repeat' (first
  | (refine af b1 (_,()) rfl ?_; refine ao ?_)
  | (refine aM (cC _ _ _) ?_)
  | (refine aM (bZ _ _ _) ?_)
  | (refine ak (fun q=>?_) (fun q=>?_)))
 all_goals (refine ⟨?_,e1⟩; first | (simp_all [nR,cZ]; done) | (simp_all [nR,cZ] <;> omega))
def IM (h:Hp) (op a b n form:Int):HC Tryz.prog 135 #[dk op a b n form,.int .i64 11] h fun w h'=>w=.bool (cG 11 a b n)/\Ext h h':=by
 refine bd (args:=[dk op a b n form,.int .i64 11]) mixed Tryz.func135 az (oG op a b n form) ?_;unfold km aT bC;refine bk ?_;intro g1 b1 e1 z1
 try simp only [aG]
 repeat' (first
  | (refine af b1 (_,()) rfl ?_; refine ao ?_)
  | (refine aM (cC _ _ _) ?_)
  | (refine aM (bZ _ _ _) ?_)
  | (refine ak (fun q=>?_) (fun q=>?_)))
 all_goals (refine ⟨?_,e1⟩; first | (simp_all [cG,cZ]; done) | (simp_all [cG,cZ] <;> simp [vA] <;> omega))
def Kp (h:Hp) (op a b n form:Int):HC Tryz.prog 136 #[dk op a b n form,.int .i64 11] h fun w h'=>w=.bool (nR 11 n form)/\Ext h h':=by
 refine bd (args:=[dk op a b n form,.int .i64 11]) mixed Tryz.func136 az (r6 op a b n form) ?_;unfold nW bC;refine bk ?_;intro g1 b1 e1 z1
 try simp only [aG]
 repeat' (first
  | (refine af b1 (_,()) rfl ?_; refine ao ?_)
  | (refine aM (cC _ _ _) ?_)
  | (refine aM (bZ _ _ _) ?_)
  | (refine ak (fun q=>?_) (fun q=>?_)))
 all_goals (refine ⟨?_,e1⟩; first | (simp_all [nR,cZ]; done) | (simp_all [nR,cZ] <;> omega))
def Jd (h:Hp) (op a b n form:Int):HC Tryz.prog 135 #[dk op a b n form,.int .i64 12] h fun w h'=>w=.bool (cG 12 a b n)/\Ext h h':=by
 refine bd (args:=[dk op a b n form,.int .i64 12]) mixed Tryz.func135 az (ow op a b n form) ?_;unfold kj bC;refine bk ?_;intro g1 b1 e1 z1
 try simp only [aG]
 repeat' (first
  | (refine af b1 (_,()) rfl ?_; refine ao ?_)
  | (refine aM (cC _ _ _) ?_)
  | (refine aM (bZ _ _ _) ?_)
  | (refine ak (fun q=>?_) (fun q=>?_)))
 all_goals (refine ⟨?_,e1⟩; first | (simp_all [cG,cZ]; done) | (simp_all [cG,cZ] <;> simp [vA] <;> omega))
def NM (h:Hp) (op a b n form:Int):HC Tryz.prog 136 #[dk op a b n form,.int .i64 12] h fun w h'=>w=.bool (nR 12 n form)/\Ext h h':=by
 refine bd (args:=[dk op a b n form,.int .i64 12]) mixed Tryz.func136 az (rY op a b n form) ?_;unfold nG aT;refine bk ?_;intro g1 b1 e1 z1
 try simp only [aG]
 repeat' (first
  | (refine af b1 (_,()) rfl ?_; refine ao ?_)
  | (refine aM (cC _ _ _) ?_)
  | (refine aM (bZ _ _ _) ?_)
  | (refine ak (fun q=>?_) (fun q=>?_)))
 all_goals (refine ⟨?_,e1⟩; first | (simp_all [nR,cZ]; done) | (simp_all [nR,cZ] <;> omega))
def Je (h:Hp) (op a b n form:Int):HC Tryz.prog 135 #[dk op a b n form,.int .i64 13] h fun w h'=>w=.bool (cG 13 a b n)/\Ext h h':=by
 refine bd (args:=[dk op a b n form,.int .i64 13]) mixed Tryz.func135 az (oM op a b n form) ?_;unfold kD aT bC;refine bk ?_;intro g1 b1 e1 z1
 try simp only [aG]
 repeat' (first
  | (refine af b1 (_,()) rfl ?_; refine ao ?_)
  | (refine aM (cC _ _ _) ?_)
  | (refine aM (bZ _ _ _) ?_)
  | (refine ak (fun q=>?_) (fun q=>?_)))
 all_goals (refine ⟨?_,e1⟩; first | (simp_all [cG,cZ]; done) | (simp_all [cG,cZ] <;> simp [vA] <;> omega))
def ME (h:Hp) (op a b n form:Int):HC Tryz.prog 136 #[dk op a b n form,.int .i64 13] h fun w h'=>w=.bool (nR 13 n form)/\Ext h h':=by
 refine bd (args:=[dk op a b n form,.int .i64 13]) mixed Tryz.func136 az (rZ op a b n form) ?_;unfold np aT;refine bk ?_;intro g1 b1 e1 z1
 try simp only [aG]
 repeat' (first
  | (refine af b1 (_,()) rfl ?_; refine ao ?_)
  | (refine aM (cC _ _ _) ?_)
  | (refine aM (bZ _ _ _) ?_)
  | (refine ak (fun q=>?_) (fun q=>?_)))
 all_goals (refine ⟨?_,e1⟩; first | (simp_all [nR,cZ]; done) | (simp_all [nR,cZ] <;> omega))
def Db (h:Hp) (op a b n form:Int) {s:Nat} (h1:1<=s) (h2:s<=13):HC Tryz.prog 135 #[dk op a b n form,.int .i64 s] h fun w h'=>w=.bool (cG s a b n)/\Ext h h':=by
 have hs:s=1\/s=2\/s=3\/s=4\/s=5\/s=6\/s=7\/s=8\/s=9\/s=10\/s=11\/s=12\/s=13:=ad
 clear h1 h2;rcases hs with rfl | rfl | rfl | rfl | rfl | rfl | rfl | rfl | rfl | rfl | rfl | rfl | rfl
 ·exact M7 h op a b n form
 ·exact M' h op a b n form
 ·exact Mz h op a b n form
 ·exact NH h op a b n form
 ·exact Mv h op a b n form
 ·exact Mi h op a b n form
 ·exact K4 h op a b n form
 ·exact LY h op a b n form
 ·exact NQ h op a b n form
 ·exact JV h op a b n form
 ·exact IM h op a b n form
 ·exact Jd h op a b n form
 ·exact Je h op a b n form
def Br (h:Hp) (op a b n form:Int) {s:Nat} (h1:1<=s) (h2:s<=13):HC Tryz.prog 136 #[dk op a b n form,.int .i64 s] h fun w h'=>w=.bool (nR s n form)/\Ext h h':=by
 have hs:s=1\/s=2\/s=3\/s=4\/s=5\/s=6\/s=7\/s=8\/s=9\/s=10\/s=11\/s=12\/s=13:=ad
 clear h1 h2;rcases hs with rfl | rfl | rfl | rfl | rfl | rfl | rfl | rfl | rfl | rfl | rfl | rfl | rfl
 ·exact P2 h op a b n form
 ·exact P4 h op a b n form
 ·exact Oj h op a b n form
 ·exact Pm h op a b n form
 ·exact OO h op a b n form
 ·exact Pd h op a b n form
 ·exact Qt h op a b n form
 ·exact Qf h op a b n form
 ·exact O3 h op a b n form
 ·exact My h op a b n form
 ·exact Kp h op a b n form
 ·exact NM h op a b n form
 ·exact ME h op a b n form
def Sm (n:Int):Prop:=-9223372036854775808<=n/\n<=9223372036854775807
def Ex {h:Hp} (t:Ar h) (op a b n form:Int) (ho:Sm op) :
  HC Tryz.prog 112 #[dk op a b n form] h fun w h'=>w=.int .i64 (gk ⟨op,a,b,n,form⟩)/\Ext h h':=by
 refine bd (args:=[dk op a b n form]) mixed Tryz.func112 az (zw op a b n form) ?_;unfold xG aT bK bT cg;refine bk ?_;intro g1 b1 e1 z1;refine af b1 (op,()) rfl (ao ?_);refine aK (MU (t.an e1 aj) op ho.1 ho.2) ?_;rintro _ g2 ⟨s,y,rfl,e2⟩;refine ⟨(s,y,((cP op:Nat):Int),decide (cP op≠0),()),rfl,ao ?_⟩;refine bk ?_;intro g3 b3 e3 z3;refine aw b3 rfl aj ?_;intro g4 b4 k4 z4;have b4:bH g4 g2.size 120 [.string s,.int .u8 y,.int .i64 (cP op:Nat)]:=b4;have e4:=((e1.trans e2).trans e3).st k4 (by have:=e1.size; have:=e2.size; omega);have b1:=b1.an ((e2.trans e3).st k4 (by have:=e2.size; omega)) aj;unfold gk;simp only [aG];refine ak (fun q=>?_) (fun q=>?_)
 ·have q:cP op=0:=by simpa using q
  exact ⟨by rw [Xb q],e4⟩
 have q:¬ cP op=0:=by simpa using q
 rw [W6 q];refine af b1 (op,a,b,n,form,()) rfl (ao ?_);refine af b4 (((cP op:Nat):Int),()) rfl (ao ?_);have hs:=gV op;refine aK (Db g4 op a b n form (s:=cP op) ad ad) ?_;rintro _ g5 ⟨rfl,e5⟩;refine ⟨(cG (cP op) a b n,()),rfl,ao ?_⟩;have e45:=e4.trans e5;refine ak (fun q=>?_) (fun q=>?_)
 ·have q:cG (cP op) a b n=false:=by simpa using q
  exact ⟨by rw [Xb q],e45⟩
 have q:cG (cP op) a b n=true:=by simpa using q
 rw [W6 (by rw [q]; simp)];have b1:=b1.an e5 aj;have b4:=b4.an e5 aj;refine af b1 (op,()) rfl (ao ?_);refine aK (zE (t.an e45 aj) op ho.1 ho.2) ?_;rintro _ g6 ⟨rfl,e6⟩;refine ⟨(px op,()),rfl,ao ?_⟩;have e46:=e45.trans e6;have b1:=b1.an e6 aj;have b4:=b4.an e6 aj;refine ak (fun q=>?_) (fun q=>?_)
 ·have q:px op=false:=by simpa using q
  refine af b1 (form,()) rfl (ao ?_);refine ak (fun r=>?_) (fun r=>?_)
  ·have r:¬ form=0:=by simpa using r
   exact ⟨by rw [q]; simp [r],e46⟩
  have r:form=0:=by simpa using r
  refine af b1 (op,a,b,n,form,()) rfl (ao ?_);refine af b4 (((cP op:Nat):Int),()) rfl (ao ?_);refine aK (Br g6 op a b n form (s:=cP op) ad ad) ?_;rintro _ g7 ⟨rfl,e7⟩;refine ⟨(nR (cP op) n form,()),rfl,ao ?_⟩;refine ak (fun p=>?_) (fun p=>?_)
  ·exact ⟨by rw [q]; simp_all,e46.trans e7⟩
  ·exact ⟨by rw [q]; simp_all,e46.trans e7⟩
 ·have q:px op=true:=by simpa using q
  refine af b1 (op,a,b,n,form,()) rfl (ao ?_);refine af b4 (((cP op:Nat):Int),()) rfl (ao ?_);refine aK (Br g6 op a b n form (s:=cP op) ad ad) ?_;rintro _ g7 ⟨rfl,e7⟩;refine ⟨(nR (cP op) n form,()),rfl,ao ?_⟩;refine ak (fun p=>?_) (fun p=>?_)
  ·exact ⟨by rw [q]; simp_all,e46.trans e7⟩
  ·exact ⟨by rw [q]; simp_all,e46.trans e7⟩
def encI (p:ZC) (l c:Nat) (x:cF):List ZB:=[.int .i64 x.kind,.string x.name,.int .i64 x.inst.op,.int .i64 x.inst.a,.int .i64 x.inst.b,.int .i32 x.inst.n,.int .i64 x.inst.form,.slice p l c,.int .u32 x.e.num,.int .i64 x.n]
def uO (p:ZC) (l c:Nat) (x:cF):ZB:=.agg (encI p l c x).toArray
structure qX (h:Hp) (p:ZC) (l:Nat) (x:cm):Prop where
 vw:gK h p l x.ai
 many:x.ai.length<=2^60
 names:∀ t,t∈x.ai->t.1.size<=maxLen
def qX.an {h:Hp} {p:ZC} {l:Nat} {x:cm} (v:qX h p l x) (k:Ext h h'):qX h' p l x:=⟨v.vw.an k aj,v.many,v.names⟩
def gK.none (h:Hp):gK h none 0 []:=⟨rfl,fun i hi=>absurd hi aj⟩
def qS (x:cm):vY x Eu=N8 x:=by
 unfold vY N8 Eu;rw [Bool.and_comm]
def HG (g k:Nat):T :=
 T.ah ⟨g,5,none⟩ [.int .i32] <| fun (n16:Int) =>
 cond (n16==(0:Int))
  (T.ah ⟨k,0,none⟩ [.int .i64,.int .i64,.int .i64,.int .i32,.int .i64] <| fun (n17:Int) (n18:Int) (n19:Int) (n20:Int) (n21:Int) =>
  bK 112 [.agg #[.int .i64 n17,.int .i64 n18,.int .i64 n19,.int .i32 n20,.int .i64 n21]] false [aR] <| fun (n22:Int) =>
  cond (n22==(0:Int))
  (T.ah ⟨g,7,none⟩ [.slice 117,.int .u32] <| fun (p23:ZC) (l24:Nat) (l25:Nat) (n26:Int) =>
  bK 61 [.agg #[.slice p23 l24 l25,aH n26]] false [cg] <| fun (b27:Bool) =>
  T.ret (.bool b27))
  bC)
  bC
def KL (g k:Nat):T :=
 T.ah ⟨k,0,none⟩ [.int .i64,.int .i64,.int .i64,.int .i32,.int .i64] <| fun (n16:Int) (n17:Int) (n18:Int) (n19:Int) (n20:Int) =>
 bK 112 [.agg #[.int .i64 n16,.int .i64 n17,.int .i64 n18,.int .i32 n19,.int .i64 n20]] false [aR] <| fun (n21:Int) =>
 cond (n21==(0:Int))
  (T.ah ⟨g,7,none⟩ [.slice 117,.int .u32] <| fun (p22:ZC) (l23:Nat) (l24:Nat) (n25:Int) =>
  bK 86 [.agg #[.slice p22 l23 l24,aH n25],.agg #[bi,aH (0:Int)]] false [cg] <| fun (b26:Bool) =>
  T.ret (.bool b26))
  bC
def nV (i:Ins):List ZB:=[.int .i64 i.op,.int .i64 i.a,.int .i64 i.b,.int .i32 i.n,.int .i64 i.form]
def Eo {L:Lp} {h0 h:Hp} (t:Ar h) {x:cF} {p:ZC} {l c g k:Nat} {i:Ins} (b1:bH h g e1 (encI p l c x)) (b2:bH h k e2 (nV i)) (v:qX h p l x.e) (ho:Sm i.op) (e:Ext h0 h) :
  HG g k L (fun w h'=>w=.bool (decide (x.inst.n=0) && decide (gk i=0) && ni none x.e.ai)/\Ext h0 h') h:=by
 unfold HG bK aH bC aR cg;refine af b1 (x.inst.n,()) rfl (ao ?_);refine ak (fun q=>?_) (fun q=>?_)
 ·have q:x.inst.n=0:=by simpa using q
  refine af b2 (i.op,i.a,i.b,i.n,i.form,()) rfl (ao ?_);refine aK (Ex t i.op i.a i.b i.n i.form ho) ?_;rintro _ g2 ⟨rfl,e2⟩;refine ⟨(gk i,()),rfl,ao ?_⟩;refine ak (fun r=>?_) (fun r=>?_)
  ·have r:gk i=0:=by simpa using r
   refine af (b1.an e2 aj) ((p,l,c),(x.e.num:Int),()) rfl (ao ?_);refine aK (tu (c:=c) (v.an e2).vw (by have:=v.many; omega) v.names) ?_;rintro _ g3 ⟨rfl,e3⟩;refine ⟨(ni none x.e.ai,()),rfl,?_⟩;exact ⟨by rw [W9 q,W9 r]; rfl,(e.trans e2).trans e3⟩
  ·have r:¬ gk i=0:=by simpa using r
   exact ⟨by rw [Xa r,YY]; rfl,e.trans e2⟩
 ·have q:¬ x.inst.n=0:=by simpa using q
  exact ⟨by rw [Xa q]; rfl,e⟩
def KM {L:Lp} {h0 h:Hp} (t:Ar h) {x:cF} {p:ZC} {l c g k:Nat} {i:Ins} (b1:bH h g e1 (encI p l c x)) (b2:bH h k e2 (nV i)) (v:qX h p l x.e) (ho:Sm i.op) (e:Ext h0 h) :
  KL g k L (fun w h'=>w=.bool (decide (gk i=0) && N8 x.e)/\Ext h0 h') h:=by
 unfold KL bK aH bC bi aR cg;refine af b2 (i.op,i.a,i.b,i.n,i.form,()) rfl (ao ?_);refine aK (Ex t i.op i.a i.b i.n i.form ho) ?_;rintro _ g2 ⟨rfl,e2⟩;refine ⟨(gk i,()),rfl,ao ?_⟩;refine ak (fun r=>?_) (fun r=>?_)
 ·have r:gk i=0:=by simpa using r
  refine af (b1.an e2 aj) ((p,l,c),(x.e.num:Int),()) rfl (ao ?_);refine aK (AS (c:=c) (d:=0) (y:=Eu) (v.an e2).vw (gK.none g2) v.many) ?_;rintro _ g3 ⟨rfl,e3⟩;refine ⟨(vY x.e Eu,()),rfl,?_⟩;exact ⟨by rw [W9 r,qS]; rfl,(e.trans e2).trans e3⟩
 ·have r:¬ gk i=0:=by simpa using r
  exact ⟨by rw [Xa r]; rfl,e.trans e2⟩
def instruction_hc {h:Hp} (t:Ar h) {x:cF} {p:ZC} {l c:Nat} (v:qX h p l x.e) (ho:Sm x.inst.op) :
  HC Tryz.prog 84 #[uO p l c x] h fun w h'=>w=.bool (yF x.inst x.e)/\Ext h h':=by
 refine bd (args:=[uO p l c x]) mixed Tryz.func84 az (pU x.kind x.name x.inst.op x.inst.a x.inst.b x.inst.n x.inst.form p l c x.e.num x.n) ?_;unfold lH aT cD bK aH bC bi bT cg;refine bk ?_;intro g1 b1 e1 z1;have b1:bH g1 h.size 71 (encI p l c x):=b1;simp only [aG];refine af b1 (x.inst.op,()) rfl (ao ?_);refine aK (MU (t.an e1 aj) x.inst.op ho.1 ho.2) ?_;rintro _ g2 ⟨s,y,rfl,e2⟩;refine ⟨(s,y,((cP x.inst.op:Nat):Int),decide (cP x.inst.op≠0),()),rfl,ao ?_⟩;refine bk ?_;intro g3 b3 e3 z3;refine aw b3 rfl aj ?_;intro g4 b4 k4 z4;have b4:bH g4 g2.size 120 [.string s,.int .u8 y,.int .i64 (cP x.inst.op:Nat)]:=b4;have s1:=e1.size;have s2:=e2.size;have e14:=(e2.trans e3).st k4 ad;have e4:=e1.trans e14;have b1:=b1.an e14 aj;unfold yF;refine ak (fun q=>?_) (fun q=>?_)
 ·have q:cP x.inst.op=0:=by simpa using q
  exact ⟨by rw [q]; rfl,e4⟩
 have q:cP x.inst.op≠0:=by simpa using q
 rw [W9 q,Xu];refine af b1 (x.inst.form,()) rfl (ao ?_);refine ak (fun r=>?_) (fun r=>?_)
 ·have r:¬ x.inst.form=0:=by simpa using r
  exact ⟨by rw [Xa r]; rfl,e4⟩
 have r:x.inst.form=0:=by simpa using r
 rw [W9 r,Xu];refine af b1 (x.inst.op,x.inst.a,x.inst.b,x.inst.n,x.inst.form,()) rfl (ao ?_);refine bk ?_;intro g5 b5 e5 z5;refine aw b5 rfl aj ?_;intro g6 b6 k6 z6;have b6:bH g6 g4.size 65 (nV x.inst):=b6;have e46:=e5.st k6 ad;have e6:=e4.trans e46;have b1:=b1.an e46 aj;have b4:=b4.an e46 aj;simp only [aG];have hs:=gV x.inst.op;refine af b4 (((cP x.inst.op:Nat):Int),()) rfl (ao ?_);generalize hB:(if Fz x.inst.op=true then decide (x.inst.n=0) && decide (gk { x.inst with form:=if px x.inst.op=true then 1 else 0 }=0) && ni none x.e.ai else decide (gk x.inst=0) && N8 x.e)=B;have hF:{ x.inst with form:=0 }=x.inst:=by
  rcases hx:x.inst with ⟨a1,a2,a3,a4,a5⟩
  rw [hx] at r;simp only at r;rw [r]
 have hA:12<=cP x.inst.op->T.aE ⟨g4.size,4,none⟩ [.int .i64 1] (HG h.size g4.size) [] (fun w h'=>w=.bool B/\Ext h h') g6:=by
  intro hh;refine aw b6 rfl (by simp [nV]) ?_;intro g7 b7 k7 z7;have b7:bH g7 g4.size 65 (nV { x.inst with form:=1 }):=b7;have e67:Ext g4 g7:=e46.st k7 ad;have e7:=e4.trans e67;have hw:Fz x.inst.op=true:=W9 ad;have hp:px x.inst.op=true:=W9 hh;rw [Xb hw,Xb hp] at hB
  have:=Eo (L:=[]) (h0:=h) (t.an e7 aj) (b1.an k7 (by simp; omega)) b7 (v.an e7) ho e7
  rw [hB] at this;exact this
 have hR:cP x.inst.op=10\/cP x.inst.op=11->HG h.size g4.size [] (fun w h'=>w=.bool B/\Ext h h') g6:=by
  intro hh;have hw:Fz x.inst.op=true:=W9 ad;have hp:¬ px x.inst.op=true:=by unfold px; rw [Xa ad]; simp
  rw [Xb hw,W6 hp,hF] at hB
  have:=Eo (L:=[]) (h0:=h) (t.an e6 aj) b1 b6 (v.an e6) ho e6
  rw [hB] at this;exact this
 have hS:cP x.inst.op<10->KL h.size g4.size [] (fun w h'=>w=.bool B/\Ext h h') g6:=by
  intro hh;have hw:¬ Fz x.inst.op=true:=by unfold Fz; rw [Xa ad]; simp
  rw [W6 hw] at hB
  have:=KM (L:=[]) (h0:=h) (t.an e6 aj) b1 b6 (v.an e6) ho e6
  rw [hB] at this;exact this
 clear hB;refine ak (fun q1=>?_) (fun q1=>?_)
 ·have q1:((cP x.inst.op:Nat):Int)=12:=by simpa using q1
  refine ak (fun q2=>hA ad) (fun q2=>?_);have q2:¬ ((cP x.inst.op:Nat):Int)=12:=by simpa using q2
  exact absurd q1 q2
 have q1:¬ ((cP x.inst.op:Nat):Int)=12:=by simpa using q1
 refine ak (fun q2=>?_) (fun q2=>?_)
 ·have q2:((cP x.inst.op:Nat):Int)=13:=by simpa using q2
  exact hA ad
 have q2:¬ ((cP x.inst.op:Nat):Int)=13:=by simpa using q2
 refine ak (fun q3=>?_) (fun q3=>?_)
 ·have q3:((cP x.inst.op:Nat):Int)=10:=by simpa using q3
  refine ak (fun q2=>hR ad) (fun q4=>?_);have q4:¬ ((cP x.inst.op:Nat):Int)=10:=by simpa using q4
  exact absurd q3 q4
 have q3:¬ ((cP x.inst.op:Nat):Int)=10:=by simpa using q3
 refine ak (fun q4=>?_) (fun q4=>?_)
 ·have q4:((cP x.inst.op:Nat):Int)=11:=by simpa using q4
  exact hR ad
 have q4:¬ ((cP x.inst.op:Nat):Int)=11:=by simpa using q4
 exact hS ad
structure kC (h:Hp) (p:ZC) (l:Nat) (x:cF):Prop where
 lin:qX h p l x.e
 name:x.name.size<=maxLen
 op:Sm x.inst.op
def kC.an {h:Hp} {p:ZC} {l:Nat} {x:cF} (v:kC h p l x) (k:Ext h h'):kC h' p l x:=⟨v.lin.an k,v.name,v.op⟩
def kA (x y:cF):Bool:=decide (x.name=y.name) && decide (x.inst=y.inst) && decide (x.n=y.n) && vY x.e y.e
def Rh:Tryz.prog.underlying 65=some (.struct (Aw Tryz.prog 65)):=az
def Sd (x y:Operand) (i j:Ins) (h:Hp) (K:ZB->Hp->Prop) (hk:K (.bool !(decide (i=j))) h) :
  aS Tryz.prog (Sx.ir (BinOp.neq) 65 x y (.agg (nV i).toArray) (.agg (nV j).toArray)) h K:=by
 refine yC Rh az az az K ?_;have he:(Aw Tryz.prog 65).all (FJ (nV i).toArray (nV j).toArray)=(i.op==j.op && (i.a==j.a && (i.b==j.b && (i.n==j.n && (i.form==j.form && true))))):=by
  rw [<- Yj]
  kernel_rfl
 rw [he,Yk]
 have:(i.op==j.op && (i.a==j.a && (i.b==j.b && (i.n==j.n && i.form==j.form))))=decide (i=j):=by
  rcases i with ⟨a1,a2,a3,a4,a5⟩
  rcases j with ⟨c1,c2,c3,c4,c5⟩
  simp only [cZ,Ins.mk.injEq]
  by_cases h1:a1=c1 <;> by_cases h2:a2=c2 <;> by_cases h3:a3=c3 <;> by_cases h4:a4=c4 <;> by_cases h5:a5=c5 <;> simp [h1,h2,h3,h4,h5]
 rw [this];exact hk
def Wp (g k:Nat):T :=
 T.ah ⟨g,1,none⟩ [.string] <| fun (s8:ZA) =>
 T.ah ⟨k,1,none⟩ [.string] <| fun (s9:ZA) =>
 cond (!((ByteArray.toList s8)==(ByteArray.toList s9)))
  (T.ret (.int .i64 (31:Int)))
  (T.ah ⟨g,2,none⟩ [.int .i64,.int .i64,.int .i64,.int .i32,.int .i64] <| fun (n10:Int) (n11:Int) (n12:Int) (n13:Int) (n14:Int) =>
  T.ah ⟨k,2,none⟩ [.int .i64,.int .i64,.int .i64,.int .i32,.int .i64] <| fun (n15:Int) (n16:Int) (n17:Int) (n18:Int) (n19:Int) =>
  bR (Sx.ir (BinOp.neq) 65 (Operand.tmp 109) (Operand.tmp 111) (.agg #[.int .i64 n10,.int .i64 n11,.int .i64 n12,.int .i32 n13,.int .i64 n14]) (.agg #[.int .i64 n15,.int .i64 n16,.int .i64 n17,.int .i32 n18,.int .i64 n19])) false [cg] <| fun (b20:Bool) =>
  cond b20
  (T.ret (.int .i64 (31:Int)))
  (T.ah ⟨g,9,none⟩ [.int .i64] <| fun (n21:Int) =>
  T.ah ⟨k,9,none⟩ [.int .i64] <| fun (n22:Int) =>
  cond (n21 != n22)
   (T.ret (.int .i64 (31:Int)))
   (T.ah ⟨g,7,none⟩ [.slice 117,.int .u32] <| fun (p23:ZC) (l24:Nat) (l25:Nat) (n26:Int) =>
   T.ah ⟨k,7,none⟩ [.slice 117,.int .u32] <| fun (p27:ZC) (l28:Nat) (l29:Nat) (n30:Int) =>
   bK 86 [.agg #[.slice p23 l24 l25,aH n26],.agg #[.slice p27 l28 l29,aH n30]] false [cg] <| fun (b31:Bool) =>
   cond (!b31)
   (T.ret (.int .i64 (31:Int)))
   (T.ret (.int .i64 (0:Int))))))
def C0 (b:Bool):ZB:=.int .i64 (if b then 0 else 31)
def oH {L:Lp} {h0 h:Hp} {x y:cF} {p q:ZC} {l c m d g k:Nat} (b1:bH h g e1 (encI p l c x)) (b2:bH h k e2 (encI q m d y)) (v:qX h p l x.e) (w:gK h q m y.e.ai) (e:Ext h0 h) :
  Wp g k L (fun w h'=>w=C0 (kA x y)/\Ext h0 h') h:=by
 unfold Wp kA bK bR aH cg;refine af b1 (x.name,()) rfl (ao ?_);refine af b2 (y.name,()) rfl (ao ?_);rw [ByteArray.toList_eq,ByteArray.toList_eq];refine ak (fun r=>?_) (fun r=>?_)
 ·have r:¬ x.name=y.name:=fun he=>by rw [he] at r; simp at r
  exact ⟨by rw [Xa r]; rfl,e⟩
 have r:x.name=y.name:=B9 (by simpa using r);rw [W9 r,Xu];refine af b1 (x.inst.op,x.inst.a,x.inst.b,x.inst.n,x.inst.form,()) rfl (ao ?_);refine af b2 (y.inst.op,y.inst.a,y.inst.b,y.inst.n,y.inst.form,()) rfl (ao ?_);refine lz (fun K' hK=>Sd _ _ x.inst y.inst h K' hK) ?_;refine ak (fun r=>?_) (fun r=>?_)
 ·have r:¬ x.inst=y.inst:=by simpa using r
  exact ⟨by rw [Xa r]; rfl,e⟩
 have r:x.inst=y.inst:=by simpa using r
 rw [W9 r,Xu];refine af b1 (x.n,()) rfl (ao ?_);refine af b2 (y.n,()) rfl (ao ?_);refine ak (fun r=>?_) (fun r=>?_)
 ·have r:¬ x.n=y.n:=by simpa using r
  exact ⟨by rw [Xa r]; rfl,e⟩
 have r:x.n=y.n:=by simpa using r
 rw [W9 r,Xu];refine af b1 ((p,l,c),(x.e.num:Int),()) rfl (ao ?_);refine af b2 ((q,m,d),(y.e.num:Int),()) rfl (ao ?_);refine aK (AS (c:=c) (d:=d) v.vw w v.many) ?_;rintro _ g3 ⟨rfl,e3⟩;refine ⟨(vY x.e y.e,()),rfl,ao ?_⟩;refine ak (fun r=>?_) (fun r=>?_)
 ·have r:vY x.e y.e=false:=by simpa using r
  exact ⟨by rw [r]; rfl,e.trans e3⟩
 ·have r:vY x.e y.e=true:=by simpa using r
  exact ⟨by rw [r]; rfl,e.trans e3⟩
def tL (x:cm):vY x x=true:=IN x
def CJ {x:cF} (hk:x.kind=1):cw x sec=(cT x.name.data.toList && kA x { fl x.kind with name:=x.name }):=by
 unfold cw kA;simp only [hk,fl,tL,qS,z1,z2,z3,z4];simp (decide:=true) only [if_true,if_false,Zh,Xu,Yk]
 try simp only [Bool.and_assoc,Bool.and_comm,Bool.and_left_comm]
def MZ {x:cF} (hk:x.kind=2):cw x sec=(decide (sec=0) && yF x.inst x.e && kA x { fl x.kind with inst:=x.inst,e:=x.e }):=by
 unfold cw kA;simp only [hk,fl,tL,qS,z1,z2,z3,z4];simp (decide:=true) only [if_true,if_false,Zh,Xu,Yk]
 try simp only [Bool.and_assoc,Bool.and_comm,Bool.and_left_comm]
def LD {x:cF} (hk:x.kind=3):cw x sec=(tQ x.n && kA x { fl x.kind with n:=x.n }):=by
 unfold cw kA;simp only [hk,fl,tL,qS,z1,z2,z3,z4];simp (decide:=true) only [if_true,if_false,Zh,Xu,Yk]
 try simp only [Bool.and_assoc,Bool.and_comm,Bool.and_left_comm]
def M9 {x:cF} (hk:x.kind=4):cw x sec=(decide (sec=0) && kA x (fl x.kind)):=by
 unfold cw kA;simp only [hk,fl,tL,qS,z1,z2,z3,z4];simp (decide:=true) only [if_true,if_false,Zh,Xu,Yk]
 try simp only [Bool.and_assoc,Bool.and_comm,Bool.and_left_comm]
def L9 {x:cF} (hk:x.kind=5):cw x sec=(decide (sec=1) && decide (-128<=x.n) && decide (x.n<=255) && kA x { fl x.kind with n:=x.n }):=by
 unfold cw kA;simp only [hk,fl,tL,qS,z1,z2,z3,z4];simp (decide:=true) only [if_true,if_false,Zh,Xu,Yk]
 try simp only [Bool.and_assoc,Bool.and_comm,Bool.and_left_comm]
def Kh {x:cF} (hk:x.kind=6):cw x sec=(decide (sec=1) && ni none x.e.ai && kA x { fl x.kind with e:=x.e }):=by
 unfold cw kA;simp only [hk,fl,tL,qS,z1,z2,z3,z4];simp (decide:=true) only [if_true,if_false,Zh,Xu,Yk]
 try simp only [Bool.and_assoc,Bool.and_comm,Bool.and_left_comm]
def M3 {x:cF} (hk:x.kind=7):cw x sec=(decide (sec=1) && decide (0<=x.n) && decide (x.n<=1048576) && kA x { fl x.kind with n:=x.n }):=by
 unfold cw kA;simp only [hk,fl,tL,qS,z1,z2,z3,z4];simp (decide:=true) only [if_true,if_false,Zh,Xu,Yk]
 try simp only [Bool.and_assoc,Bool.and_comm,Bool.and_left_comm]
def Hj {x:cF} (h1:x.kind≠1) (h2:x.kind≠2) (h3:x.kind≠3) (h4:x.kind≠4) (h5:x.kind≠5) (h6:x.kind≠6) (h7:x.kind≠7):cw x sec=false:=by
 unfold cw;rw [W6 h1,W6 h2,W6 h3,W6 h4,W6 h5,W6 h6,W6 h7]
def Nu {h:Hp} (t:Ar h) {x:cF} {p:ZC} {l c:Nat} (v:kC h p l x) :
  HC Tryz.prog 59 #[uO p l c x,.int .i64 0] h fun w h'=>w=C0 (cw x 0)/\Ext h h':=by
 refine bd (args:=[uO p l c x,.int .i64 0]) mixed Tryz.func59 az (tp x.kind x.name x.inst.op x.inst.a x.inst.b x.inst.n x.inst.form p l c x.e.num x.n) ?_;unfold pG aT dr aH bi bT;refine bk ?_;intro g1 b1 e1 z1;have b1:bH g1 h.size 71 (encI p l c x):=b1;refine af b1 (x.kind,()) rfl (ao ?_);refine bk ?_;intro g2 b2 e2 z2;refine aw b2 rfl aj ?_;intro g3 b3 k3 z3;have b3:bH g3 g1.size 71 (encI none 0 0 (fl x.kind)):=b3;have s1:=e1.size;have e13:=e2.st k3 (Xk _);have e3:=e1.trans e13;have b1:=b1.an e13 aj;simp only [aG];refine af b1 (x.kind,()) rfl (ao ?_);refine ak (fun q=>?_) (fun q=>?_)
 ·have q:x.kind=1:=by simpa using q
  rw [CJ q];refine af b1 (x.name,()) rfl (ao ?_);refine aw b3 rfl (by simp [encI]) ?_;intro g4 b4 k4 z4;have b4:bH g4 g1.size 71 (encI none 0 0 { fl x.kind with name:=x.name }):=b4;have e4:=e3.st k4 ad;have b1:=b1.an k4 (by simp; omega);refine af b1 (x.name,()) rfl (ao ?_);refine aM (ua x.name g4 (by have:=v.name; have:maxLen=9223372036854775807:=rfl; omega)) ?_;refine ak (fun r=>?_) (fun r=>?_)
  ·have r:cT x.name.data.toList=false:=by simpa using r
   exact ⟨by rw [r]; rfl,e4⟩
  have r:cT x.name.data.toList=true:=by simpa using r
  rw [r,Xu];have hh:=oH (L:=[]) (h0:=h) (y:={ fl x.kind with name:=x.name }) b1 b4 (v.lin.an e4) (gK.none g4) e4;exact hh
 have q1:x.kind≠1:=by simpa using q
 refine ak (fun q=>?_) (fun q=>?_)
 ·have q:x.kind=2:=by simpa using q
  rw [MZ q];refine af b1 (x.inst.op,x.inst.a,x.inst.b,x.inst.n,x.inst.form,()) rfl (ao ?_);refine af b1 ((p,l,c),(x.e.num:Int),()) rfl (ao ?_);refine aw b3 rfl (by simp [encI]) ?_;intro g4 b4 k4 z4;have e4:=e3.st k4 ad;have b1:=b1.an k4 (by simp; omega);refine ⟨⟨b1.cells [.slice p l c,.int .u32 x.e.num] rfl,trivial⟩,?_⟩;refine aw b4 rfl (by simp [encI,la]) ?_;intro g5 b5 k5 z5;have b5:bH g5 g1.size 71 (encI p l c { fl x.kind with inst:=x.inst,e:=x.e }):=b5;have e5:=e4.st k5 ad;have b1:=b1.an k5 (by simp; omega);refine af b1 (x.kind,x.name,x.inst.op,x.inst.a,x.inst.b,x.inst.n,x.inst.form,(p,l,c),(x.e.num:Int),x.n,()) rfl (ao ?_);refine aK (instruction_hc (c:=c) (t.an e5 aj) (v.lin.an e5) v.op) ?_;rintro _ g6 ⟨rfl,e6'⟩;refine ⟨(yF x.inst x.e,()),rfl,ao ?_⟩;have e6:=e5.trans e6';refine ak (fun r=>?_) (fun r=>?_)
  ·have r:yF x.inst x.e=false:=by simpa using r
   exact ⟨by rw [r]; rfl,e6⟩
  have r:yF x.inst x.e=true:=by simpa using r
  rw [r];have b1:=b1.an e6' aj;have b5:=b5.an e6' aj;have hh:=oH (L:=[]) (h0:=h) (y:={ fl x.kind with inst:=x.inst,e:=x.e }) b1 b5 (v.lin.an e6) (v.lin.an e6).vw e6;exact hh
 have q2:x.kind≠2:=by simpa using q
 refine ak (fun q=>?_) (fun q=>?_)
 ·have q:x.kind=3:=by simpa using q
  rw [LD q];refine af b1 (x.n,()) rfl (ao ?_);refine aw b3 rfl (by simp [encI]) ?_;intro g4 b4 k4 z4;have b4:bH g4 g1.size 71 (encI none 0 0 { fl x.kind with n:=x.n }):=b4;have e4:=e3.st k4 ad;have b1:=b1.an k4 (by simp; omega);refine af b1 (x.n,()) rfl (ao ?_);refine aM (En g4 x.n) ?_;refine ak (fun r=>?_) (fun r=>?_)
  ·have r:tQ x.n=false:=by simpa using r
   exact ⟨by rw [r]; rfl,e4⟩
  have r:tQ x.n=true:=by simpa using r
  rw [r,Xu];have hh:=oH (L:=[]) (h0:=h) (y:={ fl x.kind with n:=x.n }) b1 b4 (v.lin.an e4) (gK.none g4) e4;exact hh
 have q3:x.kind≠3:=by simpa using q
 refine ak (fun q=>?_) (fun q=>?_)
 ·have q:x.kind=4:=by simpa using q
  rw [M9 q];have hh:=oH (L:=[]) (h0:=h) (y:=(fl x.kind)) b1 b3 (v.lin.an e3) (gK.none g3) e3;exact hh
 have q4:x.kind≠4:=by simpa using q
 refine ak (fun q=>?_) (fun q=>?_)
 ·have q:x.kind=5:=by simpa using q
  rw [L9 q];refine af b1 (x.n,()) rfl (ao ?_);refine aw b3 rfl (by simp [encI]) ?_;intro g4 b4 k4 z4;have b4:bH g4 g1.size 71 (encI none 0 0 { fl x.kind with n:=x.n }):=b4;have e4:=e3.st k4 ad;have b1:=b1.an k4 (by simp; omega);exact ⟨rfl,e4⟩
 have q5:x.kind≠5:=by simpa using q
 refine ak (fun q=>?_) (fun q=>?_)
 ·have q:x.kind=6:=by simpa using q
  rw [Kh q];refine af b1 ((p,l,c),(x.e.num:Int),()) rfl (ao ?_);refine aw b3 rfl (by simp [encI]) ?_;intro g4 b4 k4 z4;have b4:bH g4 g1.size 71 (encI p l c { fl x.kind with e:=x.e }):=b4;have e4:=e3.st k4 ad;have b1:=b1.an k4 (by simp; omega);exact ⟨rfl,e4⟩
 have q6:x.kind≠6:=by simpa using q
 refine ak (fun q=>?_) (fun q=>?_)
 ·have q:x.kind=7:=by simpa using q
  rw [M3 q];refine af b1 (x.n,()) rfl (ao ?_);refine aw b3 rfl (by simp [encI]) ?_;intro g4 b4 k4 z4;have b4:bH g4 g1.size 71 (encI none 0 0 { fl x.kind with n:=x.n }):=b4;have e4:=e3.st k4 ad;have b1:=b1.an k4 (by simp; omega);exact ⟨rfl,e4⟩
 have q7:x.kind≠7:=by simpa using q
 exact ⟨by rw [Hj q1 q2 q3 q4 q5 q6 q7]; rfl,e3⟩
def Ks {h:Hp} (t:Ar h) {x:cF} {p:ZC} {l c:Nat} (v:kC h p l x) :
  HC Tryz.prog 59 #[uO p l c x,.int .i64 1] h fun w h'=>w=C0 (cw x 1)/\Ext h h':=by
 refine bd (args:=[uO p l c x,.int .i64 1]) mixed Tryz.func59 az (tv x.kind x.name x.inst.op x.inst.a x.inst.b x.inst.n x.inst.form p l c x.e.num x.n) ?_;unfold pA aT dr aH bi bT;refine bk ?_;intro g1 b1 e1 z1;have b1:bH g1 h.size 71 (encI p l c x):=b1;refine af b1 (x.kind,()) rfl (ao ?_);refine bk ?_;intro g2 b2 e2 z2;refine aw b2 rfl aj ?_;intro g3 b3 k3 z3;have b3:bH g3 g1.size 71 (encI none 0 0 (fl x.kind)):=b3;have s1:=e1.size;have e13:=e2.st k3 (Xk _);have e3:=e1.trans e13;have b1:=b1.an e13 aj;simp only [aG];refine af b1 (x.kind,()) rfl (ao ?_);refine ak (fun q=>?_) (fun q=>?_)
 ·have q:x.kind=1:=by simpa using q
  rw [CJ q];refine af b1 (x.name,()) rfl (ao ?_);refine aw b3 rfl (by simp [encI]) ?_;intro g4 b4 k4 z4;have b4:bH g4 g1.size 71 (encI none 0 0 { fl x.kind with name:=x.name }):=b4;have e4:=e3.st k4 ad;have b1:=b1.an k4 (by simp; omega);refine af b1 (x.name,()) rfl (ao ?_);refine aM (ua x.name g4 (by have:=v.name; have:maxLen=9223372036854775807:=rfl; omega)) ?_;refine ak (fun r=>?_) (fun r=>?_)
  ·have r:cT x.name.data.toList=false:=by simpa using r
   exact ⟨by rw [r]; rfl,e4⟩
  have r:cT x.name.data.toList=true:=by simpa using r
  rw [r,Xu];have hh:=oH (L:=[]) (h0:=h) (y:={ fl x.kind with name:=x.name }) b1 b4 (v.lin.an e4) (gK.none g4) e4;exact hh
 have q1:x.kind≠1:=by simpa using q
 refine ak (fun q=>?_) (fun q=>?_)
 ·have q:x.kind=2:=by simpa using q
  rw [MZ q];refine af b1 (x.inst.op,x.inst.a,x.inst.b,x.inst.n,x.inst.form,()) rfl (ao ?_);refine af b1 ((p,l,c),(x.e.num:Int),()) rfl (ao ?_);refine aw b3 rfl (by simp [encI]) ?_;intro g4 b4 k4 z4;have e4:=e3.st k4 ad;have b1:=b1.an k4 (by simp; omega);refine ⟨⟨b1.cells [.slice p l c,.int .u32 x.e.num] rfl,trivial⟩,?_⟩;refine aw b4 rfl (by simp [encI,la]) ?_;intro g5 b5 k5 z5;have b5:bH g5 g1.size 71 (encI p l c { fl x.kind with inst:=x.inst,e:=x.e }):=b5;have e5:=e4.st k5 ad;have b1:=b1.an k5 (by simp; omega);exact ⟨rfl,e5⟩
 have q2:x.kind≠2:=by simpa using q
 refine ak (fun q=>?_) (fun q=>?_)
 ·have q:x.kind=3:=by simpa using q
  rw [LD q];refine af b1 (x.n,()) rfl (ao ?_);refine aw b3 rfl (by simp [encI]) ?_;intro g4 b4 k4 z4;have b4:bH g4 g1.size 71 (encI none 0 0 { fl x.kind with n:=x.n }):=b4;have e4:=e3.st k4 ad;have b1:=b1.an k4 (by simp; omega);refine af b1 (x.n,()) rfl (ao ?_);refine aM (En g4 x.n) ?_;refine ak (fun r=>?_) (fun r=>?_)
  ·have r:tQ x.n=false:=by simpa using r
   exact ⟨by rw [r]; rfl,e4⟩
  have r:tQ x.n=true:=by simpa using r
  rw [r,Xu];have hh:=oH (L:=[]) (h0:=h) (y:={ fl x.kind with n:=x.n }) b1 b4 (v.lin.an e4) (gK.none g4) e4;exact hh
 have q3:x.kind≠3:=by simpa using q
 refine ak (fun q=>?_) (fun q=>?_)
 ·have q:x.kind=4:=by simpa using q
  rw [M9 q];exact ⟨rfl,e3⟩
 have q4:x.kind≠4:=by simpa using q
 refine ak (fun q=>?_) (fun q=>?_)
 ·have q:x.kind=5:=by simpa using q
  rw [L9 q];refine af b1 (x.n,()) rfl (ao ?_);refine aw b3 rfl (by simp [encI]) ?_;intro g4 b4 k4 z4;have b4:bH g4 g1.size 71 (encI none 0 0 { fl x.kind with n:=x.n }):=b4;have e4:=e3.st k4 ad;have b1:=b1.an k4 (by simp; omega);refine af b1 (x.n,()) rfl (ao ?_);refine ak (fun r=>?_) (fun r=>?_)
  ·have r:=W2 r;refine af b1 (x.n,()) rfl (ao ?_);refine ak (fun r2=>?_) (fun r2=>?_)
   ·have r2:¬ x.n<=255:=by simpa using r2
    exact ⟨by rw [Xa r2,YY]; rfl,e4⟩
   have r2:x.n<=255:=by simpa using r2
   rw [W9 r2,W9 (show -128<=x.n from r)];have hh:=oH (L:=[]) (h0:=h) (y:={ fl x.kind with n:=x.n }) b1 b4 (v.lin.an e4) (gK.none g4) e4;exact hh
  ·have r:=W4 r;exact ⟨by rw [Xa (show ¬ -128<=x.n from r),YY]; rfl,e4⟩
 have q5:x.kind≠5:=by simpa using q
 refine ak (fun q=>?_) (fun q=>?_)
 ·have q:x.kind=6:=by simpa using q
  rw [Kh q];refine af b1 ((p,l,c),(x.e.num:Int),()) rfl (ao ?_);refine aw b3 rfl (by simp [encI]) ?_;intro g4 b4 k4 z4;have b4:bH g4 g1.size 71 (encI p l c { fl x.kind with e:=x.e }):=b4;have e4:=e3.st k4 ad;have b1:=b1.an k4 (by simp; omega);refine af b1 ((p,l,c),(x.e.num:Int),()) rfl (ao ?_);refine aK (tu (c:=c) (v.lin.an e4).vw (by have:=v.lin.many; omega) v.lin.names) ?_;rintro _ g6 ⟨rfl,e6'⟩;refine ⟨(ni none x.e.ai,()),rfl,ao ?_⟩;have e6:=e4.trans e6';refine ak (fun r=>?_) (fun r=>?_)
  ·have r:ni none x.e.ai=false:=by simpa using r
   exact ⟨by rw [r]; rfl,e6⟩
  have r:ni none x.e.ai=true:=by simpa using r
  rw [r];have b1:=b1.an e6' aj;have b4:=b4.an e6' aj;have hh:=oH (L:=[]) (h0:=h) (y:={ fl x.kind with e:=x.e }) b1 b4 (v.lin.an e6) (v.lin.an e6).vw e6;exact hh
 have q6:x.kind≠6:=by simpa using q
 refine ak (fun q=>?_) (fun q=>?_)
 ·have q:x.kind=7:=by simpa using q
  rw [M3 q];refine af b1 (x.n,()) rfl (ao ?_);refine aw b3 rfl (by simp [encI]) ?_;intro g4 b4 k4 z4;have b4:bH g4 g1.size 71 (encI none 0 0 { fl x.kind with n:=x.n }):=b4;have e4:=e3.st k4 ad;have b1:=b1.an k4 (by simp; omega);refine af b1 (x.n,()) rfl (ao ?_);refine ak (fun r=>?_) (fun r=>?_)
  ·have r:=W2 r;refine af b1 (x.n,()) rfl (ao ?_);refine ak (fun r2=>?_) (fun r2=>?_)
   ·have r2:¬ x.n<=1048576:=by simpa using r2
    exact ⟨by rw [Xa r2,YY]; rfl,e4⟩
   have r2:x.n<=1048576:=by simpa using r2
   rw [W9 r2,W9 (show 0<=x.n from r)];have hh:=oH (L:=[]) (h0:=h) (y:={ fl x.kind with n:=x.n }) b1 b4 (v.lin.an e4) (gK.none g4) e4;exact hh
  ·have r:=W4 r;exact ⟨by rw [Xa (show ¬ 0<=x.n from r),YY]; rfl,e4⟩
 have q7:x.kind≠7:=by simpa using q
 exact ⟨by rw [Hj q1 q2 q3 q4 q5 q6 q7]; rfl,e3⟩
section
variable {α:Type}
def vE (en:α->ZB) (D:List (ZA × α)):List (ZA × ZB):=D.map fun p=>(p.1,en p.2)
def gE (D:List (ZA × α)) (s:ZA):Option α:=(D.find? fun p=>decide (s=p.1)).map (·.2)
def pE (D:List (ZA × α)) (s:ZA) (v:α):List (ZA × α):=if (gE D s).isSome then D.map fun p=>if s=p.1 then (p.1,v) else p else D++[(s,v)]
def mu (en:α->ZB) (D:List (ZA × α)) (s:ZA):look (vE en D) s=(gE D s).map en:=by
 unfold look gE vE
 induction D with
 | nil=>rfl
 | cons p D ih =>
  by_cases h:s=p.1
  ·simp [h]
  ·simp only [List.map_cons,List.find?_cons,decide_eq_false h];exact ih
def Gs (en:α->ZB) (D:List (ZA × α)) (s:ZA) (v:α):je (vE en D) s (en v)=vE en (pE D s v):=by
 unfold je pE;rw [mu];cases h:gE D s with
 | none=>simp [vE]
 | some q =>
  simp only [Option.map_some,Option.isSome_some,if_true,vE,List.map_map];refine XQ fun p hp=>?_
  simp only [Function.comp];split <;> simp_all
def wx (D:List (ZA × α)) (s:ZA) (v:α):(pE D s v).length=if (gE D s).isSome then D.length else D.length+1:=by
 unfold pE;split <;> simp
def wC (D:List (ZA × α)) (s t:ZA) (v:α):gE (D++[(s,v)]) t=(gE D t).or (if t=s then some v else none):=by
 unfold gE;rw [YT];cases h:D.find? (fun p=>decide (t=p.1)) with
 | some q=>simp
 | none =>
  simp only [Option.none_or,Option.map_none,List.find?_cons,List.find?_nil]
  by_cases e:t=s
  ·simp [e]
  ·simp [e]
def FX (D:List (ZA × α)) (s t:ZA) (v:α) (hs:(gE D s).isSome):gE (D.map fun p=>if s=p.1 then (p.1,v) else p) t=if t=s then some v else gE D t:=by
 unfold gE at *
 induction D with
 | nil=>simp at hs
 | cons p D ih =>
  by_cases h:s=p.1
  ·by_cases e:t=s
   ·simp [h,e]
   ·have e2:¬ t=p.1:=fun k=>e (k.trans h.symm)
    have hg:∀ l:List (ZA × α),(List.find? (fun p=>decide (t=p.1)) (List.map (fun p=>if s=p.1 then (p.1,v) else p) l)).map (·.2)=(List.find? (fun p=>decide (t=p.1)) l).map (·.2):=by
     intro l
     induction l with
     | nil=>rfl
     | cons q l ihl =>
      by_cases hq:s=q.1
      ·have:¬ t=q.1:=fun k=>e (k.trans hq.symm)
       simp only [List.map_cons,List.find?_cons,if_pos hq,decide_eq_false this];exact ihl
      ·simp only [List.map_cons,List.find?_cons,if_neg hq]
       by_cases ht:t=q.1
       ·simp [ht]
       ·simp only [decide_eq_false ht];exact ihl
    simp only [List.map_cons,List.find?_cons,if_pos h,decide_eq_false e2,if_neg e];exact hg D
  ·have hs2:(Option.map (fun x=>x.2) (List.find? (fun p=>decide (s=p.1)) D)).isSome:=by
    simpa [List.find?_cons,decide_eq_false h] using hs
   simp only [List.map_cons,List.find?_cons,if_neg h]
   by_cases ht:t=p.1
   ·have:¬ t=s:=fun k=>h (k.symm.trans ht)
    simp [ht,if_neg (ht▸this)]
   ·simp only [decide_eq_false ht];exact ih hs2
def Nl (D:List (ZA × α)) (s:ZA) (v:α) (t:ZA):gE (pE D s v) t=if t=s then some v else gE D t:=by
 unfold pE;split
 ·rename_i h;exact FX D s t v h
 ·rename_i h;rw [wC]
  by_cases e:t=s
  ·subst e
   have:gE D t=none:=by simpa using h
   rw [this]; simp
  ·simp [e]
def dC (f:ZA->Option α) (s:ZA) (v:α):ZA->Option α:=fun t=>if t=s then some v else f t
def dP (en:α->ZB) (h:Hp) (g:Nat) (f:ZA->Option α) (n:Nat):Prop:=∃ D:List (ZA × α),dT h g (vE en D)/\(∀ s,gE D s=f s)/\D.length=n
def dP.an {en:α->ZB} {ws:List Nat} {h h':Hp} {g:Nat} {f:ZA->Option α} {n:Nat} (m:dP en h g f n) (k:Ch ws h h') (hw:g∉ws):dP en h' g f n:=by
 obtain ⟨D,m,r⟩:=m;exact ⟨D,m.an k hw,r⟩
def dP.lt {en:α->ZB} {h:Hp} {g:Nat} {f:ZA->Option α} {n:Nat} (m:dP en h g f n):g<h.size:=by
 obtain ⟨D,m,r⟩:=m;exact m.lt
def dP.new {en:α->ZB} {h:Hp} {g:Nat} (m:dT h g []):dP en h g (fun _=>none) 0:=⟨[],m,fun s=>rfl,rfl⟩
def dP.je {en:α->ZB} {h':Hp} {g:Nat} {f:ZA->Option α} {n:Nat} {D:List (ZA × α)} (hD:∀ s,gE D s=f s) (hn:D.length=n) {s:ZA} {v:α} (m:dT h' g (Sx.je (vE en D) s (en v))):dP en h' g (dC f s v) (if (f s).isSome then n else n+1):=by
 rw [Gs] at m;refine ⟨_,m,fun t=>?_,?_⟩
 ·rw [Nl,hD t]; rfl
 ·rw [wx,hD s,hn]
end
def eB (b:Bool):ZB:=.bool b
def RF:Tryz.prog.underlying 58=some (.map 9 4):=az
def wM:Tryz.prog.underlying 9=some .string:=az
def MF:(Tryz.prog.info? 4).bind (·.zero)=some (.bool false):=az
def AG (h:Hp) (g:Nat) (D:List ZA):Prop:=∃ n,dP eB h g (fun s=>if fX D s then some true else none) n
def AG.an {ws:List Nat} {h h':Hp} {g:Nat} {D:List ZA} (m:AG h g D) (k:Ch ws h h') (hw:g∉ws):AG h' g D:=by
 obtain ⟨n,m⟩:=m;exact ⟨n,m.an k hw⟩
def AG.lt {h:Hp} {g:Nat} {D:List ZA} (m:AG h g D):g<h.size:=by
 obtain ⟨n,m⟩:=m;exact m.lt
section
variable {L:Lp} {K:ZB->Hp->Prop} {h:Hp} {g:Nat} {D:List ZA}
def M6 (m:AG h g D) (s:ZA) {k:Bool->T} (hk:k (fX D s) L K h):T.ek Tryz.prog (Instr.lookup 58 (.map (some g)) (.string s) false) false [(false,[.bool])] k L K h:=by
 obtain ⟨n,D',m,hD,hn⟩:=m;refine hZ RF wM MF m s false _ ?_;refine ⟨(fX D s,()),?_,hk⟩;simp only [Bool.false_eq_true,if_false];rw [mu,hD s];dsimp only
 all_goals (cases fX D s <;> rfl)
def db (m:AG h g D) {s:ZA} (hs:s.size<=maxLen) {k:T} (hk:∀ h',AG h' g (s::D)->Ch [g] h h'->h'.size=h.size->k L K h') :
  T.ei Tryz.prog (Instr.mapUpdate 58 (.map (some g)) (.string s) (.bool true)) k L K h:=by
 obtain ⟨n,D',m,hD,hn⟩:=m;refine fg RF wM m hs _ _ ?_;intro h' m' c' z'
 have:=dP.je (en:=eB) hD hn (v:=true) m'
 have he:dC (fun t=>if fX D t then some true else none) s true=fun t=>if fX (s::D) t then some true else none:=by
  funext t
  unfold dC fX
  by_cases h1:t=s
  ·rw [Xb h1,Xb];simp [h1]
  ·rw [W6 h1]
   have:¬ s=t:=fun e=>h1 e.symm
   rw [List.any_cons,Xa this,YJ]
 rw [he] at this;exact hk h' ⟨_,this⟩ c' z'
def Va {t:TypeId} {k:Option Nat->T} (hk:∀ h',AG h' h.size []->Ext h h'->h'.size=h.size+1->k (some h.size) L K h'):T.ek Tryz.prog (Instr.makeMap t none) false [(false,[.map 0 0])] k L K h:=by
 refine jx _ ?_;intro h' m e z;exact ⟨(some h.size,()),rfl,hk h' ⟨0,dP.new m⟩ e z⟩
end
structure Dj (h:Hp) (p:ZC) (l:Nat) (us:List cF):Prop where
 len:l=us.length
 many:us.length<=2^60
 cells:∀ i,(hi:i<us.length)->∃ a q m c,p=some a/\aJ h (a.add (i*10)) 0 (encI q m c us[i])/\kC h q m us[i]
def Dj.an {h h':Hp} {p:ZC} {l:Nat} {us:List cF} (v:Dj h p l us) (k:Ext h h'):Dj h' p l us :=
 ⟨v.len,v.many,fun i hi=>by
  obtain ⟨a,q,m,c,ha,hc,hv⟩:=v.cells i hi;exact ⟨a,q,m,c,ha,aX k aj _ _ hc,hv.an k⟩⟩
def Tn (p:ZC) (l c:Nat) (x:qY):List ZB:=[.string x.1,.slice p l c,.int .u32 x.2.num]
structure tk (h:Hp) (p:ZC) (l:Nat) (us:List qY):Prop where
 len:l=us.length
 many:us.length<=2^60
 cells:∀ i,(hi:i<us.length)->∃ a q m c,p=some a/\aJ h (a.add (i*3)) 0 (Tn q m c us[i])/\qX h q m us[i].2/\us[i].1.size<=maxLen
def tk.an {h h':Hp} {p:ZC} {l:Nat} {us:List qY} (v:tk h p l us) (k:Ext h h'):tk h' p l us :=
 ⟨v.len,v.many,fun i hi=>by
  obtain ⟨a,q,m,c,ha,hc,hv,hs⟩:=v.cells i hi;exact ⟨a,q,m,c,ha,aX k aj _ _ hc,hv.an k,hs⟩⟩
structure Vp (h:Hp) (p:ZC) (l:Nat) (us:List ZA):Prop where
 len:l=us.length
 many:us.length<=2^60
 cells:∀ i,(hi:i<us.length)->∃ a,p=some a/\aJ h (a.add (i*1)) 0 [.string us[i]]/\us[i].size<=maxLen
def Vp.an {h h':Hp} {p:ZC} {l:Nat} {us:List ZA} (v:Vp h p l us) (k:Ext h h'):Vp h' p l us :=
 ⟨v.len,v.many,fun i hi=>by
  obtain ⟨a,ha,hc,hs⟩:=v.cells i hi;exact ⟨a,ha,aX k aj _ _ hc,hs⟩⟩
structure cv where
 p:ZC
 l:Nat
 c:Nat
def cv.v (s:cv):ZB:=.slice s.p s.l s.c
structure sO (h:Hp) (a b c d:cv) (u:cd):Prop where
 text:Dj h a.p a.l u.text
 data:Dj h b.p b.l u.data
 bg:tk h c.p c.l u.bg
 aY:Vp h d.p d.l u.aY
def sO.an {h h':Hp} {a b c d:cv} {u:cd} (v:sO h a b c d u) (k:Ext h h'):sO h' a b c d u:=⟨v.text.an k,v.data.an k,v.bg.an k,v.aY.an k⟩
def DL (a b c d:cv):ZB:=.agg #[a.v,b.v,c.v,d.v]
def N7:Tryz.prog.underlying 79=some (.slice 43):=az
def VG:(Tryz.prog.info? 43).map (fun i=>(i.zero,i.size,i.bytes))=some (some (.slice none 0 0),1,24):=az
def Nx (p1:ZC) (l1 c1:Nat) (p2:ZC) (l2 c2:Nat):Instr.fill (fun j=>some (j*1,1)) ((Array.range (2*1)).map ((Value.slice none 0 0).cells[· % (Value.slice none 0 0).cells.size]!)) [(0,.slice p1 l1 c1),(1,.slice p2 l2 c2)]=some ([.slice p1 l1 c1,.slice p2 l2 c2]:List ZB).toArray:=az
def yi (u:cd) (k:Nat):List cF:=if k=0 then u.text else u.data
def tP (u:cd) (k:Nat):List ZA:=if k=0 then [] else if k=1 then cO [] u.text else cO (cO [] u.text) u.data
def zF (u:cd) (k:Nat):Bool:=if k=0 then vk u else if k=1 then (eK 1 (cO [] u.text) u.data && (gh (cO (cO [] u.text) u.data) u.bg && cS u.names dF u.aY)) else (gh (cO (cO [] u.text) u.data) u.bg && cS u.names dF u.aY)
def IL (u:cd) {k:Nat} (hk:k<2):zF u k=(eK k (tP u k) (yi u k) && zF u (k+1)):=by
 have:k=0\/k=1:=ad
 rcases this with rfl | rfl
 ·simp [zF,tP,yi,vk,Bool.and_assoc]
 ·simp [zF,tP,yi]
def Jz (u:cd) {k:Nat} (hk:k<2):tP u (k+1)=cO (tP u k) (yi u k):=by
 have:k=0\/k=1:=ad
 rcases this with rfl | rfl <;> rfl
def EW (D:List ZA) (l:List cF) {i:Nat} (hi:i<l.length):cO D (l.take (i+1))=tg (cO D (l.take i)) l[i]:=by
 unfold cO;rw [W7 hi,XX] <;> rfl
def Ew (D:List ZA) (l:List qY) {i:Nat} (hi:i<l.length):aZ D (l.take (i+1))=l[i].1::aZ D (l.take i):=by
 unfold aZ;rw [W7 hi,XX] <;> rfl
def Cv (sec:Nat) (D:List ZA) (l:List cF) {i:Nat} (hi:i<l.length):eK sec D (l.drop i)=(xr sec D l[i] && eK sec (tg D l[i]) (l.drop (i+1))):=by
 rw [Xi hi,eK]
def EG (D:List ZA) (l:List qY) {i:Nat} (hi:i<l.length):gh D (l.drop i)=(BQ D l[i] && gh (l[i].1::D) (l.drop (i+1))):=by
 rw [Xi hi,gh]
def nC (l:List ZA) (i:Nat):ZA:=if i=0 then dF else l.getD (i-1) dF
def uL (D:List ZA) (l:List ZA) {i:Nat} (hi:i<l.length):cS D (nC l i) (l.drop i)=(Qc D (nC l i) l[i] && cS D (nC l (i+1)) (l.drop (i+1))):=by
 rw [Xi hi,cS]
 congr 2
 unfold nC;rw [W6 ad,Nat.add_sub_cancel,XT,W5 hi] <;> rfl
def Fg (h:Hp) (g:Nat) (D:List ZA):Prop:=AG h g D/\∀ s,s∈D->cT s.data.toList=true
def Fg.an {ws:List Nat} {h h':Hp} {g:Nat} {D:List ZA} (m:Fg h g D) (k:Ch ws h h') (hw:g∉ws):Fg h' g D:=⟨m.1.an k hw,m.2⟩
def DK {s:ZA} (h:cT s.data.toList=true):gS dF s:=by
 unfold cT at h;simp only [Bool.and_eq_true,decide_eq_true_eq] at h;have h2:=h.1.1.1.1;show (dF.data.toList:List UInt8)<s.data.toList
 have:(dF.data.toList:List UInt8)=[]:=rfl
 rw [this];cases hs:s.data.toList with
 | nil=>rw [hs] at h2; simp at h2
 | cons a l=>exact List.Lex.nil
def uI {D:List ZA} {s:ZA} (h:fX D s=true):s∈D:=by
 unfold fX at h;simp only [List.any_eq_true,decide_eq_true_eq] at h;obtain ⟨y,hy,rfl⟩:=h;exact hy
def O5 {h:Hp} (t:Ar h) {x:cF} {p:ZC} {l c k:Nat} (v:kC h p l x) (hk:k<2) :
  HC Tryz.prog 59 #[uO p l c x,.int .i64 (k:Int)] h fun w h'=>w=C0 (cw x k)/\Ext h h':=by
 have:k=0\/k=1:=ad
 rcases this with rfl | rfl
 ·exact Nu t v
 ·exact Ks t v
def uV {h:Hp} (t:Ar h) {a b c d:cv} {u:cd} (v:sO h a b c d u):HC Tryz.prog 30 #[DL a b c d] h fun w h'=>w=.int .i64 (eS u:Nat)/\Ext h h':=by
 refine bd (args:=[DL a b c d]) mixed Tryz.func30 az (yh a.p a.l a.c b.p b.l b.c c.p c.l c.c d.p d.l d.c) ?_;unfold vv bf bh bG aQ aT cD dr bm bR bt aH bi bT aR;refine bk ?_;intro g1 b1 e1 z1;have b1:bH g1 h.size 47 [a.v,b.v,c.v,d.v]:=b1;have m1:=v.text.many;have m2:=v.data.many;have m3:=v.bg.many;have m4:=v.aY.many;have n1:=v.text.len;have n2:=v.data.len;have n3:=v.bg.len;have n4:=v.aY.len;have s1:=e1.size;simp only [aG];refine af b1 ((a.p,a.l,a.c),()) rfl (ao ?_);refine af b1 ((b.p,b.l,b.c),()) rfl (ao ?_);rw [wrap_i64 ad ad];unfold eS uF;refine ak (fun q=>?_) (fun q=>?_)
 ·have q:=W2 q;exact ⟨by rw [W9 (show 8192<u.text.length+u.data.length from ad)]; rfl,e1⟩
 have q:=W4 q;rw [Xa (show ¬ 8192<u.text.length+u.data.length from ad),YJ];refine af b1 ((c.p,c.l,c.c),()) rfl (ao ?_);refine ak (fun q=>?_) (fun q=>?_)
 ·have q:=W2 q;exact ⟨by rw [W9 (show 8192<u.bg.length from ad)]; rfl,e1⟩
 have q:=W4 q;rw [Xa (show ¬ 8192<u.bg.length from ad),W6 aj];refine Va ?_;intro g2 m e2 z2;have b2:=b1.an e2 aj;refine af b2 ((a.p,a.l,a.c),()) rfl (ao ?_);refine af b2 ((b.p,b.l,b.c),()) rfl (ao ?_);refine mH N7 VG ad ad (Nx a.p a.l a.c b.p b.l b.c) ?_;intro g3 b3 e3 z3;have m:=m.an e3 (by have:=m.lt; simp);have e03:=(e1.trans e2).trans e3;have b3':=b2.an e3 aj;have s2:=e2.size;clear b1 b2;have hsec:∀ k,k<2->∃ s:cv,([a.v,b.v]:List ZB).drop k=s.v::([a.v,b.v]:List ZB).drop (k+1)/\Dj h s.p s.l (yi u k):=by
  intro k hk
  have:k=0\/k=1:=ad
  rcases this with rfl | rfl
  ·exact ⟨a,rfl,v.text⟩
  ·exact ⟨b,rfl,v.data⟩
 have s3:=e3.size;have b3:bH g3 g2.size 43 [a.v,b.v]:=b3;generalize hU:vk u=U;refine aU (cs:=[(false,[.int .i64]),(false,[.int .i64])]) (fun y w h'=>∃ k:Nat,y.2.1=(k:Int)/\k<=2/\w=2-k/\Ext h h'/\bH h' h.size 47 [a.v,b.v,c.v,d.v]/\bH h' g2.size 43 [a.v,b.v]/\Fg h' g1.size (tP u k)/\U=zF u k) ((0:Int),(0:Int),()) 2 rfl
  ⟨0,rfl,ad,ad,e03,b3',b3,⟨m,by simp [tP]⟩,hU.symm⟩ ?_
 rintro ⟨n21,n22,⟨⟩⟩ w h4 ⟨k,hk,hk2,rfl,e4,b1,b2,m,hu⟩;simp only at hk;subst hk;refine ao ?_;refine ak (fun q=>?_) (fun q=>?_)
 ·have q:=W2 q;have hk:k<2:=ad
  obtain ⟨sl,hsl,vs⟩:=hsec k hk;refine ay ⟨ad,ad⟩ (ax rfl ?_);rw [aG];refine af b2 ((sl.p,sl.l,sl.c),()) (by rw [show 0+(k:Int).toNat*1=k from ad,hsl]; rfl) ?_;refine ao ?_;have lk:=vs.len;have mk:=vs.many;generalize hl:yi u k=l at vs lk mk;have hu2:U=(eK k (cO (tP u k) (l.take 0)) (l.drop 0) && zF u (k+1)):=by
   rw [hu,IL u hk,hl] <;> rfl
  refine aU (cs:=[(false,[.int .i64]),(false,[.int .i64])]) (fun y w h'=>∃ i:Nat,y.2.1=(i:Int)/\i<=l.length/\w=l.length-i/\Ext h h'/\bH h' h.size 47 [a.v,b.v,c.v,d.v]/\bH h' g2.size 43 [a.v,b.v]/\Fg h' g1.size (cO (tP u k) (l.take i))/\U=(eK k (cO (tP u k) (l.take i)) (l.drop i) && zF u (k+1))) (n21,(0:Int),()) l.length rfl
   ⟨0,rfl,ad,ad,e4,b1,b2,m,hu2⟩ ?_
  clear hu hu2 m b1 b2 e4;rintro ⟨n27,n28,⟨⟩⟩ w h5 ⟨i,hi,hile,rfl,e5,b1,b2,m,hu⟩;simp only at hi;subst hi;refine ao ?_;refine ak (fun q2=>?_) (fun q2=>?_)
  ·have q2:=W2 q2;have hil:i<l.length:=ad
   obtain ⟨aa,pp,ll,cc,rfl',hc,va⟩:=(vs.an e5).cells i hil;rw [Cv k _ l hil] at hu;have hnt:=EW (tP u k) l hil;generalize l[i]=x at hc va hu hnt;refine ay ⟨ad,ad⟩ (ax rfl' ?_);rw [show Int.toNat (i:Int)=i from ad];refine aC (x.kind,x.name,x.inst.op,x.inst.a,x.inst.b,x.inst.n,x.inst.form,(pp,ll,cc),(x.e.num:Int),x.n,()) hc (ao ?_);refine bk ?_;intro h6 b6 e6 z6;refine aw b6 rfl aj ?_;intro h7 b7 k7 z7;have b7:bH h7 h5.size 71 (encI pp ll cc x):=b7;have e57:Ext h5 h7:=e6.st k7 (Xk _);have e7:=e5.trans e57;simp only [aG];refine af b7 (x.kind,x.name,x.inst.op,x.inst.a,x.inst.b,x.inst.n,x.inst.form,(pp,ll,cc),(x.e.num:Int),x.n,()) rfl (ao ?_);refine aK (O5 (c:=cc) (t.an e7 aj) (va.an e57) hk) ?_;rintro _ h8 ⟨rfl,e8⟩;refine ⟨((if cw x k then 0 else 31:Int),()),rfl,ao ?_⟩;have e58:=e57.trans e8;have e08:=e5.trans e58;have b1:=b1.an e58 aj;have b2:=b2.an e58 aj;have m:=m.an e58 aj;have b8:=b7.an e8 aj;refine ak (fun r=>?_) (fun r=>?_)
   ·have r:cw x k=false:=by
     cases hr:cw x k with
     | false=>rfl
     | true=>rw [hr] at r; simp at r
    exact ⟨by rw [hu,xr,r]; rfl,e08⟩
   have r:cw x k=true:=by
    cases hr:cw x k with
    | true=>rfl
    | false=>rw [hr] at r; simp at r
   have hno:∀ D,xr k D x=!(decide (x.kind=1) && fX D x.name):=fun D=>by rw [xr,r]; rfl
   rw [hno] at hu;refine af b8 (x.kind,()) rfl (ao ?_);refine ak (fun r1=>?_) (fun r1=>?_)
   ·have r1:x.kind=1:=by simpa using r1
    rw [W9 r1,Xu] at hu;have hle:cT x.name.data.toList=true:=by
     rw [CJ r1,Xz] at r;exact r.1
    refine af b8 (x.name,()) rfl (ao ?_);refine M6 m.1 x.name ?_;refine ak (fun r2=>?_) (fun r2=>?_)
    ·exact ⟨by rw [hu,r2]; rfl,e08⟩
    rw [r2] at hu;refine af b8 (x.kind,()) rfl (ao ?_);refine bn (by simpa using r1) ?_;refine af b8 (x.name,()) rfl (ao ?_);refine db m.1 va.name ?_;intro h9 m9 k9 z9;have e09:Ext h h9:=e08.st k9 ad;have s5:=e5.size;have hadd:tg (cO (tP u k) (l.take i)) x=x.name::cO (tP u k) (l.take i):=by unfold tg; rw [Xb r1]
    refine aI (cs:=[(false,[.int .i64]),(false,[.int .i64])]) (n27,((i+1:Nat):Int),()) (l.length-(i+1)) rfl ad (by rw [wrap_i64 ad ad]; rfl) ?_;refine ⟨i+1,rfl,ad,rfl,e09,b1.an k9 (by simp; omega),b2.an k9 (by simp; omega),by rw [hnt,hadd]; exact ⟨m9,fun s hs=>(Xq.1 hs).elim (fun e=>by rw [e]; exact hle) (m.2 s)⟩,by rw [hu,hnt]; rfl⟩
   ·have r1:¬ x.kind=1:=by simpa using r1
    rw [Xa r1] at hu;refine af b8 (x.kind,()) rfl (ao ?_);refine bJ (by simpa using r1) ?_;have hadd:tg (cO (tP u k) (l.take i)) x=cO (tP u k) (l.take i):=by unfold tg; rw [W6 r1]
    refine aI (cs:=[(false,[.int .i64]),(false,[.int .i64])]) (n27,((i+1:Nat):Int),()) (l.length-(i+1)) rfl ad (by rw [wrap_i64 ad ad]; rfl) ?_;refine ⟨i+1,rfl,ad,rfl,e08,b1,b2,by rw [hnt,hadd]; exact m,by rw [hu,hnt]; rfl⟩
  ·have q2:=W4 q2;have hil:i=l.length:=ad
   subst hil;rw [XB] at m hu;rw [Yi,eK,Xu] at hu;refine aI (cs:=[(false,[.int .i64]),(false,[.int .i64])]) (n27,((k+1:Nat):Int),()) (2-(k+1)) rfl ad (by rw [wrap_i64 ad ad]; rfl) ?_;refine ⟨k+1,rfl,ad,rfl,e5,b1,b2,by rw [Jz u hk,hl]; exact m,hu⟩
 ·have q:=W4 q;have hk:k=2:=ad
  subst hk;have hu:U=(gh (cO (cO [] u.text) u.data) u.bg && cS u.names dF u.aY):=hu;have m:Fg h4 g1.size (cO (cO [] u.text) u.data):=m;generalize hD:cO (cO [] u.text) u.data=D at hu m;have hN:u.names=aZ D u.bg:=by rw [<- hD]; rfl
  rw [hN] at hu;refine af b1 ((c.p,c.l,c.c),()) rfl (ao ?_);have hu2:U=(gh (aZ D (u.bg.take 0)) (u.bg.drop 0) && cS (aZ D u.bg) dF u.aY):=hu;refine aU (cs:=[(false,[.int .i64]),(false,[.int .i64])]) (fun y w h'=>∃ i:Nat,y.2.1=(i:Int)/\i<=u.bg.length/\w=u.bg.length-i/\Ext h h'/\bH h' h.size 47 [a.v,b.v,c.v,d.v]/\Fg h' g1.size (aZ D (u.bg.take i))/\U=(gh (aZ D (u.bg.take i)) (u.bg.drop i) && cS (aZ D u.bg) dF u.aY)) (n21,(0:Int),()) u.bg.length rfl
   ⟨0,rfl,ad,ad,e4,b1,m,hu2⟩ ?_
  clear hu hu2 m b1 b2 e4;rintro ⟨n27,n28,⟨⟩⟩ w h5 ⟨i,hi,hile,rfl,e5,b1,m,hu⟩;simp only at hi;subst hi;refine ao ?_;have s5:=e5.size;refine ak (fun q2=>?_) (fun q2=>?_)
  ·have q2:=W2 q2;have hil:i<u.bg.length:=ad
   obtain ⟨aa,pp,ll,cc,rfl',hc,va,vn⟩:=(v.bg.an e5).cells i hil;rw [EG _ _ hil] at hu;have hnt:=Ew D u.bg hil;generalize u.bg[i]=x at hc va vn hu hnt;refine ay ⟨ad,ad⟩ (ax rfl' ?_);rw [show Int.toNat (i:Int)=i from ad];refine aC (x.1,(pp,ll,cc),(x.2.num:Int),()) hc (ao ?_);refine bk ?_;intro h6 b6 e6 z6;refine aw b6 rfl aj ?_;intro h7 b7 k7 z7;have b7:bH h7 h5.size 100 (Tn pp ll cc x):=b7;have e57:Ext h5 h7:=e6.st k7 (Xk _);have e7:=e5.trans e57;simp only [aG];have b1:=b1.an e57 aj;have m:=m.an e57 aj;unfold BQ at hu;refine af b7 (x.1,()) rfl (ao ?_);refine M6 m.1 x.1 ?_;refine ak (fun r=>?_) (fun r=>?_)
   ·exact ⟨by rw [hu,r]; rfl,e7⟩
   rw [r] at hu;refine af b7 (x.1,()) rfl (ao ?_);refine aM (ua x.1 h7 (by have:maxLen=9223372036854775807:=rfl; omega)) ?_;refine ak (fun r=>?_) (fun r=>?_)
   ·have r:cT x.1.data.toList=false:=by simpa using r
    exact ⟨by rw [hu,r]; rfl,e7⟩
   have hle:cT x.1.data.toList=true:=by simpa using r
   rw [hle] at hu;refine af b7 ((pp,ll,cc),(x.2.num:Int),()) rfl (ao ?_);refine aK (tu (c:=cc) (va.an e57).vw (by have:=va.many; omega) va.names) ?_;rintro _ h8 ⟨rfl,e8⟩;refine ⟨(ni none x.2.ai,()),rfl,ao ?_⟩;have e08:=e7.trans e8;have b1:=b1.an e8 aj;have m:=m.an e8 aj;have b8:=b7.an e8 aj;refine ak (fun r=>?_) (fun r=>?_)
   ·have r:ni none x.2.ai=false:=by simpa using r
    exact ⟨by rw [hu,r]; rfl,e08⟩
   have r:ni none x.2.ai=true:=by simpa using r
   rw [r] at hu;refine af b8 (x.1,()) rfl (ao ?_);refine db m.1 vn ?_;intro h9 m9 k9 z9;have e09:Ext h h9:=e08.st k9 ad;refine aI (cs:=[(false,[.int .i64]),(false,[.int .i64])]) (n27,((i+1:Nat):Int),()) (u.bg.length-(i+1)) rfl ad (by rw [wrap_i64 ad ad]; rfl) ?_;refine ⟨i+1,rfl,ad,rfl,e09,b1.an k9 (by simp; omega),by rw [hnt]; exact ⟨m9,fun s hs=>(Xq.1 hs).elim (fun e=>by rw [e]; exact hle) (m.2 s)⟩,by rw [hu,hnt]; rfl⟩
  have q2:=W4 q2;have hil:i=u.bg.length:=ad
  subst hil;rw [XB] at m hu;rw [Yi,gh,Xu] at hu;generalize hE:aZ D u.bg=E at m hu;refine af b1 ((d.p,d.l,d.c),()) rfl (ao ?_);have hu2:U=cS E (nC u.aY 0) (u.aY.drop 0):=hu;refine aU (cs:=[(false,[.int .i64]),(false,[.int .i64])]) (fun y w h'=>∃ i:Nat,y.2.1=(i:Int)/\i<=u.aY.length/\w=u.aY.length-i/\Ext h h'/\bH h' h.size 47 [a.v,b.v,c.v,d.v]/\Fg h' g1.size E/\U=cS E (nC u.aY i) (u.aY.drop i)) (n27,(0:Int),()) u.aY.length rfl
   ⟨0,rfl,ad,ad,e5,b1,m,hu2⟩ ?_
  clear hu hu2 m b1 e5 s5;rintro ⟨n31,n32,⟨⟩⟩ w h6 ⟨i,hi,hile,rfl,e6,b1,m,hu⟩;simp only at hi;subst hi;refine ao ?_;refine ak (fun q3=>?_) (fun q3=>?_)
  ·have q3:=W2 q3;have hil:i<u.aY.length:=ad
   obtain ⟨aa,rfl',hc,va⟩:=(v.aY.an e6).cells i hil;rw [uL _ _ hil] at hu;unfold Qc at hu;refine ay ⟨ad,ad⟩ (ax rfl' ?_);rw [show Int.toNat (i:Int)=i from ad];refine aC (u.aY[i],()) hc (ao ?_);refine M6 m.1 _ ?_;refine ak (fun r=>?_) (fun r=>?_)
   ·have r:fX E u.aY[i]=false:=by simpa using r
    exact ⟨by rw [hu,r]; rfl,e6⟩
   have r:fX E u.aY[i]=true:=by simpa using r
   rw [r,Xu] at hu;refine ak (fun r2=>?_) (fun r2=>?_)
   ·have r2:=W2 r2;refine af b1 ((d.p,d.l,d.c),()) rfl (ao ?_);rw [wrap_i64 ad ad];obtain ⟨ab,rfl'',hc',va'⟩:=(v.aY.an e6).cells (i-1) ad;refine ay ⟨ad,ad⟩ (ax rfl'' ?_);rw [show Int.toNat ((i:Int)-1)=i-1 from ad];refine aC (u.aY[i-1],()) hc' (ao ?_);have hla:nC u.aY i=u.aY[i-1]:=by
     unfold nC;rw [W6 ad,XT,W5 ad] <;> rfl
    rw [leB];rw [hla] at hu;refine ak (fun r3=>?_) (fun r3=>?_)
    ·have r3:decide (gS u.aY[i-1] u.aY[i])=false:=by simpa using r3
     exact ⟨by rw [hu,r3]; rfl,e6⟩
    ·have r3:decide (gS u.aY[i-1] u.aY[i])=true:=by simpa using r3
     rw [r3,Xu] at hu;refine aI (cs:=[(false,[.int .i64]),(false,[.int .i64])]) (n31,((i+1:Nat):Int),()) (u.aY.length-(i+1)) rfl ad (by rw [wrap_i64 ad ad]; rfl) ?_;exact ⟨i+1,rfl,ad,rfl,e6,b1,m,hu⟩
   ·have r2:=W4 r2;have hi0:i=0:=ad
    subst hi0;have hg:decide (gS (nC u.aY 0) u.aY[0])=true:=W9 (DK (m.2 _ (uI r)));rw [hg,Xu] at hu;refine aI (cs:=[(false,[.int .i64]),(false,[.int .i64])]) (n31,((0+1:Nat):Int),()) (u.aY.length-(0+1)) rfl ad (by rw [wrap_i64 ad ad]; rfl) ?_;exact ⟨0+1,rfl,ad,rfl,e6,b1,m,hu⟩
  ·have q3:=W4 q3;have hil:i=u.aY.length:=ad
   subst hil;rw [Yi] at hu;exact ⟨by rw [hu]; rfl,e6⟩
def M2 (l:List UInt8):List (List ZB):=l.map fun b=>[.int .u8 (b.toNat:Int)]
def Gn (l:List UInt8):(M2 l).length=l.length:=by simp [M2]
def MP (l:List UInt8):(M2 l).flatten=l.map fun b=>.int .u8 (b.toNat:Int):=by
 induction l with
 | nil=>rfl
 | cons a l ih =>
  have:M2 (a::l)=[.int .u8 (a.toNat:Int)]::M2 l:=rfl
  rw [this,YF,ih] <;> rfl
def WT:(Tryz.prog.info? 5).map (fun i=>(i.zero,i.size,i.bytes))=some (some (.int .u8 0),1,1):=az
def SL.cj {h:Hp} {b:Nat} {e:TypeId} {sz:Nat} {p:ZC} {l c:Nat} {xs:List (List ZB)} (s:SL h b e sz p l c xs):∀ i,i∈aP p->b<=i/\i<h.size:=by
 intro i hi;cases p with
 | none=>simp [aP] at hi
 | some a =>
  obtain ⟨g,pre,rest,rfl,hb,_,hbox,_⟩:=s.2.2;simp [aP] at hi;exact ⟨ad,by rw [hi]; exact hbox.lt⟩
def I0 {P:Program} {h:Hp} (a:Zx) (l:List UInt8) (cap:Nat) (K:ZB->Hp->Prop) (hc:aJ h a 0 (l.map MW)) (hk:K (.string ⟨l.toArray⟩) h):aS P (Conv.bytesToString (.slice (some a) l.length cap)) h K:=by
 unfold Conv.bytesToString;simp only;rw [ar];refine dH aj hc _ ?_;rw [ar,<- Array.forIn_toList]
 have key:∀ (l:List UInt8) (s:ZA) (K':ZA->Hp->Prop),K' ⟨s.data++l.toArray⟩ h->aS P (forIn (l.map MW) s fun c r=>match c with
   | .int .u8 n=>(pure (ForInStep.yield (r.push (UInt8.ofNat n.toNat))):Sem (ForInStep ZA))
   | _ => stuck "bytesToString: byte expected") h K' := by
  intro l
  induction l with
  | nil =>
   intro s K' hk;have e:(⟨s.data++([]:List UInt8).toArray⟩:ZA)=s:=aj
   rw [e] at hk;exact hk
  | cons c l ih =>
   intro s K' hk;rw [XH,List.forIn_cons];rw [ar];show aS P (forIn (List.map MW l) (s.push (UInt8.ofNat ((c.toNat:Nat):Int).toNat)) _) h K';have e1:UInt8.ofNat ((c.toNat:Nat):Int).toNat=c:=aj
   rw [e1];refine ih (s.push c) K' ?_
   have:(⟨(s.push c).data++l.toArray⟩:ZA)=⟨s.data++(c::l).toArray⟩:=by
    congr 1
    apply XM.1
    simp
   rw [this]; exact hk
 refine key l ByteArray.empty _ ?_;have e:(⟨ByteArray.empty.data++l.toArray⟩:ZA)=⟨l.toArray⟩:=by
  congr 1
  apply XM.1
  simp
 rw [e];exact hk
abbrev St:=Except (Nat × Nat) Bt
def Wx {k c:Nat} (h:k≠c):(((k:Nat):Int)==(c:Int))=false:=by
 simp only [beq_eq_false_iff_ne,ne_eq];omega
def iz:List ZB:=[.int .i64 (0:Int),.string ⟨#[]⟩,.int .i64 (0:Int),.int .i64 (0:Int),.int .i64 (0:Int),.int .i32 (0:Int),.int .i64 (0:Int),.slice none 0 0,.int .u32 (0:Int),.int .i64 (0:Int)]
structure Ls {α:Type} (e:TypeId) (sz:Nat) (enc:cv->α->List ZB) (tm:α->da) (ok:α->Prop) (h:Hp) (b:Nat) (p:ZC) (l c:Nat) (us:List (cv × α)):Prop where
 sl:SL h b e sz p l c (us.map fun u=>enc u.1 u.2)
 own:∀ u,u∈us->SL h b 117 2 u.1.p u.1.l u.1.c ((tm u.2).map dc)
 ok:∀ u,u∈us->ok u.2
section
variable {α:Type} {e:TypeId} {sz:Nat} {enc:cv->α->List ZB} {tm:α->da} {ok:α->Prop} {h h':Hp} {b b':Nat} {p:ZC} {l c:Nat} {us:List (cv × α)}
end
abbrev ptr (g:Nat):ZB:=.pointer (some ⟨g,0,none⟩)
def RG:Tryz.prog.underlying 43=some (.slice 71):=az
def U6:Tryz.prog.underlying 44=some (.slice 100):=az
def Hr:Tryz.prog.underlying 45=some (.slice 9):=az
def T8:(Tryz.prog.info? 9).map (fun i=>(i.zero,i.size,i.bytes))=some (some (.string ⟨#[]⟩),1,16):=az
def SL.Au {h:Hp} {b:Nat} {e:TypeId} {sz:Nat} {p:ZC} {l c:Nat} {xs:List (List ZB)} (s:SL h b e sz p l c xs):∀ i,i∈aP p->∃ xs,bH h i e xs:=by
 intro i hi;cases p with
 | none=>simp [aP] at hi
 | some a =>
  obtain ⟨g,pre,rest,rfl,hb,_,hbox,_⟩:=s.2.2;simp [aP] at hi;subst hi;exact ⟨_,hbox⟩
def SL.rm {ws:List Nat} {h h':Hp} {b:Nat} {e e':TypeId} {sz:Nat} {p:ZC} {l c:Nat} {xs:List (List ZB)} (s:SL h b e sz p l c xs) (k:Ch ws h h') (hw:∀ i,i∈ws->∃ ys,bH h i e' ys) (he:e≠e'):SL h' b e sz p l c xs:=by
 refine Sx.SL.bM s k (fun i hi hm=>?_);obtain ⟨ys,b1⟩:=SL.Au s i hi;obtain ⟨zs,b2⟩:=hw i hm;unfold bH at b1 b2;rw [b1] at b2;simp only [Option.some.injEq,Obj.cells.injEq] at b2;exact he b2.2.1
section
variable {h0 h:Hp} {g gm:Nat} {bp:ZC} {bl bc:Nat} {full:Bt} {st:St} {D:List ZA}
end
def lX:cv:=⟨none,0,0⟩
abbrev SI:=Ls 71 10 (fun s x=>encI s.p s.l s.c x) (fun x:cF=>x.e.ai) (fun _=>True)
def Ap:Tryz.prog.underlying 43=some (.slice 71):=az
def DP:(Tryz.prog.info? 71).map (fun i=>(i.zero,i.size,i.bytes))=some (some (.agg iz.toArray),10,104):=az
def sK (u:cv × cF):List ZB:=encI u.1.p u.1.l u.1.c u.2
def EC {a b:Nat} (h:(((a:Nat):Int)==((b:Nat):Int))=true):a=b:=by
 have:=eq_of_beq h
 omega
def EN {a b:Nat} (h:(((a:Nat):Int)==((b:Nat):Int))=false):¬ a=b:=by
 rintro rfl;simp at h
def Ij {L:Lp} {K:ZB->Hp->Prop} {h:Hp} {b:Bool} {t u:T} (hu:b=false->u L K h) (ht:b=true->t L K h):(cond b t u) L K h:=ak ht hu
theorem rl {h:Hp} {a:Zx}:∀ (vs:List ZB) (o i:Nat),aJ h a (o+i) vs->aJ h (a.add o) i vs
 | [],_,_,_=>trivial
 | v::vs,o,i,hc=>⟨by rw [add_add]; exact hc.1,rl vs o (i+1) hc.2⟩
def qd (s t:ZA):(ByteArray.toList s==ByteArray.toList t)=decide (s=t):=by
 rw [ByteArray.toList_eq,ByteArray.toList_eq]
 by_cases h:s=t
 ·rw [W9 h,h]; simp
 ·rw [Xa h]
  have:¬ s.data.toList=t.data.toList:=fun e=>h (B9 e)
  simpa using this
def Pc (x y:Operand) (i j:Ins) (h:Hp) (K:ZB->Hp->Prop) (hk:K (.bool (decide (i=j))) h) :
  aS Tryz.prog (Sx.ir (BinOp.eql) 65 x y (.agg (nV i).toArray) (.agg (nV j).toArray)) h K:=by
 refine zf Rh az az az K ?_;have he:(Aw Tryz.prog 65).all (FJ (nV i).toArray (nV j).toArray)=(i.op==j.op && (i.a==j.a && (i.b==j.b && (i.n==j.n && (i.form==j.form && true))))):=by
  rw [<- Yj]
  kernel_rfl
 rw [he,Yk]
 have:(i.op==j.op && (i.a==j.a && (i.b==j.b && (i.n==j.n && i.form==j.form))))=decide (i=j):=by
  rcases i with ⟨a1,a2,a3,a4,a5⟩
  rcases j with ⟨c1,c2,c3,c4,c5⟩
  simp only [cZ,Ins.mk.injEq]
  by_cases h1:a1=c1 <;> by_cases h2:a2=c2 <;> by_cases h3:a3=c3 <;> by_cases h4:a4=c4 <;> by_cases h5:a5=c5 <;> simp [h1,h2,h3,h4,h5]
 rw [this];exact hk
end Go.Sx.Ob
