/- Contracts over heaps, and plain laws, for the functions that the laws of chapter 9 call, part 1: Sums of names, in plain words: lists of terms with rising names are one where ea Condition: as each statement says. -/
import Derived.Test.YtlpcncdglfjnoaaGreatDoorBtA
import Derived.Test.YtlpcncdglfjnoaaGreatDoorBShelf
import Derived.Test.YtlpcncdglfjnoaaGreatDoorSxG
import Derived.Test.YtlpcncdglfjnoaaGreatDoorSxE
import Derived.Test.YtlpcncdglfjnoaaGreatDoorBtB
import Derived.Test.YtlpcncdglfjnoaaGreatDoorBtE
set_option linter.all false
set_option maxRecDepth 100000
set_option maxHeartbeats 4000000
namespace Go.Sx
open Go.Proofs
theorem mixed:Tryz.prog.follows .mixedOrders=true:=az
theorem QD : (Tryz.f144.name == "runtime.NumGoroutine") = false :=az
theorem QK:Tryz.f144.body.isNone=true:=az
theorem Q0:Extern.findNext Tryz.f144=none:=az
theorem Qz:Extern.find Tryz.f144=some Extern.BytealgIndexByte.indexByte:=az
theorem AA (s:YA) (c:Int) (h:Hp):vC Tryz.prog 129 [.string s,.int .u8 c] h (.int .i64 (Lib.indexByte s.data.toList c.toNat.toUInt8)):=by
 refine ee mixed Tryz.func129 az (gi s c) ?_;refine D7 Tryz.func144 QD QK Q0 Qz ?_;rw [qv];exact ⟨(_,()),rfl,rfl,rfl⟩
theorem C1 (s:YA) (c:Int) (h:Hp):vC Tryz.prog 120 [.string s,.int .u8 c] h (.int .i64 (Lib.indexByte s.data.toList c.toNat.toUInt8)):=by
 refine ee mixed Tryz.func120 az (oB s c) ?_;exact ic (AA s c h) ⟨rfl,rfl⟩
def lS (s set:List UInt8):Nat:=(s.takeWhile fun c=>set.contains c).length
theorem Pb (s set:List UInt8):lS s set<=s.length:=by
 unfold lS;exact (List.takeWhile_prefix _).length_le
theorem qQ {p:UInt8->Bool}:∀ (l:List UInt8) (k:Nat),k<=(l.takeWhile p).length->k<l.length->(k<(l.takeWhile p).length↔p (l.getD k 0)=true)
 | [],k,_,h=>by simp at h
 | c::l,0,_,_=>by
  simp only [List.takeWhile_cons,List.getD_cons_zero];cases hp:p c <;> simp
 | c::l,k+1,h,hl=>by
  simp only [List.takeWhile_cons] at h ⊢;cases hp:p c with
  | false=>rw [hp] at h; simp at h
  | true =>
   rw [hp] at h;simp at h hl
   have:=qQ l k (by simpa using h) hl
   simpa using this
theorem BD (s set:List UInt8) (k:Nat) (hk:k<=lS s set) (hl:k<s.length):(k<lS s set↔set.contains (s.getD k 0)=true):=qQ s k hk hl
theorem Ln (s:YA) (n:Int):(cK s n).toNat.toUInt8=s.data.toList.getD n.toNat 0:=by
 unfold cK; simp
theorem Mp (s set:YA) (h:Hp) (hs:s.size<=9223372036854775807):vC Tryz.prog 103 [.string s,.string set] h (.int .i64 (lS s.data.toList set.data.toList)):=by
 refine ee mixed Tryz.func103 az (CQ s set) ?_;have hsz:s.data.toList.length=s.size:=aj
 have hle:=Pb s.data.toList set.data.toList;refine aR (cs:=[(false,[.int .i64])]) (fun x n h'=>h'=h/\∃ k:Nat,x.1=(k:Int)/\k<=lS s.data.toList set.data.toList/\n=s.size-k) ((0:Int),()) s.size rfl ⟨rfl,0,rfl,ad,ad⟩ ?_;rintro ⟨n,⟨⟩⟩ m h' ⟨rfl,k,hk,hle',rfl⟩;simp only at hk;subst hk;refine ak (fun hb=>?_) (fun hb=>?_)
 ·have hlt:(k:Int)<s.size:=Ws hb;have hst:=BD s.data.toList set.data.toList k hle' ad;refine ay ⟨ad,hlt⟩ ?_;refine ic (C1 _ _ _) ?_;rw [Ln];have hc:=Lib.contains_iff_indexByte set.data.toList (s.data.toList.getD k 0);refine ak (fun hb2=>?_) (fun hb2=>?_)
  ·have h2:=Ws hb2;rw [wrap_i64 ad ad];have hin:set.data.toList.contains (s.data.toList.getD k 0)=true:=by rw [hc]; exact WB h2
   exact aF (cs:=[(false,[.int .i64])]) ((k:Int)+1,()) (s.size-(k+1)) rfl ad rfl ⟨rfl,k+1,(show ((k:Int)+1)=((k+1:Nat):Int) from ad),hst.2 hin,rfl⟩
  ·have h2:=Wt hb2;have hin:¬ set.data.toList.contains (s.data.toList.getD k 0)=true:=by rw [hc]; exact fun hh=>h2 (Ws hh)
   have:k=lS s.data.toList set.data.toList:=by
    have:¬ k<lS s.data.toList set.data.toList:=fun hh=>hin (hst.1 hh)
    omega
   exact ⟨by rw [<- this],rfl⟩
 ·have hge:¬ (k:Int)<s.size:=Wt hb
  have:k=lS s.data.toList set.data.toList:=ad
  exact ⟨by rw [<- this],rfl⟩
def eQ (c:UInt8):Bool:=(97<=c.toNat && c.toNat<=122) || (65<=c.toNat && c.toNat<=90) || c.toNat==95
def gK (c:UInt8):Bool:=48<=c.toNat && c.toNat<=57
def gh:List UInt8:=[97,98,99,100,101,102,103,104,105,106,107,108,109,110,111,112,113,114,115,116,117,118,119,120,121,122,65,66,67,68,69,70,71,72,73,74,75,76,77,78,79,80,81,82,83,84,85,86,87,88,89,90,95]
def iB:List UInt8:=[48,49,50,51,52,53,54,55,56,57]
theorem A6 (p q:UInt8->Bool) (h:(List.range 256).all (fun n=>p (UInt8.ofNat n)==q (UInt8.ofNat n))=true) (c:UInt8):p c=q c:=by
 have:=W1.1 h c.toNat (X6.2 (by have:=c.toNat_lt; omega))
 simpa using this
theorem F5 (c:UInt8):gh.contains c=eQ c:=A6 (fun c=>gh.contains c) eQ (by decide +kernel) c
theorem LR (c:UInt8):(gh++iB).contains c=(eQ c || gK c):=A6 (fun c=>(gh++iB).contains c) (fun c=>eQ c || gK c) (by decide +kernel) c
def cN (c:UInt8):Int:=(c.toNat:Nat)
theorem Kc (c:UInt8) (h:Hp):vC Tryz.prog 76 [.int .u8 (cN c)] h (.bool (gK c)):=by
 refine ee mixed Tryz.func76 az (nQ _) ?_;unfold jD gK cN bo;refine ak (fun h1=>?_) (fun h1=>?_)
 ·have h1:=Ws h1;refine ⟨?_,rfl⟩
  congr 1
  rw [show decide (48<=c.toNat)=true from WB ad,W9];exact Ym.2 ad
 ·have h1:=Wt h1;refine ⟨?_,rfl⟩
  congr 1
  rw [show decide (48<=c.toNat)=false from WE ad,Bool.false_and]
theorem IW (c:UInt8):eQ c=true↔(97<=cN c/\cN c<=122)\/(65<=cN c/\cN c<=90)\/cN c=95:=by
 unfold eQ cN;simp only [Bool.or_eq_true,Bool.and_eq_true,decide_eq_true_eq,beq_iff_eq];omega
theorem AS (c:UInt8) (h:Hp):vC Tryz.prog 75 [.int .u8 (cN c)] h (.bool (eQ c)):=by
 refine ee mixed Tryz.func75 az (mS _) ?_;unfold iM dI;have hl:=IW c
 repeat' (refine ak (fun h1=>?_) (fun h1=>?_) <;> first | replace h1:=Ws h1 | replace h1:=Wt h1)
 all_goals exact ⟨WJ Value.bool (Bool.eq_iff_iff.2 (by simp only [hl,true_iff,beq_iff_eq]; omega)),rfl⟩
def xO (s:List UInt8):Int × Bool × Bool :=
 match s with
 | [a,b]=>if cN a=114/\48<=cN b/\cN b<=55 then (cN b-48,false,true) else if cN a=122/\48<=cN b/\cN b<=51 then (cN b-48,true,true) else (0,false,false)
 | _=>(0,false,false)
theorem EQ {s:List UInt8} (h:s.length≠2):xO s=(0,false,false):=by
 unfold xO;split
 ·simp at h
 ·rfl
theorem vq (s:YA) (n:Int):cK s n=cN (s.data.toList.getD n.toNat 0):=rfl
theorem two_bytes {s:YA} (h1:(s.size:Int)=2):∃ a b,s.data.toList=[a,b]:=by
 have hsz:s.data.toList.length=s.size:=aj
 match hl:s.data.toList with
 | [a,b]=>exact ⟨a,b,rfl⟩
 | []=>rw [hl] at hsz; simp at hsz; omega
 | [a]=>rw [hl] at hsz; simp at hsz; omega
 | a::b::c::l=>rw [hl] at hsz; simp at hsz; omega
theorem Dh (s:YA) (h:Hp):vC Tryz.prog 102 [.string s] h (.tuple #[.int .i64 (xO s.data.toList).1,.bool (xO s.data.toList).2.1,.bool (xO s.data.toList).2.2]):=by
 refine ee mixed Tryz.func102 az (vh s) ?_;have hsz:s.data.toList.length=s.size:=aj
 unfold qB bj;refine ak (fun h1=>?_) (fun h1=>?_)
 ·have h1:(s.size:Int)≠2:=by simpa using h1
  rw [EQ ad];exact ⟨rfl,rfl⟩
 ·have h1:(s.size:Int)=2:=by simpa using h1
  obtain ⟨a,b,hab⟩:=two_bytes h1;have e0:cK s 0=cN a:=by rw [vq,hab]; rfl
  have e1:cK s 1=cN b:=by rw [vq,hab]; rfl
  have hb:=b.toNat_lt;have w1:IntKind.wrap .i64 (IntKind.wrap .i64 (cK s 1)-48)=cN b-48:=by
   rw [e1,wrap_i64 (x:=cN b) (by unfold cN; omega) (by unfold cN; omega),wrap_i64 (by unfold cN; omega) (by unfold cN; omega)]
  rw [w1,e0,hab];unfold xO
  repeat' (first | refine ay ⟨ad,ad⟩ ?_ | (refine ak (fun h1=>?_) (fun h1=>?_) <;> first | replace h1:=Ws h1 | replace h1:=Wt h1 | replace h1:=eq_of_beq h1 | replace h1:=ne_of_beq_false h1))
  all_goals
   refine ⟨?_,rfl⟩;simp only
   first
    | (exfalso; omega)
    | rw [WC ad]
    | rw [Ww ad,WC ad]
    | rw [Ww ad,Ww ad]
theorem Cg (s:YA) (h:Hp):vC Tryz.prog 77 [.string s] h (.tuple #[.int .i64 (xO s.data.toList).1,.bool (xO s.data.toList).2.1,.bool (xO s.data.toList).2.2]):=by
 refine ee mixed Tryz.func77 az (kZ s) ?_;have hsz:s.data.toList.length=s.size:=aj
 unfold gS bj;refine ak (fun h1=>?_) (fun h1=>?_)
 ·have h1:(s.size:Int)≠2:=by simpa using h1
  rw [EQ ad];exact ⟨rfl,rfl⟩
 ·have h1:(s.size:Int)=2:=by simpa using h1
  obtain ⟨a,b,hab⟩:=two_bytes h1;have e0:cK s 0=cN a:=by rw [vq,hab]; rfl
  have e1:cK s 1=cN b:=by rw [vq,hab]; rfl
  have hb:=b.toNat_lt;have w1:IntKind.wrap .i64 (IntKind.wrap .i64 (cK s 1)-48)=cN b-48:=by
   rw [e1,wrap_i64 (x:=cN b) (by unfold cN; omega) (by unfold cN; omega),wrap_i64 (by unfold cN; omega) (by unfold cN; omega)]
  rw [w1,e0,hab];unfold xO
  repeat' (first | refine ay ⟨ad,ad⟩ ?_ | (refine ak (fun h1=>?_) (fun h1=>?_) <;> first | replace h1:=Ws h1 | replace h1:=Wt h1 | replace h1:=eq_of_beq h1 | replace h1:=ne_of_beq_false h1))
  all_goals
   refine ⟨?_,rfl⟩;simp only
   first
    | (exfalso; omega)
    | rw [WC ad]
    | rw [Ww ad,WC ad]
    | rw [Ww ad,Ww ad]
def cP (s:List UInt8):Bool:=decide (0<s.length) && decide (s.length<=32) && eQ (s.getD 0 0) && s.all (fun c=>eQ c || gK c) && !(xO s).2.2
theorem LF {s set:List UInt8} (h:0<s.length):0<lS s set↔set.contains (s.getD 0 0)=true:=BD s set 0 (Yl _) h
theorem Nb {s set:List UInt8}:lS s set=s.length↔s.all (fun c=>set.contains c)=true:=by
 unfold lS
 induction s with
 | nil=>simp
 | cons c s ih =>
  rw [List.takeWhile_cons,List.all_cons];cases hc:set.contains c with
  | true=>simp only [if_true,List.length_cons,Bool.true_and]; rw [<- ih]; omega
  | false=>simp
theorem Vi:(⟨#[97,98,99,100,101,102,103,104,105,106,107,108,109,110,111,112,113,114,115,116,117,118,119,120,121,122,65,66,67,68,69,70,71,72,73,74,75,76,77,78,79,80,81,82,83,84,85,86,87,88,89,90,95]⟩:YA).data.toList=gh:=rfl
theorem Vf:(⟨#[97,98,99,100,101,102,103,104,105,106,107,108,109,110,111,112,113,114,115,116,117,118,119,120,121,122,65,66,67,68,69,70,71,72,73,74,75,76,77,78,79,80,81,82,83,84,85,86,87,88,89,90,95,48,49,50,51,52,53,54,55,56,57]⟩:YA).data.toList=gh++iB:=rfl
theorem toList_nil {s:YA}:(s.toList==[])=decide (s.size=0):=by
 have:s.toList=s.data.toList:=ByteArray.toList_eq s
 rw [this];have hsz:s.data.toList.length=s.size:=aj
 cases hl:s.data.toList with
 | nil=>rw [hl] at hsz; simp at hsz; simp [<- hsz]
 | cons a l=>rw [hl] at hsz; simp at hsz; simp [<- hsz]
theorem uL (s:YA) (h:Hp) (hs:s.size<=9223372036854775807):vC Tryz.prog 79 [.string s] h (.bool (cP s.data.toList)):=by
 refine ee mixed Tryz.func79 az (yR s) ?_;have hsz:s.data.toList.length=s.size:=aj
 unfold xC cn bF bo aM bT;refine DE (Dh s h) ?_;unfold cP;rw [hsz];refine ak (fun h1=>?_) (fun h1=>?_)
 ·have h1:s.size≠0:=by rw [toList_nil] at h1; simpa using h1
  refine ak (fun h2=>?_) (fun h2=>?_)
  ·have h2:=Ws h2;refine ic (Mp s _ h hs) ?_;rw [Vi];have hp:=LF (set:=gh) (by omega:0<s.data.toList.length);rw [F5] at hp;refine ak (fun h3=>?_) (fun h3=>?_)
   ·have h3:=Ws h3;refine ic (Mp s _ h hs) ?_;rw [Vf];have ha:=Nb (s:=s.data.toList) (set:=gh++iB);have hg:(fun c=>(gh++iB).contains c)=(fun c=>eQ c || gK c):=funext LR;rw [hg] at ha;rw [show decide (0<s.size)=true from WB ad,show decide (s.size<=32)=true from WB ad,hp.1 ad];refine ak (fun h4=>?_) (fun h4=>?_)
    ·have h4:=eq_of_beq h4;rw [ha.1 ad];exact ⟨rfl,rfl⟩
    ·have h4:=ne_of_beq_false h4
     have:s.data.toList.all (fun c=>eQ c || gK c)=false:=by
      cases hx:s.data.toList.all (fun c=>eQ c || gK c) with
      | false=>rfl
      | true=>exact (h4 (by rw [ha.2 hx]; omega)).elim
     rw [this];exact ⟨rfl,rfl⟩
   ·have h3:=Wt h3
    have:eQ (s.data.toList.getD 0 0)=false:=by
     cases hx:eQ (s.data.toList.getD 0 0) with
     | false=>rfl
     | true=>have:=hp.2 hx; omega
    rw [this];exact ⟨aj,rfl⟩
  ·have h2:=Wt h2;rw [show decide (s.size<=32)=false from WE ad];exact ⟨aj,rfl⟩
 ·have h1:s.size=0:=by rw [toList_nil] at h1; simpa using h1
  rw [show decide (0<s.size)=false from WE ad];exact ⟨aj,rfl⟩
open Go.Proofs Go.MapKept Go.WideAt Go.WideMaps Go.Maps Go.RowKit Go.WideElems Go.WideElems
def Ji:YB->Option (DataW Unit × List MemPlace):=fun _=>some (.nil,[])
theorem wE:Tryz.prog.underlying 9=some .string:=az
theorem Rn:Tryz.prog.underlying 170=some (.map 9 58):=az
def keysOf (D:List (YA × YB)):List (List UInt8):=(D.map fun p=>p.1.data.toList).mergeSort fun x y=>decide (x<=y)
theorem Kr {x:MapEntry} {s:YA} (hk:x.key=.string s) (hs:s.size<=maxLen):WideElems.rd Tryz.prog 9 Ji x=some (.string s.data.toList,.nil):=by
 unfold WideElems.rd;rw [hk,keyOf_string_mk wE hs] <;> rfl
theorem eA.owns {W:World} {g:Nat} {D:List (YA × YB)} (m:eA W.heap g D) (hl:D.length<=maxLen) :
  ∃ D0:DataW Unit,W.ownsMap Tryz.prog 9 Ji g D.length D0/\(strKeys D0).Perm (D.map fun p=>p.1.data.toList)/\Maps.size D0=D.length:=by
 obtain ⟨es,clock,hg,he,hs,hd⟩:=m;have hlen:es.size=D.length:=by
  have:=WJ List.length he
  simpa using this
 have hrd:es.toList.map (WideElems.rg Tryz.prog 9 Ji)=D.map fun p=>(Lit.string p.1.data.toList,DataW.nil):=by
  apply XH;intro i;have h1:(es.toList.map (fun e=>(e.key,e.val)))[i]?=(D.map (fun p=>(Value.string p.1,p.2)))[i]?:=by rw [he]
  simp only [List.getElem?_map] at h1 ⊢;rcases Xg i D.length with hi | hi
  ·rw [Wu hi,Wu (show i<es.toList.length by simp; omega)] at h1 ⊢;simp only [Option.map_some,Option.some.injEq,Prod.mk.injEq] at h1 ⊢;exact WideElems.rg_of (Kr h1.1 (hd _ (WA hi)))
  ·rw [W2 hi,W2 (show es.toList.length<=i by simp; omega)] <;> rfl
 refine ⟨_,⟨es,clock,hg,⟨ad,hs,?_⟩,ad,rfl⟩,?_,?_⟩
 ·intro x hx;obtain ⟨i,hi,rfl⟩:=WS hx;have hi':i<D.length:=by simp at hi; omega
  have h1:(es.toList.map (fun e=>(e.key,e.val)))[i]?=(D.map (fun p=>(Value.string p.1,p.2)))[i]?:=by rw [he]
  simp only [List.getElem?_map,List.getElem?_eq_getElem hi',List.getElem?_eq_getElem hi,Option.map_some,Option.some.injEq,Prod.mk.injEq] at h1;exact ⟨_,Kr h1.1 (hd _ (WA hi'))⟩
 ·show List.Perm (((es.toList.map (WideElems.rg Tryz.prog 9 Ji)).foldr DataW.insert []).map fun p=>strOf p.1) _;rw [hrd];refine ((WideShapes.sorted_perm _).map _).trans ?_;rw [WT];exact List.Perm.refl _
 ·show ((es.toList.map (WideElems.rg Tryz.prog 9 Ji)).foldr DataW.insert []).length=D.length;rw [hrd,length_sorted,Wr]
theorem World.MU {W:World} {h:Hp} {o:Obj} (hW:W.heap=h.push o):({ W with heap:=h }:World).alloc o=W:=by
 cases W;simp only at hW;subst hW;rfl
theorem dz.alloc (w:World) (o:Obj):dz w (w.alloc o):=⟨rfl,rfl,rfl⟩
theorem Hj (r:Option Nat) (h:Hp):HC Tryz.prog 109 #[.map r] h fun v h'=>v=.func (.func 124) #[] #[.pointer (some ⟨h.size,0,none⟩)]/\h'=h.push (.cells #[.map r] 170):=by
 intro W hW;subst hW;exact (callsIn_wide.1 (Tryz.AE r W)).mono fun e w' ⟨he,hw⟩=>⟨_,he,by rw [hw]; exact dz.alloc _ _,rfl,by rw [hw]; rfl⟩
theorem SL.Sb {W:World} {b:Nat} {e:TypeId} {v:YB} {xs:List YB} (r:W.ownsRow b e 1 v xs.length xs):∃ p l c,v=.slice p l c/\SL W.heap b e 1 p l c (xs.map fun x=>[x]):=by
 have hfl:∀ ys:List YB,(ys.map fun x=>[x]).flatten=ys:=by
  intro ys
  induction ys with
  | nil=>rfl
  | cons y ys ih=>simp [ih]
 obtain ⟨h1,h2⟩:=r;rcases h2 with ⟨hv,hn⟩ | ⟨g,cap,jh,hv,hb,hg,hle,hc,hs,ht⟩
 ·have:xs=[]:=Xr hn
  subst this;exact ⟨none,0,0,hv,SL.nil _ _ _ _⟩
 ·refine ⟨some ⟨g,0,none⟩,xs.length,cap,hv,aj,aj,g,[],jh.toList.drop xs.length,rfl,hb,⟨hle,by unfold maxLen at hc; omega⟩,?_,?_⟩
  ·rw [hfl,X1]
   have:xs=jh.toList.take xs.length:=by rw [<- ht]; simp
   unfold bC;rw [hg]
   congr 2
   conv=>lhs; rw [<- Array.toArray_toList (xs:=jh),<- W8 xs.length jh.toList]
   rw [<- this]
  ·rw [Xu,Xs,hs]; omega
theorem rQ {h:Hp} {g:Nat} {D:List (YA × YB)} (m:eA h g D) (hl:D.length<=2^40) :
  HC Tryz.prog 108 #[.func (.func 124) #[] #[.pointer (some ⟨h.size,0,none⟩)]] (h.push (.cells #[.map (some g)] 170)) fun v h'=>∃ p l c,v=.slice p l c/\SL h' (h.size+1) 9 1 p l c ((keysOf D).map fun k=>[encStr k]) /\
   Ext (h.push (.cells #[.map (some g)] 170)) h':=by
 intro W hW;obtain ⟨D0,hown,hperm,hsize⟩:=eA.owns (W:={ W with heap:=h }) m (by unfold maxLen; omega);have hc:=callsIn_wide.1 (Tryz.kR g D.length D0 Ji { W with heap:=h } hown (by rw [hsize]; unfold maxLen; omega) (by rw [hsize]; omega));rw [World.MU hW] at hc;refine hc.mono fun e w' hr=>?_
 obtain ⟨v,ss,he,hp,hrow,_,hb⟩:=hr;have hss:ss.mergeSort (fun x y=>decide (x<=y))=keysOf D:=mergeSort_of_perm (hp.trans hperm);have hlen:ss.length=((ss.mergeSort (fun x y=>decide (x<=y))).map encStr).length:=by rw [Wr,List.length_mergeSort]
 rw [hlen,hss] at hrow;obtain ⟨p,l,c,hv,hsl⟩:=SL.Sb hrow;refine ⟨v,he,⟨hb.os,hb.tape,hb.output⟩,p,l,c,hv,?_,?_⟩
 ·rw [WT] at hsl
  have:W.heap.size=h.size+1:=by rw [hW]; simp
  rw [this] at hsl;exact hsl
 ·rw [<- hW];exact ⟨hb.size,fun i hi _=>hb.block i hi⟩
abbrev cZ:=List (YA × Nat)
def cX (p:YA × Nat):List YB:=[.string p.1,.int .u32 p.2]
def vm (D:cZ):List (YA × YB):=D.map fun p=>(p.1,Value.int .u32 p.2)
def dH (D:cZ) (s:YA):Nat:=((D.find? fun p=>decide (s=p.1)).map (·.2)).getD 0
def uO (D:cZ) (s:YA) (v:Nat):cZ:=if (D.find? fun p=>decide (s=p.1)).isSome then D.map fun p=>if s=p.1 then (p.1,v) else p else D++[(s,v)]
def iJ (D:cZ) (p:YA × Nat):cZ:=uO D p.1 ((dH D p.1+p.2) % 4294967296)
def D4 (D:cZ):cZ:=(keysOf (vm D)).filterMap fun k=>if dH D ⟨k.toArray⟩=0 then none else some (⟨k.toArray⟩,dH D ⟨k.toArray⟩)
theorem OU (D:cZ) (s:YA):(vm D).find? (fun p=>decide (s=p.1))=(D.find? fun p=>decide (s=p.1)).map fun p=>(p.1,Value.int .u32 p.2):=by
 unfold vm
 induction D with
 | nil=>rfl
 | cons p D ih =>
  by_cases h:s=p.1
  ·simp [h]
  ·simp only [List.map_cons,List.find?_cons,decide_eq_false h];exact ih
theorem HK (D:cZ) (s:YA):look (vm D) s=(D.find? fun p=>decide (s=p.1)).map fun p=>Value.int .u32 p.2:=by
 unfold look;rw [OU,Option.map_map] <;> rfl
theorem Jr (D:cZ) (s:YA):(look (vm D) s).getD (.int .u32 0)=.int .u32 (dH D s):=by
 rw [HK];unfold dH
 all_goals (cases D.find? fun p=>decide (s=p.1) <;> rfl)
theorem RB (D:cZ) (s:YA) (v:Nat):jO (vm D) s (.int .u32 v)=vm (uO D s v):=by
 unfold jO uO;rw [HK];cases h:(D.find? fun p=>decide (s=p.1)) with
 | none=>simp [vm]
 | some q =>
  simp only [Option.map_some,Option.isSome_some,if_true,vm,List.map_map];refine Xl fun p hp=>?_
  simp only [Function.comp];split <;> simp_all
theorem DZ (D:cZ) (s:YA) (v:Nat):(uO D s v).length<=D.length+1:=by
 unfold uO;split <;> simp
theorem RM:(Tryz.prog.info? 58).bind (·.zero)=some (.int .u32 0):=az
theorem zt:Tryz.prog.underlying 57=some (.slice 66):=az
theorem sg:(Tryz.prog.info? 66).map (fun i=>(i.zero,i.size,i.bytes))=some (some (.agg #[.string ⟨#[]⟩,.int .u32 0]),2,24):=az
theorem oU {L:Lp} {K:YB->Hp->Prop} {h:Hp} {g:Nat} {D:cZ} (m:eA h g (vm D)) (s:YA) {k:Int->T} (hk:k (dH D s) L K h):T.dW Tryz.prog (Instr.lookup 170 (.map (some g)) (.string s) false) false [(false,[.int .u32])] k L K h:=by
 refine jb Rn wE RM m s false _ ?_;refine ⟨((dH D s:Int),()),?_,hk⟩;simp only [Bool.false_eq_true,if_false];rw [Jr] <;> rfl
theorem F8 {L:Lp} {K:YB->Hp->Prop} {h:Hp} {g:Nat} {D:cZ} (m:eA h g (vm D)) {s:YA} (hs:s.size<=maxLen) {v:Int} {n:Nat} (hv:v=(n:Int)) {k:T} (hk:∀ h',eA h' g (vm (uO D s n))->Ch [g] h h'->h'.size=h.size->k L K h') :
  T.ec Tryz.prog (Instr.mapUpdate 170 (.map (some g)) (.string s) (.int .u32 v)) k L K h:=by
 subst hv;refine fR Rn wE m hs _ _ ?_;intro h' m' c' z';rw [RB] at m';exact hk h' m' c' z'
theorem Qp {h:Hp} {g:Nat} {D:cZ} (m:eA h g (vm D)) (hl:D.length<=2^40) (n:Int) :
  HC Tryz.prog 110 #[.map (some g),.int .u32 n] h fun v h'=>Ext h h'/\∃ p l c,v=.agg #[.slice p l c,.int .u32 n]/\SL h' h.size 66 2 p l c ((D4 D).map cX):=by
 refine aZ (args:=[.map (some g),.int .u32 n]) mixed Tryz.func110 az (ze (some g) n) ?_;unfold xd aX bh bm aH bF bk bK bi aM;refine bq ?_;intro h1 b1 e1 z1;refine bq ?_;intro h2 b2 e2 z2;refine aw b2 rfl aj ?_;intro h3 b3 k3 z3;have b3:bC h3 h1.size 60 [.slice none 0 0,.int .u32 n]:=b3;have e3:Ext h h3:=Ch.trans (e1.trans e2) k3 (fun i hi hl=>by simp at hi; omega);have m3:=m.ao e3 aj;have c3:bC h3 h.size 60 [.slice none 0 0,.int .u32 0]:=(b1.ao e2 aj).ao k3 (by simp; omega);refine aI (Hj (some g) h3) ?_;rintro _ h4 ⟨rfl,rfl⟩;refine ⟨(.func (.func 124) #[] #[.pointer (some ⟨h3.size,0,none⟩)],()),rfl,?_⟩;refine an ?_;have e4:Ext h3 (h3.push (.cells #[.map (some g)] 170)):=Ext.push _ _;have hkl:(vm D).length<=2^40:=by unfold vm; rw [Wr]; exact hl
 refine aI (rQ m3 hkl) ?_;rintro _ h5 ⟨pk,lk,ck,rfl,sk,e5⟩;refine ⟨((pk,lk,ck),()),rfl,?_⟩;refine an ?_;have e35:=e4.trans e5;have hkeys:(keysOf (vm D)).length<=2^40:=by
  unfold keysOf;rw [List.length_mergeSort,Wr];exact hkl
 have hlk:lk=(keysOf (vm D)).length:=by rw [sk.1,Wr]
 unfold D4;generalize keysOf (vm D)=ks at sk hkeys hlk ⊢;have b5:=b3.ao e35 aj;have c5:=c3.ao e35 aj;have m5:=m3.ao e35 aj;have e05:=e3.trans e35;have hz3:=e35.size;have hb3:=b3.lt;have hg:=m.lt;refine aR (cs:=[(false,[.int .i64])]) (fun x w h'=>∃ (i:Nat) (p:Option YC) (l c:Nat),x.1=(i:Int)/\i<=ks.length/\w=ks.length-i/\Ch [h1.size] h5 h'/\bC h' h1.size 60 [.slice p l c,.int .u32 n] /\
  SL h' h5.size 66 2 p l c (((ks.take i).filterMap fun k=>if dH D ⟨k.toArray⟩=0 then none else some ((⟨k.toArray⟩:YA),dH D ⟨k.toArray⟩)).map cX)/\l<=i) ((0:Int),()) ks.length rfl
  ⟨0,none,0,0,rfl,ad,ad,Ch.refl _ _,b5,SL.nil _ _ _ _,ad⟩ ?_
 rintro ⟨n8,⟨⟩⟩ w h6 ⟨i,p,l,c,hi,hile,rfl,k6,b6,s6,hli⟩;simp only at hi;subst hi;refine an ?_;have m6:=m5.ao k6 (by simp; omega);have hz6:=k6.size;have e06:Ext h h6:=Ch.trans e05 k6 (fun j hj hl=>by simp at hj; omega);refine ak (fun g1=>?_) (fun g1=>?_)
 ·have g1:=Ws g1;have hilt:i<ks.length:=ad
  have sk6:=sk.bG k6 (fun j hj=>by have:=(sk.cd hj).1; simp; omega);obtain ⟨a,rfl,hc⟩:=sk6.cells (i:=i) (by simpa using hilt);rw [Wy] at hc;have htk:ks.take (i+1)=ks.take i++[ks[i]]:=Wx hilt;generalize ks[i]=k at hc htk;refine ay ⟨ad,ad⟩ (av rfl ?_);rw [show Int.toNat (i:Int)=i from ad];refine ax ((⟨k.toArray⟩:YA),()) hc ?_;refine an ?_;have hw:IntKind.wrap .i64 ((i:Int)+1)=((i+1:Nat):Int):=by rw [wrap_i64 ad ad]; omega
  refine oU m6 _ (ak (fun g2=>?_) (fun g2=>?_))
  ·have g2:((dH D ⟨k.toArray⟩:Nat):Int)≠0:=by simpa using g2
   refine af b6 ((p,l,c),()) rfl ?_;refine an ?_;refine oU m6 _ ?_;refine ml (vs:=cX (⟨k.toArray⟩,dH D ⟨k.toArray⟩)) zt sg rfl ad ad az rfl rfl s6 hz6 ad ad ?_;intro p' c' h7 s7 k7 hp7;have b7:=b6.ao k7 (fun hh=>by have:=(s6.cd hh).1; omega);refine aw b7 rfl aj ?_;intro h8 b8 k8 z8;refine aF (cs:=[(false,[.int .i64])]) (((i+1:Nat):Int),()) (ks.length-(i+1)) rfl ad (WJ (fun z=>[Value.int .i64 z]) hw) ⟨i+1,p',l+1,c',rfl,ad,rfl,?_,b8,?_,ad⟩
   ·exact Ch.trans (Ch.trans k6 k7 (fun j hj hl=>by have:=(s6.cd hj).1; omega)) k8 (fun j hj _=>hj)
   ·rw [htk,Yh,WG];have hf:([k].filterMap fun k=>if dH D ⟨k.toArray⟩=0 then none else some ((⟨k.toArray⟩:YA),dH D ⟨k.toArray⟩))=[((⟨k.toArray⟩:YA),dH D ⟨k.toArray⟩)]:=by
     simp only [List.filterMap_cons,List.filterMap_nil];rw [Ww ad]
    rw [hf];exact s7.bG k8 (fun j hj=>by have:=(s7.cd hj).1; simp; omega)
  ·have g2:((dH D ⟨k.toArray⟩:Nat):Int)=0:=by simpa using g2
   refine aF (cs:=[(false,[.int .i64])]) (((i+1:Nat):Int),()) (ks.length-(i+1)) rfl ad (WJ (fun z=>[Value.int .i64 z]) hw) ⟨i+1,p,l,c,rfl,ad,rfl,k6,b6,?_,ad⟩;rw [htk,Yh];have hf:([k].filterMap fun k=>if dH D ⟨k.toArray⟩=0 then none else some ((⟨k.toArray⟩:YA),dH D ⟨k.toArray⟩))=[]:=by
    simp only [List.filterMap_cons,List.filterMap_nil];rw [WC ad]
   rw [hf,Xy];exact s6
 ·have g1:=Wt g1;have hi:i=ks.length:=ad
  subst hi;rw [Xd] at s6;have c6:=c5.ao k6 (by simp; omega);refine af b6 ((p,l,c),n,()) rfl ?_;refine an ?_;refine aw c6 rfl aj ?_;intro h7 b7 k7 z7;have b7:bC h7 h.size 60 [.slice p l c,.int .u32 n]:=b7;refine af b7 ((p,l,c),n,()) rfl ?_;have hz5:=e05.size;exact ⟨Ch.trans e06 k7 (fun j hj hl=>by simp at hj; omega),p,l,c,rfl,(s6.bG k7 (fun j hj=>by have:=(s6.cd hj).1; simp; omega)).mono ad⟩
structure gp (h:Hp) (p:Option YC) (l:Nat) (us:cZ):Prop where
 len:l=us.length
 cells:∀ i,(hi:i<us.length)->∃ a,p=some a/\aG h (a.add (i*2)) 0 (cX us[i])
theorem gp.ao {ws:List Nat} {h h':Hp} {p:Option YC} {l:Nat} {us:cZ} (v:gp h p l us) (k:Ch ws h h') (hw:∀ i,i∈aK p->i∉ws):gp h' p l us :=
 ⟨v.len,fun i hi=>by
  obtain ⟨a,ha,hc⟩:=v.cells i hi;exact ⟨a,ha,aQ k (by rw [gT]; exact hw _ (by rw [ha]; simp [aK])) _ _ hc⟩⟩
theorem SL.QH {h:Hp} {b:Nat} {e:TypeId} {p:Option YC} {l c:Nat} {us:cZ} (s:SL h b e 2 p l c (us.map cX)):gp h p l us:=by
 refine ⟨by rw [s.1,Wr],fun i hi=>?_⟩;obtain ⟨a,ha,hc⟩:=s.cells (i:=i) (by simpa using hi);rw [Wy] at hc;exact ⟨a,ha,hc⟩
structure bZ where
 ai:cZ
 num:Nat
def gn (p:Option YC) (l c:Nat) (x:bZ):YB:=.agg #[.slice p l c,.int .u32 x.num]
def Dc (l:cZ):cZ:=D4 (l.foldl iJ [])
def kD (x y:bZ):bZ:=⟨Dc (x.ai++y.ai),(x.num+y.num) % 4294967296⟩
theorem dN (x:Int):IntKind.wrap .u32 x=x % 4294967296:=by
 simp only [IntKind.wrap] <;> rfl
theorem ik (a:Nat):((a % 4294967296:Nat):Int)=(a:Int) % 4294967296:=Int.natCast_emod a 4294967296
def gz (a b:YA):Prop:=a.data.toList<b.data.toList
instance (a b:YA):Decidable (gz a b):=inferInstanceAs (Decidable (a.data.toList<b.data.toList))
theorem yG (a:YA):¬ gz a a:=List.lt_irrefl (α:=UInt8) _
theorem jg {a b c:YA} (h:gz a b) (k:gz b c):gz a c:=List.lt_trans (α:=UInt8) h k
theorem xB {a b:YA} (h:a.data.toList=b.data.toList):a=b:=by
 cases a; cases b;simp only at h;rw [W6.1 h]
theorem yk (a b:YA) (h:¬ gz a b) (k:¬ gz b a):a=b :=
 xB (List.le_antisymm (α:=UInt8) (List.not_lt.1 k) (List.not_lt.1 h))
theorem jU {a b:YA} (h:gz a b):a≠b:=fun e=>by subst e; exact yG _ h
theorem AR {a b:YA} (h:gz a b):¬ gz b a:=fun k=>yG _ (jg h k)
structure Nf (l:cZ):Prop where
 Sf:l.Pairwise fun p q=>gz p.1 q.1
 Dq:∀ p,p∈l->p.2≠0/\p.2<4294967296
def cf:cZ->YA->Nat
 | [],_=>0
 | p::l,s=>(if p.1=s then p.2 else 0)+cf l s
theorem zY (s:YA):cf [] s=0:=rfl
theorem eC (p:YA × Nat) (l:cZ) (s:YA):cf (p::l) s=(if p.1=s then p.2 else 0)+cf l s:=rfl
theorem Nf.tail {p:YA × Nat} {l:cZ} (h:Nf (p::l)):Nf l:=⟨(XJ.1 h.1).2,fun q hq=>h.2 q (WN _ hq)⟩
theorem Nf.head {p:YA × Nat} {l:cZ} (h:Nf (p::l)):∀ q,q∈l->gz p.1 q.1:=(XJ.1 h.1).1
theorem Nf.nil:Nf []:=⟨List.Pairwise.nil,aj⟩
theorem yr {l:cZ} {s:YA} (h:∀ p,p∈l->p.1≠s):cf l s=0:=by
 induction l with
 | nil=>rfl
 | cons p l ih =>
  rw [eC,Ww (h p (XW ..)),ih fun q hq=>h q (WN _ hq)]
theorem JV (l m:cZ) (s:YA):cf (l++m) s=cf l s+cf m s:=by
 induction l with
 | nil=>simp [cf]
 | cons p l ih=>simp only [List.cons_append,cf,ih]; omega
theorem Nf.lZ {p:YA × Nat} {l:cZ} (h:Nf (p::l)):cf (p::l) p.1=p.2:=by
 rw [eC,WC rfl,yr fun q hq=>(jU (h.head q hq)).symm] <;> rfl
theorem Nf.B1 {l:cZ} {s:YA} (h:∀ p,p∈l->gz s p.1):cf l s=0:=yr fun p hp=>(jU (h p hp)).symm
theorem Nf.Qb:∀ {l m:cZ},Nf l->Nf m->(∀ s,cf l s % 4294967296=cf m s % 4294967296)->l=m
 | [],[],_,_,_=>rfl
 | [],q::m,_,hm,h=>by
  have:=h q.1
  rw [hm.lZ] at this;have hq:=hm.Dq q (XW ..);simp only [cf] at this;omega
 | p::l,[],hl,_,h=>by
  have:=h p.1
  rw [hl.lZ] at this;have hq:=hl.Dq p (XW ..);simp only [cf] at this;omega
 | p::l,q::m,hl,hm,h=>by
  have hp:=hl.Dq p (XW ..);have hq:=hm.Dq q (XW ..)
  by_cases h1:gz p.1 q.1
  ·exfalso
   have:=h p.1
   rw [hl.lZ,Nf.B1 (l:=q::m) (s:=p.1) (by
    intro r hr;rcases WY.1 hr with rfl | hr
    ·exact h1
    ·exact jg h1 (hm.head r hr))] at this
   omega
  ·by_cases h2:gz q.1 p.1
   ·exfalso
    have:=h q.1
    rw [hm.lZ,Nf.B1 (l:=p::l) (s:=q.1) (by
     intro r hr;rcases WY.1 hr with rfl | hr
     ·exact h2
     ·exact jg h2 (hl.head r hr))] at this
    omega
   ·have he:=yk _ _ h1 h2;have h3:=h p.1;rw [hl.lZ,he,hm.lZ] at h3;have hpq:p=q:=by
     obtain ⟨a,b⟩:=p;obtain ⟨c,d⟩:=q;simp only at he h3 hp hq;subst he
     congr 1
     rw [X4 hp.2,X4 hq.2] at h3;exact h3
    subst hpq
    congr 1
    refine Nf.Qb hl.tail hm.tail fun s=>?_
    by_cases hs:p.1=s
    ·subst hs;rw [Nf.B1 hl.head,Nf.B1 hm.head]
    ·have:=h s
     simp only [cf,if_neg hs,Nat.zero_add] at this;exact this
theorem rk (s:YA):dH [] s=0:=rfl
theorem nG (p:YA × Nat) (D:cZ) (s:YA):dH (p::D) s=if s=p.1 then p.2 else dH D s:=by
 unfold dH;rw [Yg]
 by_cases h:s=p.1
 ·simp [h]
 ·simp [h]
theorem DC (D:cZ) (s t:YA) (v:Nat):dH (D++[(t,v)]) s=if (D.find? fun p=>decide (s=p.1)).isSome then dH D s else if s=t then v else 0:=by
 induction D with
 | nil=>simp [nG,rk]
 | cons p D ih =>
  rw [List.cons_append,nG,nG,ih,Yg]
  by_cases h:s=p.1
  ·simp [h]
  ·simp only [decide_eq_false h,if_neg h]
theorem A3 {D:cZ} {s:YA} (h:(D.find? fun p=>decide (s=p.1)).isSome=false):dH D s=0:=by
 unfold dH;cases hf:(D.find? fun p=>decide (s=p.1)) with
 | none=>rfl
 | some x=>rw [hf] at h; cases h
theorem Ll (D:cZ) (t:YA) (v:Nat) (s:YA):dH (D.map fun p=>if t=p.1 then (p.1,v) else p) s=if s=t/\(D.find? fun p=>decide (t=p.1)).isSome then v else dH D s:=by
 induction D with
 | nil=>simp [rk]
 | cons p D ih =>
  rw [Xf,nG,ih,nG,Yg]
  by_cases h:t=p.1
  ·subst h
   by_cases k:s=p.1 <;> simp [k]
  ·rw [Ww h]
   by_cases k:s=p.1
   ·subst k
    have:¬ p.1=t:=fun e=>h e.symm
    simp [this]
   ·simp only [decide_eq_false h,if_neg k]
theorem Bw (D:cZ) (t:YA) (v:Nat) (s:YA):dH (uO D t v) s=if s=t then v else dH D s:=by
 unfold uO;split
 ·rename_i hh;rw [Ll]
  by_cases k:s=t <;> simp [k,hh]
 ·rename_i hh;rw [DC]
  by_cases k:s=t
  ·subst k;simp [hh]
  ·rw [Ww k];split
   ·rfl
   ·rename_i h2;rw [A3 (Bool.eq_false_iff.2 h2)]
theorem Gt (l:cZ) (s:YA):∀ D:cZ,dH (l.foldl iJ D) s % 4294967296=(dH D s+cf l s) % 4294967296:=by
 induction l with
 | nil=>intro D; simp [cf]
 | cons p l ih =>
  intro D;rw [Xk,ih];unfold iJ;rw [eC,Bw]
  by_cases h:s=p.1
  ·subst h;rw [WC rfl,WC rfl,Nat.mod_add_mod]
   congr 1; omega
  ·rw [Ww h,Ww fun e=>h e.symm]
   congr 1; omega
theorem GW {D:cZ} (h:(D.map (·.1)).Nodup) (t:YA) (v:Nat):((uO D t v).map (·.1)).Nodup:=by
 unfold uO;have h1:(D.find? fun p=>decide (t=p.1)).isSome=true↔t∈D.map (·.1):=by
  rw [List.find?_isSome];simp [eq_comm]
 split
 ·have e:(D.map fun p=>if t=p.1 then (p.1,v) else p).map (·.1)=D.map (·.1):=by
   rw [WT];refine Xl fun p hp=>?_
   simp only [Function.comp];split <;> rfl
  rw [e]; exact h
 ·rename_i hn;rw [WG,XG];refine ⟨h,aj,?_⟩;rintro a ha b hb rfl;simp only [List.map_cons,List.map_nil,List.mem_singleton] at hb;subst hb;exact hn (h1.2 ha)
theorem zW (l:cZ):∀ D:cZ,(D.map (·.1)).Nodup->((l.foldl iJ D).map (·.1)).Nodup:=by
 induction l with
 | nil=>intro D h; exact h
 | cons p l ih =>
  intro D h;rw [Xk];exact ih _ (GW h _ _)
theorem HE (l:cZ):∀ D:cZ,(∀ s,dH D s<4294967296)->∀ s,dH (l.foldl iJ D) s<4294967296:=by
 induction l with
 | nil=>intro D h; exact h
 | cons p l ih =>
  intro D h;rw [Xk];refine ih _ fun s=>?_
  unfold iJ;rw [Bw];split
  ·exact Yx _ cg
  ·exact h s
theorem KQ {D:cZ} {s:YA} (h:s∉D.map (·.1)):dH D s=0:=by
 refine A3 ?_;cases hf:(D.find? fun p=>decide (s=p.1)).isSome with
 | false=>rfl
 | true =>
  rw [List.find?_isSome] at hf;obtain ⟨x,hx,hs⟩:=hf;exact absurd (Wz.2 ⟨x,hx,(Ws hs).symm⟩) h
def pick (g:YA->Nat) (ks:List (List UInt8)):cZ:=ks.filterMap fun k=>if g ⟨k.toArray⟩=0 then none else some (⟨k.toArray⟩,g ⟨k.toArray⟩)
theorem PZ (g:YA->Nat) (s:YA):∀ ks:List (List UInt8),ks.Nodup->cf (pick g ks) s=if s.data.toList∈ks then g s else 0:=by
 intro ks
 induction ks with
 | nil=>intro _; simp [pick,cf]
 | cons k ks ih =>
  intro h;rw [List.nodup_cons] at h;have ih:=ih h.2;unfold pick at ih ⊢;rw [List.filterMap_cons];have e1:(⟨k.toArray⟩:YA)=s↔s.data.toList=k:=by
   constructor
   ·rintro rfl; simp
   ·intro e; exact xB (by simp [e])
  by_cases hk:s.data.toList=k
  ·have hs:=e1.2 hk;rw [hs];split
   ·rename_i hg;split at hg
    ·rename_i h0;rw [ih,h0]
     simp
    ·cases hg
   ·rename_i hg;split at hg
    ·cases hg
    ·cases hg;rw [eC,ih,WC rfl,Ww (by rw [hk]; exact h.1),WC (by rw [hk]; simp)] <;> rfl
  ·have hs:¬ (⟨k.toArray⟩:YA)=s:=fun e=>hk (e1.1 e)
   split
   ·rw [ih];simp [hk]
   ·rename_i hg;split at hg
    ·cases hg
    ·cases hg;rw [eC,ih,Ww hs];simp [hk]
theorem Pj (g:YA->Nat) (hg:∀ s,g s<4294967296) {ks:List (List UInt8)} (h:ks.Pairwise fun a b=>a<b):Nf (pick g ks):=by
 refine ⟨?_,?_⟩
 ·unfold pick;refine List.Pairwise.filterMap _ ?_ h;intro a b hab p hp q hq;split at hp
  ·cases hp
  ·split at hq
   ·cases hq
   ·cases hp; cases hq;unfold gz;simpa using hab
 ·intro p hp;unfold pick at hp;rw [XO] at hp;obtain ⟨k,_,hk⟩:=hp;split at hk
  ·cases hk
  ·rename_i h0;cases hk;exact ⟨h0,hg _⟩
theorem xi (D:cZ):(keysOf (vm D)).Perm (D.map fun p=>p.1.data.toList):=by
 unfold keysOf vm;rw [WT];exact List.mergeSort_perm _ _
theorem sC {D:cZ} (h:(D.map (·.1)).Nodup):(keysOf (vm D)).Pairwise fun a b=>a<b:=by
 have hn:(keysOf (vm D)).Nodup:=by
  refine (xi D).nodup_iff.2 ?_
  have:(D.map fun p=>p.1.data.toList)=(D.map (·.1)).map fun s=>s.data.toList:=by rw [WT]; rfl
  rw [this];exact Xp.2 (h.imp fun hne e=>hne (xB e))
 have hs:(keysOf (vm D)).Pairwise fun a b=>a<=b:=by
  unfold keysOf;refine (List.pairwise_mergeSort ?_ ?_ _).imp ?_
  ·intro a b c h1 h2;exact WB (List.le_trans (α:=UInt8) (Ws h1) (Ws h2))
  ·intro a b;simp only [Bool.or_eq_true,decide_eq_true_eq];exact List.le_total (α:=UInt8) a b
  ·intro a b hab;exact Ws hab
 refine (hs.and hn).imp ?_;rintro a b ⟨h1,h2⟩
 by_cases hlt:a<b
 ·exact hlt
 ·exact absurd (List.le_antisymm (α:=UInt8) h1 (List.not_lt.1 hlt)) h2
theorem DV (l:cZ):Dc l=pick (dH (l.foldl iJ [])) (keysOf (vm (l.foldl iJ []))):=rfl
theorem zB (l:cZ):Nf (Dc l):=by
 rw [DV];exact Pj _ (HE l [] (fun s=>by rw [rk]; decide)) (sC (zW l [] aj))
theorem yM (l:cZ) (s:YA):cf (Dc l) s=cf l s % 4294967296:=by
 have h1:=Gt l s [];rw [rk,Xa,X4 (HE l [] (fun s=>by rw [rk]; decide) s)] at h1;rw [DV,PZ _ _ _ ((sC (zW l [] aj)).imp fun h e=>by subst e; exact List.lt_irrefl (α:=UInt8) _ h)];split
 ·exact h1
 ·rename_i hn;rw [<- h1,KQ];intro hm;refine hn ((xi _).mem_iff.2 ?_);obtain ⟨p,hp,rfl⟩:=Wz.1 hm;exact Wz.2 ⟨p,hp,rfl⟩
def fe (n:Nat) (l:cZ):cZ:=l.filterMap fun p=>if p.2*n % 4294967296=0 then none else some (p.1,p.2*n % 4294967296)
def eZ:Nat->cZ->cZ->cZ
 | 0,_,_=>[]
 | n+1,x,y=>match x,y with
  | [],[]=>[]
  | p::x,[]=>p::eZ n x []
  | [],q::y=>q::eZ n [] y
  | p::x,q::y=>if gz p.1 q.1 then p::eZ n x (q::y) else if gz q.1 p.1 then q::eZ n (p::x) y else if (p.2+q.2) % 4294967296=0 then eZ n x y else (p.1,(p.2+q.2) % 4294967296)::eZ n x y
def Ja (x y:cZ):cZ:=eZ (x.length+y.length) x y
theorem I8 {n:Nat} {l:cZ} (h:Nf l):Nf (fe n l):=by
 refine ⟨?_,?_⟩
 ·unfold fe;refine List.Pairwise.filterMap _ ?_ h.1;intro a b hab p hp q hq;split at hp
  ·cases hp
  ·split at hq
   ·cases hq
   ·cases hp; cases hq;exact hab
 ·intro p hp;unfold fe at hp;rw [XO] at hp;obtain ⟨k,_,hk⟩:=hp;split at hk
  ·cases hk
  ·rename_i h0;cases hk;exact ⟨h0,Yx _ cg⟩
theorem IM (n:Nat) (l:cZ) (s:YA):cf (fe n l) s % 4294967296=cf l s*n % 4294967296:=by
 induction l with
 | nil=>simp [fe,cf]
 | cons p l ih =>
  have hc:cf (fe n (p::l)) s=(if p.1=s then p.2*n % 4294967296 else 0)+cf (fe n l) s:=by
   unfold fe;rw [List.filterMap_cons];split
   ·rename_i hg;split at hg
    ·rename_i h0;rw [h0]; simp
    ·cases hg
   ·rename_i hg;split at hg
    ·cases hg
    ·cases hg;rfl
  rw [hc,Nat.add_mod,ih,eC]
  by_cases h:p.1=s
  ·rw [WC h,WC h,XA,Nat.mod_mod,<- Nat.add_mod]
  ·rw [Ww h,Ww h,Xa]; simp
theorem qD {n:Nat} {x y:cZ} {r:YA × Nat} (h:r∈eZ n x y):(∃ p,p∈x/\p.1=r.1)\/(∃ q,q∈y/\q.1=r.1):=by
 induction n generalizing x y with
 | zero=>simp [eZ] at h
 | succ n ih =>
  rcases x with _ | ⟨p,x⟩ <;> rcases y with _ | ⟨q,y⟩
  ·simp [eZ] at h
  ·simp only [eZ,List.mem_cons] at h;rcases h with rfl | h
   ·exact .inr ⟨_,aj,rfl⟩
   ·rcases ih h with ⟨a,ha,e⟩ | ⟨a,ha,e⟩
    ·simp at ha
    ·exact .inr ⟨a,by simp [ha],e⟩
  ·simp only [eZ,List.mem_cons] at h;rcases h with rfl | h
   ·exact .inl ⟨_,aj,rfl⟩
   ·rcases ih h with ⟨a,ha,e⟩ | ⟨a,ha,e⟩
    ·exact .inl ⟨a,by simp [ha],e⟩
    ·simp at ha
  ·simp only [eZ] at h;split at h
   ·rcases WY.1 h with rfl | h
    ·exact .inl ⟨_,aj,rfl⟩
    ·rcases ih h with ⟨a,ha,e⟩ | ⟨a,ha,e⟩
     ·exact .inl ⟨a,by simp [ha],e⟩
     ·exact .inr ⟨a,ha,e⟩
   ·split at h
    ·rcases WY.1 h with rfl | h
     ·exact .inr ⟨_,aj,rfl⟩
     ·rcases ih h with ⟨a,ha,e⟩ | ⟨a,ha,e⟩
      ·exact .inl ⟨a,ha,e⟩
      ·exact .inr ⟨a,by simp [ha],e⟩
    ·split at h
     ·rcases ih h with ⟨a,ha,e⟩ | ⟨a,ha,e⟩
      ·exact .inl ⟨a,by simp [ha],e⟩
      ·exact .inr ⟨a,by simp [ha],e⟩
     ·rcases WY.1 h with rfl | h
      ·exact .inl ⟨p,aj,rfl⟩
      ·rcases ih h with ⟨a,ha,e⟩ | ⟨a,ha,e⟩
       ·exact .inl ⟨a,by simp [ha],e⟩
       ·exact .inr ⟨a,by simp [ha],e⟩
theorem Nf.cons {p:YA × Nat} {l:cZ} (h:Nf l) (hc:p.2≠0/\p.2<4294967296) (hl:∀ q,q∈l->gz p.1 q.1):Nf (p::l) :=
 ⟨XJ.2 ⟨hl,h.1⟩,fun q hq=>by rcases WY.1 hq with rfl | hq; exact hc; exact h.2 q hq⟩
theorem PE {n:Nat} {x y:cZ} (hx:Nf x) (hy:Nf y):Nf (eZ n x y):=by
 induction n generalizing x y with
 | zero=>exact Nf.nil
 | succ n ih =>
  rcases x with _ | ⟨p,x⟩ <;> rcases y with _ | ⟨q,y⟩
  ·exact Nf.nil
  ·simp only [eZ];refine (ih Nf.nil hy.tail).cons (hy.2 q aj) fun r hr=>?_
   rcases qD hr with ⟨a,ha,e⟩ | ⟨a,ha,e⟩
   ·simp at ha
   ·rw [<- e]; exact hy.head a ha
  ·simp only [eZ];refine (ih hx.tail Nf.nil).cons (hx.2 p aj) fun r hr=>?_
   rcases qD hr with ⟨a,ha,e⟩ | ⟨a,ha,e⟩
   ·rw [<- e]; exact hx.head a ha
   ·simp at ha
  ·simp only [eZ];split
   ·rename_i h1;refine (ih hx.tail hy).cons (hx.2 p aj) fun r hr=>?_
    rcases qD hr with ⟨a,ha,e⟩ | ⟨a,ha,e⟩
    ·rw [<- e]; exact hx.head a ha
    ·rw [<- e];rcases WY.1 ha with rfl | ha
     ·exact h1
     ·exact jg h1 (hy.head a ha)
   ·rename_i h1;split
    ·rename_i h2;refine (ih hx hy.tail).cons (hy.2 q aj) fun r hr=>?_
     rcases qD hr with ⟨a,ha,e⟩ | ⟨a,ha,e⟩
     ·rw [<- e];rcases WY.1 ha with rfl | ha
      ·exact h2
      ·exact jg h2 (hx.head a ha)
     ·rw [<- e]; exact hy.head a ha
    ·rename_i h2;have he:=yk _ _ h1 h2;split
     ·exact ih hx.tail hy.tail
     ·rename_i h0;refine (ih hx.tail hy.tail).cons ⟨h0,Yx _ cg⟩ fun r hr=>?_
      rcases qD hr with ⟨a,ha,e⟩ | ⟨a,ha,e⟩
      ·rw [<- e]; exact hx.head a ha
      ·rw [<- e];show gz p.1 a.1;rw [he]; exact hy.head a ha
theorem Pt {n:Nat} {x y:cZ} (hn:x.length+y.length<=n) (s:YA):cf (eZ n x y) s % 4294967296=(cf x s+cf y s) % 4294967296:=by
 induction n generalizing x y with
 | zero =>
  have h1:x=[]:=X0.1 ad;have h2:y=[]:=X0.1 ad;subst h1 h2;rfl
 | succ n ih =>
  rcases x with _ | ⟨p,x⟩ <;> rcases y with _ | ⟨q,y⟩
  ·rfl
  ·simp only [eZ,eC,zY]
   have:=ih (x:=[]) (y:=y) (by simp at hn ⊢; omega)
   simp only [zY] at this;omega
  ·simp only [eZ,eC,zY]
   have:=ih (x:=x) (y:=[]) (by simp at hn ⊢; omega)
   simp only [zY] at this;omega
  ·simp only [List.length_cons] at hn;simp only [eZ];split
   ·have:=ih (x:=x) (y:=q::y) (by simp; omega)
    simp only [eC] at this ⊢;omega
   ·rename_i h1;split
    ·have:=ih (x:=p::x) (y:=y) (by simp; omega)
     simp only [eC] at this ⊢;omega
    ·rename_i h2;have he:=yk _ _ h1 h2
     have:=ih (x:=x) (y:=y) ad
     split
     ·rename_i h0;simp only [eC,<- he];split
      ·omega
      ·omega
     ·simp only [eC,<- he];split
      ·omega
      ·omega
theorem Oz {x y:cZ} (hx:Nf x) (hy:Nf y):Nf (Ja x y):=PE hx hy
theorem OG (x y:cZ) (s:YA):cf (Ja x y) s % 4294967296=(cf x s+cf y s) % 4294967296:=Pt (WH _) s
theorem Cv (n:Nat) (l:cZ) (s:YA):cf (l.map fun p=>(p.1,p.2*n % 4294967296)) s % 4294967296=cf l s*n % 4294967296:=by
 induction l with
 | nil=>simp [cf]
 | cons p l ih =>
  simp only [List.map_cons,cf];rw [Nat.add_mod,ih]
  by_cases h:p.1=s
  ·rw [WC h,WC h,XA,Nat.mod_mod,<- Nat.add_mod]
  ·rw [Ww h,Ww h,Xa]; simp
def C7 (x:bZ) (n:Nat):bZ:=⟨fe n x.ai,x.num*n % 4294967296⟩
def vX (x y:bZ):bZ:=⟨Ja x.ai y.ai,(x.num+y.num) % 4294967296⟩
theorem AB (n:Nat) (l:cZ):(fe n l).length<=l.length:=List.length_filterMap_le _ _
def UH (r:Option Nat) (p:Option YC) (l lv:Nat) (k:T):T :=
 T.loop [aM] [.int .i64 (0:Int)] <| fun (n20:Int) =>
 bm n20 l
  (T.need (((0:Int)<=n20)/\(n20<(l:Int))) <|
  T.bd p <| fun (a21:YC) =>
  T.ah (a21.add (aH n20 2)) [.string,.int .u32] <| fun (s22:YA) (n23:Int) =>
  T.new [bU,.int .u32 (0:Int)] 66 <| fun (a24:YC) =>
  T.aD a24 [.string s22,.int .u32 n23] <|
  T.ah a24 [.string] <| fun (s25:YA) =>
  bK (Instr.lookup 170 (.map r) (.string s25) false) false [(false,[.int .u32])] <| fun (n26:Int) =>
  T.ah (a24.add 1) [.int .u32] <| fun (n27:Int) =>
  T.ec Tryz.prog (Instr.mapUpdate 170 (.map r) (.string s25) (.int .u32 (IntKind.wrap .u32 (n26+n27)))) <|
  T.again lv [.int .i64 (bj (n20+(1:Int)))]) k
theorem tX (l:cZ):∀ D:cZ,(l.foldl iJ D).length<=D.length+l.length:=by
 induction l with
 | nil=>intro D; simp
 | cons p l ih =>
  intro D;rw [Xk];have h1:=ih (iJ D p);have h2:=DZ D p.1 ((dH D p.1+p.2) % 4294967296);have h3:(iJ D p).length<=D.length+1:=h2;simp only [List.length_cons];omega
theorem Iq {L:Lp} {K:YB->Hp->Prop} {h:Hp} {g:Nat} {p:Option YC} {l:Nat} {us D:cZ} {k:T} {lv:Nat} (hlv:L.length=lv) (v:gp h p l us) (hl:us.length<=2^40) (hs:∀ t,t∈us->t.1.size<=maxLen) (m:eA h g (vm D)) (hg:g∉aK p)
  (hk:∀ J h',eA h' g (vm (us.foldl iJ D))->Ch [g] h h'->k (L++[J]) K h'):UH (some g) p l lv k L K h:=by
 have hll:=v.len;have hL:∀ J:List YB->Hp->Prop,(L++[J])[lv]?=some J:=by intro J; subst hlv; simp
 unfold UH bm aH bK bj bU aM;refine aR (cs:=[(false,[.int .i64])]) (fun y w h'=>∃ (i:Nat),y.1=(i:Int)/\i<=us.length/\w=us.length-i/\Ch [g] h h'/\eA h' g (vm ((us.take i).foldl iJ D))) ((0:Int),()) us.length rfl
  ⟨0,rfl,ad,ad,Ch.refl _ _,by simpa using m⟩ ?_
 rintro ⟨n8,⟨⟩⟩ w h4 ⟨i,hi,hile,rfl,k4,m4⟩;simp only at hi;subst hi;refine an ?_;refine ak (fun g1=>?_) (fun g1=>?_)
 ·have g1:=Ws g1;have hilt:i<us.length:=ad
  obtain ⟨a,rfl,hc⟩:=(v.ao k4 (by intro j hj hm; rw [W4] at hm; subst hm; exact hg hj)).cells i hilt;have htk:us.take (i+1)=us.take i++[us[i]]:=Wx hilt;have hsz:=hs us[i] (WA hilt);generalize us[i]=t at hc htk hsz;refine ay ⟨ad,ad⟩ (av rfl ?_);rw [show Int.toNat (i:Int)=i from ad];refine ax (t.1,(t.2:Int),()) hc ?_;refine an ?_;refine bq ?_;intro h5 b5 e5 z5;refine aw b5 rfl aj ?_;intro h6 b6 k6 z6;have b6:bC h6 h4.size 66 (cX t):=b6;have e46:Ext h4 h6:=Ch.trans e5 k6 (fun j hj hl=>by simp at hj; omega);have m6:=m4.ao e46 aj;refine af b6 (t.1,()) rfl ?_;refine an ?_;refine oU m6 _ ?_;rw [aE];refine af b6 ((t.2:Int),()) rfl ?_;refine an ?_;generalize hDD:(us.take i).foldl iJ D=D' at m6;refine F8 (n:=(dH D' t.1+t.2) % 4294967296) m6 hsz ?_ ?_
  ·rw [dN,ik,Int.natCast_add]
  ·intro h7 m7 k7 z7;have hw:IntKind.wrap .i64 ((i:Int)+1)=((i+1:Nat):Int):=by rw [wrap_i64 ad ad]; omega
   have hf:(us.take (i+1)).foldl iJ D=uO D' t.1 ((dH D' t.1+t.2) % 4294967296):=by
    rw [htk,Xz,hDD] <;> rfl
   refine aF (cs:=[(false,[.int .i64])]) (((i+1:Nat):Int),()) (us.length-(i+1)) (hL _) ad (WJ (fun z=>[Value.int .i64 z]) hw) ⟨i+1,rfl,ad,rfl,?_,by rw [hf]; exact m7⟩;exact Ch.trans (Ch.trans k4 e46 aj) k7 (fun j hj _=>hj)
 ·have g1:=Wt g1;have hi:i=us.length:=ad
  subst hi;rw [Xd] at m4;exact hk _ _ m4 k4
theorem gp.Td {h:Hp} {p:Option YC} {l:Nat} {us:cZ} (v:gp h p l us) (hn:us≠[]):∀ i,i∈aK p->i<h.size:=by
 intro i hi;cases us with
 | nil=>exact absurd rfl hn
 | cons t us =>
  obtain ⟨a,rfl,hc⟩:=v.cells 0 aj;simp only [aK,List.mem_singleton] at hi;subst hi;rw [show a.add (0*2)=a by simp [Addr.add]] at hc;have h1:=hc.1;unfold ij at h1;split at h1
  ·rename_i hg
   have:=eP hg
   simpa [gT] using this
  ·cases h1
theorem T':Tryz.prog.underlying 175=some (.slice 57):=az
theorem UK:(Tryz.prog.info? 57).map (fun i=>(i.zero,i.size,i.bytes))=some (some (.slice none 0 0),1,24):=az
theorem Rw {h:Hp} {p q:Option YC} {l c m d:Nat} {x y:bZ} (v:gp h p l x.ai) (u:gp h q m y.ai) (hp:∀ i,i∈aK p->i<h.size) (hq:∀ i,i∈aK q->i<h.size)
  (hl:x.ai.length+y.ai.length<=2^40) (hx:∀ t,t∈x.ai->t.1.size<=maxLen) (hy:∀ t,t∈y.ai->t.1.size<=maxLen) :
  HC Tryz.prog 87 #[gn p l c x,gn q m d y] h fun w h'=>Ext h h'/\∃ p' l' c',w=gn p' l' c' (kD x y)/\SL h' h.size 66 2 p' l' c' ((kD x y).ai.map cX):=by
 refine aZ (args:=[.agg #[.slice p l c,.int .u32 x.num],.agg #[.slice q m d,.int .u32 y.num]]) mixed Tryz.func87 az (As p l c x.num q m d y.num) ?_;unfold zm aX bh bm aH bF bk bK bi bU aM;refine bq ?_;intro h1 b1 e1 z1;refine bq ?_;intro h2 b2 e2 z2;refine bq ?_;intro h3 b3 e3 z3;refine lF _ ?_;intro h4 m4 e4 z4;refine ⟨(some h3.size,()),rfl,?_⟩;refine an ?_;have b1:=((b1.ao e2 aj).ao e3 aj).ao e4 aj;have b2:=(b2.ao e3 aj).ao e4 aj;have b3:=b3.ao e4 aj;have e04:=((e1.trans e2).trans e3).trans e4;refine af b1 ((p,l,c),()) rfl ?_;refine an ?_;refine af b2 ((q,m,d),()) rfl ?_;refine an ?_;refine jX (cells:=[.slice p l c,.slice q m d]) T' UK cg cg az ?_;intro h5 b5 e5 z5;have m5:eA h5 h3.size (vm []):=m4.ao e5 aj;have b1:=b1.ao e5 aj;have b2:=b2.ao e5 aj;have b3:=b3.ao e5 aj;have e05:=e04.trans e5;have hb5:=b5.lt;have hm4:=m4.lt;refine aR (cs:=[(false,[.int .i64])]) (fun z w h'=>∃ (i:Nat),z.1=(i:Int)/\i<=2/\w=2-i/\Ch [h3.size] h5 h'/\eA h' h3.size (vm ((([x.ai,y.ai].take i).flatten).foldl iJ []))) ((0:Int),()) 2 rfl
  ⟨0,rfl,ad,ad,Ch.refl _ _,m5⟩ ?_
 rintro ⟨n8,⟨⟩⟩ w h6 ⟨i,hi,hile,rfl,k6,m6⟩;simp only at hi;subst hi;refine an ?_;have b6:=b5.ao k6 (by simp; omega);have e06:Ext h h6:=Ch.trans e05 k6 (fun j hj hl=>by simp at hj; omega);refine ak (fun g1=>?_) (fun g1=>?_)
 ·have g1:=Ws g1;refine ay ⟨ad,ad⟩ (av rfl ?_);rw [show Int.toNat (i:Int)=i from ad,aE];have hw:IntKind.wrap .i64 ((i:Int)+1)=((i+1:Nat):Int):=by rw [wrap_i64 ad ad]; omega
  have hi2:i=0\/i=1:=ad
  rcases hi2 with rfl | rfl
  ·refine af b6 ((p,l,c),()) rfl ?_;refine an ?_;refine Iq (us:=x.ai) (D:=[]) rfl (v.ao e06 aj) ad hx m6 (fun hh=>by have:=hp _ hh; omega) ?_;intro J h7 m7 k7;refine aF (cs:=[(false,[.int .i64])]) (((0+1:Nat):Int),()) (2-(0+1)) rfl ad (WJ (fun z=>[Value.int .i64 z]) hw) ⟨0+1,rfl,ad,rfl,Ch.trans k6 k7 (fun j hj _=>hj),?_⟩;simpa using m7
  ·refine af b6 ((q,m,d),()) rfl ?_;refine an ?_;refine Iq (us:=y.ai) (D:=x.ai.foldl iJ []) rfl (u.ao e06 aj) ad hy (by simpa using m6) (fun hh=>by have:=hq _ hh; omega) ?_;intro J h7 m7 k7;refine aF (cs:=[(false,[.int .i64])]) (((1+1:Nat):Int),()) (2-(1+1)) rfl ad (WJ (fun z=>[Value.int .i64 z]) hw) ⟨1+1,rfl,ad,rfl,Ch.trans k6 k7 (fun j hj _=>hj),?_⟩;simpa using m7
 ·have g1:=Wt g1;have hi:i=2:=ad
  subst hi;have m6:eA h6 h3.size (vm ((x.ai++y.ai).foldl iJ [])):=by simpa using m6
  have b1:=b1.ao k6 (by simp; omega);have b2:=b2.ao k6 (by simp; omega);have b3:=b3.ao k6 (by simp; omega);rw [aE,aE];refine af b1 ((x.num:Int),()) rfl ?_;refine an ?_;refine af b2 ((y.num:Int),()) rfl ?_;refine an ?_;refine aI (Qp m6 (by have:=tX (x.ai++y.ai) []; rw [Wv,List.length_nil] at this; omega) _) ?_;rintro _ h7 ⟨e7,p',l',c',rfl,s7⟩;refine ⟨((p',l',c'),IntKind.wrap .u32 ((x.num:Int)+(y.num:Int)),()),rfl,?_⟩;refine an ?_;refine aw (b3.ao e7 aj) rfl aj ?_;intro h8 b8 k8 z8;have b8:bC h8 h2.size 60 [.slice p' l' c',.int .u32 (IntKind.wrap .u32 ((x.num:Int)+(y.num:Int)))]:=b8;refine af b8 ((p',l',c'),IntKind.wrap .u32 ((x.num:Int)+(y.num:Int)),()) rfl ?_;have hz6:=e06.size;have hz2:=(e1.trans e2).size;have hb3:=b3.lt;refine ⟨Ch.trans (e06.trans e7) k8 (fun j hj hl=>by simp at hj; omega),p',l',c',?_,(s7.bG k8 (fun j hj=>by have:=(s7.cd hj).1; simp; omega)).mono ad⟩;unfold gn kD;rw [dN];dsimp only;rw [ik,Int.natCast_add]
theorem qz (p:UInt8->Bool) (l:List UInt8) (k:Nat) (hk:k<l.length):(l.take (k+1)).all p=((l.take k).all p && p (l.getD k 0)):=by
 rw [Wx hk,List.all_append];simp [List.getD,List.getElem?_eq_getElem hk]
theorem rI (s:YA) (h:Hp) (hs:s.size<=9223372036854775807):vC Tryz.prog 35 [.string s] h (.bool (cP s.data.toList)):=by
 refine ee mixed Tryz.func35 az (nX s) ?_;have hsz:s.data.toList.length=s.size:=aj
 unfold jB bh aU bF bo aM bT;unfold cP;rw [hsz];refine ak (fun h1=>?_) (fun h1=>?_)
 ·have h1:=Ws h1;rw [show decide (0<s.size)=false from WE ad];exact ⟨aj,rfl⟩
 have h1:=Wt h1;refine ak (fun h2=>?_) (fun h2=>?_)
 ·have h2:=Ws h2;rw [show decide (s.size<=32)=false from WE ad];exact ⟨aj,rfl⟩
 have h2:=Wt h2;rw [show decide (0<s.size)=true from WB ad,show decide (s.size<=32)=true from WB ad];refine ay ⟨ad,ad⟩ ?_;refine aJ (AS (s.data.toList.getD 0 0) h) ?_;refine ak (fun h3=>?_) (fun h3=>?_)
 ·have h3:eQ (s.data.toList.getD 0 0)=false:=by simpa using h3
  rw [h3];exact ⟨aj,rfl⟩
 have h3:eQ (s.data.toList.getD 0 0)=true:=by simpa using h3
 rw [h3];refine aR (cs:=[(false,[.bool]),(false,[.int .i64])]) (fun x n h'=>h'=h/\∃ k:Nat,x.2.1=(k:Int)/\k<=s.size/\n=s.size-k/\(s.data.toList.take k).all (fun c=>eQ c || gK c)=true)
  (false,(0:Int),()) s.size rfl ⟨rfl,0,rfl,ad,ad,aj⟩ ?_
 rintro ⟨b,n,⟨⟩⟩ m h' ⟨rfl,k,hk,hle,rfl,hall⟩;simp only at hk;subst hk;refine ak (fun hb=>?_) (fun hb=>?_)
 ·have hlt:(k:Int)<s.size:=Ws hb;have hst:=qz (fun c=>eQ c || gK c) s.data.toList k ad;rw [hall,W9] at hst;have hfalse:∀ k':Nat,(eQ (s.data.toList.getD k 0) || gK (s.data.toList.getD k 0))=false->s.data.toList.all (fun c=>eQ c || gK c)=false:=by
   intro k' hf;rw [hf] at hst;cases hx:s.data.toList.all (fun c=>eQ c || gK c) with
   | false=>rfl
   | true =>
    have:(s.data.toList.take (k+1)).all (fun c=>eQ c || gK c)=true:=W1.2 fun c hc=>W1.1 hx c (Xx hc)
    rw [this] at hst; cases hst
  have hnext:(eQ (s.data.toList.getD k 0) || gK (s.data.toList.getD k 0))=true->T.again 0 [.bool b,.int .i64 (IntKind.wrap .i64 ((k:Int)+1))] ([]++[Jl (cs:=[(false,[.bool]),(false,[.int .i64])]) (fun x n h''=>h''=h'/\∃ k:Nat,x.2.1=(k:Int)/\k<=s.size/\n=s.size-k/\(s.data.toList.take k).all (fun c=>eQ c || gK c)=true) (s.size-k)]) (fun v' h''=>v'=.bool (true && true && true && s.data.toList.all (fun c=>eQ c || gK c) && !(xO s.data.toList).2.2)/\h''=h') h':=by
   intro ht;rw [wrap_i64 ad ad];exact aF (cs:=[(false,[.bool]),(false,[.int .i64])]) (b,(k:Int)+1,()) (s.size-(k+1)) rfl ad rfl ⟨rfl,k+1,(show ((k:Int)+1)=((k+1:Nat):Int) from ad),ad,rfl,by rw [hst,ht]⟩
  refine ay ⟨(by show (0:Int)<=(k:Int); omega),hlt⟩ ?_;refine aJ (AS (s.data.toList.getD k 0) h') ?_;refine ak (fun h4=>?_) (fun h4=>?_)
  ·have h4:eQ (s.data.toList.getD k 0)=false:=by simpa using h4
   refine ay ⟨(by show (0:Int)<=(k:Int); omega),hlt⟩ ?_;refine aJ (Kc (s.data.toList.getD k 0) h') ?_;refine ak (fun h5=>?_) (fun h5=>?_)
   ·have h5:gK (s.data.toList.getD k 0)=false:=by simpa using h5
    rw [hfalse 0 (by rw [h4,h5]; rfl)];exact ⟨aj,rfl⟩
   ·have h5:gK (s.data.toList.getD k 0)=true:=by simpa using h5
    exact hnext (by rw [h5]; simp)
  ·have h4:eQ (s.data.toList.getD k 0)=true:=by simpa using h4
   exact hnext (by rw [h4]; simp)
 ·have hge:¬ (k:Int)<s.size:=Wt hb;have hk:k=s.data.toList.length:=ad
  rw [hk,Xd] at hall;rw [hall];refine DE (Cg s h') ?_;exact ⟨aj,rfl⟩
def dv (c:UInt8):Nat:=if c.toNat<58 then c.toNat-48 else c.toNat-87
def SZ (b:Nat) (l:List UInt8):Nat:=l.foldl (fun n c=>n*b+dv c) 0
def TI (c:UInt8):Bool:=gK c || (97<=c.toNat && c.toNat<=102)
def CL:List UInt8:=[48,49,50,51,52,53,54,55,56,57,97,98,99,100,101,102]
def PX (l:List UInt8):Nat × Nat :=
 if l.take 2=[48,120] then
  (if 8<lS (l.drop 2) CL\/lS (l.drop 2) CL=0 then (0,0) else (2+lS (l.drop 2) CL,SZ 16 ((l.drop 2).take (lS (l.drop 2) CL))))
 else
  (if (1<lS l iB/\l.getD 0 0=48)\/lS l iB=0\/4294967296<=SZ 10 (l.take (lS l iB)) then (0,0) else (lS l iB,SZ 10 (l.take (lS l iB))))
def Rz:List UInt8:=gh++iB
def Ar (P:Program) (t:TypeId):Array Field :=
 match P.underlying t with
 | some (.struct fs)=>fs
 | _=>#[]
theorem bytes_beq (t:YA):(t==t)=true:=by
 cases t with | mk d=>show (d==d)=true; simp
def hv (c:UInt8):Int:=if TI c=true then (dv c:Int) else -1
def tq (D:List UInt8):Nat × Nat :=
 if D.getD 0 0=39 then
  (if D.length<3\/(D.getD 1 0).toNat<32\/126<(D.getD 1 0).toNat\/D.getD 1 0=39\/D.getD 2 0≠39 then (0,0) else ((D.getD 1 0).toNat,3))
 else if (PX D).1=0\/0<lS (D.drop (PX D).1) Rz then (0,0) else ((PX D).2,(PX D).1)
theorem CF {s t:YA} (h:s.data.toList=t.data.toList):s=t:=by
 cases s; cases t;simp only at h
 congr 1
 exact W6.1 h
theorem add_add (a:YC) (i j:Nat):(a.add i).add j=a.add (i+j):=by
 unfold Addr.add
 by_cases hi:i=0 <;> by_cases hj:j=0 <;> simp [hi,hj] <;> omega
def tI:bZ:=⟨[],0⟩
structure Good (x:bZ):Prop where
 nf:Nf x.ai
 NK:∀ t,t∈x.ai->cP t.1.data.toList=true
 num:x.num<4294967296
theorem Gi {s:YA} (h:cP s.data.toList=true):s.size<=32:=by
 unfold cP at h;simp only [Bool.and_eq_true,decide_eq_true_eq] at h
 have:s.data.toList.length=s.size:=aj
 omega
abbrev ptr (a:Nat):YB:=.pointer (some ⟨a,0,none⟩)
theorem cL {h:Hp} {b:YC} {t:YA × Nat} (hc:aG h b 0 (cX t)):aG h b 0 [.string t.1]/\aG h (b.add 1) 0 [.int .u32 (t.2:Int)]:=by
 obtain ⟨h1,h2,h3⟩:=hc;exact ⟨⟨h1,trivial⟩,⟨by rw [add_add]; exact h2,trivial⟩⟩
theorem Ix (a n:Nat):IntKind.wrap .u32 ((a:Int)*(n:Int))=((a*n % 4294967296:Nat):Int):=by rw [dN,ik,Int.natCast_mul]
theorem HG (a n:Nat):IntKind.wrap .u32 ((a:Int)+(n:Int))=(((a+n) % 4294967296:Nat):Int):=by rw [dN,ik,Int.natCast_add]
theorem F1 {h:Hp} {p:Option YC} {l c:Nat} {x:bZ} (v:gp h p l x.ai) (hl:x.ai.length<=2^40) (hp:∀ i,i∈aK p->i<h.size) (n:Nat) :
  HC Tryz.prog 116 #[gn p l c x,.int .u32 n] h fun w h'=>Ext h h'/\∃ p' l' c',w=gn p' l' c' (C7 x n)/\SL h' h.size 66 2 p' l' c' ((C7 x n).ai.map cX):=by
 refine aZ (args:=[.agg #[.slice p l c,.int .u32 x.num],.int .u32 n]) mixed Tryz.func116 az (ot p l c x.num n) ?_;unfold jK aX bh bm aH bk bi aM;have hll:=v.len;refine bq ?_;intro h1 b1 e1 z1;refine bq ?_;intro h2 b2 e2 z2;have b1:=b1.ao e2 aj;rw [aE];refine af b1 ((x.num:Int),()) rfl ?_;refine an ?_;refine bq ?_;intro h3 b3 e3 z3;refine aw b3 rfl aj ?_;intro h4 b4 k4 z4;rw [Ix] at b4;have b4:bC h4 h2.size 60 [.slice none 0 0,.int .u32 ((x.num*n % 4294967296:Nat):Int)]:=b4;have e24:Ext h2 h4:=Ch.trans e3 k4 (fun j hj hl=>by simp at hj; omega);have b1:=b1.ao e24 aj;have b2:=b2.ao e24 aj;have e04:=(e1.trans e2).trans e24;have hb4:=b4.lt;refine aR (cs:=[(false,[.int .i64])]) (fun y w h'=>∃ (i:Nat) (q:Option YC) (m d:Nat),y.1=(i:Int)/\i<=x.ai.length/\w=x.ai.length-i/\Ch [h2.size] h4 h'/\bC h' h2.size 60 [.slice q m d,.int .u32 ((x.num*n % 4294967296:Nat):Int)] /\
  SL h' h4.size 66 2 q m d ((fe n (x.ai.take i)).map cX)/\m<=i) ((0:Int),()) x.ai.length rfl ⟨0,none,0,0,rfl,ad,ad,Ch.refl _ _,b4,SL.nil _ _ _ _,ad⟩ ?_
 rintro ⟨n8,⟨⟩⟩ w h5 ⟨i,q,m,d,hi,hile,rfl,k5,b5,s5,hm⟩;simp only at hi;subst hi;refine an ?_;have b15:=b1.ao k5 (by simp; omega);have hz5:=k5.size;have e05:Ext h h5:=Ch.trans e04 k5 (fun j hj hl=>by simp at hj; omega);have v5:=v.ao e05 aj;refine af b15 ((p,l,c),()) rfl ?_;refine an ?_;have hw:IntKind.wrap .i64 ((i:Int)+1)=((i+1:Nat):Int):=by rw [wrap_i64 ad ad]; omega
 refine ak (fun g1=>?_) (fun g1=>?_)
 ·have g1:=Ws g1;have hilt:i<x.ai.length:=ad
  have htk:x.ai.take (i+1)=x.ai.take i++[x.ai[i]]:=Wx hilt;obtain ⟨a,rfl,hc⟩:=v5.cells i hilt;generalize x.ai[i]=t at hc htk;obtain ⟨c1,c2⟩:=cL hc;refine af b15 ((some a,l,c),()) rfl ?_;refine an ?_;refine ay ⟨ad,ad⟩ (av rfl ?_);rw [show Int.toNat (i:Int)=i from ad];refine ax ((t.2:Int),()) c2 ?_;refine an ?_;rw [Ix];refine ak (fun g2=>?_) (fun g2=>?_)
  ·have g2:¬ t.2*n % 4294967296=0:=by
    intro hh;rw [hh] at g2;cases g2
   refine af b5 ((q,m,d),()) rfl ?_;refine an ?_;refine af b15 ((some a,l,c),()) rfl ?_;refine an ?_;refine ay ⟨ad,ad⟩ (av rfl ?_);refine ax (t.1,()) c1 ?_;refine an ?_;have hab:=hp a.block (by simp [aK]);refine gj (vs:=cX (t.1,t.2*n % 4294967296)) zt sg rfl ad ad az rfl rfl s5 hz5 ad ad (fun h' e=>⟨aQ e aj _ _ c1,(b15.ao e aj).cells _ rfl,(b5.ao e aj).cells _ rfl,trivial⟩) ?_;intro p' c' h7 s7 k7 hp7;have hnot:∀ j,j<h4.size->j∉aK q:=fun j hj hm=>by have:=(s5.cd hm).1; omega
   refine ⟨⟨aQ k7 (by rw [gT]; exact hnot _ (by have:=e04.size; omega)) _ _ c1,(b15.ao k7 (hnot _ ad)).cells _ rfl,trivial⟩,?_⟩;refine aw (b5.ao k7 (hnot _ ad)) rfl aj ?_;intro h8 b8 k8 z8;refine aF (cs:=[(false,[.int .i64])]) (((i+1:Nat):Int),()) (x.ai.length-(i+1)) rfl ad (WJ (fun z=>[Value.int .i64 z]) hw) ⟨i+1,p',m+1,c',rfl,ad,rfl,?_,b8,?_,ad⟩
   ·exact Ch.trans (Ch.trans k5 k7 (fun j hj hl=>by have:=(s5.cd hj).1; omega)) k8 (fun j hj _=>hj)
   ·have hf:fe n (x.ai.take (i+1))=fe n (x.ai.take i)++[(t.1,t.2*n % 4294967296)]:=by
     unfold fe;rw [htk,Yh]
     congr 1
     simp only [List.filterMap_cons,List.filterMap_nil];rw [Ww g2]
    rw [hf,WG];exact s7.bG k8 (fun j hj=>by have:=(s7.cd hj).1; simp; omega)
  ·have g2:t.2*n % 4294967296=0:=by
    have:((t.2*n % 4294967296:Nat):Int)=0:=by simpa using g2
    omega
   refine aF (cs:=[(false,[.int .i64])]) (((i+1:Nat):Int),()) (x.ai.length-(i+1)) rfl ad (WJ (fun z=>[Value.int .i64 z]) hw) ⟨i+1,q,m,d,rfl,ad,rfl,k5,b5,?_,ad⟩;have hf:fe n (x.ai.take (i+1))=fe n (x.ai.take i):=by
    unfold fe;rw [htk,Yh];simp only [List.filterMap_cons,List.filterMap_nil];rw [WC g2,Xy]
   rw [hf];exact s5
 ·have g1:=Wt g1;have hi:i=x.ai.length:=ad
  subst hi;rw [Xd] at s5;refine af b5 ((q,m,d),((x.num*n % 4294967296:Nat):Int),()) rfl ?_;refine an ?_;refine aw (b2.ao k5 (by simp; omega)) rfl aj ?_;intro h7 b7 k7 z7;have b7:bC h7 h1.size 60 [.slice q m d,.int .u32 ((x.num*n % 4294967296:Nat):Int)]:=b7;refine af b7 ((q,m,d),((x.num*n % 4294967296:Nat):Int),()) rfl ?_;have hz4:=e04.size;exact ⟨Ch.trans e05 k7 (fun j hj hl=>by simp at hj; omega),q,m,d,rfl,(s5.bG k7 (fun j hj=>by have:=(s5.cd hj).1; simp; omega)).mono ad⟩
theorem leB (a b:YA):(Op.bytesLess (ByteArray.toList a) (ByteArray.toList b) || (ByteArray.toList a==ByteArray.toList b))=!decide (gz b a):=by
 rw [ByteArray.toList_eq,ByteArray.toList_eq,Proofs.bytesLess_eq]
 by_cases h:gz b a
 ·rw [WB h];have h1:¬ a.data.toList<b.data.toList:=AR h;have h2:¬ a.data.toList=b.data.toList:=fun e=>jU h (CF e).symm
  have h3:¬ a.data=b.data:=fun e=>h2 (by rw [e])
  simp [h1,h3]
 ·rw [WE h]
  by_cases h1:gz a b
  ·have h1:a.data.toList<b.data.toList:=h1;simp [h1]
  ·have:=yk a b h1 h
   subst this
   simp
def mZ:Option YA->cZ->Bool
 | _,[]=>true
 | o,t::r=>cP t.1.data.toList && decide (t.2≠0) && (match o with
  | none=>true
  | some s=>decide (gz s t.1)) && mZ (some t.1) r
def Iv (l:cZ) (i:Nat):Option YA:=if i=0 then none else (l[i-1]?).map (·.1)
theorem FP {o:Option YA} {l:cZ} (h:mZ o l=true):(∀ t,t∈l->cP t.1.data.toList=true/\t.2≠0)/\(l.Pairwise fun p q=>gz p.1 q.1)/\∀ s,o=some s->∀ t,t∈l->gz s t.1:=by
 induction l generalizing o with
 | nil=>exact ⟨aj,List.Pairwise.nil,aj⟩
 | cons t r ih =>
  unfold mZ at h;simp only [Bool.and_eq_true,decide_eq_true_eq] at h;obtain ⟨⟨⟨h1,h2⟩,h3⟩,h4⟩:=h;obtain ⟨i1,i2,i3⟩:=ih h4;refine ⟨?_,XJ.2 ⟨fun q hq=>i3 _ rfl q hq,i2⟩,?_⟩
  ·intro u hu;rcases WY.1 hu with rfl | hu
   ·exact ⟨h1,h2⟩
   ·exact i1 u hu
  ·rintro s rfl u hu;have h3:gz s t.1:=by simpa using h3
   rcases WY.1 hu with rfl | hu
   ·exact h3
   ·exact jg h3 (i3 _ rfl u hu)
theorem BW {x:bZ} (h:mZ none x.ai=true) (hc:∀ t,t∈x.ai->t.2<4294967296) (hn:x.num<4294967296):Good x :=
 ⟨⟨(FP h).2.1,fun p hp=>⟨((FP h).1 p hp).2,hc p hp⟩⟩,fun t ht=>((FP h).1 t ht).1,hn⟩
theorem sR {h : Hp} {p : Option YC} {l c : Nat} {x : bZ} (v : gp h p l x.ai) (hl : x.ai.length <= 9223372036854775807) (hs : ∀ t, t ∈ x.ai -> t.1.size <= maxLen) :
    HC Tryz.prog 80 #[gn p l c x] h fun w h' => w = .bool (mZ none x.ai) /\ Ext h h' := by
  refine aZ (args := [.agg #[.slice p l c, .int .u32 x.num]]) mixed Tryz.func80 az (xW p l c x.num) ?_;unfold vf aX bh bm aH aU bj bo dI bU aM bT;have hll := v.len;refine bq ?_;intro h1 b1 e1 z1;refine af b1 ((p, l, c), ()) rfl ?_;refine an ?_
  refine aR (cs := [(false, [.bool]), (false, [.int .i64])]) (fun y w h' => ∃ (i : Nat), y.2.1 = (i : Int) /\ i <= x.ai.length /\ w = x.ai.length - i /\ Ext h1 h' /\ mZ none x.ai = mZ (Iv x.ai i) (x.ai.drop i)) (false, (0 : Int), ()) x.ai.length rfl
    ⟨0, rfl, ad, ad, Ch.refl _ _, rfl⟩ ?_
  rintro ⟨b8, n8, ⟨⟩⟩ w h2 ⟨i, hi, hile, rfl, e2, hq⟩;simp only at hi;subst hi;refine an ?_;have e02 := e1.trans e2;refine ak (fun g1 => ?_) (fun g1 => ?_)
  · have g1 := Ws g1
    have hilt : i < x.ai.length :=ad
    have v2 := v.ao e02 aj;obtain ⟨a, rfl, hc⟩ := v2.cells i hilt;have hdr : x.ai.drop i = x.ai[i] :: x.ai.drop (i + 1) := WK hilt
    have hpv : Iv x.ai (i + 1) = some x.ai[i].1 := by
      unfold Iv;rw [Ww ad, Nat.add_sub_cancel, Wu hilt] <;> rfl
    have hsz := hs x.ai[i] (WA hilt);rw [hdr] at hq;generalize x.ai[i] = t at hc hq hpv hsz;refine ay ⟨ad, ad⟩ (av rfl ?_);rw [show Int.toNat (i : Int) = i from ad];refine ax (t.1, (t.2 : Int), ()) hc ?_;refine an ?_;refine bq ?_;intro h3 b3 e3 z3;refine aw b3 rfl aj ?_;intro h4 b4 k4 z4;have b4 : bC h4 h2.size 66 [.string t.1, .int .u32 t.2] := b4;have e24 : Ext h2 h4 := Ch.trans e3 k4 (fun j hj hl => by simp at hj; omega);have e04 := e02.trans e24;rw [aE];refine af b4 ((t.2 : Int), ()) rfl ?_;refine an ?_;refine ak (fun g2 => ?_) (fun g2 => ?_)
    · have g2 : t.2 = 0 := by have : (t.2 : Int) = 0 := by simpa using g2
                              omega
      refine ⟨?_, e04⟩;rw [hq];unfold mZ;rw [WE ad]
      simp
    · have g2 : t.2 ≠ 0 := by have : ¬ (t.2 : Int) = 0 := by simpa using g2
                              omega
      refine af b4 (t.1, ()) rfl ?_;refine an ?_;refine aJ (uL t.1 h4 (by have : maxLen = 9223372036854775807 := rfl; omega)) ?_;refine ⟨⟨b4.cells _ rfl, trivial⟩, ?_⟩;refine ak (fun g3 => ?_) (fun g3 => ?_)
      · have g3 : cP t.1.data.toList = false := by simpa using g3
        refine ⟨?_, e04⟩;rw [hq];unfold mZ;rw [g3]
        simp
      · have g3 : cP t.1.data.toList = true := by simpa using g3
        have hw : IntKind.wrap .i64 ((i : Int) + 1) = ((i + 1 : Nat) : Int) := by rw [wrap_i64 ad ad]; omega
        have hgo : (match Iv x.ai i with
            | none => true
            | some s => decide (gz s t.1)) = true -> mZ none x.ai = mZ (Iv x.ai (i + 1)) (x.ai.drop (i + 1)) := by
          intro hm;rw [hq, hpv]
          conv => lhs; unfold mZ
          rw [g3, WB g2, hm] <;> rfl
        refine ak (fun g4 => ?_) (fun g4 => ?_)
        · have g4 := Ws g4
          have hw1 : IntKind.wrap .i64 ((i : Int) - 1) = ((i - 1 : Nat) : Int) := by rw [wrap_i64 ad ad]; omega
          have hi1 : i - 1 < x.ai.length :=ad
          obtain ⟨a', ha', hc'⟩ := (v.ao e04 aj).cells (i - 1) hi1;cases ha'
          have hpi : Iv x.ai i = some x.ai[i - 1].1 := by
            unfold Iv;rw [Ww ad, Wu hi1] <;> rfl
          rw [hpi] at hgo hq;generalize x.ai[i - 1] = u at hc' hpi hgo hq;refine af b4 (t.1, ()) rfl ?_;refine an ?_;refine af ((b1.ao e2 aj).ao e24 aj) ((some a, l, c), ()) rfl ?_;refine an ?_;rw [hw1];refine ay ⟨ad, ad⟩ (av rfl ?_);rw [show Int.toNat ((i - 1 : Nat) : Int) = i - 1 from ad];refine ax (u.1, ()) (cL hc').1 ?_;refine an ?_;rw [leB];refine ak (fun g5 => ?_) (fun g5 => ?_)
          · have g5 : ¬ gz u.1 t.1 := by simpa using g5
            refine ⟨?_, e04⟩;rw [hq];unfold mZ;dsimp only;rw [WE g5]
            simp
          · have g5 : gz u.1 t.1 := by simpa using g5
            exact aF (cs := [(false, [.bool]), (false, [.int .i64])]) (b8, ((i + 1 : Nat) : Int), ()) (x.ai.length - (i + 1)) rfl ad (WJ (fun z => [Value.bool b8, Value.int .i64 z]) hw) ⟨i + 1, rfl, ad, rfl, e2.trans e24, hgo (WB g5)⟩
        · have g4 := Wt g4
          have hi0 : i = 0 :=ad
          subst hi0;exact aF (cs := [(false, [.bool]), (false, [.int .i64])]) (b8, ((0 + 1 : Nat) : Int), ()) (x.ai.length - (0 + 1)) rfl ad (WJ (fun z => [Value.bool b8, Value.int .i64 z]) hw) ⟨0 + 1, rfl, ad, rfl, e2.trans e24, hgo rfl⟩
  · have g1 := Wt g1
    have hi : i = x.ai.length :=ad
    subst hi;refine ⟨?_, e02⟩;rw [hq, X5] <;> rfl
theorem sN {h : Hp} {p : Option YC} {l c : Nat} {x : bZ} (v : gp h p l x.ai) (hl : x.ai.length <= 9223372036854775807) (hs : ∀ t, t ∈ x.ai -> t.1.size <= maxLen) :
    HC Tryz.prog 36 #[gn p l c x] h fun w h' => w = .bool (mZ none x.ai) /\ Ext h h' := by
  refine aZ (args := [.agg #[.slice p l c, .int .u32 x.num]]) mixed Tryz.func36 az (n' p l c x.num) ?_;unfold jF aX bh bm aH aU bj bo dI aM bT;have hll := v.len;refine bq ?_;intro h1 b1 e1 z1;have v := v.ao e1 aj
  refine aR (cs := [(false, [.bool]), (false, [.int .i64])]) (fun y w h' => ∃ (i : Nat), y.2.1 = (i : Int) /\ i <= x.ai.length /\ w = x.ai.length - i /\ h1 = h' /\ mZ none x.ai = mZ (Iv x.ai i) (x.ai.drop i)) (false, (0 : Int), ()) x.ai.length rfl
    ⟨0, rfl, ad, ad, rfl, rfl⟩ ?_
  rintro ⟨b8, n8, ⟨⟩⟩ w h2 ⟨i, hi, hile, rfl, rfl, hq⟩;simp only at hi;subst hi;refine an ?_;refine af b1 ((p, l, c), ()) rfl ?_;refine an ?_;refine ak (fun g1 => ?_) (fun g1 => ?_)
  · have g1 := Ws g1
    have hilt : i < x.ai.length :=ad
    obtain ⟨a, rfl, hc⟩ := v.cells i hilt;have hdr : x.ai.drop i = x.ai[i] :: x.ai.drop (i + 1) := WK hilt
    have hpv : Iv x.ai (i + 1) = some x.ai[i].1 := by
      unfold Iv;rw [Ww ad, Nat.add_sub_cancel, Wu hilt] <;> rfl
    have hsz := hs x.ai[i] (WA hilt);rw [hdr] at hq;generalize x.ai[i] = t at hc hq hpv hsz;refine af b1 ((some a, l, c), ()) rfl ?_;refine an ?_;refine ay ⟨ad, ad⟩ (av rfl ?_);rw [show Int.toNat (i : Int) = i from ad];refine ax (t.1, ()) (cL hc).1 ?_;refine an ?_;refine aJ (rI t.1 h1 (by have : maxLen = 9223372036854775807 := rfl; omega)) ?_;refine ⟨⟨b1.cells _ rfl, trivial⟩, ?_⟩;refine ak (fun g3 => ?_) (fun g3 => ?_)
    · have g3 : cP t.1.data.toList = false := by simpa using g3
      refine ⟨?_, e1⟩;rw [hq];unfold mZ;rw [g3]
      simp
    · have g3 : cP t.1.data.toList = true := by simpa using g3
      refine af b1 ((some a, l, c), ()) rfl ?_;refine an ?_;refine ay ⟨ad, ad⟩ (av rfl ?_);refine ax ((t.2 : Int), ()) (cL hc).2 ?_;refine an ?_;refine ak (fun g2 => ?_) (fun g2 => ?_)
      · have g2 : t.2 = 0 := by have : (t.2 : Int) = 0 := by simpa using g2
                                omega
        refine ⟨?_, e1⟩;rw [hq];unfold mZ;rw [WE ad]
        simp
      · have g2 : t.2 ≠ 0 := by have : ¬ (t.2 : Int) = 0 := by simpa using g2
                                omega
        have hw : IntKind.wrap .i64 ((i : Int) + 1) = ((i + 1 : Nat) : Int) := by rw [wrap_i64 ad ad]; omega
        have hgo : (match Iv x.ai i with
            | none => true
            | some s => decide (gz s t.1)) = true -> mZ none x.ai = mZ (Iv x.ai (i + 1)) (x.ai.drop (i + 1)) := by
          intro hm;rw [hq, hpv]
          conv => lhs; unfold mZ
          rw [g3, WB g2, hm] <;> rfl
        refine ak (fun g4 => ?_) (fun g4 => ?_)
        · have g4 := Ws g4
          have hw1 : IntKind.wrap .i64 ((i : Int) - 1) = ((i - 1 : Nat) : Int) := by rw [wrap_i64 ad ad]; omega
          have hi1 : i - 1 < x.ai.length :=ad
          obtain ⟨a', ha', hc'⟩ := v.cells (i - 1) hi1;cases ha'
          have hpi : Iv x.ai i = some x.ai[i - 1].1 := by
            unfold Iv;rw [Ww ad, Wu hi1] <;> rfl
          rw [hpi] at hgo hq;generalize x.ai[i - 1] = u at hc' hpi hgo hq;refine af b1 ((some a, l, c), ()) rfl ?_;refine an ?_;refine ay ⟨ad, ad⟩ (av rfl ?_);refine ax (t.1, ()) (cL hc).1 ?_;refine an ?_;refine af b1 ((some a, l, c), ()) rfl ?_;refine an ?_;rw [hw1];refine ay ⟨ad, ad⟩ (av rfl ?_);rw [show Int.toNat ((i - 1 : Nat) : Int) = i - 1 from ad];refine ax (u.1, ()) (cL hc').1 ?_;refine an ?_;rw [leB];refine ak (fun g5 => ?_) (fun g5 => ?_)
          · have g5 : ¬ gz u.1 t.1 := by simpa using g5
            refine ⟨?_, e1⟩;rw [hq];unfold mZ;dsimp only;rw [WE g5]
            simp
          · have g5 : gz u.1 t.1 := by simpa using g5
            exact aF (cs := [(false, [.bool]), (false, [.int .i64])]) (b8, ((i + 1 : Nat) : Int), ()) (x.ai.length - (i + 1)) rfl ad (WJ (fun z => [Value.bool b8, Value.int .i64 z]) hw) ⟨i + 1, rfl, ad, rfl, rfl, hgo (WB g5)⟩
        · have g4 := Wt g4
          have hi0 : i = 0 :=ad
          subst hi0;exact aF (cs := [(false, [.bool]), (false, [.int .i64])]) (b8, ((0 + 1 : Nat) : Int), ()) (x.ai.length - (0 + 1)) rfl ad (WJ (fun z => [Value.bool b8, Value.int .i64 z]) hw) ⟨0 + 1, rfl, ad, rfl, rfl, hgo rfl⟩
  · have g1 := Wt g1
    have hi : i = x.ai.length :=ad
    subst hi;refine ⟨?_, e1⟩;rw [hq, X5] <;> rfl
end Go.Sx
namespace Go.Sx.Ob
abbrev Bt:=List UInt8
def tn:Nat->Nat->Bt
 | _,0=>[]
 | n,w+1=>UInt8.ofNat n::tn (n / 256) w
def Mi:Bt->Nat
 | []=>0
 | b::l=>b.toNat+256*Mi l
theorem dk:∀ (w n:Nat),(tn n w).length=w
 | 0,_=>rfl
 | w+1,n=>by rw [tn,Xi,dk w]
theorem Bp:∀ (w n:Nat),Mi (tn n w)=n % 256^w
 | 0,n=>by simp [tn,Mi,Nat.mod_one]
 | w+1,n=>by
  rw [tn,Mi,Bp w,Nat.pow_succ,Yu (256^w) 256,Nat.mod_mul]
  congr 1
abbrev Rd (α:Type):=Except (Nat × Nat) (α × Bt)
def ko {α β:Type} (a:Rd α) (f:α->Bt->Rd β):Rd β :=
 match a with
 | .ok p=>f p.1 p.2
 | .error e=>.error e
@[simp] theorem uf {α β:Type} (x:α) (r:Bt) (f:α->Bt->Rd β):ko (.ok (x,r)) f=f x r:=rfl
def tq (w:Nat) (r:Bt):Rd Nat:=if w<=r.length then .ok (Mi (r.take w),r.drop w) else .error (0,10)
def Dg (r:Bt):Rd YA:=ko (tq 2 r) fun n r=>if n<=r.length then .ok (⟨(r.take n).toArray⟩,r.drop n) else .error (0,10)
def Ni:Nat->Bt->Rd cZ
 | 0,r=>.ok ([],r)
 | n+1,r=>ko (Dg r) fun s r=>ko (tq 4 r) fun c r=>ko (Ni n r) fun ts r=>.ok ((s,c)::ts,r)
def gY (r:Bt):Rd bZ:=ko (tq 2 r) fun n r=>ko (Ni n r) fun ts r=>ko (tq 4 r) fun c r=>.ok (⟨ts,c⟩,r)
def iP (s:YA):Bt:=tn s.size 2++s.data.toList
def Ff (t:YA × Nat):Bt:=iP t.1++tn t.2 4
def lO (x:bZ):Bt:=tn x.ai.length 2++(x.ai.flatMap Ff++tn x.num 4)
theorem LD (w n:Nat) (t:Bt):tq w (tn n w++t)=.ok (n % 256^w,t):=by
 unfold tq;rw [WC (by rw [Wv,dk]; omega),List.take_left' (dk w n),List.drop_left' (dk w n),Bp]
theorem IX {s:YA} (h:s.size<65536) (t:Bt):Dg (iP s++t)=.ok (s,t):=by
 unfold Dg iP;rw [WU,LD,uf,X4 ad];have hl:s.data.toList.length=s.size:=aj
 rw [WC (by rw [Wv,hl]; omega),List.take_left' hl,List.drop_left' hl]
structure Ins where
 op:Int
 a:Int
 b:Int
 n:Int
 form:Int
deriving DecidableEq
structure cz where
 kind:Int
 name:YA
 inst:Ins
 e:bZ
 n:Int
def Qk:Ins:=⟨0,0,0,0,0⟩
def DU:bZ:=⟨[],0⟩
def du:YA:=⟨#[]⟩
def fj (k:Int):cz:=⟨k,du,Qk,DU,0⟩
def nN:List Nat:=[1,1,1,2,2,2,2,2,2,2,3,3,4,4,4,4,4,4,4,4,4,4,4,4,4,4,4,4,5,5,5,5,6,6,7,8,9,10,11,12,12,13,13]
def dc (op:Int):Nat:=if op<1 then 0 else nN.getD (op-1).toNat 0
def vB (n m:Int):Bool:=decide (0<=n) && decide (n<m)
def cC (s:Nat) (a b n:Int):Bool :=
 if s=1\/s=9\/s=12 then decide (a=0) && decide (b=0)
 else if s=2\/s=8\/s=10\/s=11\/s=13 then vB a 8 && decide (b=0)
 else if s=3 then vB a 4 && decide (b=0)
 else if s=4 then vB a 8 && vB b 8
 else if s=5 then vB a 4 && vB b 4
 else if s=6 then vB a 8 && vB b 4
 else vB a 4 && vB b 8 && vB n 8
def lC (n form:Int):Bool :=
 if form=1 then decide (-128<=n) && decide (n<=127)
 else if form=2 then decide (-32768<=n) && decide (n<=32767)
 else decide (form=4)
def nR (s:Nat) (n form:Int):Bool :=
 if s=8 then lC n 1
 else if s=9 then decide (0<=n) && decide (n<=255)
 else if s=10\/s=7 then true
 else if s=11 then decide (0<=n) && decide (n<=4095)
 else if s=12\/s=13 then lC n form
 else decide (n=0)
def qu (op:Int):Bool:=decide (12<=dc op)
def DQ (op:Int):Bool:=decide (10<=dc op)
def fW (i:Ins):Int :=
 if dc i.op=0 then 11
 else if cC (dc i.op) i.a i.b i.n=false then 12
 else if (!qu i.op && decide (i.form≠0) || !nR (dc i.op) i.n i.form)=true then 13
 else 0
def N3 (x:bZ):Bool:=decide (x.ai=[]) && decide (x.num=0)
def yJ (i:Ins) (e:bZ):Bool :=
 decide (dc i.op≠0) && decide (i.form=0) && (if DQ i.op then decide (i.n=0) && decide (fW { i with form:=if qu i.op then 1 else 0 }=0) && mZ none e.ai
  else decide (fW i=0) && N3 e)
def tF (n:Int):Bool:=decide (n=1) || decide (n=2) || decide (n=4) || decide (n=8) || decide (n=16) || decide (n=32) || decide (n=64) || decide (n=128) || decide (n=256)
def z1 (x:cz):Bool:=decide (x.name=du)
def z2 (x:cz):Bool:=decide (x.inst=Qk)
def z3 (x:cz):Bool:=N3 x.e
def z4 (x:cz):Bool:=decide (x.n=0)
def ct (x:cz) (sec:Nat):Bool :=
 if x.kind=1 then cP x.name.data.toList && z2 x && z3 x && z4 x
 else if x.kind=2 then decide (sec=0) && yJ x.inst x.e && z1 x && z4 x
 else if x.kind=3 then tF x.n && z1 x && z2 x && z3 x
 else if x.kind=4 then decide (sec=0) && z1 x && z2 x && z3 x && z4 x
 else if x.kind=5 then decide (sec=1) && decide (-128<=x.n) && decide (x.n<=255) && z1 x && z2 x && z3 x
 else if x.kind=6 then decide (sec=1) && mZ none x.e.ai && z1 x && z2 x && z4 x
 else if x.kind=7 then decide (sec=1) && decide (0<=x.n) && decide (x.n<=1048576) && z1 x && z2 x && z3 x
 else false
def u32 (n:Int):Nat:=(n % 4294967296).toNat
def Q6 (n:Nat):Int:=if n<2147483648 then (n:Int) else (n:Int)-4294967296
def Wg (n:Nat):Int:=if n<32768 then (n:Int) else (n:Int)-65536
def C6 (n:Int) (w:Nat):Bt:=tn (u32 n) w
def F2 (x:cz):Bt:=C6 x.kind 1 ++
 (if x.kind=1 then iP x.name
 else if x.kind=2 then C6 x.inst.op 1++(C6 x.inst.a 1++(C6 x.inst.b 1++(C6 x.inst.n 4++if DQ x.inst.op then lO x.e else [])))
 else if x.kind=3\/x.kind=5 then C6 x.n 2
 else if x.kind=6 then lO x.e
 else if x.kind=7 then C6 x.n 4
 else [])
def VJ (r:Bt):Rd cz:=ko (tq 1 r) fun op r=>ko (tq 1 r) fun a r=>ko (tq 1 r) fun b r=>ko (tq 4 r) fun n r =>
 if DQ (op:Int) then ko (gY r) fun e r=>.ok ({ fj 2 with inst:=⟨op,a,b,Q6 n,0⟩,e:=e },r) else .ok ({ fj 2 with inst:=⟨op,a,b,Q6 n,0⟩ },r)
def Vu (k:Nat) (r:Bt):Rd cz :=
 if k=1 then ko (Dg r) fun s r=>.ok ({ fj 1 with name:=s },r)
 else if k=2 then VJ r
 else if k=3 then ko (tq 2 r) fun n r=>.ok ({ fj 3 with n:=n },r)
 else if k=5 then ko (tq 2 r) fun n r=>.ok ({ fj 5 with n:=Wg n },r)
 else if k=6 then ko (gY r) fun e r=>.ok ({ fj 6 with e:=e },r)
 else if k=7 then ko (tq 4 r) fun n r=>.ok ({ fj 7 with n:=n },r)
 else .ok (fj k,r)
def at_ {α:Type} (r:Bt) (pX:Nat) (ok:α->Bool) (a:Rd α):Rd α:=ko a fun x r'=>if ok x then .ok (x,r') else .error (r.length,pX)
def fC (D:List YA) (s:YA):Bool:=D.any fun t=>decide (t=s)
def xx (sec:Nat) (D:List YA) (x:cz):Bool:=ct x sec && !(decide (x.kind=1) && fC D x.name)
def tH (D:List YA) (x:cz):List YA:=if x.kind=1 then x.name::D else D
def Ut (sec:Nat) (D:List YA) (r:Bt):Rd cz:=at_ r 31 (xx sec D) (ko (tq 1 r) Vu)
theorem RE {α:Type} {r r':Bt} {pX:Nat} {ok:α->Bool} {a:Rd α} {x:α} (h:a=.ok (x,r')) (h2:ok x=true):at_ r pX ok a=.ok (x,r'):=by
 unfold at_;rw [h,uf,WC h2]
theorem GB (op:Int) (h:dc op≠0):1<=op/\op<=43:=by
 unfold dc at h;split at h
 ·exact absurd rfl h
 ·refine ⟨ad,?_⟩
  by_cases g:op<=43
  ·exact g
  ·exfalso;apply h;rw [XI,W2 (by simp [nN]; omega)] <;> rfl
theorem EO {i:Ins} (h:fW i=0):dc i.op≠0/\cC (dc i.op) i.a i.b i.n=true:=by
 unfold fW at h;split at h
 ·cases h
 ·split at h
  ·cases h
  ·rename_i h1 h2;exact ⟨h1,by simpa using h2⟩
theorem gM (op:Int):dc op=0\/(1<=dc op/\dc op<=13):=by
 by_cases h:dc op=0
 ·exact .inl h
 ·right
  have h1:=GB op h;unfold dc;rw [Ww ad];have h2:(op-1).toNat<43:=ad
  generalize (op-1).toNat=k at h2
  have:∀ k:Fin 43,1<=nN.getD k.1 0/\nN.getD k.1 0<=13:=cg
  exact this ⟨k,h2⟩
abbrev qi:=YA × bZ
structure bP where
 text:List cz
 data:List cz
 bf:List qi
 aS:List YA
def wT (sec:Nat):Nat->List YA->Bt->Rd (List cz)
 | 0,_,r=>.ok ([],r)
 | n+1,D,r=>ko (Ut sec D r) fun x r=>ko (wT sec n (tH D x) r) fun l r=>.ok (x::l,r)
def Bh (D:List YA) (p:qi):Bool:=!(fC D p.1) && cP p.1.data.toList && mZ none p.2.ai
def P9 (D:List YA) (last g:YA):Bool:=fC D g && decide (gz last g)
def QJ (D:List YA) (last:YA) (r:Bt):Rd YA:=at_ r 31 (P9 D last) (Dg r)
def GV (D:List YA):Nat->YA->Bt->Rd (List YA)
 | 0,_,r=>.ok ([],r)
 | n+1,last,r=>ko (QJ D last r) fun x r=>ko (GV D n x r) fun l r=>.ok (x::l,r)
def K8:Bt:=[83,80,65,78,1]
def cI (D:List YA) (l:List cz):List YA:=l.foldl tH D
def aT (D:List YA) (l:List qi):List YA:=l.foldl (fun D p=>p.1::D) D
def eD (sec:Nat):List YA->List cz->Bool
 | _,[]=>true
 | D,x::l=>xx sec D x && eD sec (tH D x) l
def fV:List YA->List qi->Bool
 | _,[]=>true
 | D,x::l=>Bh D x && fV (x.1::D) l
def cO (D:List YA):YA->List YA->Bool
 | _,[]=>true
 | last,x::l=>P9 D last x && cO D x l
def bP.names (u:bP):List YA:=aT (cI (cI [] u.text) u.data) u.bf
def uH (u:bP):Bool:=eD 0 [] u.text && eD 1 (cI [] u.text) u.data && fV (cI (cI [] u.text) u.data) u.bf && cO u.names du u.aS
def uA (u:bP):Bool:=decide (8192<u.text.length+u.data.length) || decide (8192<u.bf.length)
def eG (u:bP):Nat:=if uA u then 4 else if uH u then 0 else 31
def Mx (p:qi):Bt:=iP p.1++lO p.2
def CX {α:Type} (w:α->Bt) (l:List α):Bt:=tn l.length 2++l.flatMap w
def Vd (u:bP):Bt:=K8++(CX F2 u.text++(CX F2 u.data++(CX Mx u.bf++CX iP u.aS)))
theorem G9 (D:List YA) (hD:∀ s,s∈D->s.size<65536):∀ (l:List YA) (o:YA) (t:Bt),cO D o l=true->GV D l.length o (l.flatMap iP++t)=.ok (l,t)
 | [],o,t,_=>rfl
 | x::l,o,t,h=>by
  unfold cO at h;rw [Xt] at h;obtain ⟨h1,h2⟩:=h;have h3:x.size<65536:=by
   unfold P9 fC at h1;simp only [Bool.and_eq_true,List.any_eq_true,decide_eq_true_eq] at h1;obtain ⟨⟨y,hy,rfl⟩,_⟩:=h1;exact hD y hy
  rw [Xi,Xj,WU,GV];have h5:QJ D o (iP x++(l.flatMap iP++t))=.ok (x,l.flatMap iP++t):=RE (IX h3 _) h1;rw [h5,uf,G9 D hD l _ t h2,uf]
theorem xG (D:List YA):∀ (l:List YA) (o:YA),cO D o l=true->(∀ x,x∈l->x∈D/\gz o x)/\l.Pairwise gz
 | [],o,_=>⟨aj,List.Pairwise.nil⟩
 | x::l,o,h=>by
  unfold cO P9 fC at h;simp only [Bool.and_eq_true,List.any_eq_true,decide_eq_true_eq] at h;obtain ⟨⟨⟨y,hy,rfl⟩,h2⟩,h3⟩:=h;obtain ⟨a,b⟩:=xG D l y h3;refine ⟨?_,XJ.2 ⟨fun z hz=>(a z hz).2,b⟩⟩;intro z hz;rcases WY.1 hz with rfl | hz
  ·exact ⟨hy,h2⟩
  ·exact ⟨(a z hz).1,jg h2 (a z hz).2⟩
theorem zZ {u:bP} (h:eG u=0):uA u=false/\uH u=true:=by
 unfold eG at h;split at h
 ·cases h
 ·rename_i h1;split at h
  ·rename_i h2;exact ⟨by simpa using h1,h2⟩
  ·cases h
end Go.Sx.Ob
namespace Go.Sx
open Go.Proofs
theorem UX:Tryz.prog.underlying 66=some (.struct (Ar Tryz.prog 66)):=az
theorem KW (x y:Operand) (a:YA) (b:Int) (a':YA) (b':Int) (h:Hp) (K:YB->Hp->Prop) (hk:K (.bool !(a==a' && b==b')) h) :
  aP Tryz.prog (Sx.iK (BinOp.neq) 66 x y (.agg #[.string a,.int .u32 b]) (.agg #[.string a',.int .u32 b'])) h K:=by
 refine uu UX az az az K ?_;have he:(Ar Tryz.prog 66).all (FH #[.string a,.int .u32 b] #[.string a',.int .u32 b'])=(a==a' && (b==b' && true)):=by
  rw [<- XL]
  kernel_rfl
 rw [he,XX];exact hk
theorem Mm (t u:YA × Nat):(!(t.1==u.1 && (t.2:Int)==(u.2:Int)))=decide (t≠u):=by
 obtain ⟨a,b⟩:=t;obtain ⟨a',b'⟩:=u
 by_cases h1:a=a'
 ·subst h1;rw [bytes_beq]
  by_cases h2:b=b'
  ·subst h2
   simp
  ·have h3:¬ ((b:Int)=(b':Int)):=ad
   have h4:((b:Int)==(b':Int))=false:=by simpa using h3
   simp [h2,h4]
 ·have h3:(a==a')=false:=by
   obtain ⟨d⟩:=a;obtain ⟨d'⟩:=a';show (d==d')=false;have h4:¬ d=d':=fun e=>h1 (by rw [e])
   simpa using h4
  simp [h1,h3]
theorem yS {α:Type} {l m:List α} {i:Nat} (hi:i<l.length) (hj:i<m.length) (h:l[i]≠m[i]):l≠m:=by
 rintro rfl;exact h rfl
theorem uG {α:Type} {l m:List α} {i:Nat} (hi:i<l.length) (hj:i<m.length) (h:l[i]=m[i]):(l.drop i=m.drop i)↔(l.drop (i+1)=m.drop (i+1)):=by
 rw [WK hi,WK hj,h];exact ⟨fun e=>(List.cons.inj e).2,fun e=>by rw [e]⟩
instance:DecidableEq cZ:=inferInstance
theorem GU {h:Hp} {p q:Option YC} {l m c d:Nat} {us vs:cZ} (v:gp h p l us) (w:gp h q m vs) (hl:us.length<=2^60):vC Tryz.prog 119 [.slice p l c,.slice q m d] h (.bool (decide (us=vs))):=by
 refine ee mixed Tryz.func119 az (fO p l c q m d) ?_;unfold dQ aX bh bm aH dT bo dI aM bT;have h1:=v.len;have h2:=w.len;refine ak (fun g1=>?_) (fun g1=>?_)
 ·have g1:¬ (l:Int)=(m:Int):=by simpa using g1
  exact ⟨by rw [WE (fun e=>by rw [e] at h1; omega)],rfl⟩
 ·have g1:(l:Int)=(m:Int):=by simpa using g1
  refine aR (cs:=[(false,[.bool]),(false,[.int .i64])]) (fun y n h'=>∃ (i:Nat),y.2.1=(i:Int)/\i<=us.length/\n=us.length-i/\h=h'/\(us=vs↔us.drop i=vs.drop i)) (false,(0:Int),()) us.length rfl
   ⟨0,rfl,ad,ad,rfl,Iff.rfl⟩ ?_
  rintro ⟨b8,n8,⟨⟩⟩ n h2 ⟨i,hi,hile,rfl,rfl,hq⟩;simp only at hi;subst hi;refine an ?_;refine ak (fun g2=>?_) (fun g2=>?_)
  ·have g2:=Ws g2;have hi1:i<us.length:=ad
   have hi2:i<vs.length:=ad
   obtain ⟨a,rfl,hc⟩:=v.cells i hi1;obtain ⟨a',rfl,hc'⟩:=w.cells i hi2;have hst:=uG hi1 hi2;have hno:=yS hi1 hi2;generalize us[i]=t at hc hst hno;generalize vs[i]=u at hc' hst hno;refine ay ⟨ad,ad⟩ (av rfl ?_);rw [show Int.toNat (i:Int)=i from ad];refine ax (t.1,(t.2:Int),()) hc ?_;refine an ?_;refine ay ⟨ad,ad⟩ (av rfl ?_);refine ax (u.1,(u.2:Int),()) hc' ?_;refine an ?_;refine nW (b:=decide (t≠u)) (fun K' hk=>KW _ _ _ _ _ _ _ _ (by rw [Mm]; exact hk)) ?_;refine ak (fun g3=>?_) (fun g3=>?_)
   ·exact ⟨by rw [WE (hno (Ws g3))],rfl⟩
   ·have g3:t=u:=by simpa using g3
    have hw:IntKind.wrap .i64 ((i:Int)+1)=((i+1:Nat):Int):=by rw [wrap_i64 ad ad]; omega
    exact aF (cs:=[(false,[.bool]),(false,[.int .i64])]) (b8,((i+1:Nat):Int),()) (us.length-(i+1)) rfl ad (WJ (fun z=>[Value.bool b8,Value.int .i64 z]) hw) ⟨i+1,rfl,ad,rfl,rfl,hq.trans (hst g3)⟩
  ·have g2:=Wt g2;refine ⟨?_,rfl⟩;rw [WB (hq.2 (by rw [Xb ad,Xb ad]))]
def nw (x y:bZ):Bool:=decide (x.num=y.num) && decide (x.ai=y.ai)
theorem JI (x:bZ):nw x x=true:=by unfold nw; simp
theorem A7 {h : Hp} {p q : Option YC} {l m c d : Nat} {x y : bZ} (v : gp h p l x.ai) (w : gp h q m y.ai) (hl : x.ai.length <= 2 ^ 60) :
    HC Tryz.prog 101 #[gn p l c x, gn q m d y] h fun r h' => r = .bool (nw x y) /\ Ext h h' := by
  refine aZ (args := [.agg #[.slice p l c, .int .u32 x.num], .agg #[.slice q m d, .int .u32 y.num]]) mixed Tryz.func101 az (y6 p l c x.num q m d y.num) ?_;unfold xA aU bo;refine bq ?_;intro h1 b1 e1 z1;refine bq ?_;intro h2 b2 e2 z2;have b1 := b1.ao e2 aj;have e02 := e1.trans e2;rw [aE, aE];refine af b1 ((x.num : Int), ()) rfl ?_;refine an ?_;refine af b2 ((y.num : Int), ()) rfl ?_;refine an ?_;refine ak (fun g1 => ?_) (fun g1 => ?_)
  · have g1 : x.num = y.num := by have : (x.num : Int) = y.num := by simpa using g1
                                  omega
    refine af b1 ((p, l, c), ()) rfl ?_;refine an ?_;refine af b2 ((q, m, d), ()) rfl ?_;refine an ?_;refine aJ (GU (v.ao e02 aj) (w.ao e02 aj) hl) ?_;refine ⟨?_, e02⟩;unfold nw;rw [WB g1] <;> rfl
  · have g1 : ¬ x.num = y.num := by have : ¬ (x.num : Int) = y.num := by simpa using g1
                                    omega
    refine ⟨?_, e02⟩;unfold nw;rw [WE g1] <;> rfl
theorem JF {h : Hp} {p q : Option YC} {l m c d : Nat} {x y : bZ} (v : gp h p l x.ai) (w : gp h q m y.ai) (hl : x.ai.length <= 2 ^ 60) :
    HC Tryz.prog 88 #[gn p l c x, gn q m d y] h fun r h' => r = .bool (nw x y) /\ Ext h h' := by
  refine aZ (args := [.agg #[.slice p l c, .int .u32 x.num], .agg #[.slice q m d, .int .u32 y.num]]) mixed Tryz.func88 az (oQ p l c x.num q m d y.num) ?_;unfold j6 aX bh bm aH dT bo dI aM bT;refine bq ?_;intro h1 b1 e1 z1;refine bq ?_;intro h2 b2 e2 z2;have b1 := b1.ao e2 aj;have e02 := e1.trans e2;have v := v.ao e02 aj;have w := w.ao e02 aj;have hv := v.len;have hw := w.len;rw [aE, aE];refine af b1 ((x.num : Int), ()) rfl ?_;refine an ?_;refine af b2 ((y.num : Int), ()) rfl ?_;refine an ?_;refine ak (fun g1 => ?_) (fun g1 => ?_)
  · have g1 : ¬ x.num = y.num := by have : ¬ (x.num : Int) = y.num := by simpa using g1
                                    omega
    refine ⟨?_, e02⟩;unfold nw;rw [WE g1] <;> rfl
  · have g1 : x.num = y.num := by have : (x.num : Int) = y.num := by simpa using g1
                                  omega
    have hB : nw x y = decide (x.ai = y.ai) := by
      unfold nw;rw [WB g1] <;> rfl
    rw [hB];refine af b1 ((p, l, c), ()) rfl ?_;refine an ?_;refine af b2 ((q, m, d), ()) rfl ?_;refine an ?_;refine ak (fun g2 => ?_) (fun g2 => ?_)
    · have g2 : ¬ (l : Int) = (m : Int) := by simpa using g2
      exact ⟨by rw [WE (fun e => by rw [e] at hv; omega)], e02⟩
    · have g2 : (l : Int) = (m : Int) := by simpa using g2
      refine aR (cs := [(false, [.bool]), (false, [.int .i64])]) (fun z n h' => ∃ (i : Nat), z.2.1 = (i : Int) /\ i <= x.ai.length /\ n = x.ai.length - i /\ h2 = h' /\ (x.ai = y.ai ↔ x.ai.drop i = y.ai.drop i)) (false, (0 : Int), ()) x.ai.length rfl
        ⟨0, rfl, ad, ad, rfl, Iff.rfl⟩ ?_
      rintro ⟨b8, n8, ⟨⟩⟩ n h3 ⟨i, hi, hile, rfl, rfl, hq⟩;simp only at hi;subst hi;refine an ?_;refine af b1 ((p, l, c), ()) rfl ?_;refine an ?_;refine ak (fun g2 => ?_) (fun g2 => ?_)
      · have g2 := Ws g2
        have hi1 : i < x.ai.length :=ad
        have hi2 : i < y.ai.length :=ad
        obtain ⟨a, rfl, hc⟩ := v.cells i hi1;obtain ⟨a', rfl, hc'⟩ := w.cells i hi2;have hst := uG hi1 hi2;have hno := yS hi1 hi2;generalize x.ai[i] = t at hc hst hno;generalize y.ai[i] = u at hc' hst hno;refine af b1 ((some a, l, c), ()) rfl ?_;refine an ?_;refine ay ⟨ad, ad⟩ (av rfl ?_);rw [show Int.toNat (i : Int) = i from ad];refine ax (t.1, (t.2 : Int), ()) hc ?_;refine an ?_;refine af b2 ((some a', m, d), ()) rfl ?_;refine an ?_;refine ay ⟨ad, ad⟩ (av rfl ?_);refine ax (u.1, (u.2 : Int), ()) hc' ?_;refine an ?_;refine nW (b := decide (t ≠ u)) (fun K' hk => KW _ _ _ _ _ _ _ _ (by rw [Mm]; exact hk)) ?_;refine ⟨⟨b2.cells _ rfl, b1.cells _ rfl, trivial⟩, ?_⟩;refine ak (fun g3 => ?_) (fun g3 => ?_)
        · exact ⟨by rw [WE (hno (Ws g3))], e02⟩
        · have g3 : t = u := by simpa using g3
          have hw : IntKind.wrap .i64 ((i : Int) + 1) = ((i + 1 : Nat) : Int) := by rw [wrap_i64 ad ad]; omega
          exact aF (cs := [(false, [.bool]), (false, [.int .i64])]) (b8, ((i + 1 : Nat) : Int), ()) (x.ai.length - (i + 1)) rfl ad (WJ (fun z => [Value.bool b8, Value.int .i64 z]) hw) ⟨i + 1, rfl, ad, rfl, rfl, hq.trans (hst g3)⟩
      · have g2 := Wt g2
        refine ⟨?_, e02⟩;rw [WB (hq.2 (by rw [Xb ad, Xb ad]))]
theorem Qo {P:Program} {L:Lp} {K:YB->Hp->Prop} {h:Hp} {k:Option YC->Nat->Nat->T} {t e:TypeId} {z:YB} {sz by':Nat} (ht:P.underlying t=some (.slice e)) (hinf:(P.info? e).map (fun i=>(i.zero,i.size,i.bytes))=some (some z,sz,by'))
  (hk:∀ h' ,SL h' h.size e sz (some ⟨h.size,0,none⟩) 0 0 []->Ext h h'->k (some ⟨h.size,0,none⟩) 0 0 L K h'):T.dW P (Instr.buildSlice t 0 #[]) false [(false,[.slice 0])] k L K h:=by
 obtain ⟨i,hi,hz,rfl,rfl⟩:=kH hinf;refine cR ?_;unfold Instr.buildSlice;rw [ar,aC ht];simp only;rw [ar,bJ hi];simp only [Nat.zero_mul];rw [Ww ad];have h0:∀ f:Nat->YB,Array.map f (Array.range 0)=#[]:=fun f=>aj
 simp only [h0];refine ⟨_,_,_,rfl,hk _ ?_ (Ext.push h _)⟩;exact ⟨rfl,aj,h.size,[],[],rfl,WH _,⟨WH _,ad⟩,by simpa using bC.new h e [],aj⟩
theorem ua {h:Hp} {a:YC}:∀ (us:cZ) (k:Nat),(∀ i,(hi:i<us.length)->aG h (a.add ((k+i)*2)) 0 (cX us[i]))->aG h a (k*2) (us.map cX).flatten
 | [],_,_=>trivial
 | t::us,k,hc=>by
  have h0:=hc 0 aj;obtain ⟨h1,h2,_⟩:=h0;rw [add_add] at h1 h2;have ih:=ua us (k+1) (fun i hi=>by
   have:=hc (i+1) (by simpa using hi)
   rw [show k+(i+1)=k+1+i from ad] at this;exact this)
  rw [show (k+1)*2=k*2+1+1 from ad] at ih;exact ⟨h1,by simpa using h2,ih⟩
theorem gp.flat {h:Hp} {a:YC} {l:Nat} {us:cZ} (v:gp h (some a) l us):aG h a 0 (us.map cX).flatten:=by
 have:=ua (h:=h) (a:=a) us 0 (fun i hi=>by
  obtain ⟨a',e,hc⟩:=v.cells i hi;cases e;rw [Xa];exact hc)
 simpa using this
theorem F7 (us:cZ):(us.map cX).flatten.all cS=true:=by
 rw [W1];intro v hv;obtain ⟨x,hx,hv⟩:=List.mem_flatten.1 hv;obtain ⟨t,_,rfl⟩:=Wz.1 hx;simp only [cX,List.mem_cons,List.not_mem_nil,or_false] at hv;rcases hv with rfl | rfl <;> rfl
end Go.Sx
namespace Go.Sx.Ob
open Go.Proofs
variable {h':Hp} {e1 e2:TypeId} {sec:Nat}
theorem _root_.Go.Sx.Ch.st {h a b:Hp} {g:Nat} (e:Ext h a) (k:Ch [g] a b) (hg:h.size<=g):Ext h b:=Ch.trans e k (fun i hi hl=>by simp at hi; omega)
def kQ (nm:Nat->YA) (by_:Nat->Int):List YB:=(List.range 43).flatMap fun k=>[.string (nm k),.int .u8 (by_ k),.int .i64 (nN.getD k 0:Nat)]
def An (h:Hp):Prop:=∃ nm by_ e f,h[0]?=some (.cells (kQ nm by_).toArray e f)
theorem An.ao {ws:List Nat} {h:Hp} (t:An h) (k:Ch ws h h') (hw:0∉ws):An h':=by
 obtain ⟨nm,by_,e,f,ht⟩:=t;exact ⟨nm,by_,e,f,k.get ht hw⟩
theorem vv {α β:Type} (f:α->List β) (m:Nat) (hf:∀ x,(f x).length=m):∀ (l:List α) (i j:Nat),j<m->(l.flatMap f)[i*m+j]?=(l[i]?).bind fun x=>(f x)[j]?
 | [],i,j,hj=>aj
 | x::l,0,j,hj=>by
  rw [Xj,WZ (by rw [hf]; omega)]
  simp
 | x::l,i+1,j,hj=>by
  rw [Xj,WX (by rw [hf,XA]; omega),hf,show (i+1)*m+j-m=i*m+j by rw [XA]; omega,vv f m hf l i j hj]
  simp
theorem An.cells {h:Hp} (t:An h) {k:Nat} (hk:k<43):∃ (s:YA) (b:Int),aG h ((⟨0,0,none⟩:YC).add (k*3)) 0 [.string s,.int .u8 b,.int .i64 (nN.getD k 0:Nat)]:=by
 obtain ⟨nm,by_,e,f,ht⟩:=t;refine ⟨nm k,by_ k,?_⟩;have hg:∀ j,j<3->(kQ nm by_)[k*3+j]?=([.string (nm k),.int .u8 (by_ k),.int .i64 (nN.getD k 0:Nat)]:List YB)[j]?:=by
  intro j hj;unfold kQ;rw [vv _ 3 aj _ _ _ hj];simp [hk]
 rw [aE];refine ⟨?_,?_,?_,trivial⟩
 ·rw [aE,qH ht]
  have:=hg 0 ad
  simpa using this
 ·rw [aE,qH ht]
  have:=hg 1 ad
  simpa using this
 ·rw [aE,qH ht]
  have:=hg 2 ad
  simpa using this
theorem LU {h:Hp} (t:An h) (op:Int) (h1:-9223372036854775808<=op) (h2:op<=9223372036854775807) :
  HC Tryz.prog 105 #[.int .i64 op] h fun w h'=>∃ (s:YA) (b:Int),w=.tuple #[.agg #[.string s,.int .u8 b,.int .i64 (dc op:Nat)],.bool (decide (dc op≠0))]/\Ext h h':=by
 refine aZ (args:=[.int .i64 op]) mixed Tryz.func105 az (FD op) ?_;unfold Eu bj bU;refine bq ?_;intro g1 b1 e1 z1;have hz:∀ (hh:dc op=0),(∃ (s:YA) (b:Int),(Value.tuple #[.agg #[.string ⟨#[]⟩,.int .u8 0,.int .i64 0],.bool false])=.tuple #[.agg #[.string s,.int .u8 b,.int .i64 (dc op:Nat)],.bool (decide (dc op≠0))]) :=
  fun hh=>⟨⟨#[]⟩,0,by rw [hh]; rfl⟩
 refine ak (fun q=>?_) (fun q=>?_)
 ·have q:=Ws q;refine aw b1 rfl aj ?_;intro g2 b2 k2 z2;refine af b2 ((⟨#[]⟩:YA),(0:Int),(0:Int),()) rfl ?_;obtain ⟨s,b,e⟩:=hz (by unfold dc; rw [WC q]);exact ⟨s,b,e,Ch.trans e1 k2 (fun i hi hl=>by simp at hi; omega)⟩
 refine ak (fun r=>?_) (fun r=>?_)
 ·have r:=Ws r;refine aw b1 rfl aj ?_;intro g2 b2 k2 z2;refine af b2 ((⟨#[]⟩:YA),(0:Int),(0:Int),()) rfl ?_;obtain ⟨s,b,e⟩:=hz (by
   by_cases g:dc op=0
   ·exact g
   ·have:=GB op g
    omega)
  exact ⟨s,b,e,Ch.trans e1 k2 (fun i hi hl=>by simp at hi; omega)⟩
 ·have q:=Wt q;have r:=Wt r;rw [wrap_i64 ad ad];refine ay ⟨ad,ad⟩ ?_;obtain ⟨s,b,hc⟩:=(t.ao e1 aj).cells (k:=(op-1).toNat) ad;refine ax (s,b,((nN.getD (op-1).toNat 0:Nat):Int),()) hc ?_;refine an ?_;refine aw b1 rfl aj ?_;intro g2 b2 k2 z2;refine af b2 (s,b,((nN.getD (op-1).toNat 0:Nat):Int),()) rfl ?_;refine ⟨s,b,?_,Ch.trans e1 k2 (fun i hi hl=>by simp at hi; omega)⟩;have h3:dc op=nN.getD (op-1).toNat 0:=by unfold dc; rw [Ww ad]
  have h4:dc op≠0:=by
   rw [h3]
   have:∀ k:Fin 43,nN.getD k.1 0≠0:=cg
   exact this ⟨(op-1).toNat,ad⟩
  rw [WB h4,h3]
theorem Dl {h:Hp} (t:An h) (op:Int) (h1:-9223372036854775808<=op) (h2:op<=9223372036854775807) :
  HC Tryz.prog 82 #[.int .i64 op] h fun w h'=>w=.bool (qu op)/\Ext h h':=by
 refine aZ (args:=[.int .i64 op]) mixed Tryz.func82 az (zP op) ?_;unfold xn bF dI bU bT;refine aI (LU t op h1 h2) ?_;rintro _ g1 ⟨s,b,rfl,e1⟩;refine ⟨(s,b,((dc op:Nat):Int),decide (dc op≠0),()),rfl,?_⟩;refine an ?_;refine bq ?_;intro g2 b2 e2 z2;refine aw b2 rfl aj ?_;intro g3 b3 k3 z3;have e3:=(e1.trans e2).st k3 (by have:=e1.size; omega);have b3:bC g3 g1.size 165 [.string s,.int .u8 b,.int .i64 (dc op:Nat)]:=b3;rw [aE];refine af b3 (((dc op:Nat):Int),()) rfl ?_;refine an ?_;have hc:=gM op;refine ak (fun q=>?_) (fun q=>?_)
 ·have q:((dc op:Nat):Int)=12:=by simpa using q
  refine ⟨?_,e3⟩;unfold qu;rw [WB ad]
 ·have q:¬ ((dc op:Nat):Int)=12:=by simpa using q
  refine af b3 (((dc op:Nat):Int),()) rfl ?_;refine ⟨?_,e3⟩;unfold qu
  by_cases r:dc op=13
  ·rw [r]; rfl
  ·rw [WE ad]
   congr 1
   simp
   omega
theorem Gp (n:Int):(n==IntKind.wrap .i32 (IntKind.wrap .i8 n))=(decide (-128<=n) && decide (n<=127)):=by
 have h1:IntKind.wrap .i8 n=if n % 256<128 then n % 256 else n % 256-256:=by
  simp only [IntKind.wrap,IntKind.bits,IntKind.signed,Bool.true_and];split <;> rename_i hh
  ·have:=Ws hh
   rw [Ww ad] <;> rfl
  ·have:¬ _:=fun h=>hh (WB h)
   rw [WC ad] <;> rfl
 have h2:IntKind.wrap .i32 (IntKind.wrap .i8 n)=IntKind.wrap .i8 n:=by
  have:-128<=IntKind.wrap .i8 n/\IntKind.wrap .i8 n<=127:=by rw [h1]; split <;> omega
  generalize IntKind.wrap .i8 n=m at this;simp only [IntKind.wrap,IntKind.bits,IntKind.signed,Bool.true_and];split <;> rename_i hh
  ·have:=Ws hh; omega
  ·have:¬ _:=fun h=>hh (WB h); omega
 rw [h2,h1]
 by_cases g:-128<=n/\n<=127
 ·rw [WB g.1,WB g.2]
  simp
  split <;> omega
 ·have:(decide (-128<=n) && decide (n<=127))=false:=by
   rw [Bool.and_eq_false_iff]
   simp
   omega
  rw [this]
  simp
  split <;> omega
theorem EJ (n:Int):(n==IntKind.wrap .i32 (IntKind.wrap .i16 n))=(decide (-32768<=n) && decide (n<=32767)):=by
 have h1:IntKind.wrap .i16 n=if n % 65536<32768 then n % 65536 else n % 65536-65536:=by
  simp only [IntKind.wrap,IntKind.bits,IntKind.signed,Bool.true_and];split <;> rename_i hh
  ·have:=Ws hh
   rw [Ww ad] <;> rfl
  ·have:¬ _:=fun h=>hh (WB h)
   rw [WC ad] <;> rfl
 have h2:IntKind.wrap .i32 (IntKind.wrap .i16 n)=IntKind.wrap .i16 n:=by
  have:-32768<=IntKind.wrap .i16 n/\IntKind.wrap .i16 n<=32767:=by rw [h1]; split <;> omega
  generalize IntKind.wrap .i16 n=m at this;simp only [IntKind.wrap,IntKind.bits,IntKind.signed,Bool.true_and];split <;> rename_i hh
  ·have:=Ws hh; omega
  ·have:¬ _:=fun h=>hh (WB h); omega
 rw [h2,h1]
 by_cases g:-32768<=n/\n<=32767
 ·rw [WB g.1,WB g.2]
  simp
  split <;> omega
 ·have:(decide (-32768<=n) && decide (n<=32767))=false:=by
   rw [Bool.and_eq_false_iff]
   simp
   omega
  rw [this]
  simp
  split <;> omega
theorem bS (h:Hp) (n f:Int):vC Tryz.prog 143 [.int .i32 n,.int .i64 f] h (.bool (lC n f)):=by
 refine ee mixed Tryz.func143 az (wC n f) ?_;unfold sB;rw [Gp,EJ];refine ak (fun q=>?_) (fun q=>?_)
 ·have q:f=1:=by simpa using q
  exact ⟨by unfold lC; rw [WC q],rfl⟩
 have q:¬ f=1:=by simpa using q
 refine ak (fun r=>?_) (fun r=>?_)
 ·have r:f=2:=by simpa using r
  exact ⟨by unfold lC; rw [Ww q,WC r],rfl⟩
 have r:¬ f=2:=by simpa using r
 exact ⟨by unfold lC; rw [Ww q,Ww r]; rfl,rfl⟩
theorem Dn (h:Hp) (n:Int):vC Tryz.prog 100 [.int .i64 n] h (.bool (tF n)):=by
 refine ee mixed Tryz.func100 az (xX n) ?_;unfold vp bj bo;have hf:¬ (1<=n/\n<=256)->tF n=false:=by
  intro g;cases hp:tF n with
  | false=>rfl
  | true =>
   exfalso;unfold tF at hp;simp only [Bool.or_eq_true,decide_eq_true_eq] at hp;omega
 refine ak (fun q=>?_) (fun q=>?_)
 ·have q:=Ws q;refine ak (fun r=>?_) (fun r=>?_)
  ·have r:=Ws r;refine ⟨?_,rfl⟩;obtain ⟨k,rfl,hk⟩:∃ k:Nat,n=((k+1:Nat):Int)/\k<256:=⟨(n-1).toNat,ad,ad⟩
   have:∀ k:Fin 256,(IntKind.wrap .i64 (((BitVec.toNat ((BitVec.ofInt 64 ((k.1+1:Nat):Int)) &&& (BitVec.ofInt 64 (IntKind.wrap .i64 (((k.1+1:Nat):Int)-(1:Int)))))):Nat):Int)==(0:Int))=tF ((k.1+1:Nat):Int):=by
    decide +kernel
   rw [this ⟨k,hk⟩]
  ·have r:=Wt r;exact ⟨by rw [hf ad],rfl⟩
 ·have q:=Wt q;exact ⟨by rw [hf ad],rfl⟩
theorem cB (h:Hp) (n m:Int):vC Tryz.prog 142 [.int .i64 n,.int .i64 m] h (.bool (vB n m)):=by
 refine ee mixed Tryz.func142 az (za n m) ?_;unfold xJ bo;refine ak (fun q=>?_) (fun q=>?_)
 ·have q:=Ws q;refine ⟨?_,rfl⟩;unfold vB;rw [WB (show 0<=n from ad)] <;> rfl
 ·have q:=Wt q;refine ⟨?_,rfl⟩;unfold vB;rw [WE (show ¬ 0<=n from ad)] <;> rfl
theorem cV (a b:Int):(a==b)=decide (a=b):=rfl
def de (op a b n form:Int):YB:=.agg #[.int .i64 op,.int .i64 a,.int .i64 b,.int .i32 n,.int .i64 form]
theorem Lv (h:Hp) (op a b n form:Int):HC Tryz.prog 127 #[de op a b n form,.int .i64 1] h fun w h'=>w=.bool (cC 1 a b n)/\Ext h h':=by
 refine aZ (args:=[de op a b n form,.int .i64 1]) mixed Tryz.func127 az (pR op a b n form) ?_;unfold kF bo;refine bq ?_;intro g1 b1 e1 z1
 try simp only [aE]
 repeat' (first
  | (refine af b1 (_,()) rfl ?_; refine an ?_)
  | (refine aJ (cB _ _ _) ?_)
  | (refine aJ (bS _ _ _) ?_)
  | (refine ak (fun q=>?_) (fun q=>?_)))
 all_goals (refine ⟨?_,e1⟩; first | (simp_all [cC,cV]; done) | (simp_all [cC,cV] <;> simp [vB] <;> omega))
theorem Ov (h:Hp) (op a b n form:Int):HC Tryz.prog 128 #[de op a b n form,.int .i64 1] h fun w h'=>w=.bool (nR 1 n form)/\Ext h h':=by
 refine aZ (args:=[de op a b n form,.int .i64 1]) mixed Tryz.func128 az (tK op a b n form) ?_;unfold pK;refine bq ?_;intro g1 b1 e1 z1
 try simp only [aE]
 repeat' (first
  | (refine af b1 (_,()) rfl ?_; refine an ?_)
  | (refine aJ (cB _ _ _) ?_)
  | (refine aJ (bS _ _ _) ?_)
  | (refine ak (fun q=>?_) (fun q=>?_)))
 all_goals (refine ⟨?_,e1⟩; first | (simp_all [nR,cV]; done) | (simp_all [nR,cV] <;> omega))
theorem Kn (h:Hp) (op a b n form:Int):HC Tryz.prog 127 #[de op a b n form,.int .i64 2] h fun w h'=>w=.bool (cC 2 a b n)/\Ext h h':=by
 refine aZ (args:=[de op a b n form,.int .i64 2]) mixed Tryz.func127 az (pZ op a b n form) ?_;unfold kT aU bo;refine bq ?_;intro g1 b1 e1 z1
 try simp only [aE]
 repeat' (first
  | (refine af b1 (_,()) rfl ?_; refine an ?_)
  | (refine aJ (cB _ _ _) ?_)
  | (refine aJ (bS _ _ _) ?_)
  | (refine ak (fun q=>?_) (fun q=>?_)))
 all_goals (refine ⟨?_,e1⟩; first | (simp_all [cC,cV]; done) | (simp_all [cC,cV] <;> simp [vB] <;> omega))
theorem Qi (h:Hp) (op a b n form:Int):HC Tryz.prog 128 #[de op a b n form,.int .i64 2] h fun w h'=>w=.bool (nR 2 n form)/\Ext h h':=by
 refine aZ (args:=[de op a b n form,.int .i64 2]) mixed Tryz.func128 az (tD op a b n form) ?_;unfold pH;refine bq ?_;intro g1 b1 e1 z1
 try simp only [aE]
 repeat' (first
  | (refine af b1 (_,()) rfl ?_; refine an ?_)
  | (refine aJ (cB _ _ _) ?_)
  | (refine aJ (bS _ _ _) ?_)
  | (refine ak (fun q=>?_) (fun q=>?_)))
 all_goals (refine ⟨?_,e1⟩; first | (simp_all [nR,cV]; done) | (simp_all [nR,cV] <;> omega))
theorem LV (h:Hp) (op a b n form:Int):HC Tryz.prog 127 #[de op a b n form,.int .i64 3] h fun w h'=>w=.bool (cC 3 a b n)/\Ext h h':=by
 refine aZ (args:=[de op a b n form,.int .i64 3]) mixed Tryz.func127 az (pY op a b n form) ?_;unfold lj aU bo;refine bq ?_;intro g1 b1 e1 z1
 try simp only [aE]
 repeat' (first
  | (refine af b1 (_,()) rfl ?_; refine an ?_)
  | (refine aJ (cB _ _ _) ?_)
  | (refine aJ (bS _ _ _) ?_)
  | (refine ak (fun q=>?_) (fun q=>?_)))
 all_goals (refine ⟨?_,e1⟩; first | (simp_all [cC,cV]; done) | (simp_all [cC,cV] <;> simp [vB] <;> omega))
theorem Pk (h:Hp) (op a b n form:Int):HC Tryz.prog 128 #[de op a b n form,.int .i64 3] h fun w h'=>w=.bool (nR 3 n form)/\Ext h h':=by
 refine aZ (args:=[de op a b n form,.int .i64 3]) mixed Tryz.func128 az (sS op a b n form) ?_;unfold pC;refine bq ?_;intro g1 b1 e1 z1
 try simp only [aE]
 repeat' (first
  | (refine af b1 (_,()) rfl ?_; refine an ?_)
  | (refine aJ (cB _ _ _) ?_)
  | (refine aJ (bS _ _ _) ?_)
  | (refine ak (fun q=>?_) (fun q=>?_)))
 all_goals (refine ⟨?_,e1⟩; first | (simp_all [nR,cV]; done) | (simp_all [nR,cV] <;> omega))
theorem Kx (h:Hp) (op a b n form:Int):HC Tryz.prog 127 #[de op a b n form,.int .i64 4] h fun w h'=>w=.bool (cC 4 a b n)/\Ext h h':=by
 refine aZ (args:=[de op a b n form,.int .i64 4]) mixed Tryz.func127 az (qh op a b n form) ?_;unfold kL aU bo;refine bq ?_;intro g1 b1 e1 z1
 try simp only [aE]
 repeat' (first
  | (refine af b1 (_,()) rfl ?_; refine an ?_)
  | (refine aJ (cB _ _ _) ?_)
  | (refine aJ (bS _ _ _) ?_)
  | (refine ak (fun q=>?_) (fun q=>?_)))
 all_goals (refine ⟨?_,e1⟩; first | (simp_all [cC,cV]; done) | (simp_all [cC,cV] <;> simp [vB] <;> omega))
theorem Pp (h:Hp) (op a b n form:Int):HC Tryz.prog 128 #[de op a b n form,.int .i64 4] h fun w h'=>w=.bool (nR 4 n form)/\Ext h h':=by
 refine aZ (args:=[de op a b n form,.int .i64 4]) mixed Tryz.func128 az (tE op a b n form) ?_;unfold pO;refine bq ?_;intro g1 b1 e1 z1
 try simp only [aE]
 repeat' (first
  | (refine af b1 (_,()) rfl ?_; refine an ?_)
  | (refine aJ (cB _ _ _) ?_)
  | (refine aJ (bS _ _ _) ?_)
  | (refine ak (fun q=>?_) (fun q=>?_)))
 all_goals (refine ⟨?_,e1⟩; first | (simp_all [nR,cV]; done) | (simp_all [nR,cV] <;> omega))
theorem Mc (h:Hp) (op a b n form:Int):HC Tryz.prog 127 #[de op a b n form,.int .i64 5] h fun w h'=>w=.bool (cC 5 a b n)/\Ext h h':=by
 refine aZ (args:=[de op a b n form,.int .i64 5]) mixed Tryz.func127 az (qe op a b n form) ?_;unfold ly aU bo;refine bq ?_;intro g1 b1 e1 z1
 try simp only [aE]
 repeat' (first
  | (refine af b1 (_,()) rfl ?_; refine an ?_)
  | (refine aJ (cB _ _ _) ?_)
  | (refine aJ (bS _ _ _) ?_)
  | (refine ak (fun q=>?_) (fun q=>?_)))
 all_goals (refine ⟨?_,e1⟩; first | (simp_all [cC,cV]; done) | (simp_all [cC,cV] <;> simp [vB] <;> omega))
theorem Pn (h:Hp) (op a b n form:Int):HC Tryz.prog 128 #[de op a b n form,.int .i64 5] h fun w h'=>w=.bool (nR 5 n form)/\Ext h h':=by
 refine aZ (args:=[de op a b n form,.int .i64 5]) mixed Tryz.func128 az (tf op a b n form) ?_;unfold pM;refine bq ?_;intro g1 b1 e1 z1
 try simp only [aE]
 repeat' (first
  | (refine af b1 (_,()) rfl ?_; refine an ?_)
  | (refine aJ (cB _ _ _) ?_)
  | (refine aJ (bS _ _ _) ?_)
  | (refine ak (fun q=>?_) (fun q=>?_)))
 all_goals (refine ⟨?_,e1⟩; first | (simp_all [nR,cV]; done) | (simp_all [nR,cV] <;> omega))
theorem Kt (h:Hp) (op a b n form:Int):HC Tryz.prog 127 #[de op a b n form,.int .i64 6] h fun w h'=>w=.bool (cC 6 a b n)/\Ext h h':=by
 refine aZ (args:=[de op a b n form,.int .i64 6]) mixed Tryz.func127 az (qg op a b n form) ?_;unfold lp aU bo;refine bq ?_;intro g1 b1 e1 z1
 try simp only [aE]
 repeat' (first
  | (refine af b1 (_,()) rfl ?_; refine an ?_)
  | (refine aJ (cB _ _ _) ?_)
  | (refine aJ (bS _ _ _) ?_)
  | (refine ak (fun q=>?_) (fun q=>?_)))
 all_goals (refine ⟨?_,e1⟩; first | (simp_all [cC,cV]; done) | (simp_all [cC,cV] <;> simp [vB] <;> omega))
theorem OD (h:Hp) (op a b n form:Int):HC Tryz.prog 128 #[de op a b n form,.int .i64 6] h fun w h'=>w=.bool (nR 6 n form)/\Ext h h':=by
 refine aZ (args:=[de op a b n form,.int .i64 6]) mixed Tryz.func128 az (tM op a b n form) ?_;unfold pB;refine bq ?_;intro g1 b1 e1 z1
 try simp only [aE]
 repeat' (first
  | (refine af b1 (_,()) rfl ?_; refine an ?_)
  | (refine aJ (cB _ _ _) ?_)
  | (refine aJ (bS _ _ _) ?_)
  | (refine ak (fun q=>?_) (fun q=>?_)))
 all_goals (refine ⟨?_,e1⟩; first | (simp_all [nR,cV]; done) | (simp_all [nR,cV] <;> omega))
theorem KD (h:Hp) (op a b n form:Int):HC Tryz.prog 127 #[de op a b n form,.int .i64 7] h fun w h'=>w=.bool (cC 7 a b n)/\Ext h h':=by
 refine aZ (args:=[de op a b n form,.int .i64 7]) mixed Tryz.func127 az (qd op a b n form) ?_;unfold lB aU bo;refine bq ?_;intro g1 b1 e1 z1
 try simp only [aE]
 repeat' (first
  | (refine af b1 (_,()) rfl ?_; refine an ?_)
  | (refine aJ (cB _ _ _) ?_)
  | (refine aJ (bS _ _ _) ?_)
  | (refine ak (fun q=>?_) (fun q=>?_)))
 all_goals (refine ⟨?_,e1⟩; first | (simp_all [cC,cV]; done) | (simp_all [cC,cV] <;> simp [vB] <;> omega))
theorem Px (h:Hp) (op a b n form:Int):HC Tryz.prog 128 #[de op a b n form,.int .i64 7] h fun w h'=>w=.bool (nR 7 n form)/\Ext h h':=by
 refine aZ (args:=[de op a b n form,.int .i64 7]) mixed Tryz.func128 az (tv op a b n form) ?_;unfold pG;refine bq ?_;intro g1 b1 e1 z1
 try simp only [aE]
 repeat' (first
  | (refine af b1 (_,()) rfl ?_; refine an ?_)
  | (refine aJ (cB _ _ _) ?_)
  | (refine aJ (bS _ _ _) ?_)
  | (refine ak (fun q=>?_) (fun q=>?_)))
 all_goals (refine ⟨?_,e1⟩; first | (simp_all [nR,cV]; done) | (simp_all [nR,cV] <;> omega))
theorem Ms (h:Hp) (op a b n form:Int):HC Tryz.prog 127 #[de op a b n form,.int .i64 8] h fun w h'=>w=.bool (cC 8 a b n)/\Ext h h':=by
 refine aZ (args:=[de op a b n form,.int .i64 8]) mixed Tryz.func127 az (pW op a b n form) ?_;unfold kC aU bo;refine bq ?_;intro g1 b1 e1 z1
 try simp only [aE]
 repeat' (first
  | (refine af b1 (_,()) rfl ?_; refine an ?_)
  | (refine aJ (cB _ _ _) ?_)
  | (refine aJ (bS _ _ _) ?_)
  | (refine ak (fun q=>?_) (fun q=>?_)))
 all_goals (refine ⟨?_,e1⟩; first | (simp_all [cC,cV]; done) | (simp_all [cC,cV] <;> simp [vB] <;> omega))
theorem Pv (h:Hp) (op a b n form:Int):HC Tryz.prog 128 #[de op a b n form,.int .i64 8] h fun w h'=>w=.bool (nR 8 n form)/\Ext h h':=by
 refine aZ (args:=[de op a b n form,.int .i64 8]) mixed Tryz.func128 az (tk op a b n form) ?_;unfold pN aU;refine bq ?_;intro g1 b1 e1 z1
 try simp only [aE]
 repeat' (first
  | (refine af b1 (_,()) rfl ?_; refine an ?_)
  | (refine aJ (cB _ _ _) ?_)
  | (refine aJ (bS _ _ _) ?_)
  | (refine ak (fun q=>?_) (fun q=>?_)))
 all_goals (refine ⟨?_,e1⟩; first | (simp_all [nR,cV]; done) | (simp_all [nR,cV] <;> omega))
theorem Ns (h:Hp) (op a b n form:Int):HC Tryz.prog 127 #[de op a b n form,.int .i64 9] h fun w h'=>w=.bool (cC 9 a b n)/\Ext h h':=by
 refine aZ (args:=[de op a b n form,.int .i64 9]) mixed Tryz.func127 az (pU op a b n form) ?_;unfold kK bo;refine bq ?_;intro g1 b1 e1 z1
 try simp only [aE]
 repeat' (first
  | (refine af b1 (_,()) rfl ?_; refine an ?_)
  | (refine aJ (cB _ _ _) ?_)
  | (refine aJ (bS _ _ _) ?_)
  | (refine ak (fun q=>?_) (fun q=>?_)))
 all_goals (refine ⟨?_,e1⟩; first | (simp_all [cC,cV]; done) | (simp_all [cC,cV] <;> simp [vB] <;> omega))
theorem Ph (h:Hp) (op a b n form:Int):HC Tryz.prog 128 #[de op a b n form,.int .i64 9] h fun w h'=>w=.bool (nR 9 n form)/\Ext h h':=by
 refine aZ (args:=[de op a b n form,.int .i64 9]) mixed Tryz.func128 az (sU op a b n form) ?_;unfold pL bo;refine bq ?_;intro g1 b1 e1 z1
 try simp only [aE]
 repeat' (first
  | (refine af b1 (_,()) rfl ?_; refine an ?_)
  | (refine aJ (cB _ _ _) ?_)
  | (refine aJ (bS _ _ _) ?_)
  | (refine ak (fun q=>?_) (fun q=>?_)))
 all_goals (refine ⟨?_,e1⟩; first | (simp_all [nR,cV]; done) | (simp_all [nR,cV] <;> omega))
theorem Ju (h:Hp) (op a b n form:Int):HC Tryz.prog 127 #[de op a b n form,.int .i64 10] h fun w h'=>w=.bool (cC 10 a b n)/\Ext h h':=by
 refine aZ (args:=[de op a b n form,.int .i64 10]) mixed Tryz.func127 az (py op a b n form) ?_;unfold j3 aU bo;refine bq ?_;intro g1 b1 e1 z1
 try simp only [aE]
 repeat' (first
  | (refine af b1 (_,()) rfl ?_; refine an ?_)
  | (refine aJ (cB _ _ _) ?_)
  | (refine aJ (bS _ _ _) ?_)
  | (refine ak (fun q=>?_) (fun q=>?_)))
 all_goals (refine ⟨?_,e1⟩; first | (simp_all [cC,cV]; done) | (simp_all [cC,cV] <;> simp [vB] <;> omega))
theorem M5 (h:Hp) (op a b n form:Int):HC Tryz.prog 128 #[de op a b n form,.int .i64 10] h fun w h'=>w=.bool (nR 10 n form)/\Ext h h':=by
 refine aZ (args:=[de op a b n form,.int .i64 10]) mixed Tryz.func128 az (r7 op a b n form) ?_;unfold nV;refine bq ?_;intro g1 b1 e1 z1
 try simp only [aE]
 repeat' (first
  | (refine af b1 (_,()) rfl ?_; refine an ?_)
  | (refine aJ (cB _ _ _) ?_)
  | (refine aJ (bS _ _ _) ?_)
  | (refine ak (fun q=>?_) (fun q=>?_)))
 all_goals (refine ⟨?_,e1⟩; first | (simp_all [nR,cV]; done) | (simp_all [nR,cV] <;> omega))
theorem Jt (h:Hp) (op a b n form:Int):HC Tryz.prog 127 #[de op a b n form,.int .i64 11] h fun w h'=>w=.bool (cC 11 a b n)/\Ext h h':=by
 refine aZ (args:=[de op a b n form,.int .i64 11]) mixed Tryz.func127 az (oy op a b n form) ?_;unfold jY aU bo;refine bq ?_;intro g1 b1 e1 z1
 try simp only [aE]
 repeat' (first
  | (refine af b1 (_,()) rfl ?_; refine an ?_)
  | (refine aJ (cB _ _ _) ?_)
  | (refine aJ (bS _ _ _) ?_)
  | (refine ak (fun q=>?_) (fun q=>?_)))
 all_goals (refine ⟨?_,e1⟩; first | (simp_all [cC,cV]; done) | (simp_all [cC,cV] <;> simp [vB] <;> omega))
theorem KH (h:Hp) (op a b n form:Int):HC Tryz.prog 128 #[de op a b n form,.int .i64 11] h fun w h'=>w=.bool (nR 11 n form)/\Ext h h':=by
 refine aZ (args:=[de op a b n form,.int .i64 11]) mixed Tryz.func128 az (sf op a b n form) ?_;unfold nS bo;refine bq ?_;intro g1 b1 e1 z1
 try simp only [aE]
 repeat' (first
  | (refine af b1 (_,()) rfl ?_; refine an ?_)
  | (refine aJ (cB _ _ _) ?_)
  | (refine aJ (bS _ _ _) ?_)
  | (refine ak (fun q=>?_) (fun q=>?_)))
 all_goals (refine ⟨?_,e1⟩; first | (simp_all [nR,cV]; done) | (simp_all [nR,cV] <;> omega))
theorem J6 (h:Hp) (op a b n form:Int):HC Tryz.prog 127 #[de op a b n form,.int .i64 12] h fun w h'=>w=.bool (cC 12 a b n)/\Ext h h':=by
 refine aZ (args:=[de op a b n form,.int .i64 12]) mixed Tryz.func127 az (o7 op a b n form) ?_;unfold kh bo;refine bq ?_;intro g1 b1 e1 z1
 try simp only [aE]
 repeat' (first
  | (refine af b1 (_,()) rfl ?_; refine an ?_)
  | (refine aJ (cB _ _ _) ?_)
  | (refine aJ (bS _ _ _) ?_)
  | (refine ak (fun q=>?_) (fun q=>?_)))
 all_goals (refine ⟨?_,e1⟩; first | (simp_all [cC,cV]; done) | (simp_all [cC,cV] <;> simp [vB] <;> omega))
theorem MF (h:Hp) (op a b n form:Int):HC Tryz.prog 128 #[de op a b n form,.int .i64 12] h fun w h'=>w=.bool (nR 12 n form)/\Ext h h':=by
 refine aZ (args:=[de op a b n form,.int .i64 12]) mixed Tryz.func128 az (r9 op a b n form) ?_;unfold nP aU;refine bq ?_;intro g1 b1 e1 z1
 try simp only [aE]
 repeat' (first
  | (refine af b1 (_,()) rfl ?_; refine an ?_)
  | (refine aJ (cB _ _ _) ?_)
  | (refine aJ (bS _ _ _) ?_)
  | (refine ak (fun q=>?_) (fun q=>?_)))
 all_goals (refine ⟨?_,e1⟩; first | (simp_all [nR,cV]; done) | (simp_all [nR,cV] <;> omega))
theorem IH (h:Hp) (op a b n form:Int):HC Tryz.prog 127 #[de op a b n form,.int .i64 13] h fun w h'=>w=.bool (cC 13 a b n)/\Ext h h':=by
 refine aZ (args:=[de op a b n form,.int .i64 13]) mixed Tryz.func127 az (pd op a b n form) ?_;unfold kf aU bo;refine bq ?_;intro g1 b1 e1 z1
 try simp only [aE]
 repeat' (first
  | (refine af b1 (_,()) rfl ?_; refine an ?_)
  | (refine aJ (cB _ _ _) ?_)
  | (refine aJ (bS _ _ _) ?_)
  | (refine ak (fun q=>?_) (fun q=>?_)))
 all_goals (refine ⟨?_,e1⟩; first | (simp_all [cC,cV]; done) | (simp_all [cC,cV] <;> simp [vB] <;> omega))
theorem Li (h:Hp) (op a b n form:Int):HC Tryz.prog 128 #[de op a b n form,.int .i64 13] h fun w h'=>w=.bool (nR 13 n form)/\Ext h h':=by
 refine aZ (args:=[de op a b n form,.int .i64 13]) mixed Tryz.func128 az (r8 op a b n form) ?_;unfold nJ aU;refine bq ?_;intro g1 b1 e1 z1
 try simp only [aE]
 repeat' (first
  | (refine af b1 (_,()) rfl ?_; refine an ?_)
  | (refine aJ (cB _ _ _) ?_)
  | (refine aJ (bS _ _ _) ?_)
  | (refine ak (fun q=>?_) (fun q=>?_)))
 all_goals (refine ⟨?_,e1⟩; first | (simp_all [nR,cV]; done) | (simp_all [nR,cV] <;> omega))
theorem C8 (h:Hp) (op a b n form:Int) {s:Nat} (h1:1<=s) (h2:s<=13):HC Tryz.prog 127 #[de op a b n form,.int .i64 s] h fun w h'=>w=.bool (cC s a b n)/\Ext h h':=by
 have hs:s=1\/s=2\/s=3\/s=4\/s=5\/s=6\/s=7\/s=8\/s=9\/s=10\/s=11\/s=12\/s=13:=ad
 clear h1 h2;rcases hs with rfl | rfl | rfl | rfl | rfl | rfl | rfl | rfl | rfl | rfl | rfl | rfl | rfl
 ·exact Lv h op a b n form
 ·exact Kn h op a b n form
 ·exact LV h op a b n form
 ·exact Kx h op a b n form
 ·exact Mc h op a b n form
 ·exact Kt h op a b n form
 ·exact KD h op a b n form
 ·exact Ms h op a b n form
 ·exact Ns h op a b n form
 ·exact Ju h op a b n form
 ·exact Jt h op a b n form
 ·exact J6 h op a b n form
 ·exact IH h op a b n form
theorem A' (h:Hp) (op a b n form:Int) {s:Nat} (h1:1<=s) (h2:s<=13):HC Tryz.prog 128 #[de op a b n form,.int .i64 s] h fun w h'=>w=.bool (nR s n form)/\Ext h h':=by
 have hs:s=1\/s=2\/s=3\/s=4\/s=5\/s=6\/s=7\/s=8\/s=9\/s=10\/s=11\/s=12\/s=13:=ad
 clear h1 h2;rcases hs with rfl | rfl | rfl | rfl | rfl | rfl | rfl | rfl | rfl | rfl | rfl | rfl | rfl
 ·exact Ov h op a b n form
 ·exact Qi h op a b n form
 ·exact Pk h op a b n form
 ·exact Pp h op a b n form
 ·exact Pn h op a b n form
 ·exact OD h op a b n form
 ·exact Px h op a b n form
 ·exact Pv h op a b n form
 ·exact Ph h op a b n form
 ·exact M5 h op a b n form
 ·exact KH h op a b n form
 ·exact MF h op a b n form
 ·exact Li h op a b n form
def Sm (n:Int):Prop:=-9223372036854775808<=n/\n<=9223372036854775807
theorem Eh {h:Hp} (t:An h) (op a b n form:Int) (ho:Sm op) :
  HC Tryz.prog 118 #[de op a b n form] h fun w h'=>w=.int .i64 (fW ⟨op,a,b,n,form⟩)/\Ext h h':=by
 refine aZ (args:=[de op a b n form]) mixed Tryz.func118 az (zq op a b n form) ?_;unfold xv aU bF bU bT;refine bq ?_;intro g1 b1 e1 z1;refine af b1 (op,()) rfl ?_;refine an ?_;refine aI (LU (t.ao e1 aj) op ho.1 ho.2) ?_;rintro _ g2 ⟨s,y,rfl,e2⟩;refine ⟨(s,y,((dc op:Nat):Int),decide (dc op≠0),()),rfl,?_⟩;refine an ?_;refine bq ?_;intro g3 b3 e3 z3;refine aw b3 rfl aj ?_;intro g4 b4 k4 z4;have b4:bC g4 g2.size 165 [.string s,.int .u8 y,.int .i64 (dc op:Nat)]:=b4;have e4:=((e1.trans e2).trans e3).st k4 (by have:=e1.size; have:=e2.size; omega);have b1:=b1.ao ((e2.trans e3).st k4 (by have:=e2.size; omega)) aj;unfold fW;simp only [aE];refine ak (fun q=>?_) (fun q=>?_)
 ·have q:dc op=0:=by simpa using q
  exact ⟨by rw [WC q],e4⟩
 have q:¬ dc op=0:=by simpa using q
 rw [Ww q];refine af b1 (op,a,b,n,form,()) rfl ?_;refine an ?_;refine af b4 (((dc op:Nat):Int),()) rfl ?_;refine an ?_;have hs:=gM op;refine aI (C8 g4 op a b n form (s:=dc op) ad ad) ?_;rintro _ g5 ⟨rfl,e5⟩;refine ⟨(cC (dc op) a b n,()),rfl,?_⟩;refine an ?_;have e45:=e4.trans e5;refine ak (fun q=>?_) (fun q=>?_)
 ·have q:cC (dc op) a b n=false:=by simpa using q
  exact ⟨by rw [WC q],e45⟩
 have q:cC (dc op) a b n=true:=by simpa using q
 rw [Ww (by rw [q]; simp)];have b1:=b1.ao e5 aj;have b4:=b4.ao e5 aj;refine af b1 (op,()) rfl ?_;refine an ?_;refine aI (Dl (t.ao e45 aj) op ho.1 ho.2) ?_;rintro _ g6 ⟨rfl,e6⟩;refine ⟨(qu op,()),rfl,?_⟩;refine an ?_;have e46:=e45.trans e6;have b1:=b1.ao e6 aj;have b4:=b4.ao e6 aj;refine ak (fun q=>?_) (fun q=>?_)
 ·have q:qu op=false:=by simpa using q
  refine af b1 (form,()) rfl ?_;refine an ?_;refine ak (fun r=>?_) (fun r=>?_)
  ·have r:¬ form=0:=by simpa using r
   exact ⟨by rw [q]; simp [r],e46⟩
  have r:form=0:=by simpa using r
  refine af b1 (op,a,b,n,form,()) rfl ?_;refine an ?_;refine af b4 (((dc op:Nat):Int),()) rfl ?_;refine an ?_;refine aI (A' g6 op a b n form (s:=dc op) ad ad) ?_;rintro _ g7 ⟨rfl,e7⟩;refine ⟨(nR (dc op) n form,()),rfl,?_⟩;refine an ?_;refine ak (fun p=>?_) (fun p=>?_)
  ·exact ⟨by rw [q]; simp_all,e46.trans e7⟩
  ·exact ⟨by rw [q]; simp_all,e46.trans e7⟩
 ·have q:qu op=true:=by simpa using q
  refine af b1 (op,a,b,n,form,()) rfl ?_;refine an ?_;refine af b4 (((dc op:Nat):Int),()) rfl ?_;refine an ?_;refine aI (A' g6 op a b n form (s:=dc op) ad ad) ?_;rintro _ g7 ⟨rfl,e7⟩;refine ⟨(nR (dc op) n form,()),rfl,?_⟩;refine an ?_;refine ak (fun p=>?_) (fun p=>?_)
  ·exact ⟨by rw [q]; simp_all,e46.trans e7⟩
  ·exact ⟨by rw [q]; simp_all,e46.trans e7⟩
def encI (p:Option YC) (l c:Nat) (x:cz):List YB:=[.int .i64 x.kind,.string x.name,.int .i64 x.inst.op,.int .i64 x.inst.a,.int .i64 x.inst.b,.int .i32 x.inst.n,.int .i64 x.inst.form,.slice p l c,.int .u32 x.e.num,.int .i64 x.n]
def pP (p:Option YC) (l c:Nat) (x:cz):YB:=.agg (encI p l c x).toArray
structure oc (h:Hp) (p:Option YC) (l:Nat) (x:bZ):Prop where
 vw:gp h p l x.ai
 many:x.ai.length<=2^60
 names:∀ t,t∈x.ai->t.1.size<=maxLen
theorem oc.ao {h:Hp} {p:Option YC} {l:Nat} {x:bZ} (v:oc h p l x) (k:Ext h h'):oc h' p l x:=⟨v.vw.ao k aj,v.many,v.names⟩
theorem gp.none (h:Hp):gp h none 0 []:=⟨rfl,fun i hi=>absurd hi aj⟩
theorem qF (x:bZ):nw x DU=N3 x:=by
 unfold nw N3 DU;rw [Bool.and_comm]
def Hs (g k:Nat):T :=
 T.ah ⟨g,5,none⟩ [.int .i32] <| fun (n16:Int) =>
 cond (n16==(0:Int))
  (T.ah ⟨k,0,none⟩ [.int .i64,.int .i64,.int .i64,.int .i32,.int .i64] <| fun (n17:Int) (n18:Int) (n19:Int) (n20:Int) (n21:Int) =>
  bF 118 [.agg #[.int .i64 n17,.int .i64 n18,.int .i64 n19,.int .i32 n20,.int .i64 n21]] false [aM] <| fun (n22:Int) =>
  cond (n22==(0:Int))
  (T.ah ⟨g,7,none⟩ [.slice 66,.int .u32] <| fun (p23:Option YC) (l24:Nat) (l25:Nat) (n26:Int) =>
  bF 80 [.agg #[.slice p23 l24 l25,.int .u32 n26]] false [bT] <| fun (b27:Bool) =>
  T.ret (.bool b27))
  bo)
  bo
def Ks (g k:Nat):T :=
 T.ah ⟨k,0,none⟩ [.int .i64,.int .i64,.int .i64,.int .i32,.int .i64] <| fun (n16:Int) (n17:Int) (n18:Int) (n19:Int) (n20:Int) =>
 bF 118 [.agg #[.int .i64 n16,.int .i64 n17,.int .i64 n18,.int .i32 n19,.int .i64 n20]] false [aM] <| fun (n21:Int) =>
 cond (n21==(0:Int))
  (T.ah ⟨g,7,none⟩ [.slice 66,.int .u32] <| fun (p22:Option YC) (l23:Nat) (l24:Nat) (n25:Int) =>
  bF 101 [.agg #[.slice p22 l23 l24,.int .u32 n25],.agg #[bi,.int .u32 (0:Int)]] false [bT] <| fun (b26:Bool) =>
  T.ret (.bool b26))
  bo
def nB (i:Ins):List YB:=[.int .i64 i.op,.int .i64 i.a,.int .i64 i.b,.int .i32 i.n,.int .i64 i.form]
theorem FB {L:Lp} {h0 h:Hp} (t:An h) {x:cz} {p:Option YC} {l c g k:Nat} {i:Ins} (b1:bC h g e1 (encI p l c x)) (b2:bC h k e2 (nB i)) (v:oc h p l x.e) (ho:Sm i.op) (e:Ext h0 h) :
  Hs g k L (fun w h'=>w=.bool (decide (x.inst.n=0) && decide (fW i=0) && mZ none x.e.ai)/\Ext h0 h') h:=by
 unfold Hs bF bo aM bT;refine af b1 (x.inst.n,()) rfl ?_;refine an ?_;refine ak (fun q=>?_) (fun q=>?_)
 ·have q:x.inst.n=0:=by simpa using q
  refine af b2 (i.op,i.a,i.b,i.n,i.form,()) rfl ?_;refine an ?_;refine aI (Eh t i.op i.a i.b i.n i.form ho) ?_;rintro _ g2 ⟨rfl,e2⟩;refine ⟨(fW i,()),rfl,?_⟩;refine an ?_;refine ak (fun r=>?_) (fun r=>?_)
  ·have r:fW i=0:=by simpa using r
   refine af (b1.ao e2 aj) ((p,l,c),(x.e.num:Int),()) rfl ?_;refine an ?_;refine aI (sR (c:=c) (v.ao e2).vw (by have:=v.many; omega) v.names) ?_;rintro _ g3 ⟨rfl,e3⟩;refine ⟨(mZ none x.e.ai,()),rfl,?_⟩;exact ⟨by rw [WB q,WB r]; rfl,(e.trans e2).trans e3⟩
  ·have r:¬ fW i=0:=by simpa using r
   exact ⟨by rw [WE r,Yv]; rfl,e.trans e2⟩
 ·have q:¬ x.inst.n=0:=by simpa using q
  exact ⟨by rw [WE q]; rfl,e⟩
theorem NP {L:Lp} {h0 h:Hp} (t:An h) {x:cz} {p:Option YC} {l c g k:Nat} {i:Ins} (b1:bC h g e1 (encI p l c x)) (b2:bC h k e2 (nB i)) (v:oc h p l x.e) (ho:Sm i.op) (e:Ext h0 h) :
  Ks g k L (fun w h'=>w=.bool (decide (fW i=0) && N3 x.e)/\Ext h0 h') h:=by
 unfold Ks bF bo bi aM bT;refine af b2 (i.op,i.a,i.b,i.n,i.form,()) rfl ?_;refine an ?_;refine aI (Eh t i.op i.a i.b i.n i.form ho) ?_;rintro _ g2 ⟨rfl,e2⟩;refine ⟨(fW i,()),rfl,?_⟩;refine an ?_;refine ak (fun r=>?_) (fun r=>?_)
 ·have r:fW i=0:=by simpa using r
  refine af (b1.ao e2 aj) ((p,l,c),(x.e.num:Int),()) rfl ?_;refine an ?_;refine aI (A7 (c:=c) (d:=0) (y:=DU) (v.ao e2).vw (gp.none g2) v.many) ?_;rintro _ g3 ⟨rfl,e3⟩;refine ⟨(nw x.e DU,()),rfl,?_⟩;exact ⟨by rw [WB r,qF]; rfl,(e.trans e2).trans e3⟩
 ·have r:¬ fW i=0:=by simpa using r
  exact ⟨by rw [WE r]; rfl,e.trans e2⟩
theorem instruction_hc {h:Hp} (t:An h) {x:cz} {p:Option YC} {l c:Nat} (v:oc h p l x.e) (ho:Sm x.inst.op) :
  HC Tryz.prog 99 #[pP p l c x] h fun w h'=>w=.bool (yJ x.inst x.e)/\Ext h h':=by
 refine aZ (args:=[pP p l c x]) mixed Tryz.func99 az (pS x.kind x.name x.inst.op x.inst.a x.inst.b x.inst.n x.inst.form p l c x.e.num x.n) ?_;unfold kW aU cn bF bo bi bU bT;refine bq ?_;intro g1 b1 e1 z1;have b1:bC g1 h.size 64 (encI p l c x):=b1;simp only [aE];refine af b1 (x.inst.op,()) rfl ?_;refine an ?_;refine aI (LU (t.ao e1 aj) x.inst.op ho.1 ho.2) ?_;rintro _ g2 ⟨s,y,rfl,e2⟩;refine ⟨(s,y,((dc x.inst.op:Nat):Int),decide (dc x.inst.op≠0),()),rfl,?_⟩;refine an ?_;refine bq ?_;intro g3 b3 e3 z3;refine aw b3 rfl aj ?_;intro g4 b4 k4 z4;have b4:bC g4 g2.size 165 [.string s,.int .u8 y,.int .i64 (dc x.inst.op:Nat)]:=b4;have s1:=e1.size;have s2:=e2.size;have e14:=(e2.trans e3).st k4 ad;have e4:=e1.trans e14;have b1:=b1.ao e14 aj;unfold yJ;refine ak (fun q=>?_) (fun q=>?_)
 ·have q:dc x.inst.op=0:=by simpa using q
  exact ⟨by rw [q]; rfl,e4⟩
 have q:dc x.inst.op≠0:=by simpa using q
 rw [WB q,W9];refine af b1 (x.inst.form,()) rfl ?_;refine an ?_;refine ak (fun r=>?_) (fun r=>?_)
 ·have r:¬ x.inst.form=0:=by simpa using r
  exact ⟨by rw [WE r]; rfl,e4⟩
 have r:x.inst.form=0:=by simpa using r
 rw [WB r,W9];refine af b1 (x.inst.op,x.inst.a,x.inst.b,x.inst.n,x.inst.form,()) rfl ?_;refine an ?_;refine bq ?_;intro g5 b5 e5 z5;refine aw b5 rfl aj ?_;intro g6 b6 k6 z6;have b6:bC g6 g4.size 62 (nB x.inst):=b6;have e46:=e5.st k6 ad;have e6:=e4.trans e46;have b1:=b1.ao e46 aj;have b4:=b4.ao e46 aj;simp only [aE];have hs:=gM x.inst.op;refine af b4 (((dc x.inst.op:Nat):Int),()) rfl ?_;refine an ?_;generalize hB:(if DQ x.inst.op=true then decide (x.inst.n=0) && decide (fW { x.inst with form:=if qu x.inst.op=true then 1 else 0 }=0) && mZ none x.e.ai else decide (fW x.inst=0) && N3 x.e)=B;have hF:{ x.inst with form:=0 }=x.inst:=by
  rcases hx:x.inst with ⟨a1,a2,a3,a4,a5⟩
  rw [hx] at r;simp only at r;rw [r]
 have hA:12<=dc x.inst.op->T.aD ⟨g4.size,4,none⟩ [.int .i64 1] (Hs h.size g4.size) [] (fun w h'=>w=.bool B/\Ext h h') g6:=by
  intro hh;refine aw b6 rfl (by simp [nB]) ?_;intro g7 b7 k7 z7;have b7:bC g7 g4.size 62 (nB { x.inst with form:=1 }):=b7;have e67:Ext g4 g7:=e46.st k7 ad;have e7:=e4.trans e67;have hw:DQ x.inst.op=true:=WB ad;have hp:qu x.inst.op=true:=WB hh;rw [WC hw,WC hp] at hB
  have:=FB (L:=[]) (h0:=h) (t.ao e7 aj) (b1.ao k7 (by simp; omega)) b7 (v.ao e7) ho e7
  rw [hB] at this;exact this
 have hR:dc x.inst.op=10\/dc x.inst.op=11->Hs h.size g4.size [] (fun w h'=>w=.bool B/\Ext h h') g6:=by
  intro hh;have hw:DQ x.inst.op=true:=WB ad;have hp:¬ qu x.inst.op=true:=by unfold qu; rw [WE ad]; simp
  rw [WC hw,Ww hp,hF] at hB
  have:=FB (L:=[]) (h0:=h) (t.ao e6 aj) b1 b6 (v.ao e6) ho e6
  rw [hB] at this;exact this
 have hS:dc x.inst.op<10->Ks h.size g4.size [] (fun w h'=>w=.bool B/\Ext h h') g6:=by
  intro hh;have hw:¬ DQ x.inst.op=true:=by unfold DQ; rw [WE ad]; simp
  rw [Ww hw] at hB
  have:=NP (L:=[]) (h0:=h) (t.ao e6 aj) b1 b6 (v.ao e6) ho e6
  rw [hB] at this;exact this
 clear hB;refine ak (fun q1=>?_) (fun q1=>?_)
 ·have q1:((dc x.inst.op:Nat):Int)=12:=by simpa using q1
  refine ak (fun q2=>hA ad) (fun q2=>?_);have q2:¬ ((dc x.inst.op:Nat):Int)=12:=by simpa using q2
  exact absurd q1 q2
 have q1:¬ ((dc x.inst.op:Nat):Int)=12:=by simpa using q1
 refine ak (fun q2=>?_) (fun q2=>?_)
 ·have q2:((dc x.inst.op:Nat):Int)=13:=by simpa using q2
  exact hA ad
 have q2:¬ ((dc x.inst.op:Nat):Int)=13:=by simpa using q2
 refine ak (fun q3=>?_) (fun q3=>?_)
 ·have q3:((dc x.inst.op:Nat):Int)=10:=by simpa using q3
  refine ak (fun q2=>hR ad) (fun q4=>?_);have q4:¬ ((dc x.inst.op:Nat):Int)=10:=by simpa using q4
  exact absurd q3 q4
 have q3:¬ ((dc x.inst.op:Nat):Int)=10:=by simpa using q3
 refine ak (fun q4=>?_) (fun q4=>?_)
 ·have q4:((dc x.inst.op:Nat):Int)=11:=by simpa using q4
  exact hR ad
 have q4:¬ ((dc x.inst.op:Nat):Int)=11:=by simpa using q4
 exact hS ad
structure lA (h:Hp) (p:Option YC) (l:Nat) (x:cz):Prop where
 lin:oc h p l x.e
 name:x.name.size<=maxLen
 op:Sm x.inst.op
theorem lA.ao {h:Hp} {p:Option YC} {l:Nat} {x:cz} (v:lA h p l x) (k:Ext h h'):lA h' p l x:=⟨v.lin.ao k,v.name,v.op⟩
def ka (x y:cz):Bool:=decide (x.name=y.name) && decide (x.inst=y.inst) && decide (x.n=y.n) && nw x.e y.e
theorem QP:Tryz.prog.underlying 62=some (.struct (Ar Tryz.prog 62)):=az
theorem S5 (x y:Operand) (i j:Ins) (h:Hp) (K:YB->Hp->Prop) (hk:K (.bool !(decide (i=j))) h) :
  aP Tryz.prog (Sx.iK (BinOp.neq) 62 x y (.agg (nB i).toArray) (.agg (nB j).toArray)) h K:=by
 refine uu QP az az az K ?_;have he:(Ar Tryz.prog 62).all (FH (nB i).toArray (nB j).toArray)=(i.op==j.op && (i.a==j.a && (i.b==j.b && (i.n==j.n && (i.form==j.form && true))))):=by
  rw [<- XL]
  kernel_rfl
 rw [he,XX]
 have:(i.op==j.op && (i.a==j.a && (i.b==j.b && (i.n==j.n && i.form==j.form))))=decide (i=j):=by
  rcases i with ⟨a1,a2,a3,a4,a5⟩
  rcases j with ⟨c1,c2,c3,c4,c5⟩
  simp only [cV,Ins.mk.injEq]
  by_cases h1:a1=c1 <;> by_cases h2:a2=c2 <;> by_cases h3:a3=c3 <;> by_cases h4:a4=c4 <;> by_cases h5:a5=c5 <;> simp [h1,h2,h3,h4,h5]
 rw [this];exact hk
def V3 (g k:Nat):T :=
 T.ah ⟨g,1,none⟩ [.string] <| fun (s8:YA) =>
 T.ah ⟨k,1,none⟩ [.string] <| fun (s9:YA) =>
 cond (!((ByteArray.toList s8)==(ByteArray.toList s9)))
  (T.ret (.int .i64 (31:Int)))
  (T.ah ⟨g,2,none⟩ [.int .i64,.int .i64,.int .i64,.int .i32,.int .i64] <| fun (n10:Int) (n11:Int) (n12:Int) (n13:Int) (n14:Int) =>
  T.ah ⟨k,2,none⟩ [.int .i64,.int .i64,.int .i64,.int .i32,.int .i64] <| fun (n15:Int) (n16:Int) (n17:Int) (n18:Int) (n19:Int) =>
  bK (Sx.iK (BinOp.neq) 62 (Operand.tmp 109) (Operand.tmp 111) (.agg #[.int .i64 n10,.int .i64 n11,.int .i64 n12,.int .i32 n13,.int .i64 n14]) (.agg #[.int .i64 n15,.int .i64 n16,.int .i64 n17,.int .i32 n18,.int .i64 n19])) false [bT] <| fun (b20:Bool) =>
  cond b20
  (T.ret (.int .i64 (31:Int)))
  (T.ah ⟨g,9,none⟩ [.int .i64] <| fun (n21:Int) =>
  T.ah ⟨k,9,none⟩ [.int .i64] <| fun (n22:Int) =>
  cond (n21 != n22)
   (T.ret (.int .i64 (31:Int)))
   (T.ah ⟨g,7,none⟩ [.slice 66,.int .u32] <| fun (p23:Option YC) (l24:Nat) (l25:Nat) (n26:Int) =>
   T.ah ⟨k,7,none⟩ [.slice 66,.int .u32] <| fun (p27:Option YC) (l28:Nat) (l29:Nat) (n30:Int) =>
   bF 101 [.agg #[.slice p23 l24 l25,.int .u32 n26],.agg #[.slice p27 l28 l29,.int .u32 n30]] false [bT] <| fun (b31:Bool) =>
   cond (!b31)
   (T.ret (.int .i64 (31:Int)))
   (T.ret (.int .i64 (0:Int))))))
def CK (b:Bool):YB:=.int .i64 (if b then 0 else 31)
theorem oY {L:Lp} {h0 h:Hp} {x y:cz} {p q:Option YC} {l c m d g k:Nat} (b1:bC h g e1 (encI p l c x)) (b2:bC h k e2 (encI q m d y)) (v:oc h p l x.e) (w:gp h q m y.e.ai) (e:Ext h0 h) :
  V3 g k L (fun w h'=>w=CK (ka x y)/\Ext h0 h') h:=by
 unfold V3 ka bF bK bT;refine af b1 (x.name,()) rfl ?_;refine an ?_;refine af b2 (y.name,()) rfl ?_;refine an ?_;rw [ByteArray.toList_eq,ByteArray.toList_eq];refine ak (fun r=>?_) (fun r=>?_)
 ·have r:¬ x.name=y.name:=fun he=>by rw [he] at r; simp at r
  exact ⟨by rw [WE r]; rfl,e⟩
 have r:x.name=y.name:=CF (by simpa using r);rw [WB r,W9];refine af b1 (x.inst.op,x.inst.a,x.inst.b,x.inst.n,x.inst.form,()) rfl ?_;refine an ?_;refine af b2 (y.inst.op,y.inst.a,y.inst.b,y.inst.n,y.inst.form,()) rfl ?_;refine an ?_;refine nW (fun K' hK=>S5 _ _ x.inst y.inst h K' hK) ?_;refine ak (fun r=>?_) (fun r=>?_)
 ·have r:¬ x.inst=y.inst:=by simpa using r
  exact ⟨by rw [WE r]; rfl,e⟩
 have r:x.inst=y.inst:=by simpa using r
 rw [WB r,W9];refine af b1 (x.n,()) rfl ?_;refine an ?_;refine af b2 (y.n,()) rfl ?_;refine an ?_;refine ak (fun r=>?_) (fun r=>?_)
 ·have r:¬ x.n=y.n:=by simpa using r
  exact ⟨by rw [WE r]; rfl,e⟩
 have r:x.n=y.n:=by simpa using r
 rw [WB r,W9];refine af b1 ((p,l,c),(x.e.num:Int),()) rfl ?_;refine an ?_;refine af b2 ((q,m,d),(y.e.num:Int),()) rfl ?_;refine an ?_;refine aI (A7 (c:=c) (d:=d) v.vw w v.many) ?_;rintro _ g3 ⟨rfl,e3⟩;refine ⟨(nw x.e y.e,()),rfl,?_⟩;refine an ?_;refine ak (fun r=>?_) (fun r=>?_)
 ·have r:nw x.e y.e=false:=by simpa using r
  exact ⟨by rw [r]; rfl,e.trans e3⟩
 ·have r:nw x.e y.e=true:=by simpa using r
  exact ⟨by rw [r]; rfl,e.trans e3⟩
theorem tG (x:bZ):nw x x=true:=JI x
theorem B8 {x:cz} (hk:x.kind=1):ct x sec=(cP x.name.data.toList && ka x { fj x.kind with name:=x.name }):=by
 unfold ct ka;simp only [hk,fj,tG,qF,z1,z2,z3,z4];simp (decide:=true) only [if_true,if_false,Yr,W9,XX]
 try simp only [Bool.and_assoc,Bool.and_comm,Bool.and_left_comm]
theorem L4 {x:cz} (hk:x.kind=2):ct x sec=(decide (sec=0) && yJ x.inst x.e && ka x { fj x.kind with inst:=x.inst,e:=x.e }):=by
 unfold ct ka;simp only [hk,fj,tG,qF,z1,z2,z3,z4];simp (decide:=true) only [if_true,if_false,Yr,W9,XX]
 try simp only [Bool.and_assoc,Bool.and_comm,Bool.and_left_comm]
theorem Lg {x:cz} (hk:x.kind=3):ct x sec=(tF x.n && ka x { fj x.kind with n:=x.n }):=by
 unfold ct ka;simp only [hk,fj,tG,qF,z1,z2,z3,z4];simp (decide:=true) only [if_true,if_false,Yr,W9,XX]
 try simp only [Bool.and_assoc,Bool.and_comm,Bool.and_left_comm]
theorem NF {x:cz} (hk:x.kind=4):ct x sec=(decide (sec=0) && ka x (fj x.kind)):=by
 unfold ct ka;simp only [hk,fj,tG,qF,z1,z2,z3,z4];simp (decide:=true) only [if_true,if_false,Yr,W9,XX]
 try simp only [Bool.and_assoc,Bool.and_comm,Bool.and_left_comm]
theorem LG {x:cz} (hk:x.kind=5):ct x sec=(decide (sec=1) && decide (-128<=x.n) && decide (x.n<=255) && ka x { fj x.kind with n:=x.n }):=by
 unfold ct ka;simp only [hk,fj,tG,qF,z1,z2,z3,z4];simp (decide:=true) only [if_true,if_false,Yr,W9,XX]
 try simp only [Bool.and_assoc,Bool.and_comm,Bool.and_left_comm]
theorem LS {x:cz} (hk:x.kind=6):ct x sec=(decide (sec=1) && mZ none x.e.ai && ka x { fj x.kind with e:=x.e }):=by
 unfold ct ka;simp only [hk,fj,tG,qF,z1,z2,z3,z4];simp (decide:=true) only [if_true,if_false,Yr,W9,XX]
 try simp only [Bool.and_assoc,Bool.and_comm,Bool.and_left_comm]
theorem MY {x:cz} (hk:x.kind=7):ct x sec=(decide (sec=1) && decide (0<=x.n) && decide (x.n<=1048576) && ka x { fj x.kind with n:=x.n }):=by
 unfold ct ka;simp only [hk,fj,tG,qF,z1,z2,z3,z4];simp (decide:=true) only [if_true,if_false,Yr,W9,XX]
 try simp only [Bool.and_assoc,Bool.and_comm,Bool.and_left_comm]
theorem HQ {x:cz} (h1:x.kind≠1) (h2:x.kind≠2) (h3:x.kind≠3) (h4:x.kind≠4) (h5:x.kind≠5) (h6:x.kind≠6) (h7:x.kind≠7):ct x sec=false:=by
 unfold ct;rw [Ww h1,Ww h2,Ww h3,Ww h4,Ww h5,Ww h6,Ww h7]
theorem Kv {h:Hp} (t:An h) {x:cz} {p:Option YC} {l c:Nat} (v:lA h p l x) :
  HC Tryz.prog 78 #[pP p l c x,.int .i64 0] h fun w h'=>w=CK (ct x 0)/\Ext h h':=by
 refine aZ (args:=[pP p l c x,.int .i64 0]) mixed Tryz.func78 az (te x.kind x.name x.inst.op x.inst.a x.inst.b x.inst.n x.inst.form p l c x.e.num x.n) ?_;unfold pI aU dT bi bU;refine bq ?_;intro g1 b1 e1 z1;have b1:bC g1 h.size 64 (encI p l c x):=b1;refine af b1 (x.kind,()) rfl ?_;refine an ?_;refine bq ?_;intro g2 b2 e2 z2;refine aw b2 rfl aj ?_;intro g3 b3 k3 z3;have b3:bC g3 g1.size 64 (encI none 0 0 (fj x.kind)):=b3;have s1:=e1.size;have e13:=e2.st k3 (WH _);have e3:=e1.trans e13;have b1:=b1.ao e13 aj;simp only [aE];refine af b1 (x.kind,()) rfl ?_;refine an ?_;refine ak (fun q=>?_) (fun q=>?_)
 ·have q:x.kind=1:=by simpa using q
  rw [B8 q];refine af b1 (x.name,()) rfl ?_;refine an ?_;refine aw b3 rfl (by simp [encI]) ?_;intro g4 b4 k4 z4;have b4:bC g4 g1.size 64 (encI none 0 0 { fj x.kind with name:=x.name }):=b4;have e4:=e3.st k4 ad;have b1:=b1.ao k4 (by simp; omega);refine af b1 (x.name,()) rfl ?_;refine an ?_;refine aJ (uL x.name g4 (by have:=v.name; have:maxLen=9223372036854775807:=rfl; omega)) ?_;refine ak (fun r=>?_) (fun r=>?_)
  ·have r:cP x.name.data.toList=false:=by simpa using r
   exact ⟨by rw [r]; rfl,e4⟩
  have r:cP x.name.data.toList=true:=by simpa using r
  rw [r,W9];have hh:=oY (L:=[]) (h0:=h) (y:={ fj x.kind with name:=x.name }) b1 b4 (v.lin.ao e4) (gp.none g4) e4;exact hh
 have q1:x.kind≠1:=by simpa using q
 refine ak (fun q=>?_) (fun q=>?_)
 ·have q:x.kind=2:=by simpa using q
  rw [L4 q];refine af b1 (x.inst.op,x.inst.a,x.inst.b,x.inst.n,x.inst.form,()) rfl ?_;refine an ?_;refine af b1 ((p,l,c),(x.e.num:Int),()) rfl ?_;refine an ?_;refine aw b3 rfl (by simp [encI]) ?_;intro g4 b4 k4 z4;have e4:=e3.st k4 ad;have b1:=b1.ao k4 (by simp; omega);refine ⟨⟨b1.cells [.slice p l c,.int .u32 x.e.num] rfl,trivial⟩,?_⟩;refine aw b4 rfl (by simp [encI,lG]) ?_;intro g5 b5 k5 z5;have b5:bC g5 g1.size 64 (encI p l c { fj x.kind with inst:=x.inst,e:=x.e }):=b5;have e5:=e4.st k5 ad;have b1:=b1.ao k5 (by simp; omega);refine af b1 (x.kind,x.name,x.inst.op,x.inst.a,x.inst.b,x.inst.n,x.inst.form,(p,l,c),(x.e.num:Int),x.n,()) rfl ?_;refine an ?_;refine aI (instruction_hc (c:=c) (t.ao e5 aj) (v.lin.ao e5) v.op) ?_;rintro _ g6 ⟨rfl,e6'⟩;refine ⟨(yJ x.inst x.e,()),rfl,?_⟩;refine an ?_;have e6:=e5.trans e6';refine ak (fun r=>?_) (fun r=>?_)
  ·have r:yJ x.inst x.e=false:=by simpa using r
   exact ⟨by rw [r]; rfl,e6⟩
  have r:yJ x.inst x.e=true:=by simpa using r
  rw [r];have b1:=b1.ao e6' aj;have b5:=b5.ao e6' aj;have hh:=oY (L:=[]) (h0:=h) (y:={ fj x.kind with inst:=x.inst,e:=x.e }) b1 b5 (v.lin.ao e6) (v.lin.ao e6).vw e6;exact hh
 have q2:x.kind≠2:=by simpa using q
 refine ak (fun q=>?_) (fun q=>?_)
 ·have q:x.kind=3:=by simpa using q
  rw [Lg q];refine af b1 (x.n,()) rfl ?_;refine an ?_;refine aw b3 rfl (by simp [encI]) ?_;intro g4 b4 k4 z4;have b4:bC g4 g1.size 64 (encI none 0 0 { fj x.kind with n:=x.n }):=b4;have e4:=e3.st k4 ad;have b1:=b1.ao k4 (by simp; omega);refine af b1 (x.n,()) rfl ?_;refine an ?_;refine aJ (Dn g4 x.n) ?_;refine ak (fun r=>?_) (fun r=>?_)
  ·have r:tF x.n=false:=by simpa using r
   exact ⟨by rw [r]; rfl,e4⟩
  have r:tF x.n=true:=by simpa using r
  rw [r,W9];have hh:=oY (L:=[]) (h0:=h) (y:={ fj x.kind with n:=x.n }) b1 b4 (v.lin.ao e4) (gp.none g4) e4;exact hh
 have q3:x.kind≠3:=by simpa using q
 refine ak (fun q=>?_) (fun q=>?_)
 ·have q:x.kind=4:=by simpa using q
  rw [NF q];have hh:=oY (L:=[]) (h0:=h) (y:=(fj x.kind)) b1 b3 (v.lin.ao e3) (gp.none g3) e3;exact hh
 have q4:x.kind≠4:=by simpa using q
 refine ak (fun q=>?_) (fun q=>?_)
 ·have q:x.kind=5:=by simpa using q
  rw [LG q];refine af b1 (x.n,()) rfl ?_;refine an ?_;refine aw b3 rfl (by simp [encI]) ?_;intro g4 b4 k4 z4;have b4:bC g4 g1.size 64 (encI none 0 0 { fj x.kind with n:=x.n }):=b4;have e4:=e3.st k4 ad;have b1:=b1.ao k4 (by simp; omega);exact ⟨rfl,e4⟩
 have q5:x.kind≠5:=by simpa using q
 refine ak (fun q=>?_) (fun q=>?_)
 ·have q:x.kind=6:=by simpa using q
  rw [LS q];refine af b1 ((p,l,c),(x.e.num:Int),()) rfl ?_;refine an ?_;refine aw b3 rfl (by simp [encI]) ?_;intro g4 b4 k4 z4;have b4:bC g4 g1.size 64 (encI p l c { fj x.kind with e:=x.e }):=b4;have e4:=e3.st k4 ad;have b1:=b1.ao k4 (by simp; omega);exact ⟨rfl,e4⟩
 have q6:x.kind≠6:=by simpa using q
 refine ak (fun q=>?_) (fun q=>?_)
 ·have q:x.kind=7:=by simpa using q
  rw [MY q];refine af b1 (x.n,()) rfl ?_;refine an ?_;refine aw b3 rfl (by simp [encI]) ?_;intro g4 b4 k4 z4;have b4:bC g4 g1.size 64 (encI none 0 0 { fj x.kind with n:=x.n }):=b4;have e4:=e3.st k4 ad;have b1:=b1.ao k4 (by simp; omega);exact ⟨rfl,e4⟩
 have q7:x.kind≠7:=by simpa using q
 exact ⟨by rw [HQ q1 q2 q3 q4 q5 q6 q7]; rfl,e3⟩
theorem MH {h:Hp} (t:An h) {x:cz} {p:Option YC} {l c:Nat} (v:lA h p l x) :
  HC Tryz.prog 78 #[pP p l c x,.int .i64 1] h fun w h'=>w=CK (ct x 1)/\Ext h h':=by
 refine aZ (args:=[pP p l c x,.int .i64 1]) mixed Tryz.func78 az (th x.kind x.name x.inst.op x.inst.a x.inst.b x.inst.n x.inst.form p l c x.e.num x.n) ?_;unfold pD aU dT bi bU;refine bq ?_;intro g1 b1 e1 z1;have b1:bC g1 h.size 64 (encI p l c x):=b1;refine af b1 (x.kind,()) rfl ?_;refine an ?_;refine bq ?_;intro g2 b2 e2 z2;refine aw b2 rfl aj ?_;intro g3 b3 k3 z3;have b3:bC g3 g1.size 64 (encI none 0 0 (fj x.kind)):=b3;have s1:=e1.size;have e13:=e2.st k3 (WH _);have e3:=e1.trans e13;have b1:=b1.ao e13 aj;simp only [aE];refine af b1 (x.kind,()) rfl ?_;refine an ?_;refine ak (fun q=>?_) (fun q=>?_)
 ·have q:x.kind=1:=by simpa using q
  rw [B8 q];refine af b1 (x.name,()) rfl ?_;refine an ?_;refine aw b3 rfl (by simp [encI]) ?_;intro g4 b4 k4 z4;have b4:bC g4 g1.size 64 (encI none 0 0 { fj x.kind with name:=x.name }):=b4;have e4:=e3.st k4 ad;have b1:=b1.ao k4 (by simp; omega);refine af b1 (x.name,()) rfl ?_;refine an ?_;refine aJ (uL x.name g4 (by have:=v.name; have:maxLen=9223372036854775807:=rfl; omega)) ?_;refine ak (fun r=>?_) (fun r=>?_)
  ·have r:cP x.name.data.toList=false:=by simpa using r
   exact ⟨by rw [r]; rfl,e4⟩
  have r:cP x.name.data.toList=true:=by simpa using r
  rw [r,W9];have hh:=oY (L:=[]) (h0:=h) (y:={ fj x.kind with name:=x.name }) b1 b4 (v.lin.ao e4) (gp.none g4) e4;exact hh
 have q1:x.kind≠1:=by simpa using q
 refine ak (fun q=>?_) (fun q=>?_)
 ·have q:x.kind=2:=by simpa using q
  rw [L4 q];refine af b1 (x.inst.op,x.inst.a,x.inst.b,x.inst.n,x.inst.form,()) rfl ?_;refine an ?_;refine af b1 ((p,l,c),(x.e.num:Int),()) rfl ?_;refine an ?_;refine aw b3 rfl (by simp [encI]) ?_;intro g4 b4 k4 z4;have e4:=e3.st k4 ad;have b1:=b1.ao k4 (by simp; omega);refine ⟨⟨b1.cells [.slice p l c,.int .u32 x.e.num] rfl,trivial⟩,?_⟩;refine aw b4 rfl (by simp [encI,lG]) ?_;intro g5 b5 k5 z5;have b5:bC g5 g1.size 64 (encI p l c { fj x.kind with inst:=x.inst,e:=x.e }):=b5;have e5:=e4.st k5 ad;have b1:=b1.ao k5 (by simp; omega);exact ⟨rfl,e5⟩
 have q2:x.kind≠2:=by simpa using q
 refine ak (fun q=>?_) (fun q=>?_)
 ·have q:x.kind=3:=by simpa using q
  rw [Lg q];refine af b1 (x.n,()) rfl ?_;refine an ?_;refine aw b3 rfl (by simp [encI]) ?_;intro g4 b4 k4 z4;have b4:bC g4 g1.size 64 (encI none 0 0 { fj x.kind with n:=x.n }):=b4;have e4:=e3.st k4 ad;have b1:=b1.ao k4 (by simp; omega);refine af b1 (x.n,()) rfl ?_;refine an ?_;refine aJ (Dn g4 x.n) ?_;refine ak (fun r=>?_) (fun r=>?_)
  ·have r:tF x.n=false:=by simpa using r
   exact ⟨by rw [r]; rfl,e4⟩
  have r:tF x.n=true:=by simpa using r
  rw [r,W9];have hh:=oY (L:=[]) (h0:=h) (y:={ fj x.kind with n:=x.n }) b1 b4 (v.lin.ao e4) (gp.none g4) e4;exact hh
 have q3:x.kind≠3:=by simpa using q
 refine ak (fun q=>?_) (fun q=>?_)
 ·have q:x.kind=4:=by simpa using q
  rw [NF q];exact ⟨rfl,e3⟩
 have q4:x.kind≠4:=by simpa using q
 refine ak (fun q=>?_) (fun q=>?_)
 ·have q:x.kind=5:=by simpa using q
  rw [LG q];refine af b1 (x.n,()) rfl ?_;refine an ?_;refine aw b3 rfl (by simp [encI]) ?_;intro g4 b4 k4 z4;have b4:bC g4 g1.size 64 (encI none 0 0 { fj x.kind with n:=x.n }):=b4;have e4:=e3.st k4 ad;have b1:=b1.ao k4 (by simp; omega);refine af b1 (x.n,()) rfl ?_;refine an ?_;refine ak (fun r=>?_) (fun r=>?_)
  ·have r:=Ws r;refine af b1 (x.n,()) rfl ?_;refine an ?_;refine ak (fun r2=>?_) (fun r2=>?_)
   ·have r2:¬ x.n<=255:=by simpa using r2
    exact ⟨by rw [WE r2,Yv]; rfl,e4⟩
   have r2:x.n<=255:=by simpa using r2
   rw [WB r2,WB (show -128<=x.n from r)];have hh:=oY (L:=[]) (h0:=h) (y:={ fj x.kind with n:=x.n }) b1 b4 (v.lin.ao e4) (gp.none g4) e4;exact hh
  ·have r:=Wt r;exact ⟨by rw [WE (show ¬ -128<=x.n from r),Yv]; rfl,e4⟩
 have q5:x.kind≠5:=by simpa using q
 refine ak (fun q=>?_) (fun q=>?_)
 ·have q:x.kind=6:=by simpa using q
  rw [LS q];refine af b1 ((p,l,c),(x.e.num:Int),()) rfl ?_;refine an ?_;refine aw b3 rfl (by simp [encI]) ?_;intro g4 b4 k4 z4;have b4:bC g4 g1.size 64 (encI p l c { fj x.kind with e:=x.e }):=b4;have e4:=e3.st k4 ad;have b1:=b1.ao k4 (by simp; omega);refine af b1 ((p,l,c),(x.e.num:Int),()) rfl ?_;refine an ?_;refine aI (sR (c:=c) (v.lin.ao e4).vw (by have:=v.lin.many; omega) v.lin.names) ?_;rintro _ g6 ⟨rfl,e6'⟩;refine ⟨(mZ none x.e.ai,()),rfl,?_⟩;refine an ?_;have e6:=e4.trans e6';refine ak (fun r=>?_) (fun r=>?_)
  ·have r:mZ none x.e.ai=false:=by simpa using r
   exact ⟨by rw [r]; rfl,e6⟩
  have r:mZ none x.e.ai=true:=by simpa using r
  rw [r];have b1:=b1.ao e6' aj;have b4:=b4.ao e6' aj;have hh:=oY (L:=[]) (h0:=h) (y:={ fj x.kind with e:=x.e }) b1 b4 (v.lin.ao e6) (v.lin.ao e6).vw e6;exact hh
 have q6:x.kind≠6:=by simpa using q
 refine ak (fun q=>?_) (fun q=>?_)
 ·have q:x.kind=7:=by simpa using q
  rw [MY q];refine af b1 (x.n,()) rfl ?_;refine an ?_;refine aw b3 rfl (by simp [encI]) ?_;intro g4 b4 k4 z4;have b4:bC g4 g1.size 64 (encI none 0 0 { fj x.kind with n:=x.n }):=b4;have e4:=e3.st k4 ad;have b1:=b1.ao k4 (by simp; omega);refine af b1 (x.n,()) rfl ?_;refine an ?_;refine ak (fun r=>?_) (fun r=>?_)
  ·have r:=Ws r;refine af b1 (x.n,()) rfl ?_;refine an ?_;refine ak (fun r2=>?_) (fun r2=>?_)
   ·have r2:¬ x.n<=1048576:=by simpa using r2
    exact ⟨by rw [WE r2,Yv]; rfl,e4⟩
   have r2:x.n<=1048576:=by simpa using r2
   rw [WB r2,WB (show 0<=x.n from r)];have hh:=oY (L:=[]) (h0:=h) (y:={ fj x.kind with n:=x.n }) b1 b4 (v.lin.ao e4) (gp.none g4) e4;exact hh
  ·have r:=Wt r;exact ⟨by rw [WE (show ¬ 0<=x.n from r),Yv]; rfl,e4⟩
 have q7:x.kind≠7:=by simpa using q
 exact ⟨by rw [HQ q1 q2 q3 q4 q5 q6 q7]; rfl,e3⟩
section
variable {α:Type}
def vE (en:α->YB) (D:List (YA × α)):List (YA × YB):=D.map fun p=>(p.1,en p.2)
def gE (D:List (YA × α)) (s:YA):Option α:=(D.find? fun p=>decide (s=p.1)).map (·.2)
def pE (D:List (YA × α)) (s:YA) (v:α):List (YA × α):=if (gE D s).isSome then D.map fun p=>if s=p.1 then (p.1,v) else p else D++[(s,v)]
theorem me (en:α->YB) (D:List (YA × α)) (s:YA):look (vE en D) s=(gE D s).map en:=by
 unfold look gE vE
 induction D with
 | nil=>rfl
 | cons p D ih =>
  by_cases h:s=p.1
  ·simp [h]
  ·simp only [List.map_cons,List.find?_cons,decide_eq_false h];exact ih
theorem F' (en:α->YB) (D:List (YA × α)) (s:YA) (v:α):jO (vE en D) s (en v)=vE en (pE D s v):=by
 unfold jO pE;rw [me];cases h:gE D s with
 | none=>simp [vE]
 | some q =>
  simp only [Option.map_some,Option.isSome_some,if_true,vE,List.map_map];refine Xl fun p hp=>?_
  simp only [Function.comp];split <;> simp_all
theorem vZ (D:List (YA × α)) (s:YA) (v:α):(pE D s v).length=if (gE D s).isSome then D.length else D.length+1:=by
 unfold pE;split <;> simp
theorem wg (D:List (YA × α)) (s t:YA) (v:α):gE (D++[(s,v)]) t=(gE D t).or (if t=s then some v else none):=by
 unfold gE;rw [List.find?_append];cases h:D.find? (fun p=>decide (t=p.1)) with
 | some q=>simp
 | none =>
  simp only [Option.none_or,Option.map_none,List.find?_cons,List.find?_nil]
  by_cases e:t=s
  ·simp [e]
  ·simp [e]
theorem F4 (D:List (YA × α)) (s t:YA) (v:α) (hs:(gE D s).isSome):gE (D.map fun p=>if s=p.1 then (p.1,v) else p) t=if t=s then some v else gE D t:=by
 unfold gE at *
 induction D with
 | nil=>simp at hs
 | cons p D ih =>
  by_cases h:s=p.1
  ·by_cases e:t=s
   ·simp [h,e]
   ·have e2:¬ t=p.1:=fun k=>e (k.trans h.symm)
    have hg:∀ l:List (YA × α),(List.find? (fun p=>decide (t=p.1)) (List.map (fun p=>if s=p.1 then (p.1,v) else p) l)).map (·.2)=(List.find? (fun p=>decide (t=p.1)) l).map (·.2):=by
     intro l
     induction l with
     | nil=>rfl
     | cons q l ihl =>
      by_cases hq:s=q.1
      ·have:¬ t=q.1:=fun k=>e (k.trans hq.symm)
       simp only [List.map_cons,List.find?_cons,if_pos hq,decide_eq_false this];exact ihl
      ·simp only [List.map_cons,List.find?_cons,if_neg hq]
       by_cases ht:t=q.1
       ·simp [ht]
       ·simp only [decide_eq_false ht];exact ihl
    simp only [List.map_cons,List.find?_cons,if_pos h,decide_eq_false e2,if_neg e];exact hg D
  ·have hs2:(Option.map (fun x=>x.2) (List.find? (fun p=>decide (s=p.1)) D)).isSome:=by
    simpa [List.find?_cons,decide_eq_false h] using hs
   simp only [List.map_cons,List.find?_cons,if_neg h]
   by_cases ht:t=p.1
   ·have:¬ t=s:=fun k=>h (k.symm.trans ht)
    simp [ht,if_neg (ht▸this)]
   ·simp only [decide_eq_false ht];exact ih hs2
theorem Mu (D:List (YA × α)) (s:YA) (v:α) (t:YA):gE (pE D s v) t=if t=s then some v else gE D t:=by
 unfold pE;split
 ·rename_i h;exact F4 D s t v h
 ·rename_i h;rw [wg]
  by_cases e:t=s
  ·subst e
   have:gE D t=none:=by simpa using h
   rw [this]; simp
  ·simp [e]
def dy (f:YA->Option α) (s:YA) (v:α):YA->Option α:=fun t=>if t=s then some v else f t
def dK (en:α->YB) (h:Hp) (g:Nat) (f:YA->Option α) (n:Nat):Prop:=∃ D:List (YA × α),eA h g (vE en D)/\(∀ s,gE D s=f s)/\D.length=n
theorem dK.ao {en:α->YB} {ws:List Nat} {h h':Hp} {g:Nat} {f:YA->Option α} {n:Nat} (m:dK en h g f n) (k:Ch ws h h') (hw:g∉ws):dK en h' g f n:=by
 obtain ⟨D,m,r⟩:=m;exact ⟨D,m.ao k hw,r⟩
theorem dK.lt {en:α->YB} {h:Hp} {g:Nat} {f:YA->Option α} {n:Nat} (m:dK en h g f n):g<h.size:=by
 obtain ⟨D,m,r⟩:=m;exact m.lt
theorem dK.new {en:α->YB} {h:Hp} {g:Nat} (m:eA h g []):dK en h g (fun _=>none) 0:=⟨[],m,fun s=>rfl,rfl⟩
theorem dK.jO {en:α->YB} {h':Hp} {g:Nat} {f:YA->Option α} {n:Nat} {D:List (YA × α)} (hD:∀ s,gE D s=f s) (hn:D.length=n) {s:YA} {v:α} (m:eA h' g (Sx.jO (vE en D) s (en v))):dK en h' g (dy f s v) (if (f s).isSome then n else n+1):=by
 rw [F'] at m;refine ⟨_,m,fun t=>?_,?_⟩
 ·rw [Mu,hD t]; rfl
 ·rw [vZ,hD s,hn]
end
def eB (b:Bool):YB:=.bool b
theorem Q3:Tryz.prog.underlying 142=some (.map 9 4):=az
theorem wE:Tryz.prog.underlying 9=some .string:=az
theorem Kq:(Tryz.prog.info? 4).bind (·.zero)=some (.bool false):=az
def AI (h:Hp) (g:Nat) (D:List YA):Prop:=∃ n,dK eB h g (fun s=>if fC D s then some true else none) n
theorem AI.ao {ws:List Nat} {h h':Hp} {g:Nat} {D:List YA} (m:AI h g D) (k:Ch ws h h') (hw:g∉ws):AI h' g D:=by
 obtain ⟨n,m⟩:=m;exact ⟨n,m.ao k hw⟩
theorem AI.lt {h:Hp} {g:Nat} {D:List YA} (m:AI h g D):g<h.size:=by
 obtain ⟨n,m⟩:=m;exact m.lt
section
variable {L:Lp} {K:YB->Hp->Prop} {h:Hp} {g:Nat} {D:List YA}
theorem NI (m:AI h g D) (s:YA) {k:Bool->T} (hk:k (fC D s) L K h):T.dW Tryz.prog (Instr.lookup 142 (.map (some g)) (.string s) false) false [(false,[.bool])] k L K h:=by
 obtain ⟨n,D',m,hD,hn⟩:=m;refine jb Q3 wE Kq m s false _ ?_;refine ⟨(fC D s,()),?_,hk⟩;simp only [Bool.false_eq_true,if_false];rw [me,hD s];dsimp only
 all_goals (cases fC D s <;> rfl)
theorem cY (m:AI h g D) {s:YA} (hs:s.size<=maxLen) {k:T} (hk:∀ h',AI h' g (s::D)->Ch [g] h h'->h'.size=h.size->k L K h') :
  T.ec Tryz.prog (Instr.mapUpdate 142 (.map (some g)) (.string s) (.bool true)) k L K h:=by
 obtain ⟨n,D',m,hD,hn⟩:=m;refine fR Q3 wE m hs _ _ ?_;intro h' m' c' z'
 have:=dK.jO (en:=eB) hD hn (v:=true) m'
 have he:dy (fun t=>if fC D t then some true else none) s true=fun t=>if fC (s::D) t then some true else none:=by
  funext t
  unfold dy fC
  by_cases h1:t=s
  ·rw [WC h1,WC];simp [h1]
  ·rw [Ww h1]
   have:¬ s=t:=fun e=>h1 e.symm
   rw [List.any_cons,WE this,Bool.false_or]
 rw [he] at this;exact hk h' ⟨_,this⟩ c' z'
theorem TG {t:TypeId} {k:Option Nat->T} (hk:∀ h',AI h' h.size []->Ext h h'->h'.size=h.size+1->k (some h.size) L K h'):T.dW Tryz.prog (Instr.makeMap t none) false [(false,[.map 0 0])] k L K h:=by
 refine lF _ ?_;intro h' m e z;exact ⟨(some h.size,()),rfl,hk h' ⟨0,dK.new m⟩ e z⟩
end
structure Am (h:Hp) (p:Option YC) (l:Nat) (us:List cz):Prop where
 len:l=us.length
 many:us.length<=2^60
 cells:∀ i,(hi:i<us.length)->∃ a q m c,p=some a/\aG h (a.add (i*10)) 0 (encI q m c us[i])/\lA h q m us[i]
theorem Am.ao {h h':Hp} {p:Option YC} {l:Nat} {us:List cz} (v:Am h p l us) (k:Ext h h'):Am h' p l us :=
 ⟨v.len,v.many,fun i hi=>by
  obtain ⟨a,q,m,c,ha,hc,hv⟩:=v.cells i hi;exact ⟨a,q,m,c,ha,aQ k aj _ _ hc,hv.ao k⟩⟩
def RO (p:Option YC) (l c:Nat) (x:qi):List YB:=[.string x.1,.slice p l c,.int .u32 x.2.num]
structure tu (h:Hp) (p:Option YC) (l:Nat) (us:List qi):Prop where
 len:l=us.length
 many:us.length<=2^60
 cells:∀ i,(hi:i<us.length)->∃ a q m c,p=some a/\aG h (a.add (i*3)) 0 (RO q m c us[i])/\oc h q m us[i].2/\us[i].1.size<=maxLen
theorem tu.ao {h h':Hp} {p:Option YC} {l:Nat} {us:List qi} (v:tu h p l us) (k:Ext h h'):tu h' p l us :=
 ⟨v.len,v.many,fun i hi=>by
  obtain ⟨a,q,m,c,ha,hc,hv,hs⟩:=v.cells i hi;exact ⟨a,q,m,c,ha,aQ k aj _ _ hc,hv.ao k,hs⟩⟩
structure FI (h:Hp) (p:Option YC) (l:Nat) (us:List YA):Prop where
 len:l=us.length
 many:us.length<=2^60
 cells:∀ i,(hi:i<us.length)->∃ a,p=some a/\aG h (a.add (i*1)) 0 [.string us[i]]/\us[i].size<=maxLen
theorem FI.ao {h h':Hp} {p:Option YC} {l:Nat} {us:List YA} (v:FI h p l us) (k:Ext h h'):FI h' p l us :=
 ⟨v.len,v.many,fun i hi=>by
  obtain ⟨a,ha,hc,hs⟩:=v.cells i hi;exact ⟨a,ha,aQ k aj _ _ hc,hs⟩⟩
structure bY where
 p:Option YC
 l:Nat
 c:Nat
def bY.v (s:bY):YB:=.slice s.p s.l s.c
structure rm (h:Hp) (a b c d:bY) (u:bP):Prop where
 text:Am h a.p a.l u.text
 data:Am h b.p b.l u.data
 bf:tu h c.p c.l u.bf
 aS:FI h d.p d.l u.aS
theorem rm.ao {h h':Hp} {a b c d:bY} {u:bP} (v:rm h a b c d u) (k:Ext h h'):rm h' a b c d u:=⟨v.text.ao k,v.data.ao k,v.bf.ao k,v.aS.ao k⟩
def AD (a b c d:bY):YB:=.agg #[a.v,b.v,c.v,d.v]
theorem NV:Tryz.prog.underlying 68=some (.slice 26):=az
theorem Vm:(Tryz.prog.info? 26).map (fun i=>(i.zero,i.size,i.bytes))=some (some (.slice none 0 0),1,24):=az
theorem NB (p1:Option YC) (l1 c1:Nat) (p2:Option YC) (l2 c2:Nat):Instr.fill (fun j=>some (j*1,1)) ((Array.range (2*1)).map ((Value.slice none 0 0).cells[· % (Value.slice none 0 0).cells.size]!)) [(0,.slice p1 l1 c1),(1,.slice p2 l2 c2)]=some ([.slice p1 l1 c1,.slice p2 l2 c2]:List YB).toArray:=az
def yf (u:bP) (k:Nat):List cz:=if k=0 then u.text else u.data
def sX (u:bP) (k:Nat):List YA:=if k=0 then [] else if k=1 then cI [] u.text else cI (cI [] u.text) u.data
def yD (u:bP) (k:Nat):Bool:=if k=0 then uH u else if k=1 then (eD 1 (cI [] u.text) u.data && (fV (cI (cI [] u.text) u.data) u.bf && cO u.names du u.aS)) else (fV (cI (cI [] u.text) u.data) u.bf && cO u.names du u.aS)
theorem IQ (u:bP) {k:Nat} (hk:k<2):yD u k=(eD k (sX u k) (yf u k) && yD u (k+1)):=by
 have:k=0\/k=1:=ad
 rcases this with rfl | rfl
 ·simp [yD,sX,yf,uH,Bool.and_assoc]
 ·simp [yD,sX,yf]
theorem IU (u:bP) {k:Nat} (hk:k<2):sX u (k+1)=cI (sX u k) (yf u k):=by
 have:k=0\/k=1:=ad
 rcases this with rfl | rfl <;> rfl
theorem Ei (D:List YA) (l:List cz) {i:Nat} (hi:i<l.length):cI D (l.take (i+1))=tH (cI D (l.take i)) l[i]:=by
 unfold cI;rw [Wx hi,Xz] <;> rfl
theorem Es (D:List YA) (l:List qi) {i:Nat} (hi:i<l.length):aT D (l.take (i+1))=l[i].1::aT D (l.take i):=by
 unfold aT;rw [Wx hi,Xz] <;> rfl
theorem Co (sec:Nat) (D:List YA) (l:List cz) {i:Nat} (hi:i<l.length):eD sec D (l.drop i)=(xx sec D l[i] && eD sec (tH D l[i]) (l.drop (i+1))):=by
 rw [WK hi,eD]
theorem E4 (D:List YA) (l:List qi) {i:Nat} (hi:i<l.length):fV D (l.drop i)=(Bh D l[i] && fV (l[i].1::D) (l.drop (i+1))):=by
 rw [WK hi,fV]
def nM (l:List YA) (i:Nat):YA:=if i=0 then du else l.getD (i-1) du
theorem uX (D:List YA) (l:List YA) {i:Nat} (hi:i<l.length):cO D (nM l i) (l.drop i)=(P9 D (nM l i) l[i] && cO D (nM l (i+1)) (l.drop (i+1))):=by
 rw [WK hi,cO]
 congr 2
 unfold nM;rw [Ww ad,Nat.add_sub_cancel,XI,Wu hi] <;> rfl
def DW (h:Hp) (g:Nat) (D:List YA):Prop:=AI h g D/\∀ s,s∈D->cP s.data.toList=true
theorem DW.ao {ws:List Nat} {h h':Hp} {g:Nat} {D:List YA} (m:DW h g D) (k:Ch ws h h') (hw:g∉ws):DW h' g D:=⟨m.1.ao k hw,m.2⟩
theorem DF {s:YA} (h:cP s.data.toList=true):gz du s:=by
 unfold cP at h;simp only [Bool.and_eq_true,decide_eq_true_eq] at h;have h2:=h.1.1.1.1;show (du.data.toList:List UInt8)<s.data.toList
 have:(du.data.toList:List UInt8)=[]:=rfl
 rw [this];cases hs:s.data.toList with
 | nil=>rw [hs] at h2; simp at h2
 | cons a l=>exact List.Lex.nil
theorem uj {D:List YA} {s:YA} (h:fC D s=true):s∈D:=by
 unfold fC at h;simp only [List.any_eq_true,decide_eq_true_eq] at h;obtain ⟨y,hy,rfl⟩:=h;exact hy
theorem PM {h:Hp} (t:An h) {x:cz} {p:Option YC} {l c k:Nat} (v:lA h p l x) (hk:k<2) :
  HC Tryz.prog 78 #[pP p l c x,.int .i64 (k:Int)] h fun w h'=>w=CK (ct x k)/\Ext h h':=by
 have:k=0\/k=1:=ad
 rcases this with rfl | rfl
 ·exact Kv t v
 ·exact MH t v
theorem ux {h:Hp} (t:An h) {a b c d:bY} {u:bP} (v:rm h a b c d u):HC Tryz.prog 42 #[AD a b c d] h fun w h'=>w=.int .i64 (eG u:Nat)/\Ext h h':=by
 refine aZ (args:=[AD a b c d]) mixed Tryz.func42 az (yi a.p a.l a.c b.p b.l b.c c.p c.l c.c d.p d.l d.c) ?_;unfold uo aX bh bm aH aU cn dT bk bK bj bi bU aM;refine bq ?_;intro g1 b1 e1 z1;have b1:bC g1 h.size 30 [a.v,b.v,c.v,d.v]:=b1;have m1:=v.text.many;have m2:=v.data.many;have m3:=v.bf.many;have m4:=v.aS.many;have n1:=v.text.len;have n2:=v.data.len;have n3:=v.bf.len;have n4:=v.aS.len;have s1:=e1.size;simp only [aE];refine af b1 ((a.p,a.l,a.c),()) rfl ?_;refine an ?_;refine af b1 ((b.p,b.l,b.c),()) rfl ?_;refine an ?_;rw [wrap_i64 ad ad];unfold eG uA;refine ak (fun q=>?_) (fun q=>?_)
 ·have q:=Ws q;exact ⟨by rw [WB (show 8192<u.text.length+u.data.length from ad)]; rfl,e1⟩
 have q:=Wt q;rw [WE (show ¬ 8192<u.text.length+u.data.length from ad),Bool.false_or];refine af b1 ((c.p,c.l,c.c),()) rfl ?_;refine an ?_;refine ak (fun q=>?_) (fun q=>?_)
 ·have q:=Ws q;exact ⟨by rw [WB (show 8192<u.bf.length from ad)]; rfl,e1⟩
 have q:=Wt q;rw [WE (show ¬ 8192<u.bf.length from ad),Ww aj];refine TG ?_;intro g2 m e2 z2;have b2:=b1.ao e2 aj;refine af b2 ((a.p,a.l,a.c),()) rfl ?_;refine an ?_;refine af b2 ((b.p,b.l,b.c),()) rfl ?_;refine an ?_;refine jX NV Vm ad ad (NB a.p a.l a.c b.p b.l b.c) ?_;intro g3 b3 e3 z3;have m:=m.ao e3 (by have:=m.lt; simp);have e03:=(e1.trans e2).trans e3;have b3':=b2.ao e3 aj;have s2:=e2.size;clear b1 b2;have hsec:∀ k,k<2->∃ s:bY,([a.v,b.v]:List YB).drop k=s.v::([a.v,b.v]:List YB).drop (k+1)/\Am h s.p s.l (yf u k):=by
  intro k hk
  have:k=0\/k=1:=ad
  rcases this with rfl | rfl
  ·exact ⟨a,rfl,v.text⟩
  ·exact ⟨b,rfl,v.data⟩
 have s3:=e3.size;have b3:bC g3 g2.size 26 [a.v,b.v]:=b3;generalize hU:uH u=U;refine aR (cs:=[(false,[.int .i64]),(false,[.int .i64])]) (fun y w h'=>∃ k:Nat,y.2.1=(k:Int)/\k<=2/\w=2-k/\Ext h h'/\bC h' h.size 30 [a.v,b.v,c.v,d.v]/\bC h' g2.size 26 [a.v,b.v]/\DW h' g1.size (sX u k)/\U=yD u k) ((0:Int),(0:Int),()) 2 rfl
  ⟨0,rfl,ad,ad,e03,b3',b3,⟨m,by simp [sX]⟩,hU.symm⟩ ?_
 rintro ⟨n21,n22,⟨⟩⟩ w h4 ⟨k,hk,hk2,rfl,e4,b1,b2,m,hu⟩;simp only at hk;subst hk;refine an ?_;refine ak (fun q=>?_) (fun q=>?_)
 ·have q:=Ws q;have hk:k<2:=ad
  obtain ⟨sl,hsl,vs⟩:=hsec k hk;refine ay ⟨ad,ad⟩ (av rfl ?_);rw [aE];refine af b2 ((sl.p,sl.l,sl.c),()) (by rw [show 0+(k:Int).toNat*1=k from ad,hsl]; rfl) ?_;refine an ?_;have lk:=vs.len;have mk:=vs.many;generalize hl:yf u k=l at vs lk mk;have hu2:U=(eD k (cI (sX u k) (l.take 0)) (l.drop 0) && yD u (k+1)):=by
   rw [hu,IQ u hk,hl] <;> rfl
  refine aR (cs:=[(false,[.int .i64]),(false,[.int .i64])]) (fun y w h'=>∃ i:Nat,y.2.1=(i:Int)/\i<=l.length/\w=l.length-i/\Ext h h'/\bC h' h.size 30 [a.v,b.v,c.v,d.v]/\bC h' g2.size 26 [a.v,b.v]/\DW h' g1.size (cI (sX u k) (l.take i))/\U=(eD k (cI (sX u k) (l.take i)) (l.drop i) && yD u (k+1))) (n21,(0:Int),()) l.length rfl
   ⟨0,rfl,ad,ad,e4,b1,b2,m,hu2⟩ ?_
  clear hu hu2 m b1 b2 e4;rintro ⟨n27,n28,⟨⟩⟩ w h5 ⟨i,hi,hile,rfl,e5,b1,b2,m,hu⟩;simp only at hi;subst hi;refine an ?_;refine ak (fun q2=>?_) (fun q2=>?_)
  ·have q2:=Ws q2;have hil:i<l.length:=ad
   obtain ⟨aa,pp,ll,cc,rfl',hc,va⟩:=(vs.ao e5).cells i hil;rw [Co k _ l hil] at hu;have hnt:=Ei (sX u k) l hil;generalize l[i]=x at hc va hu hnt;refine ay ⟨ad,ad⟩ (av rfl' ?_);rw [show Int.toNat (i:Int)=i from ad];refine ax (x.kind,x.name,x.inst.op,x.inst.a,x.inst.b,x.inst.n,x.inst.form,(pp,ll,cc),(x.e.num:Int),x.n,()) hc ?_;refine an ?_;refine bq ?_;intro h6 b6 e6 z6;refine aw b6 rfl aj ?_;intro h7 b7 k7 z7;have b7:bC h7 h5.size 64 (encI pp ll cc x):=b7;have e57:Ext h5 h7:=e6.st k7 (WH _);have e7:=e5.trans e57;simp only [aE];refine af b7 (x.kind,x.name,x.inst.op,x.inst.a,x.inst.b,x.inst.n,x.inst.form,(pp,ll,cc),(x.e.num:Int),x.n,()) rfl ?_;refine an ?_;refine aI (PM (c:=cc) (t.ao e7 aj) (va.ao e57) hk) ?_;rintro _ h8 ⟨rfl,e8⟩;refine ⟨((if ct x k then 0 else 31:Int),()),rfl,?_⟩;refine an ?_;have e58:=e57.trans e8;have e08:=e5.trans e58;have b1:=b1.ao e58 aj;have b2:=b2.ao e58 aj;have m:=m.ao e58 aj;have b8:=b7.ao e8 aj;refine ak (fun r=>?_) (fun r=>?_)
   ·have r:ct x k=false:=by
     cases hr:ct x k with
     | false=>rfl
     | true=>rw [hr] at r; simp at r
    exact ⟨by rw [hu,xx,r]; rfl,e08⟩
   have r:ct x k=true:=by
    cases hr:ct x k with
    | true=>rfl
    | false=>rw [hr] at r; simp at r
   have hno:∀ D,xx k D x=!(decide (x.kind=1) && fC D x.name):=fun D=>by rw [xx,r]; rfl
   rw [hno] at hu;refine af b8 (x.kind,()) rfl ?_;refine an ?_;refine ak (fun r1=>?_) (fun r1=>?_)
   ·have r1:x.kind=1:=by simpa using r1
    rw [WB r1,W9] at hu;have hle:cP x.name.data.toList=true:=by
     rw [B8 r1,Xt] at r;exact r.1
    refine af b8 (x.name,()) rfl ?_;refine an ?_;refine NI m.1 x.name ?_;refine ak (fun r2=>?_) (fun r2=>?_)
    ·exact ⟨by rw [hu,r2]; rfl,e08⟩
    rw [r2] at hu;refine af b8 (x.kind,()) rfl ?_;refine an ?_;refine bX (by simpa using r1) ?_;refine af b8 (x.name,()) rfl ?_;refine an ?_;refine cY m.1 va.name ?_;intro h9 m9 k9 z9;have e09:Ext h h9:=e08.st k9 ad;have s5:=e5.size;have hadd:tH (cI (sX u k) (l.take i)) x=x.name::cI (sX u k) (l.take i):=by unfold tH; rw [WC r1]
    refine aF (cs:=[(false,[.int .i64]),(false,[.int .i64])]) (n27,((i+1:Nat):Int),()) (l.length-(i+1)) rfl ad (by rw [wrap_i64 ad ad]; rfl) ?_;refine ⟨i+1,rfl,ad,rfl,e09,b1.ao k9 (by simp; omega),b2.ao k9 (by simp; omega),by rw [hnt,hadd]; exact ⟨m9,fun s hs=>(WY.1 hs).elim (fun e=>by rw [e]; exact hle) (m.2 s)⟩,by rw [hu,hnt]; rfl⟩
   ·have r1:¬ x.kind=1:=by simpa using r1
    rw [WE r1] at hu;refine af b8 (x.kind,()) rfl ?_;refine an ?_;refine bM (by simpa using r1) ?_;have hadd:tH (cI (sX u k) (l.take i)) x=cI (sX u k) (l.take i):=by unfold tH; rw [Ww r1]
    refine aF (cs:=[(false,[.int .i64]),(false,[.int .i64])]) (n27,((i+1:Nat):Int),()) (l.length-(i+1)) rfl ad (by rw [wrap_i64 ad ad]; rfl) ?_;refine ⟨i+1,rfl,ad,rfl,e08,b1,b2,by rw [hnt,hadd]; exact m,by rw [hu,hnt]; rfl⟩
  ·have q2:=Wt q2;have hil:i=l.length:=ad
   subst hil;rw [Xd] at m hu;rw [X5,eD,W9] at hu;refine aF (cs:=[(false,[.int .i64]),(false,[.int .i64])]) (n27,((k+1:Nat):Int),()) (2-(k+1)) rfl ad (by rw [wrap_i64 ad ad]; rfl) ?_;refine ⟨k+1,rfl,ad,rfl,e5,b1,b2,by rw [IU u hk,hl]; exact m,hu⟩
 ·have q:=Wt q;have hk:k=2:=ad
  subst hk;have hu:U=(fV (cI (cI [] u.text) u.data) u.bf && cO u.names du u.aS):=hu;have m:DW h4 g1.size (cI (cI [] u.text) u.data):=m;generalize hD:cI (cI [] u.text) u.data=D at hu m;have hN:u.names=aT D u.bf:=by rw [<- hD]; rfl
  rw [hN] at hu;refine af b1 ((c.p,c.l,c.c),()) rfl ?_;refine an ?_;have hu2:U=(fV (aT D (u.bf.take 0)) (u.bf.drop 0) && cO (aT D u.bf) du u.aS):=hu;refine aR (cs:=[(false,[.int .i64]),(false,[.int .i64])]) (fun y w h'=>∃ i:Nat,y.2.1=(i:Int)/\i<=u.bf.length/\w=u.bf.length-i/\Ext h h'/\bC h' h.size 30 [a.v,b.v,c.v,d.v]/\DW h' g1.size (aT D (u.bf.take i))/\U=(fV (aT D (u.bf.take i)) (u.bf.drop i) && cO (aT D u.bf) du u.aS)) (n21,(0:Int),()) u.bf.length rfl
   ⟨0,rfl,ad,ad,e4,b1,m,hu2⟩ ?_
  clear hu hu2 m b1 b2 e4;rintro ⟨n27,n28,⟨⟩⟩ w h5 ⟨i,hi,hile,rfl,e5,b1,m,hu⟩;simp only at hi;subst hi;refine an ?_;have s5:=e5.size;refine ak (fun q2=>?_) (fun q2=>?_)
  ·have q2:=Ws q2;have hil:i<u.bf.length:=ad
   obtain ⟨aa,pp,ll,cc,rfl',hc,va,vn⟩:=(v.bf.ao e5).cells i hil;rw [E4 _ _ hil] at hu;have hnt:=Es D u.bf hil;generalize u.bf[i]=x at hc va vn hu hnt;refine ay ⟨ad,ad⟩ (av rfl' ?_);rw [show Int.toNat (i:Int)=i from ad];refine ax (x.1,(pp,ll,cc),(x.2.num:Int),()) hc ?_;refine an ?_;refine bq ?_;intro h6 b6 e6 z6;refine aw b6 rfl aj ?_;intro h7 b7 k7 z7;have b7:bC h7 h5.size 88 (RO pp ll cc x):=b7;have e57:Ext h5 h7:=e6.st k7 (WH _);have e7:=e5.trans e57;simp only [aE];have b1:=b1.ao e57 aj;have m:=m.ao e57 aj;unfold Bh at hu;refine af b7 (x.1,()) rfl ?_;refine an ?_;refine NI m.1 x.1 ?_;refine ak (fun r=>?_) (fun r=>?_)
   ·exact ⟨by rw [hu,r]; rfl,e7⟩
   rw [r] at hu;refine af b7 (x.1,()) rfl ?_;refine an ?_;refine aJ (uL x.1 h7 (by have:maxLen=9223372036854775807:=rfl; omega)) ?_;refine ak (fun r=>?_) (fun r=>?_)
   ·have r:cP x.1.data.toList=false:=by simpa using r
    exact ⟨by rw [hu,r]; rfl,e7⟩
   have hle:cP x.1.data.toList=true:=by simpa using r
   rw [hle] at hu;refine af b7 ((pp,ll,cc),(x.2.num:Int),()) rfl ?_;refine an ?_;refine aI (sR (c:=cc) (va.ao e57).vw (by have:=va.many; omega) va.names) ?_;rintro _ h8 ⟨rfl,e8⟩;refine ⟨(mZ none x.2.ai,()),rfl,?_⟩;refine an ?_;have e08:=e7.trans e8;have b1:=b1.ao e8 aj;have m:=m.ao e8 aj;have b8:=b7.ao e8 aj;refine ak (fun r=>?_) (fun r=>?_)
   ·have r:mZ none x.2.ai=false:=by simpa using r
    exact ⟨by rw [hu,r]; rfl,e08⟩
   have r:mZ none x.2.ai=true:=by simpa using r
   rw [r] at hu;refine af b8 (x.1,()) rfl ?_;refine an ?_;refine cY m.1 vn ?_;intro h9 m9 k9 z9;have e09:Ext h h9:=e08.st k9 ad;refine aF (cs:=[(false,[.int .i64]),(false,[.int .i64])]) (n27,((i+1:Nat):Int),()) (u.bf.length-(i+1)) rfl ad (by rw [wrap_i64 ad ad]; rfl) ?_;refine ⟨i+1,rfl,ad,rfl,e09,b1.ao k9 (by simp; omega),by rw [hnt]; exact ⟨m9,fun s hs=>(WY.1 hs).elim (fun e=>by rw [e]; exact hle) (m.2 s)⟩,by rw [hu,hnt]; rfl⟩
  have q2:=Wt q2;have hil:i=u.bf.length:=ad
  subst hil;rw [Xd] at m hu;rw [X5,fV,W9] at hu;generalize hE:aT D u.bf=E at m hu;refine af b1 ((d.p,d.l,d.c),()) rfl ?_;refine an ?_;have hu2:U=cO E (nM u.aS 0) (u.aS.drop 0):=hu;refine aR (cs:=[(false,[.int .i64]),(false,[.int .i64])]) (fun y w h'=>∃ i:Nat,y.2.1=(i:Int)/\i<=u.aS.length/\w=u.aS.length-i/\Ext h h'/\bC h' h.size 30 [a.v,b.v,c.v,d.v]/\DW h' g1.size E/\U=cO E (nM u.aS i) (u.aS.drop i)) (n27,(0:Int),()) u.aS.length rfl
   ⟨0,rfl,ad,ad,e5,b1,m,hu2⟩ ?_
  clear hu hu2 m b1 e5 s5;rintro ⟨n31,n32,⟨⟩⟩ w h6 ⟨i,hi,hile,rfl,e6,b1,m,hu⟩;simp only at hi;subst hi;refine an ?_;refine ak (fun q3=>?_) (fun q3=>?_)
  ·have q3:=Ws q3;have hil:i<u.aS.length:=ad
   obtain ⟨aa,rfl',hc,va⟩:=(v.aS.ao e6).cells i hil;rw [uX _ _ hil] at hu;unfold P9 at hu;refine ay ⟨ad,ad⟩ (av rfl' ?_);rw [show Int.toNat (i:Int)=i from ad];refine ax (u.aS[i],()) hc ?_;refine an ?_;refine NI m.1 _ ?_;refine ak (fun r=>?_) (fun r=>?_)
   ·have r:fC E u.aS[i]=false:=by simpa using r
    exact ⟨by rw [hu,r]; rfl,e6⟩
   have r:fC E u.aS[i]=true:=by simpa using r
   rw [r,W9] at hu;refine ak (fun r2=>?_) (fun r2=>?_)
   ·have r2:=Ws r2;refine af b1 ((d.p,d.l,d.c),()) rfl ?_;refine an ?_;rw [wrap_i64 ad ad];obtain ⟨ab,rfl'',hc',va'⟩:=(v.aS.ao e6).cells (i-1) ad;refine ay ⟨ad,ad⟩ (av rfl'' ?_);rw [show Int.toNat ((i:Int)-1)=i-1 from ad];refine ax (u.aS[i-1],()) hc' ?_;refine an ?_;have hla:nM u.aS i=u.aS[i-1]:=by
     unfold nM;rw [Ww ad,XI,Wu ad] <;> rfl
    rw [leB];rw [hla] at hu;refine ak (fun r3=>?_) (fun r3=>?_)
    ·have r3:decide (gz u.aS[i-1] u.aS[i])=false:=by simpa using r3
     exact ⟨by rw [hu,r3]; rfl,e6⟩
    ·have r3:decide (gz u.aS[i-1] u.aS[i])=true:=by simpa using r3
     rw [r3,W9] at hu;refine aF (cs:=[(false,[.int .i64]),(false,[.int .i64])]) (n31,((i+1:Nat):Int),()) (u.aS.length-(i+1)) rfl ad (by rw [wrap_i64 ad ad]; rfl) ?_;exact ⟨i+1,rfl,ad,rfl,e6,b1,m,hu⟩
   ·have r2:=Wt r2;have hi0:i=0:=ad
    subst hi0;have hg:decide (gz (nM u.aS 0) u.aS[0])=true:=WB (DF (m.2 _ (uj r)));rw [hg,W9] at hu;refine aF (cs:=[(false,[.int .i64]),(false,[.int .i64])]) (n31,((0+1:Nat):Int),()) (u.aS.length-(0+1)) rfl ad (by rw [wrap_i64 ad ad]; rfl) ?_;exact ⟨0+1,rfl,ad,rfl,e6,b1,m,hu⟩
  ·have q3:=Wt q3;have hil:i=u.aS.length:=ad
   subst hil;rw [X5] at hu;exact ⟨by rw [hu]; rfl,e6⟩
def Lw (l:List UInt8):List (List YB):=l.map fun b=>[.int .u8 (b.toNat:Int)]
theorem GK (l:List UInt8):(Lw l).length=l.length:=by simp [Lw]
theorem KN (l:List UInt8):(Lw l).flatten=l.map fun b=>.int .u8 (b.toNat:Int):=by
 induction l with
 | nil=>rfl
 | cons a l ih =>
  have:Lw (a::l)=[.int .u8 (a.toNat:Int)]::Lw l:=rfl
  rw [this,XZ,ih] <;> rfl
theorem We:(Tryz.prog.info? 5).map (fun i=>(i.zero,i.size,i.bytes))=some (some (.int .u8 0),1,1):=az
theorem SL.cd {h:Hp} {b:Nat} {e:TypeId} {sz:Nat} {p:Option YC} {l c:Nat} {xs:List (List YB)} (s:SL h b e sz p l c xs):∀ i,i∈aK p->b<=i/\i<h.size:=by
 intro i hi;cases p with
 | none=>simp [aK] at hi
 | some a =>
  obtain ⟨g,pre,rest,rfl,hb,_,hbox,_⟩:=s.2.2;simp [aK] at hi;exact ⟨ad,by rw [hi]; exact hbox.lt⟩
theorem I0 {P:Program} {h:Hp} (a:YC) (l:List UInt8) (cap:Nat) (K:YB->Hp->Prop) (hc:aG h a 0 (l.map KB)) (hk:K (.string ⟨l.toArray⟩) h):aP P (Conv.bytesToString (.slice (some a) l.length cap)) h K:=by
 unfold Conv.bytesToString;simp only;rw [ar];refine cU aj hc _ ?_;rw [ar,<- Array.forIn_toList]
 have key:∀ (l:List UInt8) (s:YA) (K':YA->Hp->Prop),K' ⟨s.data++l.toArray⟩ h->aP P (forIn (l.map KB) s fun c r=>match c with
   | .int .u8 n=>(pure (ForInStep.yield (r.push (UInt8.ofNat n.toNat))):Sem (ForInStep YA))
   | _ => stuck "bytesToString: byte expected") h K' := by
  intro l
  induction l with
  | nil =>
   intro s K' hk;have e:(⟨s.data++([]:List UInt8).toArray⟩:YA)=s:=aj
   rw [e] at hk;exact hk
  | cons c l ih =>
   intro s K' hk;rw [Xf,List.forIn_cons];rw [ar];show aP P (forIn (List.map KB l) (s.push (UInt8.ofNat ((c.toNat:Nat):Int).toNat)) _) h K';have e1:UInt8.ofNat ((c.toNat:Nat):Int).toNat=c:=aj
   rw [e1];refine ih (s.push c) K' ?_
   have:(⟨(s.push c).data++l.toArray⟩:YA)=⟨s.data++(c::l).toArray⟩:=by
    congr 1
    apply W6.1
    simp
   rw [this]; exact hk
 refine key l ByteArray.empty _ ?_;have e:(⟨ByteArray.empty.data++l.toArray⟩:YA)=⟨l.toArray⟩:=by
  congr 1
  apply W6.1
  simp
 rw [e];exact hk
abbrev St:=Except (Nat × Nat) Bt
theorem VW {k c:Nat} (h:k≠c):(((k:Nat):Int)==(c:Int))=false:=by
 simp only [beq_eq_false_iff_ne,ne_eq];omega
def iz:List YB:=[.int .i64 (0:Int),.string ⟨#[]⟩,.int .i64 (0:Int),.int .i64 (0:Int),.int .i64 (0:Int),.int .i32 (0:Int),.int .i64 (0:Int),.slice none 0 0,.int .u32 (0:Int),.int .i64 (0:Int)]
structure Ls {α:Type} (e:TypeId) (sz:Nat) (enc:bY->α->List YB) (tm:α->cZ) (ok:α->Prop) (h:Hp) (b:Nat) (p:Option YC) (l c:Nat) (us:List (bY × α)):Prop where
 sl:SL h b e sz p l c (us.map fun u=>enc u.1 u.2)
 own:∀ u,u∈us->SL h b 66 2 u.1.p u.1.l u.1.c ((tm u.2).map cX)
 ok:∀ u,u∈us->ok u.2
section
variable {α:Type} {e:TypeId} {sz:Nat} {enc:bY->α->List YB} {tm:α->cZ} {ok:α->Prop} {h h':Hp} {b b':Nat} {p:Option YC} {l c:Nat} {us:List (bY × α)}
end
abbrev ptr (g:Nat):YB:=.pointer (some ⟨g,0,none⟩)
theorem QM:Tryz.prog.underlying 26=some (.slice 64):=az
theorem Ux:Tryz.prog.underlying 27=some (.slice 88):=az
theorem AL:Tryz.prog.underlying 28=some (.slice 9):=az
theorem TL:(Tryz.prog.info? 9).map (fun i=>(i.zero,i.size,i.bytes))=some (some (.string ⟨#[]⟩),1,16):=az
theorem SL.Aq {h:Hp} {b:Nat} {e:TypeId} {sz:Nat} {p:Option YC} {l c:Nat} {xs:List (List YB)} (s:SL h b e sz p l c xs):∀ i,i∈aK p->∃ xs,bC h i e xs:=by
 intro i hi;cases p with
 | none=>simp [aK] at hi
 | some a =>
  obtain ⟨g,pre,rest,rfl,hb,_,hbox,_⟩:=s.2.2;simp [aK] at hi;subst hi;exact ⟨_,hbox⟩
theorem SL.qT {ws:List Nat} {h h':Hp} {b:Nat} {e e':TypeId} {sz:Nat} {p:Option YC} {l c:Nat} {xs:List (List YB)} (s:SL h b e sz p l c xs) (k:Ch ws h h') (hw:∀ i,i∈ws->∃ ys,bC h i e' ys) (he:e≠e'):SL h' b e sz p l c xs:=by
 refine Sx.SL.bG s k (fun i hi hm=>?_);obtain ⟨ys,b1⟩:=SL.Aq s i hi;obtain ⟨zs,b2⟩:=hw i hm;unfold bC at b1 b2;rw [b1] at b2;simp only [Option.some.injEq,Obj.cells.injEq] at b2;exact he b2.2.1
section
variable {h0 h:Hp} {g gm:Nat} {bp:Option YC} {bl bc:Nat} {full:Bt} {st:St} {D:List YA}
end
def lW:bY:=⟨none,0,0⟩
abbrev RG:=Ls 64 10 (fun s x=>encI s.p s.l s.c x) (fun x:cz=>x.e.ai) (fun _=>True)
theorem yN:Tryz.prog.underlying 26=some (.slice 64):=az
theorem DK:(Tryz.prog.info? 64).map (fun i=>(i.zero,i.size,i.bytes))=some (some (.agg iz.toArray),10,104):=az
def sH (u:bY × cz):List YB:=encI u.1.p u.1.l u.1.c u.2
theorem BF {a b:Nat} (h:(((a:Nat):Int)==((b:Nat):Int))=true):a=b:=by
 have:=eq_of_beq h
 omega
theorem DL {a b:Nat} (h:(((a:Nat):Int)==((b:Nat):Int))=false):¬ a=b:=by
 rintro rfl;simp at h
end Go.Sx.Ob
