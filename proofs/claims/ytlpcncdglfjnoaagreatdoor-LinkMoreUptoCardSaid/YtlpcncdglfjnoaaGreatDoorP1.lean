/- Contracts over heaps, and plain laws, for the functions that the laws of chapter 9 call, part 1: Sums of names, in plain words: lists of terms with rising names are one where ea Condition: as each statement says. -/
import Derived.Test.YtlpcncdglfjnoaaGreatDoorBtA
import Derived.Test.YtlpcncdglfjnoaaGreatDoorBShelf
import Derived.Test.YtlpcncdglfjnoaaGreatDoorSxG
import Derived.Test.YtlpcncdglfjnoaaGreatDoorSxE
import Derived.Test.YtlpcncdglfjnoaaGreatDoorBtB
import Derived.Test.YtlpcncdglfjnoaaGreatDoorBtE
set_option linter.all false
set_option maxRecDepth 100000
set_option maxHeartbeats 4000000
namespace Go.Sx
open Go.Proofs
theorem mixed:Tryz.prog.follows .mixedOrders=true:=ax
theorem RJ : (Tryz.f144.name == "runtime.NumGoroutine") = false :=ax
theorem Ra:Tryz.f144.body.isNone=true:=ax
theorem QZ:Extern.findNext Tryz.f144=none:=ax
theorem Q4:Extern.find Tryz.f144=some Extern.BytealgIndexByte.indexByte:=ax
theorem Au (s:ZA) (c:Int) (h:Hp):vM Tryz.prog 129 [.string s,.int .u8 c] h (.int .i64 (Lib.indexByte s.data.toList c.toNat.toUInt8)):=by
 refine ee mixed Tryz.func129 ax (gg s c) ?_;refine DX Tryz.func144 RJ Ra QZ Q4 ?_;rw [qJ];exact ⟨(_,()),rfl,rfl,rfl⟩
theorem CY (s:ZA) (c:Int) (h:Hp):vM Tryz.prog 120 [.string s,.int .u8 c] h (.int .i64 (Lib.indexByte s.data.toList c.toNat.toUInt8)):=by
 refine ee mixed Tryz.func120 ax (px s c) ?_;exact gi (Au s c h) ⟨rfl,rfl⟩
def lK (s set:List UInt8):Nat:=(s.takeWhile fun c=>set.contains c).length
theorem PD (s set:List UInt8):lK s set<=s.length:=by
 unfold lK;exact (List.takeWhile_prefix _).length_le
theorem qQ {p:UInt8->Bool}:∀ (l:List UInt8) (k:Nat),k<=(l.takeWhile p).length->k<l.length->(k<(l.takeWhile p).length↔p (l.getD k 0)=true)
 | [],k,_,h=>by simp at h
 | c::l,0,_,_=>by
  simp only [List.takeWhile_cons,List.getD_cons_zero];cases hp:p c <;> simp
 | c::l,k+1,h,hl=>by
  simp only [List.takeWhile_cons] at h ⊢;cases hp:p c with
  | false=>rw [hp] at h; simp at h
  | true =>
   rw [hp] at h;simp at h hl
   have:=qQ l k (by simpa using h) hl
   simpa using this
theorem A4 (s set:List UInt8) (k:Nat) (hk:k<=lK s set) (hl:k<s.length):(k<lK s set↔set.contains (s.getD k 0)=true):=qQ s k hk hl
theorem N3 (s:ZA) (n:Int):(cK s n).toNat.toUInt8=s.data.toList.getD n.toNat 0:=by
 unfold cK; simp
theorem MW (s set:ZA) (h:Hp) (hs:s.size<=9223372036854775807):vM Tryz.prog 103 [.string s,.string set] h (.int .i64 (lK s.data.toList set.data.toList)):=by
 refine ee mixed Tryz.func103 ax (B5 s set) ?_;have hsz:s.data.toList.length=s.size:=aj
 have hle:=PD s.data.toList set.data.toList;refine aR (cs:=[(false,[.int .i64])]) (fun x n h'=>h'=h/\∃ k:Nat,x.1=(k:Int)/\k<=lK s.data.toList set.data.toList/\n=s.size-k) ((0:Int),()) s.size rfl ⟨rfl,0,rfl,ad,ad⟩ ?_;rintro ⟨n,⟨⟩⟩ m h' ⟨rfl,k,hk,hle',rfl⟩;simp only at hk;subst hk;refine ak (fun hb=>?_) (fun hb=>?_)
 ·have hlt:(k:Int)<s.size:=WR hb;have hst:=A4 s.data.toList set.data.toList k hle' ad;refine ay ⟨ad,hlt⟩ ?_;refine gi (CY _ _ _) ?_;rw [N3];have hc:=Lib.contains_iff_indexByte set.data.toList (s.data.toList.getD k 0);refine ak (fun hb2=>?_) (fun hb2=>?_)
  ·have h2:=WR hb2;rw [wrap_i64 ad ad];have hin:set.data.toList.contains (s.data.toList.getD k 0)=true:=by rw [hc]; exact W1 h2
   exact aF (cs:=[(false,[.int .i64])]) ((k:Int)+1,()) (s.size-(k+1)) rfl ad rfl ⟨rfl,k+1,(show ((k:Int)+1)=((k+1:Nat):Int) from ad),hst.2 hin,rfl⟩
  ·have h2:=WS hb2;have hin:¬ set.data.toList.contains (s.data.toList.getD k 0)=true:=by rw [hc]; exact fun hh=>h2 (WR hh)
   have:k=lK s.data.toList set.data.toList:=by
    have:¬ k<lK s.data.toList set.data.toList:=fun hh=>hin (hst.1 hh)
    omega
   exact ⟨by rw [<- this],rfl⟩
 ·have hge:¬ (k:Int)<s.size:=WS hb
  have:k=lK s.data.toList set.data.toList:=ad
  exact ⟨by rw [<- this],rfl⟩
def eS (c:UInt8):Bool:=(97<=c.toNat && c.toNat<=122) || (65<=c.toNat && c.toNat<=90) || c.toNat==95
def gM (c:UInt8):Bool:=48<=c.toNat && c.toNat<=57
def fY:List UInt8:=[97,98,99,100,101,102,103,104,105,106,107,108,109,110,111,112,113,114,115,116,117,118,119,120,121,122,65,66,67,68,69,70,71,72,73,74,75,76,77,78,79,80,81,82,83,84,85,86,87,88,89,90,95]
def ic:List UInt8:=[48,49,50,51,52,53,54,55,56,57]
theorem AL (p q:UInt8->Bool) (h:(List.range 256).all (fun n=>p (UInt8.ofNat n)==q (UInt8.ofNat n))=true) (c:UInt8):p c=q c:=by
 have:=Xn.1 h c.toNat (Yo.2 (by have:=c.toNat_lt; omega))
 simpa using this
theorem Gy (c:UInt8):fY.contains c=eS c:=AL (fun c=>fY.contains c) eS (by decide +kernel) c
theorem MU (c:UInt8):(fY++ic).contains c=(eS c || gM c):=AL (fun c=>(fY++ic).contains c) (fun c=>eS c || gM c) (by decide +kernel) c
def cN (c:UInt8):Int:=(c.toNat:Nat)
theorem K6 (c:UInt8) (h:Hp):vM Tryz.prog 76 [.int .u8 (cN c)] h (.bool (gM c)):=by
 refine ee mixed Tryz.func76 ax (nv _) ?_;unfold jw gM cN bt;refine ak (fun h1=>?_) (fun h1=>?_)
 ·have h1:=WR h1;refine ⟨?_,rfl⟩
  congr 1
  rw [show decide (48<=c.toNat)=true from W1 ad,Xx];exact YL.2 ad
 ·have h1:=WS h1;refine ⟨?_,rfl⟩
  congr 1
  rw [show decide (48<=c.toNat)=false from W4 ad,Bool.false_and]
theorem Jh (c:UInt8):eS c=true↔(97<=cN c/\cN c<=122)\/(65<=cN c/\cN c<=90)\/cN c=95:=by
 unfold eS cN;simp only [Bool.or_eq_true,Bool.and_eq_true,decide_eq_true_eq,beq_iff_eq];omega
theorem AZ (c:UInt8) (h:Hp):vM Tryz.prog 75 [.int .u8 (cN c)] h (.bool (eS c)):=by
 refine ee mixed Tryz.func75 ax (mD _) ?_;unfold iS dH;have hl:=Jh c
 repeat' (refine ak (fun h1=>?_) (fun h1=>?_) <;> first | replace h1:=WR h1 | replace h1:=WS h1)
 all_goals exact ⟨Xa Value.bool (Bool.eq_iff_iff.2 (by simp only [hl,true_iff,beq_iff_eq]; omega)),rfl⟩
def x8 (s:List UInt8):Int × Bool × Bool :=
 match s with
 | [a,b]=>if cN a=114/\48<=cN b/\cN b<=55 then (cN b-48,false,true) else if cN a=122/\48<=cN b/\cN b<=51 then (cN b-48,true,true) else (0,false,false)
 | _=>(0,false,false)
theorem EP {s:List UInt8} (h:s.length≠2):x8 s=(0,false,false):=by
 unfold x8;split
 ·simp at h
 ·rfl
theorem uD (s:ZA) (n:Int):cK s n=cN (s.data.toList.getD n.toNat 0):=rfl
theorem two_bytes {s:ZA} (h1:(s.size:Int)=2):∃ a b,s.data.toList=[a,b]:=by
 have hsz:s.data.toList.length=s.size:=aj
 match hl:s.data.toList with
 | [a,b]=>exact ⟨a,b,rfl⟩
 | []=>rw [hl] at hsz; simp at hsz; omega
 | [a]=>rw [hl] at hsz; simp at hsz; omega
 | a::b::c::l=>rw [hl] at hsz; simp at hsz; omega
theorem ET (s:ZA) (h:Hp):vM Tryz.prog 102 [.string s] h (.tuple #[.int .i64 (x8 s.data.toList).1,.bool (x8 s.data.toList).2.1,.bool (x8 s.data.toList).2.2]):=by
 refine ee mixed Tryz.func102 ax (vp s) ?_;have hsz:s.data.toList.length=s.size:=aj
 unfold qy bi;refine ak (fun h1=>?_) (fun h1=>?_)
 ·have h1:(s.size:Int)≠2:=by simpa using h1
  rw [EP ad];exact ⟨rfl,rfl⟩
 ·have h1:(s.size:Int)=2:=by simpa using h1
  obtain ⟨a,b,hab⟩:=two_bytes h1;have e0:cK s 0=cN a:=by rw [uD,hab]; rfl
  have e1:cK s 1=cN b:=by rw [uD,hab]; rfl
  have hb:=b.toNat_lt;have w1:IntKind.wrap .i64 (IntKind.wrap .i64 (cK s 1)-48)=cN b-48:=by
   rw [e1,wrap_i64 (x:=cN b) (by unfold cN; omega) (by unfold cN; omega),wrap_i64 (by unfold cN; omega) (by unfold cN; omega)]
  rw [w1,e0,hab];unfold x8
  repeat' (first | refine ay ⟨ad,ad⟩ ?_ | (refine ak (fun h1=>?_) (fun h1=>?_) <;> first | replace h1:=WR h1 | replace h1:=WS h1 | replace h1:=eq_of_beq h1 | replace h1:=ne_of_beq_false h1))
  all_goals
   refine ⟨?_,rfl⟩;simp only
   first
    | (exfalso; omega)
    | rw [W2 ad]
    | rw [WV ad,W2 ad]
    | rw [WV ad,WV ad]
theorem Ci (s:ZA) (h:Hp):vM Tryz.prog 77 [.string s] h (.tuple #[.int .i64 (x8 s.data.toList).1,.bool (x8 s.data.toList).2.1,.bool (x8 s.data.toList).2.2]):=by
 refine ee mixed Tryz.func77 ax (kD s) ?_;have hsz:s.data.toList.length=s.size:=aj
 unfold gP bi;refine ak (fun h1=>?_) (fun h1=>?_)
 ·have h1:(s.size:Int)≠2:=by simpa using h1
  rw [EP ad];exact ⟨rfl,rfl⟩
 ·have h1:(s.size:Int)=2:=by simpa using h1
  obtain ⟨a,b,hab⟩:=two_bytes h1;have e0:cK s 0=cN a:=by rw [uD,hab]; rfl
  have e1:cK s 1=cN b:=by rw [uD,hab]; rfl
  have hb:=b.toNat_lt;have w1:IntKind.wrap .i64 (IntKind.wrap .i64 (cK s 1)-48)=cN b-48:=by
   rw [e1,wrap_i64 (x:=cN b) (by unfold cN; omega) (by unfold cN; omega),wrap_i64 (by unfold cN; omega) (by unfold cN; omega)]
  rw [w1,e0,hab];unfold x8
  repeat' (first | refine ay ⟨ad,ad⟩ ?_ | (refine ak (fun h1=>?_) (fun h1=>?_) <;> first | replace h1:=WR h1 | replace h1:=WS h1 | replace h1:=eq_of_beq h1 | replace h1:=ne_of_beq_false h1))
  all_goals
   refine ⟨?_,rfl⟩;simp only
   first
    | (exfalso; omega)
    | rw [W2 ad]
    | rw [WV ad,W2 ad]
    | rw [WV ad,WV ad]
def cM (s:List UInt8):Bool:=decide (0<s.length) && decide (s.length<=32) && eS (s.getD 0 0) && s.all (fun c=>eS c || gM c) && !(x8 s).2.2
theorem KR {s set:List UInt8} (h:0<s.length):0<lK s set↔set.contains (s.getD 0 0)=true:=A4 s set 0 (YK _) h
theorem Ku {s set:List UInt8}:lK s set=s.length↔s.all (fun c=>set.contains c)=true:=by
 unfold lK
 induction s with
 | nil=>simp
 | cons c s ih =>
  rw [List.takeWhile_cons,List.all_cons];cases hc:set.contains c with
  | true=>simp only [if_true,List.length_cons,Bool.true_and]; rw [<- ih]; omega
  | false=>simp
theorem VD:(⟨#[97,98,99,100,101,102,103,104,105,106,107,108,109,110,111,112,113,114,115,116,117,118,119,120,121,122,65,66,67,68,69,70,71,72,73,74,75,76,77,78,79,80,81,82,83,84,85,86,87,88,89,90,95]⟩:ZA).data.toList=fY:=rfl
theorem VU:(⟨#[97,98,99,100,101,102,103,104,105,106,107,108,109,110,111,112,113,114,115,116,117,118,119,120,121,122,65,66,67,68,69,70,71,72,73,74,75,76,77,78,79,80,81,82,83,84,85,86,87,88,89,90,95,48,49,50,51,52,53,54,55,56,57]⟩:ZA).data.toList=fY++ic:=rfl
theorem toList_nil {s:ZA}:(s.toList==[])=decide (s.size=0):=by
 have:s.toList=s.data.toList:=ByteArray.toList_eq s
 rw [this];have hsz:s.data.toList.length=s.size:=aj
 cases hl:s.data.toList with
 | nil=>rw [hl] at hsz; simp at hsz; simp [<- hsz]
 | cons a l=>rw [hl] at hsz; simp at hsz; simp [<- hsz]
theorem tW (s:ZA) (h:Hp) (hs:s.size<=9223372036854775807):vM Tryz.prog 79 [.string s] h (.bool (cM s.data.toList)):=by
 refine ee mixed Tryz.func79 ax (zk s) ?_;have hsz:s.data.toList.length=s.size:=aj
 unfold xi cD bG bt aM cd;refine DP (ET s h) ?_;unfold cM;rw [hsz];refine ak (fun h1=>?_) (fun h1=>?_)
 ·have h1:s.size≠0:=by rw [toList_nil] at h1; simpa using h1
  refine ak (fun h2=>?_) (fun h2=>?_)
  ·have h2:=WR h2;refine gi (MW s _ h hs) ?_;rw [VD];have hp:=KR (set:=fY) (by omega:0<s.data.toList.length);rw [Gy] at hp;refine ak (fun h3=>?_) (fun h3=>?_)
   ·have h3:=WR h3;refine gi (MW s _ h hs) ?_;rw [VU];have ha:=Ku (s:=s.data.toList) (set:=fY++ic);have hg:(fun c=>(fY++ic).contains c)=(fun c=>eS c || gM c):=funext MU;rw [hg] at ha;rw [show decide (0<s.size)=true from W1 ad,show decide (s.size<=32)=true from W1 ad,hp.1 ad];refine ak (fun h4=>?_) (fun h4=>?_)
    ·have h4:=eq_of_beq h4;rw [ha.1 ad];exact ⟨rfl,rfl⟩
    ·have h4:=ne_of_beq_false h4
     have:s.data.toList.all (fun c=>eS c || gM c)=false:=by
      cases hx:s.data.toList.all (fun c=>eS c || gM c) with
      | false=>rfl
      | true=>exact (h4 (by rw [ha.2 hx]; omega)).elim
     rw [this];exact ⟨rfl,rfl⟩
   ·have h3:=WS h3
    have:eS (s.data.toList.getD 0 0)=false:=by
     cases hx:eS (s.data.toList.getD 0 0) with
     | false=>rfl
     | true=>have:=hp.2 hx; omega
    rw [this];exact ⟨aj,rfl⟩
  ·have h2:=WS h2;rw [show decide (s.size<=32)=false from W4 ad];exact ⟨aj,rfl⟩
 ·have h1:s.size=0:=by rw [toList_nil] at h1; simpa using h1
  rw [show decide (0<s.size)=false from W4 ad];exact ⟨aj,rfl⟩
open Go.Proofs Go.MapKept Go.WideAt Go.WideMaps Go.Maps Go.RowKit Go.WideElems Go.WideElems
def Jr:ZB->Option (DataW Unit × List MemPlace):=fun _=>some (.nil,[])
theorem wT:Tryz.prog.underlying 9=some .string:=ax
theorem RH:Tryz.prog.underlying 170=some (.map 9 58):=ax
def keysOf (D:List (ZA × ZB)):List (List UInt8):=(D.map fun p=>p.1.data.toList).mergeSort fun x y=>decide (x<=y)
theorem NP {x:MapEntry} {s:ZA} (hk:x.key=.string s) (hs:s.size<=maxLen):WideElems.rd Tryz.prog 9 Jr x=some (.string s.data.toList,.nil):=by
 unfold WideElems.rd;rw [hk,keyOf_string_mk wT hs] <;> rfl
theorem eD.owns {W:World} {g:Nat} {D:List (ZA × ZB)} (m:eD W.heap g D) (hl:D.length<=maxLen) :
  ∃ D0:DataW Unit,W.ownsMap Tryz.prog 9 Jr g D.length D0/\(strKeys D0).Perm (D.map fun p=>p.1.data.toList)/\Maps.size D0=D.length:=by
 obtain ⟨es,clock,hg,he,hs,hd⟩:=m;have hlen:es.size=D.length:=by
  have:=Xa List.length he
  simpa using this
 have hrd:es.toList.map (WideElems.rg Tryz.prog 9 Jr)=D.map fun p=>(Lit.string p.1.data.toList,DataW.nil):=by
  apply X7;intro i;have h1:(es.toList.map (fun e=>(e.key,e.val)))[i]?=(D.map (fun p=>(Value.string p.1,p.2)))[i]?:=by rw [he]
  simp only [List.getElem?_map] at h1 ⊢;rcases XE i D.length with hi | hi
  ·rw [WT hi,WT (show i<es.toList.length by simp; omega)] at h1 ⊢;simp only [Option.map_some,Option.some.injEq,Prod.mk.injEq] at h1 ⊢;exact WideElems.rg_of (NP h1.1 (hd _ (WZ hi)))
  ·rw [Xs hi,Xs (show es.toList.length<=i by simp; omega)] <;> rfl
 refine ⟨_,⟨es,clock,hg,⟨ad,hs,?_⟩,ad,rfl⟩,?_,?_⟩
 ·intro x hx;obtain ⟨i,hi,rfl⟩:=Xg hx;have hi':i<D.length:=by simp at hi; omega
  have h1:(es.toList.map (fun e=>(e.key,e.val)))[i]?=(D.map (fun p=>(Value.string p.1,p.2)))[i]?:=by rw [he]
  simp only [List.getElem?_map,List.getElem?_eq_getElem hi',List.getElem?_eq_getElem hi,Option.map_some,Option.some.injEq,Prod.mk.injEq] at h1;exact ⟨_,NP h1.1 (hd _ (WZ hi'))⟩
 ·show List.Perm (((es.toList.map (WideElems.rg Tryz.prog 9 Jr)).foldr DataW.insert []).map fun p=>strOf p.1) _;rw [hrd];refine ((WideShapes.sorted_perm _).map _).trans ?_;rw [Xf];exact List.Perm.refl _
 ·show ((es.toList.map (WideElems.rg Tryz.prog 9 Jr)).foldr DataW.insert []).length=D.length;rw [hrd,length_sorted,WQ]
theorem World.MA {W:World} {h:Hp} {o:Obj} (hW:W.heap=h.push o):({ W with heap:=h }:World).alloc o=W:=by
 cases W;simp only at hW;subst hW;rfl
theorem dz.alloc (w:World) (o:Obj):dz w (w.alloc o):=⟨rfl,rfl,rfl⟩
theorem It (r:Option Nat) (h:Hp):HC Tryz.prog 109 #[.map r] h fun v h'=>v=.func (.func 124) #[] #[.pointer (some ⟨h.size,0,none⟩)]/\h'=h.push (.cells #[.map r] 170):=by
 intro W hW;subst hW;exact (callsIn_wide.1 (Tryz.Ao r W)).mono fun e w' ⟨he,hw⟩=>⟨_,he,by rw [hw]; exact dz.alloc _ _,rfl,by rw [hw]; rfl⟩
theorem SL.Tw {W:World} {b:Nat} {e:TypeId} {v:ZB} {xs:List ZB} (r:W.ownsRow b e 1 v xs.length xs):∃ p l c,v=.slice p l c/\SL W.heap b e 1 p l c (xs.map fun x=>[x]):=by
 have hfl:∀ ys:List ZB,(ys.map fun x=>[x]).flatten=ys:=by
  intro ys
  induction ys with
  | nil=>rfl
  | cons y ys ih=>simp [ih]
 obtain ⟨h1,h2⟩:=r;rcases h2 with ⟨hv,hn⟩ | ⟨g,cap,jd,hv,hb,hg,hle,hc,hs,ht⟩
 ·have:xs=[]:=XN hn
  subst this;exact ⟨none,0,0,hv,SL.nil _ _ _ _⟩
 ·refine ⟨some ⟨g,0,none⟩,xs.length,cap,hv,aj,aj,g,[],jd.toList.drop xs.length,rfl,hb,⟨hle,by unfold maxLen at hc; omega⟩,?_,?_⟩
  ·rw [hfl,Yj]
   have:xs=jd.toList.take xs.length:=by rw [<- ht]; simp
   unfold bz;rw [hg]
   congr 2
   conv=>lhs; rw [<- Array.toArray_toList (xs:=jd),<- Xw xs.length jd.toList]
   rw [<- this]
  ·rw [XQ,XT,hs]; omega
theorem rQ {h:Hp} {g:Nat} {D:List (ZA × ZB)} (m:eD h g D) (hl:D.length<=2^40) :
  HC Tryz.prog 108 #[.func (.func 124) #[] #[.pointer (some ⟨h.size,0,none⟩)]] (h.push (.cells #[.map (some g)] 170)) fun v h'=>∃ p l c,v=.slice p l c/\SL h' (h.size+1) 9 1 p l c ((keysOf D).map fun k=>[encStr k]) /\
   Ext (h.push (.cells #[.map (some g)] 170)) h':=by
 intro W hW;obtain ⟨D0,hown,hperm,hsize⟩:=eD.owns (W:={ W with heap:=h }) m (by unfold maxLen; omega);have hc:=callsIn_wide.1 (Tryz.kR g D.length D0 Jr { W with heap:=h } hown (by rw [hsize]; unfold maxLen; omega) (by rw [hsize]; omega));rw [World.MA hW] at hc;refine hc.mono fun e w' hr=>?_
 obtain ⟨v,ss,he,hp,hrow,_,hb⟩:=hr;have hss:ss.mergeSort (fun x y=>decide (x<=y))=keysOf D:=mergeSort_of_perm (hp.trans hperm);have hlen:ss.length=((ss.mergeSort (fun x y=>decide (x<=y))).map encStr).length:=by rw [WQ,List.length_mergeSort]
 rw [hlen,hss] at hrow;obtain ⟨p,l,c,hv,hsl⟩:=SL.Tw hrow;refine ⟨v,he,⟨hb.os,hb.tape,hb.output⟩,p,l,c,hv,?_,?_⟩
 ·rw [Xf] at hsl
  have:W.heap.size=h.size+1:=by rw [hW]; simp
  rw [this] at hsl;exact hsl
 ·rw [<- hW];exact ⟨hb.size,fun i hi _=>hb.block i hi⟩
abbrev cU:=List (ZA × Nat)
def cR (p:ZA × Nat):List ZB:=[.string p.1,.int .u32 p.2]
def vm (D:cU):List (ZA × ZB):=D.map fun p=>(p.1,Value.int .u32 p.2)
def dJ (D:cU) (s:ZA):Nat:=((D.find? fun p=>decide (s=p.1)).map (·.2)).getD 0
def uH (D:cU) (s:ZA) (v:Nat):cU:=if (D.find? fun p=>decide (s=p.1)).isSome then D.map fun p=>if s=p.1 then (p.1,v) else p else D++[(s,v)]
def iE (D:cU) (p:ZA × Nat):cU:=uH D p.1 ((dJ D p.1+p.2) % 4294967296)
def E2 (D:cU):cU:=(keysOf (vm D)).filterMap fun k=>if dJ D ⟨k.toArray⟩=0 then none else some (⟨k.toArray⟩,dJ D ⟨k.toArray⟩)
theorem O5 (D:cU) (s:ZA):(vm D).find? (fun p=>decide (s=p.1))=(D.find? fun p=>decide (s=p.1)).map fun p=>(p.1,Value.int .u32 p.2):=by
 unfold vm
 induction D with
 | nil=>rfl
 | cons p D ih =>
  by_cases h:s=p.1
  ·simp [h]
  ·simp only [List.map_cons,List.find?_cons,decide_eq_false h];exact ih
theorem Hm (D:cU) (s:ZA):look (vm D) s=(D.find? fun p=>decide (s=p.1)).map fun p=>Value.int .u32 p.2:=by
 unfold look;rw [O5,Option.map_map] <;> rfl
theorem Ka (D:cU) (s:ZA):(look (vm D) s).getD (.int .u32 0)=.int .u32 (dJ D s):=by
 rw [Hm];unfold dJ
 all_goals (cases D.find? fun p=>decide (s=p.1) <;> rfl)
theorem To (D:cU) (s:ZA) (v:Nat):jN (vm D) s (.int .u32 v)=vm (uH D s v):=by
 unfold jN uH;rw [Hm];cases h:(D.find? fun p=>decide (s=p.1)) with
 | none=>simp [vm]
 | some q =>
  simp only [Option.map_some,Option.isSome_some,if_true,vm,List.map_map];refine XC fun p hp=>?_
  simp only [Function.comp];split <;> simp_all
theorem DG (D:cU) (s:ZA) (v:Nat):(uH D s v).length<=D.length+1:=by
 unfold uH;split <;> simp
theorem Sf:(Tryz.prog.info? 58).bind (·.zero)=some (.int .u32 0):=ax
theorem zy:Tryz.prog.underlying 57=some (.slice 66):=ax
theorem sC:(Tryz.prog.info? 66).map (fun i=>(i.zero,i.size,i.bytes))=some (some (.agg #[.string ⟨#[]⟩,.int .u32 0]),2,24):=ax
theorem oE {L:Lp} {K:ZB->Hp->Prop} {h:Hp} {g:Nat} {D:cU} (m:eD h g (vm D)) (s:ZA) {k:Int->T} (hk:k (dJ D s) L K h):T.dY Tryz.prog (Instr.lookup 170 (.map (some g)) (.string s) false) false [(false,[.int .u32])] k L K h:=by
 refine jh RH wT Sf m s false _ ?_;refine ⟨((dJ D s:Int),()),?_,hk⟩;simp only [Bool.false_eq_true,if_false];rw [Ka] <;> rfl
theorem Gc {L:Lp} {K:ZB->Hp->Prop} {h:Hp} {g:Nat} {D:cU} (m:eD h g (vm D)) {s:ZA} (hs:s.size<=maxLen) {v:Int} {n:Nat} (hv:v=(n:Int)) {k:T} (hk:∀ h',eD h' g (vm (uH D s n))->Ch [g] h h'->h'.size=h.size->k L K h') :
  T.ec Tryz.prog (Instr.mapUpdate 170 (.map (some g)) (.string s) (.int .u32 v)) k L K h:=by
 subst hv;refine fN RH wT m hs _ _ ?_;intro h' m' c' z';rw [To] at m';exact hk h' m' c' z'
theorem ON {h:Hp} {g:Nat} {D:cU} (m:eD h g (vm D)) (hl:D.length<=2^40) (n:Int) :
  HC Tryz.prog 110 #[.map (some g),.int .u32 n] h fun v h'=>Ext h h'/\∃ p l c,v=.agg #[.slice p l c,.int .u32 n]/\SL h' h.size 66 2 p l c ((E2 D).map cR):=by
 refine aX (args:=[.map (some g),.int .u32 n]) mixed Tryz.func110 ax (yZ (some g) n) ?_;unfold xo aZ bg bq aK bG bh bK bd aM;refine bm ?_;intro h1 b1 e1 z1;refine bm ?_;intro h2 b2 e2 z2;refine aw b2 rfl aj ?_;intro h3 b3 k3 z3;have b3:bz h3 h1.size 60 [.slice none 0 0,.int .u32 n]:=b3;have e3:Ext h h3:=Ch.trans (e1.trans e2) k3 (fun i hi hl=>by simp at hi; omega);have m3:=m.ao e3 aj;have c3:bz h3 h.size 60 [.slice none 0 0,.int .u32 0]:=(b1.ao e2 aj).ao k3 (by simp; omega);refine aH (It (some g) h3) ?_;rintro _ h4 ⟨rfl,rfl⟩;refine ⟨(.func (.func 124) #[] #[.pointer (some ⟨h3.size,0,none⟩)],()),rfl,?_⟩;refine an ?_;have e4:Ext h3 (h3.push (.cells #[.map (some g)] 170)):=Ext.push _ _;have hkl:(vm D).length<=2^40:=by unfold vm; rw [WQ]; exact hl
 refine aH (rQ m3 hkl) ?_;rintro _ h5 ⟨pk,lk,ck,rfl,sk,e5⟩;refine ⟨((pk,lk,ck),()),rfl,?_⟩;refine an ?_;have e35:=e4.trans e5;have hkeys:(keysOf (vm D)).length<=2^40:=by
  unfold keysOf;rw [List.length_mergeSort,WQ];exact hkl
 have hlk:lk=(keysOf (vm D)).length:=by rw [sk.1,WQ]
 unfold E2;generalize keysOf (vm D)=ks at sk hkeys hlk ⊢;have b5:=b3.ao e35 aj;have c5:=c3.ao e35 aj;have m5:=m3.ao e35 aj;have e05:=e3.trans e35;have hz3:=e35.size;have hb3:=b3.lt;have hg:=m.lt;refine aR (cs:=[(false,[.int .i64])]) (fun x w h'=>∃ (i:Nat) (p:Option ZC) (l c:Nat),x.1=(i:Int)/\i<=ks.length/\w=ks.length-i/\Ch [h1.size] h5 h'/\bz h' h1.size 60 [.slice p l c,.int .u32 n] /\
  SL h' h5.size 66 2 p l c (((ks.take i).filterMap fun k=>if dJ D ⟨k.toArray⟩=0 then none else some ((⟨k.toArray⟩:ZA),dJ D ⟨k.toArray⟩)).map cR)/\l<=i) ((0:Int),()) ks.length rfl
  ⟨0,none,0,0,rfl,ad,ad,Ch.refl _ _,b5,SL.nil _ _ _ _,ad⟩ ?_
 rintro ⟨n8,⟨⟩⟩ w h6 ⟨i,p,l,c,hi,hile,rfl,k6,b6,s6,hli⟩;simp only at hi;subst hi;refine an ?_;have m6:=m5.ao k6 (by simp; omega);have hz6:=k6.size;have e06:Ext h h6:=Ch.trans e05 k6 (fun j hj hl=>by simp at hj; omega);refine ak (fun g1=>?_) (fun g1=>?_)
 ·have g1:=WR g1;have hilt:i<ks.length:=ad
  have sk6:=sk.bF k6 (fun j hj=>by have:=(sk.bY hj).1; simp; omega);obtain ⟨a,rfl,hc⟩:=sk6.cells (i:=i) (by simpa using hilt);rw [WY] at hc;have htk:ks.take (i+1)=ks.take i++[ks[i]]:=WW hilt;generalize ks[i]=k at hc htk;refine ay ⟨ad,ad⟩ (av rfl ?_);rw [show Int.toNat (i:Int)=i from ad];refine az ((⟨k.toArray⟩:ZA),()) hc ?_;refine an ?_;have hw:IntKind.wrap .i64 ((i:Int)+1)=((i+1:Nat):Int):=by rw [wrap_i64 ad ad]; omega
  refine oE m6 _ (ak (fun g2=>?_) (fun g2=>?_))
  ·have g2:((dJ D ⟨k.toArray⟩:Nat):Int)≠0:=by simpa using g2
   refine af b6 ((p,l,c),()) rfl ?_;refine an ?_;refine oE m6 _ ?_;refine kh (vs:=cR (⟨k.toArray⟩,dJ D ⟨k.toArray⟩)) zy sC rfl ad ad ax rfl rfl s6 hz6 ad ad ?_;intro p' c' h7 s7 k7 hp7;have b7:=b6.ao k7 (fun hh=>by have:=(s6.bY hh).1; omega);refine aw b7 rfl aj ?_;intro h8 b8 k8 z8;refine aF (cs:=[(false,[.int .i64])]) (((i+1:Nat):Int),()) (ks.length-(i+1)) rfl ad (Xa (fun z=>[Value.int .i64 z]) hw) ⟨i+1,p',l+1,c',rfl,ad,rfl,?_,b8,?_,ad⟩
   ·exact Ch.trans (Ch.trans k6 k7 (fun j hj hl=>by have:=(s6.bY hj).1; omega)) k8 (fun j hj _=>hj)
   ·rw [htk,YG,W5];have hf:([k].filterMap fun k=>if dJ D ⟨k.toArray⟩=0 then none else some ((⟨k.toArray⟩:ZA),dJ D ⟨k.toArray⟩))=[((⟨k.toArray⟩:ZA),dJ D ⟨k.toArray⟩)]:=by
     simp only [List.filterMap_cons,List.filterMap_nil];rw [WV ad]
    rw [hf];exact s7.bF k8 (fun j hj=>by have:=(s7.bY hj).1; simp; omega)
  ·have g2:((dJ D ⟨k.toArray⟩:Nat):Int)=0:=by simpa using g2
   refine aF (cs:=[(false,[.int .i64])]) (((i+1:Nat):Int),()) (ks.length-(i+1)) rfl ad (Xa (fun z=>[Value.int .i64 z]) hw) ⟨i+1,p,l,c,rfl,ad,rfl,k6,b6,?_,ad⟩;rw [htk,YG];have hf:([k].filterMap fun k=>if dJ D ⟨k.toArray⟩=0 then none else some ((⟨k.toArray⟩:ZA),dJ D ⟨k.toArray⟩))=[]:=by
    simp only [List.filterMap_cons,List.filterMap_nil];rw [W2 ad]
   rw [hf,XP];exact s6
 ·have g1:=WS g1;have hi:i=ks.length:=ad
  subst hi;rw [XG] at s6;have c6:=c5.ao k6 (by simp; omega);refine af b6 ((p,l,c),n,()) rfl ?_;refine an ?_;refine aw c6 rfl aj ?_;intro h7 b7 k7 z7;have b7:bz h7 h.size 60 [.slice p l c,.int .u32 n]:=b7;refine af b7 ((p,l,c),n,()) rfl ?_;have hz5:=e05.size;exact ⟨Ch.trans e06 k7 (fun j hj hl=>by simp at hj; omega),p,l,c,rfl,(s6.bF k7 (fun j hj=>by have:=(s6.bY hj).1; simp; omega)).mono ad⟩
structure gn (h:Hp) (p:Option ZC) (l:Nat) (us:cU):Prop where
 len:l=us.length
 cells:∀ i,(hi:i<us.length)->∃ a,p=some a/\aG h (a.add (i*2)) 0 (cR us[i])
theorem gn.ao {ws:List Nat} {h h':Hp} {p:Option ZC} {l:Nat} {us:cU} (v:gn h p l us) (k:Ch ws h h') (hw:∀ i,i∈aJ p->i∉ws):gn h' p l us :=
 ⟨v.len,fun i hi=>by
  obtain ⟨a,ha,hc⟩:=v.cells i hi;exact ⟨a,ha,aT k (by rw [gV]; exact hw _ (by rw [ha]; simp [aJ])) _ _ hc⟩⟩
theorem SL.Rq {h:Hp} {b:Nat} {e:TypeId} {p:Option ZC} {l c:Nat} {us:cU} (s:SL h b e 2 p l c (us.map cR)):gn h p l us:=by
 refine ⟨by rw [s.1,WQ],fun i hi=>?_⟩;obtain ⟨a,ha,hc⟩:=s.cells (i:=i) (by simpa using hi);rw [WY] at hc;exact ⟨a,ha,hc⟩
structure bX where
 ai:cU
 num:Nat
def gH (p:Option ZC) (l c:Nat) (x:bX):ZB:=.agg #[.slice p l c,.int .u32 x.num]
def Dk (l:cU):cU:=E2 (l.foldl iE [])
def ln (x y:bX):bX:=⟨Dk (x.ai++y.ai),(x.num+y.num) % 4294967296⟩
theorem dN (x:Int):IntKind.wrap .u32 x=x % 4294967296:=by
 simp only [IntKind.wrap] <;> rfl
theorem iq (a:Nat):((a % 4294967296:Nat):Int)=(a:Int) % 4294967296:=Int.natCast_emod a 4294967296
def gF (a b:ZA):Prop:=a.data.toList<b.data.toList
instance (a b:ZA):Decidable (gF a b):=inferInstanceAs (Decidable (a.data.toList<b.data.toList))
theorem zK (a:ZA):¬ gF a a:=List.lt_irrefl (α:=UInt8) _
theorem ji {a b c:ZA} (h:gF a b) (k:gF b c):gF a c:=List.lt_trans (α:=UInt8) h k
theorem xE {a b:ZA} (h:a.data.toList=b.data.toList):a=b:=by
 cases a; cases b;simp only at h;rw [Xv.1 h]
theorem yj (a b:ZA) (h:¬ gF a b) (k:¬ gF b a):a=b :=
 xE (List.le_antisymm (α:=UInt8) (List.not_lt.1 k) (List.not_lt.1 h))
theorem jk {a b:ZA} (h:gF a b):a≠b:=fun e=>by subst e; exact zK _ h
theorem Bb {a b:ZA} (h:gF a b):¬ gF b a:=fun k=>zK _ (ji h k)
structure Nf (l:cU):Prop where
 Ss:l.Pairwise fun p q=>gF p.1 q.1
 DV:∀ p,p∈l->p.2≠0/\p.2<4294967296
def cf:cU->ZA->Nat
 | [],_=>0
 | p::l,s=>(if p.1=s then p.2 else 0)+cf l s
theorem zt (s:ZA):cf [] s=0:=rfl
theorem eG (p:ZA × Nat) (l:cU) (s:ZA):cf (p::l) s=(if p.1=s then p.2 else 0)+cf l s:=rfl
theorem Nf.tail {p:ZA × Nat} {l:cU} (h:Nf (p::l)):Nf l:=⟨(X9.1 h.1).2,fun q hq=>h.2 q (Xb _ hq)⟩
theorem Nf.head {p:ZA × Nat} {l:cU} (h:Nf (p::l)):∀ q,q∈l->gF p.1 q.1:=(X9.1 h.1).1
theorem Nf.nil:Nf []:=⟨List.Pairwise.nil,aj⟩
theorem yo {l:cU} {s:ZA} (h:∀ p,p∈l->p.1≠s):cf l s=0:=by
 induction l with
 | nil=>rfl
 | cons p l ih =>
  rw [eG,WV (h p (Yn ..)),ih fun q hq=>h q (Xb _ hq)]
theorem JP (l m:cU) (s:ZA):cf (l++m) s=cf l s+cf m s:=by
 induction l with
 | nil=>simp [cf]
 | cons p l ih=>simp only [List.cons_append,cf,ih]; omega
theorem Nf.lQ {p:ZA × Nat} {l:cU} (h:Nf (p::l)):cf (p::l) p.1=p.2:=by
 rw [eG,W2 rfl,yo fun q hq=>(jk (h.head q hq)).symm] <;> rfl
theorem Nf.CM {l:cU} {s:ZA} (h:∀ p,p∈l->gF s p.1):cf l s=0:=yo fun p hp=>(jk (h p hp)).symm
theorem Nf.OZ:∀ {l m:cU},Nf l->Nf m->(∀ s,cf l s % 4294967296=cf m s % 4294967296)->l=m
 | [],[],_,_,_=>rfl
 | [],q::m,_,hm,h=>by
  have:=h q.1
  rw [hm.lQ] at this;have hq:=hm.DV q (Yn ..);simp only [cf] at this;omega
 | p::l,[],hl,_,h=>by
  have:=h p.1
  rw [hl.lQ] at this;have hq:=hl.DV p (Yn ..);simp only [cf] at this;omega
 | p::l,q::m,hl,hm,h=>by
  have hp:=hl.DV p (Yn ..);have hq:=hm.DV q (Yn ..)
  by_cases h1:gF p.1 q.1
  ·exfalso
   have:=h p.1
   rw [hl.lQ,Nf.CM (l:=q::m) (s:=p.1) (by
    intro r hr;rcases Xo.1 hr with rfl | hr
    ·exact h1
    ·exact ji h1 (hm.head r hr))] at this
   omega
  ·by_cases h2:gF q.1 p.1
   ·exfalso
    have:=h q.1
    rw [hm.lQ,Nf.CM (l:=p::l) (s:=q.1) (by
     intro r hr;rcases Xo.1 hr with rfl | hr
     ·exact h2
     ·exact ji h2 (hl.head r hr))] at this
    omega
   ·have he:=yj _ _ h1 h2;have h3:=h p.1;rw [hl.lQ,he,hm.lQ] at h3;have hpq:p=q:=by
     obtain ⟨a,b⟩:=p;obtain ⟨c,d⟩:=q;simp only at he h3 hp hq;subst he
     congr 1
     rw [Yt hp.2,Yt hq.2] at h3;exact h3
    subst hpq
    congr 1
    refine Nf.OZ hl.tail hm.tail fun s=>?_
    by_cases hs:p.1=s
    ·subst hs;rw [Nf.CM hl.head,Nf.CM hm.head]
    ·have:=h s
     simp only [cf,if_neg hs,Nat.zero_add] at this;exact this
theorem qk (s:ZA):dJ [] s=0:=rfl
theorem oo (p:ZA × Nat) (D:cU) (s:ZA):dJ (p::D) s=if s=p.1 then p.2 else dJ D s:=by
 unfold dJ;rw [YF]
 by_cases h:s=p.1
 ·simp [h]
 ·simp [h]
theorem DL (D:cU) (s t:ZA) (v:Nat):dJ (D++[(t,v)]) s=if (D.find? fun p=>decide (s=p.1)).isSome then dJ D s else if s=t then v else 0:=by
 induction D with
 | nil=>simp [oo,qk]
 | cons p D ih =>
  rw [List.cons_append,oo,oo,ih,YF]
  by_cases h:s=p.1
  ·simp [h]
  ·simp only [decide_eq_false h,if_neg h]
theorem Bm {D:cU} {s:ZA} (h:(D.find? fun p=>decide (s=p.1)).isSome=false):dJ D s=0:=by
 unfold dJ;cases hf:(D.find? fun p=>decide (s=p.1)) with
 | none=>rfl
 | some x=>rw [hf] at h; cases h
theorem KX (D:cU) (t:ZA) (v:Nat) (s:ZA):dJ (D.map fun p=>if t=p.1 then (p.1,v) else p) s=if s=t/\(D.find? fun p=>decide (t=p.1)).isSome then v else dJ D s:=by
 induction D with
 | nil=>simp [qk]
 | cons p D ih =>
  rw [Xy,oo,ih,oo,YF]
  by_cases h:t=p.1
  ·subst h
   by_cases k:s=p.1 <;> simp [k]
  ·rw [WV h]
   by_cases k:s=p.1
   ·subst k
    have:¬ p.1=t:=fun e=>h e.symm
    simp [this]
   ·simp only [decide_eq_false h,if_neg k]
theorem Bl (D:cU) (t:ZA) (v:Nat) (s:ZA):dJ (uH D t v) s=if s=t then v else dJ D s:=by
 unfold uH;split
 ·rename_i hh;rw [KX]
  by_cases k:s=t <;> simp [k,hh]
 ·rename_i hh;rw [DL]
  by_cases k:s=t
  ·subst k;simp [hh]
  ·rw [WV k];split
   ·rfl
   ·rename_i h2;rw [Bm (Bool.eq_false_iff.2 h2)]
theorem F6 (l:cU) (s:ZA):∀ D:cU,dJ (l.foldl iE D) s % 4294967296=(dJ D s+cf l s) % 4294967296:=by
 induction l with
 | nil=>intro D; simp [cf]
 | cons p l ih =>
  intro D;rw [XI,ih];unfold iE;rw [eG,Bl]
  by_cases h:s=p.1
  ·subst h;rw [W2 rfl,W2 rfl,Nat.mod_add_mod]
   congr 1; omega
  ·rw [WV h,WV fun e=>h e.symm]
   congr 1; omega
theorem Ge {D:cU} (h:(D.map (·.1)).Nodup) (t:ZA) (v:Nat):((uH D t v).map (·.1)).Nodup:=by
 unfold uH;have h1:(D.find? fun p=>decide (t=p.1)).isSome=true↔t∈D.map (·.1):=by
  rw [List.find?_isSome];simp [eq_comm]
 split
 ·have e:(D.map fun p=>if t=p.1 then (p.1,v) else p).map (·.1)=D.map (·.1):=by
   rw [Xf];refine XC fun p hp=>?_
   simp only [Function.comp];split <;> rfl
  rw [e]; exact h
 ·rename_i hn;rw [W5,X6];refine ⟨h,aj,?_⟩;rintro a ha b hb rfl;simp only [List.map_cons,List.map_nil,List.mem_singleton] at hb;subst hb;exact hn (h1.2 ha)
theorem yR (l:cU):∀ D:cU,(D.map (·.1)).Nodup->((l.foldl iE D).map (·.1)).Nodup:=by
 induction l with
 | nil=>intro D h; exact h
 | cons p l ih =>
  intro D h;rw [XI];exact ih _ (Ge h _ _)
theorem HI (l:cU):∀ D:cU,(∀ s,dJ D s<4294967296)->∀ s,dJ (l.foldl iE D) s<4294967296:=by
 induction l with
 | nil=>intro D h; exact h
 | cons p l ih =>
  intro D h;rw [XI];refine ih _ fun s=>?_
  unfold iE;rw [Bl];split
  ·exact YY _ bU
  ·exact h s
theorem NQ {D:cU} {s:ZA} (h:s∉D.map (·.1)):dJ D s=0:=by
 refine Bm ?_;cases hf:(D.find? fun p=>decide (s=p.1)).isSome with
 | false=>rfl
 | true =>
  rw [List.find?_isSome] at hf;obtain ⟨x,hx,hs⟩:=hf;exact absurd (WX.2 ⟨x,hx,(WR hs).symm⟩) h
def pick (g:ZA->Nat) (ks:List (List UInt8)):cU:=ks.filterMap fun k=>if g ⟨k.toArray⟩=0 then none else some (⟨k.toArray⟩,g ⟨k.toArray⟩)
theorem OG (g:ZA->Nat) (s:ZA):∀ ks:List (List UInt8),ks.Nodup->cf (pick g ks) s=if s.data.toList∈ks then g s else 0:=by
 intro ks
 induction ks with
 | nil=>intro _; simp [pick,cf]
 | cons k ks ih =>
  intro h;rw [List.nodup_cons] at h;have ih:=ih h.2;unfold pick at ih ⊢;rw [List.filterMap_cons];have e1:(⟨k.toArray⟩:ZA)=s↔s.data.toList=k:=by
   constructor
   ·rintro rfl; simp
   ·intro e; exact xE (by simp [e])
  by_cases hk:s.data.toList=k
  ·have hs:=e1.2 hk;rw [hs];split
   ·rename_i hg;split at hg
    ·rename_i h0;rw [ih,h0]
     simp
    ·cases hg
   ·rename_i hg;split at hg
    ·cases hg
    ·cases hg;rw [eG,ih,W2 rfl,WV (by rw [hk]; exact h.1),W2 (by rw [hk]; simp)] <;> rfl
  ·have hs:¬ (⟨k.toArray⟩:ZA)=s:=fun e=>hk (e1.1 e)
   split
   ·rw [ih];simp [hk]
   ·rename_i hg;split at hg
    ·cases hg
    ·cases hg;rw [eG,ih,WV hs];simp [hk]
theorem Qe (g:ZA->Nat) (hg:∀ s,g s<4294967296) {ks:List (List UInt8)} (h:ks.Pairwise fun a b=>a<b):Nf (pick g ks):=by
 refine ⟨?_,?_⟩
 ·unfold pick;refine List.Pairwise.filterMap _ ?_ h;intro a b hab p hp q hq;split at hp
  ·cases hp
  ·split at hq
   ·cases hq
   ·cases hp; cases hq;unfold gF;simpa using hab
 ·intro p hp;unfold pick at hp;rw [Ye] at hp;obtain ⟨k,_,hk⟩:=hp;split at hk
  ·cases hk
  ·rename_i h0;cases hk;exact ⟨h0,hg _⟩
theorem xy (D:cU):(keysOf (vm D)).Perm (D.map fun p=>p.1.data.toList):=by
 unfold keysOf vm;rw [Xf];exact List.mergeSort_perm _ _
theorem sx {D:cU} (h:(D.map (·.1)).Nodup):(keysOf (vm D)).Pairwise fun a b=>a<b:=by
 have hn:(keysOf (vm D)).Nodup:=by
  refine (xy D).nodup_iff.2 ?_
  have:(D.map fun p=>p.1.data.toList)=(D.map (·.1)).map fun s=>s.data.toList:=by rw [Xf]; rfl
  rw [this];exact XM.2 (h.imp fun hne e=>hne (xE e))
 have hs:(keysOf (vm D)).Pairwise fun a b=>a<=b:=by
  unfold keysOf;refine (List.pairwise_mergeSort ?_ ?_ _).imp ?_
  ·intro a b c h1 h2;exact W1 (List.le_trans (α:=UInt8) (WR h1) (WR h2))
  ·intro a b;simp only [Bool.or_eq_true,decide_eq_true_eq];exact List.le_total (α:=UInt8) a b
  ·intro a b hab;exact WR hab
 refine (hs.and hn).imp ?_;rintro a b ⟨h1,h2⟩
 by_cases hlt:a<b
 ·exact hlt
 ·exact absurd (List.le_antisymm (α:=UInt8) h1 (List.not_lt.1 hlt)) h2
theorem Ey (l:cU):Dk l=pick (dJ (l.foldl iE [])) (keysOf (vm (l.foldl iE []))):=rfl
theorem zH (l:cU):Nf (Dk l):=by
 rw [Ey];exact Qe _ (HI l [] (fun s=>by rw [qk]; decide)) (sx (yR l [] aj))
theorem zN (l:cU) (s:ZA):cf (Dk l) s=cf l s % 4294967296:=by
 have h1:=F6 l s [];rw [qk,Xq,Yt (HI l [] (fun s=>by rw [qk]; decide) s)] at h1;rw [Ey,OG _ _ _ ((sx (yR l [] aj)).imp fun h e=>by subst e; exact List.lt_irrefl (α:=UInt8) _ h)];split
 ·exact h1
 ·rename_i hn;rw [<- h1,NQ];intro hm;refine hn ((xy _).mem_iff.2 ?_);obtain ⟨p,hp,rfl⟩:=WX.1 hm;exact WX.2 ⟨p,hp,rfl⟩
def eW (n:Nat) (l:cU):cU:=l.filterMap fun p=>if p.2*n % 4294967296=0 then none else some (p.1,p.2*n % 4294967296)
def eX:Nat->cU->cU->cU
 | 0,_,_=>[]
 | n+1,x,y=>match x,y with
  | [],[]=>[]
  | p::x,[]=>p::eX n x []
  | [],q::y=>q::eX n [] y
  | p::x,q::y=>if gF p.1 q.1 then p::eX n x (q::y) else if gF q.1 p.1 then q::eX n (p::x) y else if (p.2+q.2) % 4294967296=0 then eX n x y else (p.1,(p.2+q.2) % 4294967296)::eX n x y
def JE (x y:cU):cU:=eX (x.length+y.length) x y
theorem IY {n:Nat} {l:cU} (h:Nf l):Nf (eW n l):=by
 refine ⟨?_,?_⟩
 ·unfold eW;refine List.Pairwise.filterMap _ ?_ h.1;intro a b hab p hp q hq;split at hp
  ·cases hp
  ·split at hq
   ·cases hq
   ·cases hp; cases hq;exact hab
 ·intro p hp;unfold eW at hp;rw [Ye] at hp;obtain ⟨k,_,hk⟩:=hp;split at hk
  ·cases hk
  ·rename_i h0;cases hk;exact ⟨h0,YY _ bU⟩
theorem I9 (n:Nat) (l:cU) (s:ZA):cf (eW n l) s % 4294967296=cf l s*n % 4294967296:=by
 induction l with
 | nil=>simp [eW,cf]
 | cons p l ih =>
  have hc:cf (eW n (p::l)) s=(if p.1=s then p.2*n % 4294967296 else 0)+cf (eW n l) s:=by
   unfold eW;rw [List.filterMap_cons];split
   ·rename_i hg;split at hg
    ·rename_i h0;rw [h0]; simp
    ·cases hg
   ·rename_i hg;split at hg
    ·cases hg
    ·cases hg;rfl
  rw [hc,Nat.add_mod,ih,eG]
  by_cases h:p.1=s
  ·rw [W2 h,W2 h,XX,Nat.mod_mod,<- Nat.add_mod]
  ·rw [WV h,WV h,Xq]; simp
theorem qF {n:Nat} {x y:cU} {r:ZA × Nat} (h:r∈eX n x y):(∃ p,p∈x/\p.1=r.1)\/(∃ q,q∈y/\q.1=r.1):=by
 induction n generalizing x y with
 | zero=>simp [eX] at h
 | succ n ih =>
  rcases x with _ | ⟨p,x⟩ <;> rcases y with _ | ⟨q,y⟩
  ·simp [eX] at h
  ·simp only [eX,List.mem_cons] at h;rcases h with rfl | h
   ·exact .inr ⟨_,aj,rfl⟩
   ·rcases ih h with ⟨a,ha,e⟩ | ⟨a,ha,e⟩
    ·simp at ha
    ·exact .inr ⟨a,by simp [ha],e⟩
  ·simp only [eX,List.mem_cons] at h;rcases h with rfl | h
   ·exact .inl ⟨_,aj,rfl⟩
   ·rcases ih h with ⟨a,ha,e⟩ | ⟨a,ha,e⟩
    ·exact .inl ⟨a,by simp [ha],e⟩
    ·simp at ha
  ·simp only [eX] at h;split at h
   ·rcases Xo.1 h with rfl | h
    ·exact .inl ⟨_,aj,rfl⟩
    ·rcases ih h with ⟨a,ha,e⟩ | ⟨a,ha,e⟩
     ·exact .inl ⟨a,by simp [ha],e⟩
     ·exact .inr ⟨a,ha,e⟩
   ·split at h
    ·rcases Xo.1 h with rfl | h
     ·exact .inr ⟨_,aj,rfl⟩
     ·rcases ih h with ⟨a,ha,e⟩ | ⟨a,ha,e⟩
      ·exact .inl ⟨a,ha,e⟩
      ·exact .inr ⟨a,by simp [ha],e⟩
    ·split at h
     ·rcases ih h with ⟨a,ha,e⟩ | ⟨a,ha,e⟩
      ·exact .inl ⟨a,by simp [ha],e⟩
      ·exact .inr ⟨a,by simp [ha],e⟩
     ·rcases Xo.1 h with rfl | h
      ·exact .inl ⟨p,aj,rfl⟩
      ·rcases ih h with ⟨a,ha,e⟩ | ⟨a,ha,e⟩
       ·exact .inl ⟨a,by simp [ha],e⟩
       ·exact .inr ⟨a,by simp [ha],e⟩
theorem Nf.cons {p:ZA × Nat} {l:cU} (h:Nf l) (hc:p.2≠0/\p.2<4294967296) (hl:∀ q,q∈l->gF p.1 q.1):Nf (p::l) :=
 ⟨X9.2 ⟨hl,h.1⟩,fun q hq=>by rcases Xo.1 hq with rfl | hq; exact hc; exact h.2 q hq⟩
theorem PP {n:Nat} {x y:cU} (hx:Nf x) (hy:Nf y):Nf (eX n x y):=by
 induction n generalizing x y with
 | zero=>exact Nf.nil
 | succ n ih =>
  rcases x with _ | ⟨p,x⟩ <;> rcases y with _ | ⟨q,y⟩
  ·exact Nf.nil
  ·simp only [eX];refine (ih Nf.nil hy.tail).cons (hy.2 q aj) fun r hr=>?_
   rcases qF hr with ⟨a,ha,e⟩ | ⟨a,ha,e⟩
   ·simp at ha
   ·rw [<- e]; exact hy.head a ha
  ·simp only [eX];refine (ih hx.tail Nf.nil).cons (hx.2 p aj) fun r hr=>?_
   rcases qF hr with ⟨a,ha,e⟩ | ⟨a,ha,e⟩
   ·rw [<- e]; exact hx.head a ha
   ·simp at ha
  ·simp only [eX];split
   ·rename_i h1;refine (ih hx.tail hy).cons (hx.2 p aj) fun r hr=>?_
    rcases qF hr with ⟨a,ha,e⟩ | ⟨a,ha,e⟩
    ·rw [<- e]; exact hx.head a ha
    ·rw [<- e];rcases Xo.1 ha with rfl | ha
     ·exact h1
     ·exact ji h1 (hy.head a ha)
   ·rename_i h1;split
    ·rename_i h2;refine (ih hx hy.tail).cons (hy.2 q aj) fun r hr=>?_
     rcases qF hr with ⟨a,ha,e⟩ | ⟨a,ha,e⟩
     ·rw [<- e];rcases Xo.1 ha with rfl | ha
      ·exact h2
      ·exact ji h2 (hx.head a ha)
     ·rw [<- e]; exact hy.head a ha
    ·rename_i h2;have he:=yj _ _ h1 h2;split
     ·exact ih hx.tail hy.tail
     ·rename_i h0;refine (ih hx.tail hy.tail).cons ⟨h0,YY _ bU⟩ fun r hr=>?_
      rcases qF hr with ⟨a,ha,e⟩ | ⟨a,ha,e⟩
      ·rw [<- e]; exact hx.head a ha
      ·rw [<- e];show gF p.1 a.1;rw [he]; exact hy.head a ha
theorem PN {n:Nat} {x y:cU} (hn:x.length+y.length<=n) (s:ZA):cf (eX n x y) s % 4294967296=(cf x s+cf y s) % 4294967296:=by
 induction n generalizing x y with
 | zero =>
  have h1:x=[]:=Yr.1 ad;have h2:y=[]:=Yr.1 ad;subst h1 h2;rfl
 | succ n ih =>
  rcases x with _ | ⟨p,x⟩ <;> rcases y with _ | ⟨q,y⟩
  ·rfl
  ·simp only [eX,eG,zt]
   have:=ih (x:=[]) (y:=y) (by simp at hn ⊢; omega)
   simp only [zt] at this;omega
  ·simp only [eX,eG,zt]
   have:=ih (x:=x) (y:=[]) (by simp at hn ⊢; omega)
   simp only [zt] at this;omega
  ·simp only [List.length_cons] at hn;simp only [eX];split
   ·have:=ih (x:=x) (y:=q::y) (by simp; omega)
    simp only [eG] at this ⊢;omega
   ·rename_i h1;split
    ·have:=ih (x:=p::x) (y:=y) (by simp; omega)
     simp only [eG] at this ⊢;omega
    ·rename_i h2;have he:=yj _ _ h1 h2
     have:=ih (x:=x) (y:=y) ad
     split
     ·rename_i h0;simp only [eG,<- he];split
      ·omega
      ·omega
     ·simp only [eG,<- he];split
      ·omega
      ·omega
theorem O7 {x y:cU} (hx:Nf x) (hy:Nf y):Nf (JE x y):=PP hx hy
theorem O1 (x y:cU) (s:ZA):cf (JE x y) s % 4294967296=(cf x s+cf y s) % 4294967296:=PN (W9 _) s
theorem Cy (n:Nat) (l:cU) (s:ZA):cf (l.map fun p=>(p.1,p.2*n % 4294967296)) s % 4294967296=cf l s*n % 4294967296:=by
 induction l with
 | nil=>simp [cf]
 | cons p l ih =>
  simp only [List.map_cons,cf];rw [Nat.add_mod,ih]
  by_cases h:p.1=s
  ·rw [W2 h,W2 h,XX,Nat.mod_mod,<- Nat.add_mod]
  ·rw [WV h,WV h,Xq]; simp
def Cp (x:bX) (n:Nat):bX:=⟨eW n x.ai,x.num*n % 4294967296⟩
def xe (x y:bX):bX:=⟨JE x.ai y.ai,(x.num+y.num) % 4294967296⟩
theorem Az (n:Nat) (l:cU):(eW n l).length<=l.length:=List.length_filterMap_le _ _
def UN (r:Option Nat) (p:Option ZC) (l lv:Nat) (k:T):T :=
 T.loop [aM] [.int .i64 (0:Int)] <| fun (n20:Int) =>
 bq n20 l
  (T.need (((0:Int)<=n20)/\(n20<(l:Int))) <|
  T.bk p <| fun (a21:ZC) =>
  T.ah (a21.add (aK n20 2)) [.string,.int .u32] <| fun (s22:ZA) (n23:Int) =>
  T.new [bS,.int .u32 (0:Int)] 66 <| fun (a24:ZC) =>
  T.aC a24 [.string s22,.int .u32 n23] <|
  T.ah a24 [.string] <| fun (s25:ZA) =>
  bK (Instr.lookup 170 (.map r) (.string s25) false) false [(false,[.int .u32])] <| fun (n26:Int) =>
  T.ah (a24.add 1) [.int .u32] <| fun (n27:Int) =>
  T.ec Tryz.prog (Instr.mapUpdate 170 (.map r) (.string s25) (.int .u32 (IntKind.wrap .u32 (n26+n27)))) <|
  T.again lv [.int .i64 (bi (n20+(1:Int)))]) k
theorem vq (l:cU):∀ D:cU,(l.foldl iE D).length<=D.length+l.length:=by
 induction l with
 | nil=>intro D; simp
 | cons p l ih =>
  intro D;rw [XI];have h1:=ih (iE D p);have h2:=DG D p.1 ((dJ D p.1+p.2) % 4294967296);have h3:(iE D p).length<=D.length+1:=h2;simp only [List.length_cons];omega
theorem HZ {L:Lp} {K:ZB->Hp->Prop} {h:Hp} {g:Nat} {p:Option ZC} {l:Nat} {us D:cU} {k:T} {lv:Nat} (hlv:L.length=lv) (v:gn h p l us) (hl:us.length<=2^40) (hs:∀ t,t∈us->t.1.size<=maxLen) (m:eD h g (vm D)) (hg:g∉aJ p)
  (hk:∀ J h',eD h' g (vm (us.foldl iE D))->Ch [g] h h'->k (L++[J]) K h'):UN (some g) p l lv k L K h:=by
 have hll:=v.len;have hL:∀ J:List ZB->Hp->Prop,(L++[J])[lv]?=some J:=by intro J; subst hlv; simp
 unfold UN bq aK bK bi bS aM;refine aR (cs:=[(false,[.int .i64])]) (fun y w h'=>∃ (i:Nat),y.1=(i:Int)/\i<=us.length/\w=us.length-i/\Ch [g] h h'/\eD h' g (vm ((us.take i).foldl iE D))) ((0:Int),()) us.length rfl
  ⟨0,rfl,ad,ad,Ch.refl _ _,by simpa using m⟩ ?_
 rintro ⟨n8,⟨⟩⟩ w h4 ⟨i,hi,hile,rfl,k4,m4⟩;simp only at hi;subst hi;refine an ?_;refine ak (fun g1=>?_) (fun g1=>?_)
 ·have g1:=WR g1;have hilt:i<us.length:=ad
  obtain ⟨a,rfl,hc⟩:=(v.ao k4 (by intro j hj hm; rw [Xu] at hm; subst hm; exact hg hj)).cells i hilt;have htk:us.take (i+1)=us.take i++[us[i]]:=WW hilt;have hsz:=hs us[i] (WZ hilt);generalize us[i]=t at hc htk hsz;refine ay ⟨ad,ad⟩ (av rfl ?_);rw [show Int.toNat (i:Int)=i from ad];refine az (t.1,(t.2:Int),()) hc ?_;refine an ?_;refine bm ?_;intro h5 b5 e5 z5;refine aw b5 rfl aj ?_;intro h6 b6 k6 z6;have b6:bz h6 h4.size 66 (cR t):=b6;have e46:Ext h4 h6:=Ch.trans e5 k6 (fun j hj hl=>by simp at hj; omega);have m6:=m4.ao e46 aj;refine af b6 (t.1,()) rfl ?_;refine an ?_;refine oE m6 _ ?_;rw [aE];refine af b6 ((t.2:Int),()) rfl ?_;refine an ?_;generalize hDD:(us.take i).foldl iE D=D' at m6;refine Gc (n:=(dJ D' t.1+t.2) % 4294967296) m6 hsz ?_ ?_
  ·rw [dN,iq,Int.natCast_add]
  ·intro h7 m7 k7 z7;have hw:IntKind.wrap .i64 ((i:Int)+1)=((i+1:Nat):Int):=by rw [wrap_i64 ad ad]; omega
   have hf:(us.take (i+1)).foldl iE D=uH D' t.1 ((dJ D' t.1+t.2) % 4294967296):=by
    rw [htk,XV,hDD] <;> rfl
   refine aF (cs:=[(false,[.int .i64])]) (((i+1:Nat):Int),()) (us.length-(i+1)) (hL _) ad (Xa (fun z=>[Value.int .i64 z]) hw) ⟨i+1,rfl,ad,rfl,?_,by rw [hf]; exact m7⟩;exact Ch.trans (Ch.trans k4 e46 aj) k7 (fun j hj _=>hj)
 ·have g1:=WS g1;have hi:i=us.length:=ad
  subst hi;rw [XG] at m4;exact hk _ _ m4 k4
theorem gn.Tb {h:Hp} {p:Option ZC} {l:Nat} {us:cU} (v:gn h p l us) (hn:us≠[]):∀ i,i∈aJ p->i<h.size:=by
 intro i hi;cases us with
 | nil=>exact absurd rfl hn
 | cons t us =>
  obtain ⟨a,rfl,hc⟩:=v.cells 0 aj;simp only [aJ,List.mem_singleton] at hi;subst hi;rw [show a.add (0*2)=a by simp [Addr.add]] at hc;have h1:=hc.1;unfold gU at h1;split at h1
  ·rename_i hg
   have:=eP hg
   simpa [gV] using this
  ·cases h1
theorem T1:Tryz.prog.underlying 175=some (.slice 57):=ax
theorem UZ:(Tryz.prog.info? 57).map (fun i=>(i.zero,i.size,i.bytes))=some (some (.slice none 0 0),1,24):=ax
theorem Sg {h:Hp} {p q:Option ZC} {l c m d:Nat} {x y:bX} (v:gn h p l x.ai) (u:gn h q m y.ai) (hp:∀ i,i∈aJ p->i<h.size) (hq:∀ i,i∈aJ q->i<h.size)
  (hl:x.ai.length+y.ai.length<=2^40) (hx:∀ t,t∈x.ai->t.1.size<=maxLen) (hy:∀ t,t∈y.ai->t.1.size<=maxLen) :
  HC Tryz.prog 87 #[gH p l c x,gH q m d y] h fun w h'=>Ext h h'/\∃ p' l' c',w=gH p' l' c' (ln x y)/\SL h' h.size 66 2 p' l' c' ((ln x y).ai.map cR):=by
 refine aX (args:=[.agg #[.slice p l c,.int .u32 x.num],.agg #[.slice q m d,.int .u32 y.num]]) mixed Tryz.func87 ax (AE p l c x.num q m d y.num) ?_;unfold yu aZ bg bq aK bG bh bK bd bS aM;refine bm ?_;intro h1 b1 e1 z1;refine bm ?_;intro h2 b2 e2 z2;refine bm ?_;intro h3 b3 e3 z3;refine lA _ ?_;intro h4 m4 e4 z4;refine ⟨(some h3.size,()),rfl,?_⟩;refine an ?_;have b1:=((b1.ao e2 aj).ao e3 aj).ao e4 aj;have b2:=(b2.ao e3 aj).ao e4 aj;have b3:=b3.ao e4 aj;have e04:=((e1.trans e2).trans e3).trans e4;refine af b1 ((p,l,c),()) rfl ?_;refine an ?_;refine af b2 ((q,m,d),()) rfl ?_;refine an ?_;refine ml (cells:=[.slice p l c,.slice q m d]) T1 UZ bU bU ax ?_;intro h5 b5 e5 z5;have m5:eD h5 h3.size (vm []):=m4.ao e5 aj;have b1:=b1.ao e5 aj;have b2:=b2.ao e5 aj;have b3:=b3.ao e5 aj;have e05:=e04.trans e5;have hb5:=b5.lt;have hm4:=m4.lt;refine aR (cs:=[(false,[.int .i64])]) (fun z w h'=>∃ (i:Nat),z.1=(i:Int)/\i<=2/\w=2-i/\Ch [h3.size] h5 h'/\eD h' h3.size (vm ((([x.ai,y.ai].take i).flatten).foldl iE []))) ((0:Int),()) 2 rfl
  ⟨0,rfl,ad,ad,Ch.refl _ _,m5⟩ ?_
 rintro ⟨n8,⟨⟩⟩ w h6 ⟨i,hi,hile,rfl,k6,m6⟩;simp only at hi;subst hi;refine an ?_;have b6:=b5.ao k6 (by simp; omega);have e06:Ext h h6:=Ch.trans e05 k6 (fun j hj hl=>by simp at hj; omega);refine ak (fun g1=>?_) (fun g1=>?_)
 ·have g1:=WR g1;refine ay ⟨ad,ad⟩ (av rfl ?_);rw [show Int.toNat (i:Int)=i from ad,aE];have hw:IntKind.wrap .i64 ((i:Int)+1)=((i+1:Nat):Int):=by rw [wrap_i64 ad ad]; omega
  have hi2:i=0\/i=1:=ad
  rcases hi2 with rfl | rfl
  ·refine af b6 ((p,l,c),()) rfl ?_;refine an ?_;refine HZ (us:=x.ai) (D:=[]) rfl (v.ao e06 aj) ad hx m6 (fun hh=>by have:=hp _ hh; omega) ?_;intro J h7 m7 k7;refine aF (cs:=[(false,[.int .i64])]) (((0+1:Nat):Int),()) (2-(0+1)) rfl ad (Xa (fun z=>[Value.int .i64 z]) hw) ⟨0+1,rfl,ad,rfl,Ch.trans k6 k7 (fun j hj _=>hj),?_⟩;simpa using m7
  ·refine af b6 ((q,m,d),()) rfl ?_;refine an ?_;refine HZ (us:=y.ai) (D:=x.ai.foldl iE []) rfl (u.ao e06 aj) ad hy (by simpa using m6) (fun hh=>by have:=hq _ hh; omega) ?_;intro J h7 m7 k7;refine aF (cs:=[(false,[.int .i64])]) (((1+1:Nat):Int),()) (2-(1+1)) rfl ad (Xa (fun z=>[Value.int .i64 z]) hw) ⟨1+1,rfl,ad,rfl,Ch.trans k6 k7 (fun j hj _=>hj),?_⟩;simpa using m7
 ·have g1:=WS g1;have hi:i=2:=ad
  subst hi;have m6:eD h6 h3.size (vm ((x.ai++y.ai).foldl iE [])):=by simpa using m6
  have b1:=b1.ao k6 (by simp; omega);have b2:=b2.ao k6 (by simp; omega);have b3:=b3.ao k6 (by simp; omega);rw [aE,aE];refine af b1 ((x.num:Int),()) rfl ?_;refine an ?_;refine af b2 ((y.num:Int),()) rfl ?_;refine an ?_;refine aH (ON m6 (by have:=vq (x.ai++y.ai) []; rw [WU,List.length_nil] at this; omega) _) ?_;rintro _ h7 ⟨e7,p',l',c',rfl,s7⟩;refine ⟨((p',l',c'),IntKind.wrap .u32 ((x.num:Int)+(y.num:Int)),()),rfl,?_⟩;refine an ?_;refine aw (b3.ao e7 aj) rfl aj ?_;intro h8 b8 k8 z8;have b8:bz h8 h2.size 60 [.slice p' l' c',.int .u32 (IntKind.wrap .u32 ((x.num:Int)+(y.num:Int)))]:=b8;refine af b8 ((p',l',c'),IntKind.wrap .u32 ((x.num:Int)+(y.num:Int)),()) rfl ?_;have hz6:=e06.size;have hz2:=(e1.trans e2).size;have hb3:=b3.lt;refine ⟨Ch.trans (e06.trans e7) k8 (fun j hj hl=>by simp at hj; omega),p',l',c',?_,(s7.bF k8 (fun j hj=>by have:=(s7.bY hj).1; simp; omega)).mono ad⟩;unfold gH ln;rw [dN];dsimp only;rw [iq,Int.natCast_add]
theorem qo (p:UInt8->Bool) (l:List UInt8) (k:Nat) (hk:k<l.length):(l.take (k+1)).all p=((l.take k).all p && p (l.getD k 0)):=by
 rw [WW hk,List.all_append];simp [List.getD,List.getElem?_eq_getElem hk]
theorem rD (s:ZA) (h:Hp) (hs:s.size<=9223372036854775807):vM Tryz.prog 35 [.string s] h (.bool (cM s.data.toList)):=by
 refine ee mixed Tryz.func35 ax (nZ s) ?_;have hsz:s.data.toList.length=s.size:=aj
 unfold jA bg aU bG bt aM cd;unfold cM;rw [hsz];refine ak (fun h1=>?_) (fun h1=>?_)
 ·have h1:=WR h1;rw [show decide (0<s.size)=false from W4 ad];exact ⟨aj,rfl⟩
 have h1:=WS h1;refine ak (fun h2=>?_) (fun h2=>?_)
 ·have h2:=WR h2;rw [show decide (s.size<=32)=false from W4 ad];exact ⟨aj,rfl⟩
 have h2:=WS h2;rw [show decide (0<s.size)=true from W1 ad,show decide (s.size<=32)=true from W1 ad];refine ay ⟨ad,ad⟩ ?_;refine aI (AZ (s.data.toList.getD 0 0) h) ?_;refine ak (fun h3=>?_) (fun h3=>?_)
 ·have h3:eS (s.data.toList.getD 0 0)=false:=by simpa using h3
  rw [h3];exact ⟨aj,rfl⟩
 have h3:eS (s.data.toList.getD 0 0)=true:=by simpa using h3
 rw [h3];refine aR (cs:=[(false,[.bool]),(false,[.int .i64])]) (fun x n h'=>h'=h/\∃ k:Nat,x.2.1=(k:Int)/\k<=s.size/\n=s.size-k/\(s.data.toList.take k).all (fun c=>eS c || gM c)=true)
  (false,(0:Int),()) s.size rfl ⟨rfl,0,rfl,ad,ad,aj⟩ ?_
 rintro ⟨b,n,⟨⟩⟩ m h' ⟨rfl,k,hk,hle,rfl,hall⟩;simp only at hk;subst hk;refine ak (fun hb=>?_) (fun hb=>?_)
 ·have hlt:(k:Int)<s.size:=WR hb;have hst:=qo (fun c=>eS c || gM c) s.data.toList k ad;rw [hall,Xx] at hst;have hfalse:∀ k':Nat,(eS (s.data.toList.getD k 0) || gM (s.data.toList.getD k 0))=false->s.data.toList.all (fun c=>eS c || gM c)=false:=by
   intro k' hf;rw [hf] at hst;cases hx:s.data.toList.all (fun c=>eS c || gM c) with
   | false=>rfl
   | true =>
    have:(s.data.toList.take (k+1)).all (fun c=>eS c || gM c)=true:=Xn.2 fun c hc=>Xn.1 hx c (XY hc)
    rw [this] at hst; cases hst
  have hnext:(eS (s.data.toList.getD k 0) || gM (s.data.toList.getD k 0))=true->T.again 0 [.bool b,.int .i64 (IntKind.wrap .i64 ((k:Int)+1))] ([]++[Jl (cs:=[(false,[.bool]),(false,[.int .i64])]) (fun x n h''=>h''=h'/\∃ k:Nat,x.2.1=(k:Int)/\k<=s.size/\n=s.size-k/\(s.data.toList.take k).all (fun c=>eS c || gM c)=true) (s.size-k)]) (fun v' h''=>v'=.bool (true && true && true && s.data.toList.all (fun c=>eS c || gM c) && !(x8 s.data.toList).2.2)/\h''=h') h':=by
   intro ht;rw [wrap_i64 ad ad];exact aF (cs:=[(false,[.bool]),(false,[.int .i64])]) (b,(k:Int)+1,()) (s.size-(k+1)) rfl ad rfl ⟨rfl,k+1,(show ((k:Int)+1)=((k+1:Nat):Int) from ad),ad,rfl,by rw [hst,ht]⟩
  refine ay ⟨(by show (0:Int)<=(k:Int); omega),hlt⟩ ?_;refine aI (AZ (s.data.toList.getD k 0) h') ?_;refine ak (fun h4=>?_) (fun h4=>?_)
  ·have h4:eS (s.data.toList.getD k 0)=false:=by simpa using h4
   refine ay ⟨(by show (0:Int)<=(k:Int); omega),hlt⟩ ?_;refine aI (K6 (s.data.toList.getD k 0) h') ?_;refine ak (fun h5=>?_) (fun h5=>?_)
   ·have h5:gM (s.data.toList.getD k 0)=false:=by simpa using h5
    rw [hfalse 0 (by rw [h4,h5]; rfl)];exact ⟨aj,rfl⟩
   ·have h5:gM (s.data.toList.getD k 0)=true:=by simpa using h5
    exact hnext (by rw [h5]; simp)
  ·have h4:eS (s.data.toList.getD k 0)=true:=by simpa using h4
   exact hnext (by rw [h4]; simp)
 ·have hge:¬ (k:Int)<s.size:=WS hb;have hk:k=s.data.toList.length:=ad
  rw [hk,XG] at hall;rw [hall];refine DP (Ci s h') ?_;exact ⟨aj,rfl⟩
def dv (c:UInt8):Nat:=if c.toNat<58 then c.toNat-48 else c.toNat-87
def Sa (b:Nat) (l:List UInt8):Nat:=l.foldl (fun n c=>n*b+dv c) 0
def TX (c:UInt8):Bool:=gM c || (97<=c.toNat && c.toNat<=102)
def Dc:List UInt8:=[48,49,50,51,52,53,54,55,56,57,97,98,99,100,101,102]
def PK (l:List UInt8):Nat × Nat :=
 if l.take 2=[48,120] then
  (if 8<lK (l.drop 2) Dc\/lK (l.drop 2) Dc=0 then (0,0) else (2+lK (l.drop 2) Dc,Sa 16 ((l.drop 2).take (lK (l.drop 2) Dc))))
 else
  (if (1<lK l ic/\l.getD 0 0=48)\/lK l ic=0\/4294967296<=Sa 10 (l.take (lK l ic)) then (0,0) else (lK l ic,Sa 10 (l.take (lK l ic))))
def SY:List UInt8:=fY++ic
def AH (P:Program) (t:TypeId):Array Field :=
 match P.underlying t with
 | some (.struct fs)=>fs
 | _=>#[]
theorem bytes_beq (t:ZA):(t==t)=true:=by
 cases t with | mk d=>show (d==d)=true; simp
def hv (c:UInt8):Int:=if TX c=true then (dv c:Int) else -1
def sV (D:List UInt8):Nat × Nat :=
 if D.getD 0 0=39 then
  (if D.length<3\/(D.getD 1 0).toNat<32\/126<(D.getD 1 0).toNat\/D.getD 1 0=39\/D.getD 2 0≠39 then (0,0) else ((D.getD 1 0).toNat,3))
 else if (PK D).1=0\/0<lK (D.drop (PK D).1) SY then (0,0) else ((PK D).2,(PK D).1)
theorem C0 {s t:ZA} (h:s.data.toList=t.data.toList):s=t:=by
 cases s; cases t;simp only at h
 congr 1
 exact Xv.1 h
theorem add_add (a:ZC) (i j:Nat):(a.add i).add j=a.add (i+j):=by
 unfold Addr.add
 by_cases hi:i=0 <;> by_cases hj:j=0 <;> simp [hi,hj] <;> omega
def tg:bX:=⟨[],0⟩
structure Good (x:bX):Prop where
 nf:Nf x.ai
 Kw:∀ t,t∈x.ai->cM t.1.data.toList=true
 num:x.num<4294967296
theorem GD {s:ZA} (h:cM s.data.toList=true):s.size<=32:=by
 unfold cM at h;simp only [Bool.and_eq_true,decide_eq_true_eq] at h
 have:s.data.toList.length=s.size:=aj
 omega
abbrev ptr (a:Nat):ZB:=.pointer (some ⟨a,0,none⟩)
theorem cL {h:Hp} {b:ZC} {t:ZA × Nat} (hc:aG h b 0 (cR t)):aG h b 0 [.string t.1]/\aG h (b.add 1) 0 [.int .u32 (t.2:Int)]:=by
 obtain ⟨h1,h2,h3⟩:=hc;exact ⟨⟨h1,trivial⟩,⟨by rw [add_add]; exact h2,trivial⟩⟩
theorem H' (a n:Nat):IntKind.wrap .u32 ((a:Int)*(n:Int))=((a*n % 4294967296:Nat):Int):=by rw [dN,iq,Int.natCast_mul]
theorem Hu (a n:Nat):IntKind.wrap .u32 ((a:Int)+(n:Int))=(((a+n) % 4294967296:Nat):Int):=by rw [dN,iq,Int.natCast_add]
theorem F2 {h:Hp} {p:Option ZC} {l c:Nat} {x:bX} (v:gn h p l x.ai) (hl:x.ai.length<=2^40) (hp:∀ i,i∈aJ p->i<h.size) (n:Nat) :
  HC Tryz.prog 116 #[gH p l c x,.int .u32 n] h fun w h'=>Ext h h'/\∃ p' l' c',w=gH p' l' c' (Cp x n)/\SL h' h.size 66 2 p' l' c' ((Cp x n).ai.map cR):=by
 refine aX (args:=[.agg #[.slice p l c,.int .u32 x.num],.int .u32 n]) mixed Tryz.func116 ax (nl p l c x.num n) ?_;unfold ju aZ bg bq aK bh bd aM;have hll:=v.len;refine bm ?_;intro h1 b1 e1 z1;refine bm ?_;intro h2 b2 e2 z2;have b1:=b1.ao e2 aj;rw [aE];refine af b1 ((x.num:Int),()) rfl ?_;refine an ?_;refine bm ?_;intro h3 b3 e3 z3;refine aw b3 rfl aj ?_;intro h4 b4 k4 z4;rw [H'] at b4;have b4:bz h4 h2.size 60 [.slice none 0 0,.int .u32 ((x.num*n % 4294967296:Nat):Int)]:=b4;have e24:Ext h2 h4:=Ch.trans e3 k4 (fun j hj hl=>by simp at hj; omega);have b1:=b1.ao e24 aj;have b2:=b2.ao e24 aj;have e04:=(e1.trans e2).trans e24;have hb4:=b4.lt;refine aR (cs:=[(false,[.int .i64])]) (fun y w h'=>∃ (i:Nat) (q:Option ZC) (m d:Nat),y.1=(i:Int)/\i<=x.ai.length/\w=x.ai.length-i/\Ch [h2.size] h4 h'/\bz h' h2.size 60 [.slice q m d,.int .u32 ((x.num*n % 4294967296:Nat):Int)] /\
  SL h' h4.size 66 2 q m d ((eW n (x.ai.take i)).map cR)/\m<=i) ((0:Int),()) x.ai.length rfl ⟨0,none,0,0,rfl,ad,ad,Ch.refl _ _,b4,SL.nil _ _ _ _,ad⟩ ?_
 rintro ⟨n8,⟨⟩⟩ w h5 ⟨i,q,m,d,hi,hile,rfl,k5,b5,s5,hm⟩;simp only at hi;subst hi;refine an ?_;have b15:=b1.ao k5 (by simp; omega);have hz5:=k5.size;have e05:Ext h h5:=Ch.trans e04 k5 (fun j hj hl=>by simp at hj; omega);have v5:=v.ao e05 aj;refine af b15 ((p,l,c),()) rfl ?_;refine an ?_;have hw:IntKind.wrap .i64 ((i:Int)+1)=((i+1:Nat):Int):=by rw [wrap_i64 ad ad]; omega
 refine ak (fun g1=>?_) (fun g1=>?_)
 ·have g1:=WR g1;have hilt:i<x.ai.length:=ad
  have htk:x.ai.take (i+1)=x.ai.take i++[x.ai[i]]:=WW hilt;obtain ⟨a,rfl,hc⟩:=v5.cells i hilt;generalize x.ai[i]=t at hc htk;obtain ⟨c1,c2⟩:=cL hc;refine af b15 ((some a,l,c),()) rfl ?_;refine an ?_;refine ay ⟨ad,ad⟩ (av rfl ?_);rw [show Int.toNat (i:Int)=i from ad];refine az ((t.2:Int),()) c2 ?_;refine an ?_;rw [H'];refine ak (fun g2=>?_) (fun g2=>?_)
  ·have g2:¬ t.2*n % 4294967296=0:=by
    intro hh;rw [hh] at g2;cases g2
   refine af b5 ((q,m,d),()) rfl ?_;refine an ?_;refine af b15 ((some a,l,c),()) rfl ?_;refine an ?_;refine ay ⟨ad,ad⟩ (av rfl ?_);refine az (t.1,()) c1 ?_;refine an ?_;have hab:=hp a.block (by simp [aJ]);refine gu (vs:=cR (t.1,t.2*n % 4294967296)) zy sC rfl ad ad ax rfl rfl s5 hz5 ad ad (fun h' e=>⟨aT e aj _ _ c1,(b15.ao e aj).cells _ rfl,(b5.ao e aj).cells _ rfl,trivial⟩) ?_;intro p' c' h7 s7 k7 hp7;have hnot:∀ j,j<h4.size->j∉aJ q:=fun j hj hm=>by have:=(s5.bY hm).1; omega
   refine ⟨⟨aT k7 (by rw [gV]; exact hnot _ (by have:=e04.size; omega)) _ _ c1,(b15.ao k7 (hnot _ ad)).cells _ rfl,trivial⟩,?_⟩;refine aw (b5.ao k7 (hnot _ ad)) rfl aj ?_;intro h8 b8 k8 z8;refine aF (cs:=[(false,[.int .i64])]) (((i+1:Nat):Int),()) (x.ai.length-(i+1)) rfl ad (Xa (fun z=>[Value.int .i64 z]) hw) ⟨i+1,p',m+1,c',rfl,ad,rfl,?_,b8,?_,ad⟩
   ·exact Ch.trans (Ch.trans k5 k7 (fun j hj hl=>by have:=(s5.bY hj).1; omega)) k8 (fun j hj _=>hj)
   ·have hf:eW n (x.ai.take (i+1))=eW n (x.ai.take i)++[(t.1,t.2*n % 4294967296)]:=by
     unfold eW;rw [htk,YG]
     congr 1
     simp only [List.filterMap_cons,List.filterMap_nil];rw [WV g2]
    rw [hf,W5];exact s7.bF k8 (fun j hj=>by have:=(s7.bY hj).1; simp; omega)
  ·have g2:t.2*n % 4294967296=0:=by
    have:((t.2*n % 4294967296:Nat):Int)=0:=by simpa using g2
    omega
   refine aF (cs:=[(false,[.int .i64])]) (((i+1:Nat):Int),()) (x.ai.length-(i+1)) rfl ad (Xa (fun z=>[Value.int .i64 z]) hw) ⟨i+1,q,m,d,rfl,ad,rfl,k5,b5,?_,ad⟩;have hf:eW n (x.ai.take (i+1))=eW n (x.ai.take i):=by
    unfold eW;rw [htk,YG];simp only [List.filterMap_cons,List.filterMap_nil];rw [W2 g2,XP]
   rw [hf];exact s5
 ·have g1:=WS g1;have hi:i=x.ai.length:=ad
  subst hi;rw [XG] at s5;refine af b5 ((q,m,d),((x.num*n % 4294967296:Nat):Int),()) rfl ?_;refine an ?_;refine aw (b2.ao k5 (by simp; omega)) rfl aj ?_;intro h7 b7 k7 z7;have b7:bz h7 h1.size 60 [.slice q m d,.int .u32 ((x.num*n % 4294967296:Nat):Int)]:=b7;refine af b7 ((q,m,d),((x.num*n % 4294967296:Nat):Int),()) rfl ?_;have hz4:=e04.size;exact ⟨Ch.trans e05 k7 (fun j hj hl=>by simp at hj; omega),q,m,d,rfl,(s5.bF k7 (fun j hj=>by have:=(s5.bY hj).1; simp; omega)).mono ad⟩
theorem leB (a b:ZA):(Op.bytesLess (ByteArray.toList a) (ByteArray.toList b) || (ByteArray.toList a==ByteArray.toList b))=!decide (gF b a):=by
 rw [ByteArray.toList_eq,ByteArray.toList_eq,Proofs.bytesLess_eq]
 by_cases h:gF b a
 ·rw [W1 h];have h1:¬ a.data.toList<b.data.toList:=Bb h;have h2:¬ a.data.toList=b.data.toList:=fun e=>jk h (C0 e).symm
  have h3:¬ a.data=b.data:=fun e=>h2 (by rw [e])
  simp [h1,h3]
 ·rw [W4 h]
  by_cases h1:gF a b
  ·have h1:a.data.toList<b.data.toList:=h1;simp [h1]
  ·have:=yj a b h1 h
   subst this
   simp
def mS:Option ZA->cU->Bool
 | _,[]=>true
 | o,t::r=>cM t.1.data.toList && decide (t.2≠0) && (match o with
  | none=>true
  | some s=>decide (gF s t.1)) && mS (some t.1) r
def IA (l:cU) (i:Nat):Option ZA:=if i=0 then none else (l[i-1]?).map (·.1)
theorem GJ {o:Option ZA} {l:cU} (h:mS o l=true):(∀ t,t∈l->cM t.1.data.toList=true/\t.2≠0)/\(l.Pairwise fun p q=>gF p.1 q.1)/\∀ s,o=some s->∀ t,t∈l->gF s t.1:=by
 induction l generalizing o with
 | nil=>exact ⟨aj,List.Pairwise.nil,aj⟩
 | cons t r ih =>
  unfold mS at h;simp only [Bool.and_eq_true,decide_eq_true_eq] at h;obtain ⟨⟨⟨h1,h2⟩,h3⟩,h4⟩:=h;obtain ⟨i1,i2,i3⟩:=ih h4;refine ⟨?_,X9.2 ⟨fun q hq=>i3 _ rfl q hq,i2⟩,?_⟩
  ·intro u hu;rcases Xo.1 hu with rfl | hu
   ·exact ⟨h1,h2⟩
   ·exact i1 u hu
  ·rintro s rfl u hu;have h3:gF s t.1:=by simpa using h3
   rcases Xo.1 hu with rfl | hu
   ·exact h3
   ·exact ji h3 (i3 _ rfl u hu)
theorem Dh {x:bX} (h:mS none x.ai=true) (hc:∀ t,t∈x.ai->t.2<4294967296) (hn:x.num<4294967296):Good x :=
 ⟨⟨(GJ h).2.1,fun p hp=>⟨((GJ h).1 p hp).2,hc p hp⟩⟩,fun t ht=>((GJ h).1 t ht).1,hn⟩
theorem sX {h : Hp} {p : Option ZC} {l c : Nat} {x : bX} (v : gn h p l x.ai) (hl : x.ai.length <= 9223372036854775807) (hs : ∀ t, t ∈ x.ai -> t.1.size <= maxLen) :
    HC Tryz.prog 80 #[gH p l c x] h fun w h' => w = .bool (mS none x.ai) /\ Ext h h' := by
  refine aX (args := [.agg #[.slice p l c, .int .u32 x.num]]) mixed Tryz.func80 ax (xS p l c x.num) ?_;unfold vL aZ bg bq aK aU bi bt dH bS aM cd;have hll := v.len;refine bm ?_;intro h1 b1 e1 z1;refine af b1 ((p, l, c), ()) rfl ?_;refine an ?_
  refine aR (cs := [(false, [.bool]), (false, [.int .i64])]) (fun y w h' => ∃ (i : Nat), y.2.1 = (i : Int) /\ i <= x.ai.length /\ w = x.ai.length - i /\ Ext h1 h' /\ mS none x.ai = mS (IA x.ai i) (x.ai.drop i)) (false, (0 : Int), ()) x.ai.length rfl
    ⟨0, rfl, ad, ad, Ch.refl _ _, rfl⟩ ?_
  rintro ⟨b8, n8, ⟨⟩⟩ w h2 ⟨i, hi, hile, rfl, e2, hq⟩;simp only at hi;subst hi;refine an ?_;have e02 := e1.trans e2;refine ak (fun g1 => ?_) (fun g1 => ?_)
  · have g1 := WR g1
    have hilt : i < x.ai.length :=ad
    have v2 := v.ao e02 aj;obtain ⟨a, rfl, hc⟩ := v2.cells i hilt;have hdr : x.ai.drop i = x.ai[i] :: x.ai.drop (i + 1) := W8 hilt
    have hpv : IA x.ai (i + 1) = some x.ai[i].1 := by
      unfold IA;rw [WV ad, Nat.add_sub_cancel, WT hilt] <;> rfl
    have hsz := hs x.ai[i] (WZ hilt);rw [hdr] at hq;generalize x.ai[i] = t at hc hq hpv hsz;refine ay ⟨ad, ad⟩ (av rfl ?_);rw [show Int.toNat (i : Int) = i from ad];refine az (t.1, (t.2 : Int), ()) hc ?_;refine an ?_;refine bm ?_;intro h3 b3 e3 z3;refine aw b3 rfl aj ?_;intro h4 b4 k4 z4;have b4 : bz h4 h2.size 66 [.string t.1, .int .u32 t.2] := b4;have e24 : Ext h2 h4 := Ch.trans e3 k4 (fun j hj hl => by simp at hj; omega);have e04 := e02.trans e24;rw [aE];refine af b4 ((t.2 : Int), ()) rfl ?_;refine an ?_;refine ak (fun g2 => ?_) (fun g2 => ?_)
    · have g2 : t.2 = 0 := by have : (t.2 : Int) = 0 := by simpa using g2
                              omega
      refine ⟨?_, e04⟩;rw [hq];unfold mS;rw [W4 ad]
      simp
    · have g2 : t.2 ≠ 0 := by have : ¬ (t.2 : Int) = 0 := by simpa using g2
                              omega
      refine af b4 (t.1, ()) rfl ?_;refine an ?_;refine aI (tW t.1 h4 (by have : maxLen = 9223372036854775807 := rfl; omega)) ?_;refine ⟨⟨b4.cells _ rfl, trivial⟩, ?_⟩;refine ak (fun g3 => ?_) (fun g3 => ?_)
      · have g3 : cM t.1.data.toList = false := by simpa using g3
        refine ⟨?_, e04⟩;rw [hq];unfold mS;rw [g3]
        simp
      · have g3 : cM t.1.data.toList = true := by simpa using g3
        have hw : IntKind.wrap .i64 ((i : Int) + 1) = ((i + 1 : Nat) : Int) := by rw [wrap_i64 ad ad]; omega
        have hgo : (match IA x.ai i with
            | none => true
            | some s => decide (gF s t.1)) = true -> mS none x.ai = mS (IA x.ai (i + 1)) (x.ai.drop (i + 1)) := by
          intro hm;rw [hq, hpv]
          conv => lhs; unfold mS
          rw [g3, W1 g2, hm] <;> rfl
        refine ak (fun g4 => ?_) (fun g4 => ?_)
        · have g4 := WR g4
          have hw1 : IntKind.wrap .i64 ((i : Int) - 1) = ((i - 1 : Nat) : Int) := by rw [wrap_i64 ad ad]; omega
          have hi1 : i - 1 < x.ai.length :=ad
          obtain ⟨a', ha', hc'⟩ := (v.ao e04 aj).cells (i - 1) hi1;cases ha'
          have hpi : IA x.ai i = some x.ai[i - 1].1 := by
            unfold IA;rw [WV ad, WT hi1] <;> rfl
          rw [hpi] at hgo hq;generalize x.ai[i - 1] = u at hc' hpi hgo hq;refine af b4 (t.1, ()) rfl ?_;refine an ?_;refine af ((b1.ao e2 aj).ao e24 aj) ((some a, l, c), ()) rfl ?_;refine an ?_;rw [hw1];refine ay ⟨ad, ad⟩ (av rfl ?_);rw [show Int.toNat ((i - 1 : Nat) : Int) = i - 1 from ad];refine az (u.1, ()) (cL hc').1 ?_;refine an ?_;rw [leB];refine ak (fun g5 => ?_) (fun g5 => ?_)
          · have g5 : ¬ gF u.1 t.1 := by simpa using g5
            refine ⟨?_, e04⟩;rw [hq];unfold mS;dsimp only;rw [W4 g5]
            simp
          · have g5 : gF u.1 t.1 := by simpa using g5
            exact aF (cs := [(false, [.bool]), (false, [.int .i64])]) (b8, ((i + 1 : Nat) : Int), ()) (x.ai.length - (i + 1)) rfl ad (Xa (fun z => [Value.bool b8, Value.int .i64 z]) hw) ⟨i + 1, rfl, ad, rfl, e2.trans e24, hgo (W1 g5)⟩
        · have g4 := WS g4
          have hi0 : i = 0 :=ad
          subst hi0;exact aF (cs := [(false, [.bool]), (false, [.int .i64])]) (b8, ((0 + 1 : Nat) : Int), ()) (x.ai.length - (0 + 1)) rfl ad (Xa (fun z => [Value.bool b8, Value.int .i64 z]) hw) ⟨0 + 1, rfl, ad, rfl, e2.trans e24, hgo rfl⟩
  · have g1 := WS g1
    have hi : i = x.ai.length :=ad
    subst hi;refine ⟨?_, e02⟩;rw [hq, Yu] <;> rfl
theorem tv {h : Hp} {p : Option ZC} {l c : Nat} {x : bX} (v : gn h p l x.ai) (hl : x.ai.length <= 9223372036854775807) (hs : ∀ t, t ∈ x.ai -> t.1.size <= maxLen) :
    HC Tryz.prog 36 #[gH p l c x] h fun w h' => w = .bool (mS none x.ai) /\ Ext h h' := by
  refine aX (args := [.agg #[.slice p l c, .int .u32 x.num]]) mixed Tryz.func36 ax (mT p l c x.num) ?_;unfold jM aZ bg bq aK aU bi bt dH aM cd;have hll := v.len;refine bm ?_;intro h1 b1 e1 z1;have v := v.ao e1 aj
  refine aR (cs := [(false, [.bool]), (false, [.int .i64])]) (fun y w h' => ∃ (i : Nat), y.2.1 = (i : Int) /\ i <= x.ai.length /\ w = x.ai.length - i /\ h1 = h' /\ mS none x.ai = mS (IA x.ai i) (x.ai.drop i)) (false, (0 : Int), ()) x.ai.length rfl
    ⟨0, rfl, ad, ad, rfl, rfl⟩ ?_
  rintro ⟨b8, n8, ⟨⟩⟩ w h2 ⟨i, hi, hile, rfl, rfl, hq⟩;simp only at hi;subst hi;refine an ?_;refine af b1 ((p, l, c), ()) rfl ?_;refine an ?_;refine ak (fun g1 => ?_) (fun g1 => ?_)
  · have g1 := WR g1
    have hilt : i < x.ai.length :=ad
    obtain ⟨a, rfl, hc⟩ := v.cells i hilt;have hdr : x.ai.drop i = x.ai[i] :: x.ai.drop (i + 1) := W8 hilt
    have hpv : IA x.ai (i + 1) = some x.ai[i].1 := by
      unfold IA;rw [WV ad, Nat.add_sub_cancel, WT hilt] <;> rfl
    have hsz := hs x.ai[i] (WZ hilt);rw [hdr] at hq;generalize x.ai[i] = t at hc hq hpv hsz;refine af b1 ((some a, l, c), ()) rfl ?_;refine an ?_;refine ay ⟨ad, ad⟩ (av rfl ?_);rw [show Int.toNat (i : Int) = i from ad];refine az (t.1, ()) (cL hc).1 ?_;refine an ?_;refine aI (rD t.1 h1 (by have : maxLen = 9223372036854775807 := rfl; omega)) ?_;refine ⟨⟨b1.cells _ rfl, trivial⟩, ?_⟩;refine ak (fun g3 => ?_) (fun g3 => ?_)
    · have g3 : cM t.1.data.toList = false := by simpa using g3
      refine ⟨?_, e1⟩;rw [hq];unfold mS;rw [g3]
      simp
    · have g3 : cM t.1.data.toList = true := by simpa using g3
      refine af b1 ((some a, l, c), ()) rfl ?_;refine an ?_;refine ay ⟨ad, ad⟩ (av rfl ?_);refine az ((t.2 : Int), ()) (cL hc).2 ?_;refine an ?_;refine ak (fun g2 => ?_) (fun g2 => ?_)
      · have g2 : t.2 = 0 := by have : (t.2 : Int) = 0 := by simpa using g2
                                omega
        refine ⟨?_, e1⟩;rw [hq];unfold mS;rw [W4 ad]
        simp
      · have g2 : t.2 ≠ 0 := by have : ¬ (t.2 : Int) = 0 := by simpa using g2
                                omega
        have hw : IntKind.wrap .i64 ((i : Int) + 1) = ((i + 1 : Nat) : Int) := by rw [wrap_i64 ad ad]; omega
        have hgo : (match IA x.ai i with
            | none => true
            | some s => decide (gF s t.1)) = true -> mS none x.ai = mS (IA x.ai (i + 1)) (x.ai.drop (i + 1)) := by
          intro hm;rw [hq, hpv]
          conv => lhs; unfold mS
          rw [g3, W1 g2, hm] <;> rfl
        refine ak (fun g4 => ?_) (fun g4 => ?_)
        · have g4 := WR g4
          have hw1 : IntKind.wrap .i64 ((i : Int) - 1) = ((i - 1 : Nat) : Int) := by rw [wrap_i64 ad ad]; omega
          have hi1 : i - 1 < x.ai.length :=ad
          obtain ⟨a', ha', hc'⟩ := v.cells (i - 1) hi1;cases ha'
          have hpi : IA x.ai i = some x.ai[i - 1].1 := by
            unfold IA;rw [WV ad, WT hi1] <;> rfl
          rw [hpi] at hgo hq;generalize x.ai[i - 1] = u at hc' hpi hgo hq;refine af b1 ((some a, l, c), ()) rfl ?_;refine an ?_;refine ay ⟨ad, ad⟩ (av rfl ?_);refine az (t.1, ()) (cL hc).1 ?_;refine an ?_;refine af b1 ((some a, l, c), ()) rfl ?_;refine an ?_;rw [hw1];refine ay ⟨ad, ad⟩ (av rfl ?_);rw [show Int.toNat ((i - 1 : Nat) : Int) = i - 1 from ad];refine az (u.1, ()) (cL hc').1 ?_;refine an ?_;rw [leB];refine ak (fun g5 => ?_) (fun g5 => ?_)
          · have g5 : ¬ gF u.1 t.1 := by simpa using g5
            refine ⟨?_, e1⟩;rw [hq];unfold mS;dsimp only;rw [W4 g5]
            simp
          · have g5 : gF u.1 t.1 := by simpa using g5
            exact aF (cs := [(false, [.bool]), (false, [.int .i64])]) (b8, ((i + 1 : Nat) : Int), ()) (x.ai.length - (i + 1)) rfl ad (Xa (fun z => [Value.bool b8, Value.int .i64 z]) hw) ⟨i + 1, rfl, ad, rfl, rfl, hgo (W1 g5)⟩
        · have g4 := WS g4
          have hi0 : i = 0 :=ad
          subst hi0;exact aF (cs := [(false, [.bool]), (false, [.int .i64])]) (b8, ((0 + 1 : Nat) : Int), ()) (x.ai.length - (0 + 1)) rfl ad (Xa (fun z => [Value.bool b8, Value.int .i64 z]) hw) ⟨0 + 1, rfl, ad, rfl, rfl, hgo rfl⟩
  · have g1 := WS g1
    have hi : i = x.ai.length :=ad
    subst hi;refine ⟨?_, e1⟩;rw [hq, Yu] <;> rfl
end Go.Sx
namespace Go.Sx.Ob
abbrev Bt:=List UInt8
def tA:Nat->Nat->Bt
 | _,0=>[]
 | n,w+1=>UInt8.ofNat n::tA (n / 256) w
def Lt:Bt->Nat
 | []=>0
 | b::l=>b.toNat+256*Lt l
theorem dk:∀ (w n:Nat),(tA n w).length=w
 | 0,_=>rfl
 | w+1,n=>by rw [tA,XL,dk w]
theorem Bw:∀ (w n:Nat),Lt (tA n w)=n % 256^w
 | 0,n=>by simp [tA,Lt,Nat.mod_one]
 | w+1,n=>by
  rw [tA,Lt,Bw w,Nat.pow_succ,YU (256^w) 256,Nat.mod_mul]
  congr 1
abbrev Rd (α:Type):=Except (Nat × Nat) (α × Bt)
def kj {α β:Type} (a:Rd α) (f:α->Bt->Rd β):Rd β :=
 match a with
 | .ok p=>f p.1 p.2
 | .error e=>.error e
@[simp] theorem tT {α β:Type} (x:α) (r:Bt) (f:α->Bt->Rd β):kj (.ok (x,r)) f=f x r:=rfl
def sV (w:Nat) (r:Bt):Rd Nat:=if w<=r.length then .ok (Lt (r.take w),r.drop w) else .error (0,10)
def Ef (r:Bt):Rd ZA:=kj (sV 2 r) fun n r=>if n<=r.length then .ok (⟨(r.take n).toArray⟩,r.drop n) else .error (0,10)
def Ln:Nat->Bt->Rd cU
 | 0,r=>.ok ([],r)
 | n+1,r=>kj (Ef r) fun s r=>kj (sV 4 r) fun c r=>kj (Ln n r) fun ts r=>.ok ((s,c)::ts,r)
def fV (r:Bt):Rd bX:=kj (sV 2 r) fun n r=>kj (Ln n r) fun ts r=>kj (sV 4 r) fun c r=>.ok (⟨ts,c⟩,r)
def iK (s:ZA):Bt:=tA s.size 2++s.data.toList
def EU (t:ZA × Nat):Bt:=iK t.1++tA t.2 4
def kU (x:bX):Bt:=tA x.ai.length 2++(x.ai.flatMap EU++tA x.num 4)
theorem KU (w n:Nat) (t:Bt):sV w (tA n w++t)=.ok (n % 256^w,t):=by
 unfold sV;rw [W2 (by rw [WU,dk]; omega),List.take_left' (dk w n),List.drop_left' (dk w n),Bw]
theorem II {s:ZA} (h:s.size<65536) (t:Bt):Ef (iK s++t)=.ok (s,t):=by
 unfold Ef iK;rw [Xh,KU,tT,Yt ad];have hl:s.data.toList.length=s.size:=aj
 rw [W2 (by rw [WU,hl]; omega),List.take_left' hl,List.drop_left' hl]
structure Ins where
 op:Int
 a:Int
 b:Int
 n:Int
 form:Int
deriving DecidableEq
structure cB where
 kind:Int
 name:ZA
 inst:Ins
 e:bX
 n:Int
def Pw:Ins:=⟨0,0,0,0,0⟩
def FF:bX:=⟨[],0⟩
def dt:ZA:=⟨#[]⟩
def eJ (k:Int):cB:=⟨k,dt,Pw,FF,0⟩
def nu:List Nat:=[1,1,1,2,2,2,2,2,2,2,3,3,4,4,4,4,4,4,4,4,4,4,4,4,4,4,4,4,5,5,5,5,6,6,7,8,9,10,11,12,12,13,13]
def cX (op:Int):Nat:=if op<1 then 0 else nu.getD (op-1).toNat 0
def vN (n m:Int):Bool:=decide (0<=n) && decide (n<m)
def cC (s:Nat) (a b n:Int):Bool :=
 if s=1\/s=9\/s=12 then decide (a=0) && decide (b=0)
 else if s=2\/s=8\/s=10\/s=11\/s=13 then vN a 8 && decide (b=0)
 else if s=3 then vN a 4 && decide (b=0)
 else if s=4 then vN a 8 && vN b 8
 else if s=5 then vN a 4 && vN b 4
 else if s=6 then vN a 8 && vN b 4
 else vN a 4 && vN b 8 && vN n 8
def lu (n form:Int):Bool :=
 if form=1 then decide (-128<=n) && decide (n<=127)
 else if form=2 then decide (-32768<=n) && decide (n<=32767)
 else decide (form=4)
def nR (s:Nat) (n form:Int):Bool :=
 if s=8 then lu n 1
 else if s=9 then decide (0<=n) && decide (n<=255)
 else if s=10\/s=7 then true
 else if s=11 then decide (0<=n) && decide (n<=4095)
 else if s=12\/s=13 then lu n form
 else decide (n=0)
def rC (op:Int):Bool:=decide (12<=cX op)
def Fw (op:Int):Bool:=decide (10<=cX op)
def gd (i:Ins):Int :=
 if cX i.op=0 then 11
 else if cC (cX i.op) i.a i.b i.n=false then 12
 else if (!rC i.op && decide (i.form≠0) || !nR (cX i.op) i.n i.form)=true then 13
 else 0
def Oq (x:bX):Bool:=decide (x.ai=[]) && decide (x.num=0)
def yM (i:Ins) (e:bX):Bool :=
 decide (cX i.op≠0) && decide (i.form=0) && (if Fw i.op then decide (i.n=0) && decide (gd { i with form:=if rC i.op then 1 else 0 }=0) && mS none e.ai
  else decide (gd i=0) && Oq e)
def tI (n:Int):Bool:=decide (n=1) || decide (n=2) || decide (n=4) || decide (n=8) || decide (n=16) || decide (n=32) || decide (n=64) || decide (n=128) || decide (n=256)
def z1 (x:cB):Bool:=decide (x.name=dt)
def z2 (x:cB):Bool:=decide (x.inst=Pw)
def z3 (x:cB):Bool:=Oq x.e
def z4 (x:cB):Bool:=decide (x.n=0)
def cr (x:cB) (sec:Nat):Bool :=
 if x.kind=1 then cM x.name.data.toList && z2 x && z3 x && z4 x
 else if x.kind=2 then decide (sec=0) && yM x.inst x.e && z1 x && z4 x
 else if x.kind=3 then tI x.n && z1 x && z2 x && z3 x
 else if x.kind=4 then decide (sec=0) && z1 x && z2 x && z3 x && z4 x
 else if x.kind=5 then decide (sec=1) && decide (-128<=x.n) && decide (x.n<=255) && z1 x && z2 x && z3 x
 else if x.kind=6 then decide (sec=1) && mS none x.e.ai && z1 x && z2 x && z4 x
 else if x.kind=7 then decide (sec=1) && decide (0<=x.n) && decide (x.n<=1048576) && z1 x && z2 x && z3 x
 else false
def u32 (n:Int):Nat:=(n % 4294967296).toNat
def Re (n:Nat):Int:=if n<2147483648 then (n:Int) else (n:Int)-4294967296
def Wx (n:Nat):Int:=if n<32768 then (n:Int) else (n:Int)-65536
def CV (n:Int) (w:Nat):Bt:=tA (u32 n) w
def G6 (x:cB):Bt:=CV x.kind 1 ++
 (if x.kind=1 then iK x.name
 else if x.kind=2 then CV x.inst.op 1++(CV x.inst.a 1++(CV x.inst.b 1++(CV x.inst.n 4++if Fw x.inst.op then kU x.e else [])))
 else if x.kind=3\/x.kind=5 then CV x.n 2
 else if x.kind=6 then kU x.e
 else if x.kind=7 then CV x.n 4
 else [])
def V9 (r:Bt):Rd cB:=kj (sV 1 r) fun op r=>kj (sV 1 r) fun a r=>kj (sV 1 r) fun b r=>kj (sV 4 r) fun n r =>
 if Fw (op:Int) then kj (fV r) fun e r=>.ok ({ eJ 2 with inst:=⟨op,a,b,Re n,0⟩,e:=e },r) else .ok ({ eJ 2 with inst:=⟨op,a,b,Re n,0⟩ },r)
def VK (k:Nat) (r:Bt):Rd cB :=
 if k=1 then kj (Ef r) fun s r=>.ok ({ eJ 1 with name:=s },r)
 else if k=2 then V9 r
 else if k=3 then kj (sV 2 r) fun n r=>.ok ({ eJ 3 with n:=n },r)
 else if k=5 then kj (sV 2 r) fun n r=>.ok ({ eJ 5 with n:=Wx n },r)
 else if k=6 then kj (fV r) fun e r=>.ok ({ eJ 6 with e:=e },r)
 else if k=7 then kj (sV 4 r) fun n r=>.ok ({ eJ 7 with n:=n },r)
 else .ok (eJ k,r)
def at_ {α:Type} (r:Bt) (nT:Nat) (ok:α->Bool) (a:Rd α):Rd α:=kj a fun x r'=>if ok x then .ok (x,r') else .error (r.length,nT)
def fz (D:List ZA) (s:ZA):Bool:=D.any fun t=>decide (t=s)
def xL (sec:Nat) (D:List ZA) (x:cB):Bool:=cr x sec && !(decide (x.kind=1) && fz D x.name)
def sY (D:List ZA) (x:cB):List ZA:=if x.kind=1 then x.name::D else D
def Uy (sec:Nat) (D:List ZA) (r:Bt):Rd cB:=at_ r 31 (xL sec D) (kj (sV 1 r) VK)
theorem SV {α:Type} {r r':Bt} {nT:Nat} {ok:α->Bool} {a:Rd α} {x:α} (h:a=.ok (x,r')) (h2:ok x=true):at_ r nT ok a=.ok (x,r'):=by
 unfold at_;rw [h,tT,W2 h2]
theorem FV (op:Int) (h:cX op≠0):1<=op/\op<=43:=by
 unfold cX at h;split at h
 ·exact absurd rfl h
 ·refine ⟨ad,?_⟩
  by_cases g:op<=43
  ·exact g
  ·exfalso;apply h;rw [X8,Xs (by simp [nu]; omega)] <;> rfl
theorem Fq {i:Ins} (h:gd i=0):cX i.op≠0/\cC (cX i.op) i.a i.b i.n=true:=by
 unfold gd at h;split at h
 ·cases h
 ·split at h
  ·cases h
  ·rename_i h1 h2;exact ⟨h1,by simpa using h2⟩
theorem gS (op:Int):cX op=0\/(1<=cX op/\cX op<=13):=by
 by_cases h:cX op=0
 ·exact .inl h
 ·right
  have h1:=FV op h;unfold cX;rw [WV ad];have h2:(op-1).toNat<43:=ad
  generalize (op-1).toNat=k at h2
  have:∀ k:Fin 43,1<=nu.getD k.1 0/\nu.getD k.1 0<=13:=bU
  exact this ⟨k,h2⟩
abbrev qi:=ZA × bX
structure bJ where
 text:List cB
 data:List cB
 aY:List qi
 aP:List ZA
def w8 (sec:Nat):Nat->List ZA->Bt->Rd (List cB)
 | 0,_,r=>.ok ([],r)
 | n+1,D,r=>kj (Uy sec D r) fun x r=>kj (w8 sec n (sY D x) r) fun l r=>.ok (x::l,r)
def Bc (D:List ZA) (p:qi):Bool:=!(fz D p.1) && cM p.1.data.toList && mS none p.2.ai
def Pd (D:List ZA) (last g:ZA):Bool:=fz D g && decide (gF last g)
def Rc (D:List ZA) (last:ZA) (r:Bt):Rd ZA:=at_ r 31 (Pd D last) (Ef r)
def Gd (D:List ZA):Nat->ZA->Bt->Rd (List ZA)
 | 0,_,r=>.ok ([],r)
 | n+1,last,r=>kj (Rc D last r) fun x r=>kj (Gd D n x r) fun l r=>.ok (x::l,r)
def Na:Bt:=[83,80,65,78,1]
def cI (D:List ZA) (l:List cB):List ZA:=l.foldl sY D
def aS (D:List ZA) (l:List qi):List ZA:=l.foldl (fun D p=>p.1::D) D
def eH (sec:Nat):List ZA->List cB->Bool
 | _,[]=>true
 | D,x::l=>xL sec D x && eH sec (sY D x) l
def fT:List ZA->List qi->Bool
 | _,[]=>true
 | D,x::l=>Bc D x && fT (x.1::D) l
def cQ (D:List ZA):ZA->List ZA->Bool
 | _,[]=>true
 | last,x::l=>Pd D last x && cQ D x l
def bJ.names (u:bJ):List ZA:=aS (cI (cI [] u.text) u.data) u.aY
def sO (u:bJ):Bool:=eH 0 [] u.text && eH 1 (cI [] u.text) u.data && fT (cI (cI [] u.text) u.data) u.aY && cQ u.names dt u.aP
def uB (u:bJ):Bool:=decide (8192<u.text.length+u.data.length) || decide (8192<u.aY.length)
def dC (u:bJ):Nat:=if uB u then 4 else if sO u then 0 else 31
def Mg (p:qi):Bt:=iK p.1++kU p.2
def BZ {α:Type} (w:α->Bt) (l:List α):Bt:=tA l.length 2++l.flatMap w
def VM (u:bJ):Bt:=Na++(BZ G6 u.text++(BZ G6 u.data++(BZ Mg u.aY++BZ iK u.aP)))
theorem F8 (D:List ZA) (hD:∀ s,s∈D->s.size<65536):∀ (l:List ZA) (o:ZA) (t:Bt),cQ D o l=true->Gd D l.length o (l.flatMap iK++t)=.ok (l,t)
 | [],o,t,_=>rfl
 | x::l,o,t,h=>by
  unfold cQ at h;rw [XO] at h;obtain ⟨h1,h2⟩:=h;have h3:x.size<65536:=by
   unfold Pd fz at h1;simp only [Bool.and_eq_true,List.any_eq_true,decide_eq_true_eq] at h1;obtain ⟨⟨y,hy,rfl⟩,_⟩:=h1;exact hD y hy
  rw [XL,XH,Xh,Gd];have h5:Rc D o (iK x++(l.flatMap iK++t))=.ok (x,l.flatMap iK++t):=SV (II h3 _) h1;rw [h5,tT,F8 D hD l _ t h2,tT]
theorem qu (D:List ZA):∀ (l:List ZA) (o:ZA),cQ D o l=true->(∀ x,x∈l->x∈D/\gF o x)/\l.Pairwise gF
 | [],o,_=>⟨aj,List.Pairwise.nil⟩
 | x::l,o,h=>by
  unfold cQ Pd fz at h;simp only [Bool.and_eq_true,List.any_eq_true,decide_eq_true_eq] at h;obtain ⟨⟨⟨y,hy,rfl⟩,h2⟩,h3⟩:=h;obtain ⟨a,b⟩:=qu D l y h3;refine ⟨?_,X9.2 ⟨fun z hz=>(a z hz).2,b⟩⟩;intro z hz;rcases Xo.1 hz with rfl | hz
  ·exact ⟨hy,h2⟩
  ·exact ⟨(a z hz).1,ji h2 (a z hz).2⟩
theorem vW {u:bJ} (h:dC u=0):uB u=false/\sO u=true:=by
 unfold dC at h;split at h
 ·cases h
 ·rename_i h1;split at h
  ·rename_i h2;exact ⟨by simpa using h1,h2⟩
  ·cases h
end Go.Sx.Ob
namespace Go.Sx
open Go.Proofs
theorem UD:Tryz.prog.underlying 66=some (.struct (AH Tryz.prog 66)):=ax
theorem M5 (x y:Operand) (a:ZA) (b:Int) (a':ZA) (b':Int) (h:Hp) (K:ZB->Hp->Prop) (hk:K (.bool !(a==a' && b==b')) h) :
  aQ Tryz.prog (Sx.iF (BinOp.neq) 66 x y (.agg #[.string a,.int .u32 b]) (.agg #[.string a',.int .u32 b'])) h K:=by
 refine uG UD ax ax ax K ?_;have he:(AH Tryz.prog 66).all (FK #[.string a,.int .u32 b] #[.string a',.int .u32 b'])=(a==a' && (b==b' && true)):=by
  rw [<- Yb]
  kernel_rfl
 rw [he,Yf];exact hk
theorem MM (t u:ZA × Nat):(!(t.1==u.1 && (t.2:Int)==(u.2:Int)))=decide (t≠u):=by
 obtain ⟨a,b⟩:=t;obtain ⟨a',b'⟩:=u
 by_cases h1:a=a'
 ·subst h1;rw [bytes_beq]
  by_cases h2:b=b'
  ·subst h2
   simp
  ·have h3:¬ ((b:Int)=(b':Int)):=ad
   have h4:((b:Int)==(b':Int))=false:=by simpa using h3
   simp [h2,h4]
 ·have h3:(a==a')=false:=by
   obtain ⟨d⟩:=a;obtain ⟨d'⟩:=a';show (d==d')=false;have h4:¬ d=d':=fun e=>h1 (by rw [e])
   simpa using h4
  simp [h1,h3]
theorem Aj {α:Type} {l m:List α} {i:Nat} (hi:i<l.length) (hj:i<m.length) (h:l[i]≠m[i]):l≠m:=by
 rintro rfl;exact h rfl
theorem uW {α:Type} {l m:List α} {i:Nat} (hi:i<l.length) (hj:i<m.length) (h:l[i]=m[i]):(l.drop i=m.drop i)↔(l.drop (i+1)=m.drop (i+1)):=by
 rw [W8 hi,W8 hj,h];exact ⟨fun e=>(List.cons.inj e).2,fun e=>by rw [e]⟩
instance:DecidableEq cU:=inferInstance
theorem GK {h:Hp} {p q:Option ZC} {l m c d:Nat} {us vs:cU} (v:gn h p l us) (w:gn h q m vs) (hl:us.length<=2^60):vM Tryz.prog 119 [.slice p l c,.slice q m d] h (.bool (decide (us=vs))):=by
 refine ee mixed Tryz.func119 ax (fC p l c q m d) ?_;unfold dP aZ bg bq aK dQ bt dH aM cd;have h1:=v.len;have h2:=w.len;refine ak (fun g1=>?_) (fun g1=>?_)
 ·have g1:¬ (l:Int)=(m:Int):=by simpa using g1
  exact ⟨by rw [W4 (fun e=>by rw [e] at h1; omega)],rfl⟩
 ·have g1:(l:Int)=(m:Int):=by simpa using g1
  refine aR (cs:=[(false,[.bool]),(false,[.int .i64])]) (fun y n h'=>∃ (i:Nat),y.2.1=(i:Int)/\i<=us.length/\n=us.length-i/\h=h'/\(us=vs↔us.drop i=vs.drop i)) (false,(0:Int),()) us.length rfl
   ⟨0,rfl,ad,ad,rfl,Iff.rfl⟩ ?_
  rintro ⟨b8,n8,⟨⟩⟩ n h2 ⟨i,hi,hile,rfl,rfl,hq⟩;simp only at hi;subst hi;refine an ?_;refine ak (fun g2=>?_) (fun g2=>?_)
  ·have g2:=WR g2;have hi1:i<us.length:=ad
   have hi2:i<vs.length:=ad
   obtain ⟨a,rfl,hc⟩:=v.cells i hi1;obtain ⟨a',rfl,hc'⟩:=w.cells i hi2;have hst:=uW hi1 hi2;have hno:=Aj hi1 hi2;generalize us[i]=t at hc hst hno;generalize vs[i]=u at hc' hst hno;refine ay ⟨ad,ad⟩ (av rfl ?_);rw [show Int.toNat (i:Int)=i from ad];refine az (t.1,(t.2:Int),()) hc ?_;refine an ?_;refine ay ⟨ad,ad⟩ (av rfl ?_);refine az (u.1,(u.2:Int),()) hc' ?_;refine an ?_;refine mU (b:=decide (t≠u)) (fun K' hk=>M5 _ _ _ _ _ _ _ _ (by rw [MM]; exact hk)) ?_;refine ak (fun g3=>?_) (fun g3=>?_)
   ·exact ⟨by rw [W4 (hno (WR g3))],rfl⟩
   ·have g3:t=u:=by simpa using g3
    have hw:IntKind.wrap .i64 ((i:Int)+1)=((i+1:Nat):Int):=by rw [wrap_i64 ad ad]; omega
    exact aF (cs:=[(false,[.bool]),(false,[.int .i64])]) (b8,((i+1:Nat):Int),()) (us.length-(i+1)) rfl ad (Xa (fun z=>[Value.bool b8,Value.int .i64 z]) hw) ⟨i+1,rfl,ad,rfl,rfl,hq.trans (hst g3)⟩
  ·have g2:=WS g2;refine ⟨?_,rfl⟩;rw [W1 (hq.2 (by rw [Xz ad,Xz ad]))]
def nz (x y:bX):Bool:=decide (x.num=y.num) && decide (x.ai=y.ai)
theorem Je (x:bX):nz x x=true:=by unfold nz; simp
theorem Bk {h : Hp} {p q : Option ZC} {l m c d : Nat} {x y : bX} (v : gn h p l x.ai) (w : gn h q m y.ai) (hl : x.ai.length <= 2 ^ 60) :
    HC Tryz.prog 101 #[gH p l c x, gH q m d y] h fun r h' => r = .bool (nz x y) /\ Ext h h' := by
  refine aX (args := [.agg #[.slice p l c, .int .u32 x.num], .agg #[.slice q m d, .int .u32 y.num]]) mixed Tryz.func101 ax (yL p l c x.num q m d y.num) ?_;unfold xu aU bt;refine bm ?_;intro h1 b1 e1 z1;refine bm ?_;intro h2 b2 e2 z2;have b1 := b1.ao e2 aj;have e02 := e1.trans e2;rw [aE, aE];refine af b1 ((x.num : Int), ()) rfl ?_;refine an ?_;refine af b2 ((y.num : Int), ()) rfl ?_;refine an ?_;refine ak (fun g1 => ?_) (fun g1 => ?_)
  · have g1 : x.num = y.num := by have : (x.num : Int) = y.num := by simpa using g1
                                  omega
    refine af b1 ((p, l, c), ()) rfl ?_;refine an ?_;refine af b2 ((q, m, d), ()) rfl ?_;refine an ?_;refine aI (GK (v.ao e02 aj) (w.ao e02 aj) hl) ?_;refine ⟨?_, e02⟩;unfold nz;rw [W1 g1] <;> rfl
  · have g1 : ¬ x.num = y.num := by have : ¬ (x.num : Int) = y.num := by simpa using g1
                                    omega
    refine ⟨?_, e02⟩;unfold nz;rw [W4 g1] <;> rfl
theorem IJ {h : Hp} {p q : Option ZC} {l m c d : Nat} {x y : bX} (v : gn h p l x.ai) (w : gn h q m y.ai) (hl : x.ai.length <= 2 ^ 60) :
    HC Tryz.prog 88 #[gH p l c x, gH q m d y] h fun r h' => r = .bool (nz x y) /\ Ext h h' := by
  refine aX (args := [.agg #[.slice p l c, .int .u32 x.num], .agg #[.slice q m d, .int .u32 y.num]]) mixed Tryz.func88 ax (oN p l c x.num q m d y.num) ?_;unfold j6 aZ bg bq aK dQ bt dH aM cd;refine bm ?_;intro h1 b1 e1 z1;refine bm ?_;intro h2 b2 e2 z2;have b1 := b1.ao e2 aj;have e02 := e1.trans e2;have v := v.ao e02 aj;have w := w.ao e02 aj;have hv := v.len;have hw := w.len;rw [aE, aE];refine af b1 ((x.num : Int), ()) rfl ?_;refine an ?_;refine af b2 ((y.num : Int), ()) rfl ?_;refine an ?_;refine ak (fun g1 => ?_) (fun g1 => ?_)
  · have g1 : ¬ x.num = y.num := by have : ¬ (x.num : Int) = y.num := by simpa using g1
                                    omega
    refine ⟨?_, e02⟩;unfold nz;rw [W4 g1] <;> rfl
  · have g1 : x.num = y.num := by have : (x.num : Int) = y.num := by simpa using g1
                                  omega
    have hB : nz x y = decide (x.ai = y.ai) := by
      unfold nz;rw [W1 g1] <;> rfl
    rw [hB];refine af b1 ((p, l, c), ()) rfl ?_;refine an ?_;refine af b2 ((q, m, d), ()) rfl ?_;refine an ?_;refine ak (fun g2 => ?_) (fun g2 => ?_)
    · have g2 : ¬ (l : Int) = (m : Int) := by simpa using g2
      exact ⟨by rw [W4 (fun e => by rw [e] at hv; omega)], e02⟩
    · have g2 : (l : Int) = (m : Int) := by simpa using g2
      refine aR (cs := [(false, [.bool]), (false, [.int .i64])]) (fun z n h' => ∃ (i : Nat), z.2.1 = (i : Int) /\ i <= x.ai.length /\ n = x.ai.length - i /\ h2 = h' /\ (x.ai = y.ai ↔ x.ai.drop i = y.ai.drop i)) (false, (0 : Int), ()) x.ai.length rfl
        ⟨0, rfl, ad, ad, rfl, Iff.rfl⟩ ?_
      rintro ⟨b8, n8, ⟨⟩⟩ n h3 ⟨i, hi, hile, rfl, rfl, hq⟩;simp only at hi;subst hi;refine an ?_;refine af b1 ((p, l, c), ()) rfl ?_;refine an ?_;refine ak (fun g2 => ?_) (fun g2 => ?_)
      · have g2 := WR g2
        have hi1 : i < x.ai.length :=ad
        have hi2 : i < y.ai.length :=ad
        obtain ⟨a, rfl, hc⟩ := v.cells i hi1;obtain ⟨a', rfl, hc'⟩ := w.cells i hi2;have hst := uW hi1 hi2;have hno := Aj hi1 hi2;generalize x.ai[i] = t at hc hst hno;generalize y.ai[i] = u at hc' hst hno;refine af b1 ((some a, l, c), ()) rfl ?_;refine an ?_;refine ay ⟨ad, ad⟩ (av rfl ?_);rw [show Int.toNat (i : Int) = i from ad];refine az (t.1, (t.2 : Int), ()) hc ?_;refine an ?_;refine af b2 ((some a', m, d), ()) rfl ?_;refine an ?_;refine ay ⟨ad, ad⟩ (av rfl ?_);refine az (u.1, (u.2 : Int), ()) hc' ?_;refine an ?_;refine mU (b := decide (t ≠ u)) (fun K' hk => M5 _ _ _ _ _ _ _ _ (by rw [MM]; exact hk)) ?_;refine ⟨⟨b2.cells _ rfl, b1.cells _ rfl, trivial⟩, ?_⟩;refine ak (fun g3 => ?_) (fun g3 => ?_)
        · exact ⟨by rw [W4 (hno (WR g3))], e02⟩
        · have g3 : t = u := by simpa using g3
          have hw : IntKind.wrap .i64 ((i : Int) + 1) = ((i + 1 : Nat) : Int) := by rw [wrap_i64 ad ad]; omega
          exact aF (cs := [(false, [.bool]), (false, [.int .i64])]) (b8, ((i + 1 : Nat) : Int), ()) (x.ai.length - (i + 1)) rfl ad (Xa (fun z => [Value.bool b8, Value.int .i64 z]) hw) ⟨i + 1, rfl, ad, rfl, rfl, hq.trans (hst g3)⟩
      · have g2 := WS g2
        refine ⟨?_, e02⟩;rw [W1 (hq.2 (by rw [Xz ad, Xz ad]))]
theorem Ht {P:Program} {L:Lp} {K:ZB->Hp->Prop} {h:Hp} {k:Option ZC->Nat->Nat->T} {t e:TypeId} {z:ZB} {sz by':Nat} (ht:P.underlying t=some (.slice e)) (hinf:(P.info? e).map (fun i=>(i.zero,i.size,i.bytes))=some (some z,sz,by'))
  (hk:∀ h' ,SL h' h.size e sz (some ⟨h.size,0,none⟩) 0 0 []->Ext h h'->k (some ⟨h.size,0,none⟩) 0 0 L K h'):T.dY P (Instr.buildSlice t 0 #[]) false [(false,[.slice 0])] k L K h:=by
 obtain ⟨i,hi,hz,rfl,rfl⟩:=oW hinf;refine dm ?_;unfold Instr.buildSlice;rw [ar,aD ht];simp only;rw [ar,bM hi];simp only [Nat.zero_mul];rw [WV ad];have h0:∀ f:Nat->ZB,Array.map f (Array.range 0)=#[]:=fun f=>aj
 simp only [h0];refine ⟨_,_,_,rfl,hk _ ?_ (Ext.push h _)⟩;exact ⟨rfl,aj,h.size,[],[],rfl,W9 _,⟨W9 _,ad⟩,by simpa using bz.new h e [],aj⟩
theorem uQ {h:Hp} {a:ZC}:∀ (us:cU) (k:Nat),(∀ i,(hi:i<us.length)->aG h (a.add ((k+i)*2)) 0 (cR us[i]))->aG h a (k*2) (us.map cR).flatten
 | [],_,_=>trivial
 | t::us,k,hc=>by
  have h0:=hc 0 aj;obtain ⟨h1,h2,_⟩:=h0;rw [add_add] at h1 h2;have ih:=uQ us (k+1) (fun i hi=>by
   have:=hc (i+1) (by simpa using hi)
   rw [show k+(i+1)=k+1+i from ad] at this;exact this)
  rw [show (k+1)*2=k*2+1+1 from ad] at ih;exact ⟨h1,by simpa using h2,ih⟩
theorem gn.flat {h:Hp} {a:ZC} {l:Nat} {us:cU} (v:gn h (some a) l us):aG h a 0 (us.map cR).flatten:=by
 have:=uQ (h:=h) (a:=a) us 0 (fun i hi=>by
  obtain ⟨a',e,hc⟩:=v.cells i hi;cases e;rw [Xq];exact hc)
 simpa using this
theorem G9 (us:cU):(us.map cR).flatten.all cP=true:=by
 rw [Xn];intro v hv;obtain ⟨x,hx,hv⟩:=YM.1 hv;obtain ⟨t,_,rfl⟩:=WX.1 hx;simp only [cR,List.mem_cons,List.not_mem_nil,or_false] at hv;rcases hv with rfl | rfl <;> rfl
end Go.Sx
namespace Go.Sx.Ob
open Go.Proofs
variable {h':Hp} {e1 e2:TypeId} {sec:Nat}
theorem _root_.Go.Sx.Ch.st {h a b:Hp} {g:Nat} (e:Ext h a) (k:Ch [g] a b) (hg:h.size<=g):Ext h b:=Ch.trans e k (fun i hi hl=>by simp at hi; omega)
def lE (nm:Nat->ZA) (by_:Nat->Int):List ZB:=(List.range 43).flatMap fun k=>[.string (nm k),.int .u8 (by_ k),.int .i64 (nu.getD k 0:Nat)]
def An (h:Hp):Prop:=∃ nm by_ e f,h[0]?=some (.cells (lE nm by_).toArray e f)
theorem An.ao {ws:List Nat} {h:Hp} (t:An h) (k:Ch ws h h') (hw:0∉ws):An h':=by
 obtain ⟨nm,by_,e,f,ht⟩:=t;exact ⟨nm,by_,e,f,k.get ht hw⟩
theorem ue {α β:Type} (f:α->List β) (m:Nat) (hf:∀ x,(f x).length=m):∀ (l:List α) (i j:Nat),j<m->(l.flatMap f)[i*m+j]?=(l[i]?).bind fun x=>(f x)[j]?
 | [],i,j,hj=>aj
 | x::l,0,j,hj=>by
  rw [XH,Xm (by rw [hf]; omega)]
  simp
 | x::l,i+1,j,hj=>by
  rw [XH,Xl (by rw [hf,XX]; omega),hf,show (i+1)*m+j-m=i*m+j by rw [XX]; omega,ue f m hf l i j hj]
  simp
theorem An.cells {h:Hp} (t:An h) {k:Nat} (hk:k<43):∃ (s:ZA) (b:Int),aG h ((⟨0,0,none⟩:ZC).add (k*3)) 0 [.string s,.int .u8 b,.int .i64 (nu.getD k 0:Nat)]:=by
 obtain ⟨nm,by_,e,f,ht⟩:=t;refine ⟨nm k,by_ k,?_⟩;have hg:∀ j,j<3->(lE nm by_)[k*3+j]?=([.string (nm k),.int .u8 (by_ k),.int .i64 (nu.getD k 0:Nat)]:List ZB)[j]?:=by
  intro j hj;unfold lE;rw [ue _ 3 aj _ _ _ hj];simp [hk]
 rw [aE];refine ⟨?_,?_,?_,trivial⟩
 ·rw [aE,np ht]
  have:=hg 0 ad
  simpa using this
 ·rw [aE,np ht]
  have:=hg 1 ad
  simpa using this
 ·rw [aE,np ht]
  have:=hg 2 ad
  simpa using this
theorem MP {h:Hp} (t:An h) (op:Int) (h1:-9223372036854775808<=op) (h2:op<=9223372036854775807) :
  HC Tryz.prog 105 #[.int .i64 op] h fun w h'=>∃ (s:ZA) (b:Int),w=.tuple #[.agg #[.string s,.int .u8 b,.int .i64 (cX op:Nat)],.bool (decide (cX op≠0))]/\Ext h h':=by
 refine aX (args:=[.int .i64 op]) mixed Tryz.func105 ax (Fh op) ?_;unfold DZ bi bS;refine bm ?_;intro g1 b1 e1 z1;have hz:∀ (hh:cX op=0),(∃ (s:ZA) (b:Int),(Value.tuple #[.agg #[.string ⟨#[]⟩,.int .u8 0,.int .i64 0],.bool false])=.tuple #[.agg #[.string s,.int .u8 b,.int .i64 (cX op:Nat)],.bool (decide (cX op≠0))]) :=
  fun hh=>⟨⟨#[]⟩,0,by rw [hh]; rfl⟩
 refine ak (fun q=>?_) (fun q=>?_)
 ·have q:=WR q;refine aw b1 rfl aj ?_;intro g2 b2 k2 z2;refine af b2 ((⟨#[]⟩:ZA),(0:Int),(0:Int),()) rfl ?_;obtain ⟨s,b,e⟩:=hz (by unfold cX; rw [W2 q]);exact ⟨s,b,e,Ch.trans e1 k2 (fun i hi hl=>by simp at hi; omega)⟩
 refine ak (fun r=>?_) (fun r=>?_)
 ·have r:=WR r;refine aw b1 rfl aj ?_;intro g2 b2 k2 z2;refine af b2 ((⟨#[]⟩:ZA),(0:Int),(0:Int),()) rfl ?_;obtain ⟨s,b,e⟩:=hz (by
   by_cases g:cX op=0
   ·exact g
   ·have:=FV op g
    omega)
  exact ⟨s,b,e,Ch.trans e1 k2 (fun i hi hl=>by simp at hi; omega)⟩
 ·have q:=WS q;have r:=WS r;rw [wrap_i64 ad ad];refine ay ⟨ad,ad⟩ ?_;obtain ⟨s,b,hc⟩:=(t.ao e1 aj).cells (k:=(op-1).toNat) ad;refine az (s,b,((nu.getD (op-1).toNat 0:Nat):Int),()) hc ?_;refine an ?_;refine aw b1 rfl aj ?_;intro g2 b2 k2 z2;refine af b2 (s,b,((nu.getD (op-1).toNat 0:Nat):Int),()) rfl ?_;refine ⟨s,b,?_,Ch.trans e1 k2 (fun i hi hl=>by simp at hi; omega)⟩;have h3:cX op=nu.getD (op-1).toNat 0:=by unfold cX; rw [WV ad]
  have h4:cX op≠0:=by
   rw [h3]
   have:∀ k:Fin 43,nu.getD k.1 0≠0:=bU
   exact this ⟨(op-1).toNat,ad⟩
  rw [W1 h4,h3]
theorem DQ {h:Hp} (t:An h) (op:Int) (h1:-9223372036854775808<=op) (h2:op<=9223372036854775807) :
  HC Tryz.prog 82 #[.int .i64 op] h fun w h'=>w=.bool (rC op)/\Ext h h':=by
 refine aX (args:=[.int .i64 op]) mixed Tryz.func82 ax (yY op) ?_;unfold xt bG dH bS cd;refine aH (MP t op h1 h2) ?_;rintro _ g1 ⟨s,b,rfl,e1⟩;refine ⟨(s,b,((cX op:Nat):Int),decide (cX op≠0),()),rfl,?_⟩;refine an ?_;refine bm ?_;intro g2 b2 e2 z2;refine aw b2 rfl aj ?_;intro g3 b3 k3 z3;have e3:=(e1.trans e2).st k3 (by have:=e1.size; omega);have b3:bz g3 g1.size 165 [.string s,.int .u8 b,.int .i64 (cX op:Nat)]:=b3;rw [aE];refine af b3 (((cX op:Nat):Int),()) rfl ?_;refine an ?_;have hc:=gS op;refine ak (fun q=>?_) (fun q=>?_)
 ·have q:((cX op:Nat):Int)=12:=by simpa using q
  refine ⟨?_,e3⟩;unfold rC;rw [W1 ad]
 ·have q:¬ ((cX op:Nat):Int)=12:=by simpa using q
  refine af b3 (((cX op:Nat):Int),()) rfl ?_;refine ⟨?_,e3⟩;unfold rC
  by_cases r:cX op=13
  ·rw [r]; rfl
  ·rw [W4 ad]
   congr 1
   simp
   omega
theorem GW (n:Int):(n==IntKind.wrap .i32 (IntKind.wrap .i8 n))=(decide (-128<=n) && decide (n<=127)):=by
 have h1:IntKind.wrap .i8 n=if n % 256<128 then n % 256 else n % 256-256:=by
  simp only [IntKind.wrap,IntKind.bits,IntKind.signed,Bool.true_and];split <;> rename_i hh
  ·have:=WR hh
   rw [WV ad] <;> rfl
  ·have:¬ _:=fun h=>hh (W1 h)
   rw [W2 ad] <;> rfl
 have h2:IntKind.wrap .i32 (IntKind.wrap .i8 n)=IntKind.wrap .i8 n:=by
  have:-128<=IntKind.wrap .i8 n/\IntKind.wrap .i8 n<=127:=by rw [h1]; split <;> omega
  generalize IntKind.wrap .i8 n=m at this;simp only [IntKind.wrap,IntKind.bits,IntKind.signed,Bool.true_and];split <;> rename_i hh
  ·have:=WR hh; omega
  ·have:¬ _:=fun h=>hh (W1 h); omega
 rw [h2,h1]
 by_cases g:-128<=n/\n<=127
 ·rw [W1 g.1,W1 g.2]
  simp
  split <;> omega
 ·have:(decide (-128<=n) && decide (n<=127))=false:=by
   rw [Bool.and_eq_false_iff]
   simp
   omega
  rw [this]
  simp
  split <;> omega
theorem Ee (n:Int):(n==IntKind.wrap .i32 (IntKind.wrap .i16 n))=(decide (-32768<=n) && decide (n<=32767)):=by
 have h1:IntKind.wrap .i16 n=if n % 65536<32768 then n % 65536 else n % 65536-65536:=by
  simp only [IntKind.wrap,IntKind.bits,IntKind.signed,Bool.true_and];split <;> rename_i hh
  ·have:=WR hh
   rw [WV ad] <;> rfl
  ·have:¬ _:=fun h=>hh (W1 h)
   rw [W2 ad] <;> rfl
 have h2:IntKind.wrap .i32 (IntKind.wrap .i16 n)=IntKind.wrap .i16 n:=by
  have:-32768<=IntKind.wrap .i16 n/\IntKind.wrap .i16 n<=32767:=by rw [h1]; split <;> omega
  generalize IntKind.wrap .i16 n=m at this;simp only [IntKind.wrap,IntKind.bits,IntKind.signed,Bool.true_and];split <;> rename_i hh
  ·have:=WR hh; omega
  ·have:¬ _:=fun h=>hh (W1 h); omega
 rw [h2,h1]
 by_cases g:-32768<=n/\n<=32767
 ·rw [W1 g.1,W1 g.2]
  simp
  split <;> omega
 ·have:(decide (-32768<=n) && decide (n<=32767))=false:=by
   rw [Bool.and_eq_false_iff]
   simp
   omega
  rw [this]
  simp
  split <;> omega
theorem bR (h:Hp) (n f:Int):vM Tryz.prog 143 [.int .i32 n,.int .i64 f] h (.bool (lu n f)):=by
 refine ee mixed Tryz.func143 ax (wU n f) ?_;unfold sP;rw [GW,Ee];refine ak (fun q=>?_) (fun q=>?_)
 ·have q:f=1:=by simpa using q
  exact ⟨by unfold lu; rw [W2 q],rfl⟩
 have q:¬ f=1:=by simpa using q
 refine ak (fun r=>?_) (fun r=>?_)
 ·have r:f=2:=by simpa using r
  exact ⟨by unfold lu; rw [WV q,W2 r],rfl⟩
 have r:¬ f=2:=by simpa using r
 exact ⟨by unfold lu; rw [WV q,WV r]; rfl,rfl⟩
theorem DW (h:Hp) (n:Int):vM Tryz.prog 100 [.int .i64 n] h (.bool (tI n)):=by
 refine ee mixed Tryz.func100 ax (yb n) ?_;unfold tU bi bt;have hf:¬ (1<=n/\n<=256)->tI n=false:=by
  intro g;cases hp:tI n with
  | false=>rfl
  | true =>
   exfalso;unfold tI at hp;simp only [Bool.or_eq_true,decide_eq_true_eq] at hp;omega
 refine ak (fun q=>?_) (fun q=>?_)
 ·have q:=WR q;refine ak (fun r=>?_) (fun r=>?_)
  ·have r:=WR r;refine ⟨?_,rfl⟩;obtain ⟨k,rfl,hk⟩:∃ k:Nat,n=((k+1:Nat):Int)/\k<256:=⟨(n-1).toNat,ad,ad⟩
   have:∀ k:Fin 256,(IntKind.wrap .i64 (((BitVec.toNat ((BitVec.ofInt 64 ((k.1+1:Nat):Int)) &&& (BitVec.ofInt 64 (IntKind.wrap .i64 (((k.1+1:Nat):Int)-(1:Int)))))):Nat):Int)==(0:Int))=tI ((k.1+1:Nat):Int):=by
    decide +kernel
   rw [this ⟨k,hk⟩]
  ·have r:=WS r;exact ⟨by rw [hf ad],rfl⟩
 ·have q:=WS q;exact ⟨by rw [hf ad],rfl⟩
theorem cy (h:Hp) (n m:Int):vM Tryz.prog 142 [.int .i64 n,.int .i64 m] h (.bool (vN n m)):=by
 refine ee mixed Tryz.func142 ax (Ag n m) ?_;unfold xJ bt;refine ak (fun q=>?_) (fun q=>?_)
 ·have q:=WR q;refine ⟨?_,rfl⟩;unfold vN;rw [W1 (show 0<=n from ad)] <;> rfl
 ·have q:=WS q;refine ⟨?_,rfl⟩;unfold vN;rw [W4 (show ¬ 0<=n from ad)] <;> rfl
theorem cT (a b:Int):(a==b)=decide (a=b):=rfl
def cZ (op a b n form:Int):ZB:=.agg #[.int .i64 op,.int .i64 a,.int .i64 b,.int .i32 n,.int .i64 form]
theorem M6 (h:Hp) (op a b n form:Int):HC Tryz.prog 127 #[cZ op a b n form,.int .i64 1] h fun w h'=>w=.bool (cC 1 a b n)/\Ext h h':=by
 refine aX (args:=[cZ op a b n form,.int .i64 1]) mixed Tryz.func127 ax (qb op a b n form) ?_;unfold lB bt;refine bm ?_;intro g1 b1 e1 z1
 try simp only [aE]
 repeat' (first
  | (refine af b1 (_,()) rfl ?_; refine an ?_)
  | (refine aI (cy _ _ _) ?_)
  | (refine aI (bR _ _ _) ?_)
  | (refine ak (fun q=>?_) (fun q=>?_)))
 all_goals (refine ⟨?_,e1⟩; first | (simp_all [cC,cT]; done) | (simp_all [cC,cT] <;> simp [vN] <;> omega))
theorem Qf (h:Hp) (op a b n form:Int):HC Tryz.prog 128 #[cZ op a b n form,.int .i64 1] h fun w h'=>w=.bool (nR 1 n form)/\Ext h h':=by
 refine aX (args:=[cZ op a b n form,.int .i64 1]) mixed Tryz.func128 ax (sT op a b n form) ?_;unfold pK;refine bm ?_;intro g1 b1 e1 z1
 try simp only [aE]
 repeat' (first
  | (refine af b1 (_,()) rfl ?_; refine an ?_)
  | (refine aI (cy _ _ _) ?_)
  | (refine aI (bR _ _ _) ?_)
  | (refine ak (fun q=>?_) (fun q=>?_)))
 all_goals (refine ⟨?_,e1⟩; first | (simp_all [nR,cT]; done) | (simp_all [nR,cT] <;> omega))
theorem MC (h:Hp) (op a b n form:Int):HC Tryz.prog 127 #[cZ op a b n form,.int .i64 2] h fun w h'=>w=.bool (cC 2 a b n)/\Ext h h':=by
 refine aX (args:=[cZ op a b n form,.int .i64 2]) mixed Tryz.func127 ax (qf op a b n form) ?_;unfold kL aU bt;refine bm ?_;intro g1 b1 e1 z1
 try simp only [aE]
 repeat' (first
  | (refine af b1 (_,()) rfl ?_; refine an ?_)
  | (refine aI (cy _ _ _) ?_)
  | (refine aI (bR _ _ _) ?_)
  | (refine ak (fun q=>?_) (fun q=>?_)))
 all_goals (refine ⟨?_,e1⟩; first | (simp_all [cC,cT]; done) | (simp_all [cC,cT] <;> simp [vN] <;> omega))
theorem P0 (h:Hp) (op a b n form:Int):HC Tryz.prog 128 #[cZ op a b n form,.int .i64 2] h fun w h'=>w=.bool (nR 2 n form)/\Ext h h':=by
 refine aX (args:=[cZ op a b n form,.int .i64 2]) mixed Tryz.func128 ax (tu op a b n form) ?_;unfold pN;refine bm ?_;intro g1 b1 e1 z1
 try simp only [aE]
 repeat' (first
  | (refine af b1 (_,()) rfl ?_; refine an ?_)
  | (refine aI (cy _ _ _) ?_)
  | (refine aI (bR _ _ _) ?_)
  | (refine ak (fun q=>?_) (fun q=>?_)))
 all_goals (refine ⟨?_,e1⟩; first | (simp_all [nR,cT]; done) | (simp_all [nR,cT] <;> omega))
theorem KW (h:Hp) (op a b n form:Int):HC Tryz.prog 127 #[cZ op a b n form,.int .i64 3] h fun w h'=>w=.bool (cC 3 a b n)/\Ext h h':=by
 refine aX (args:=[cZ op a b n form,.int .i64 3]) mixed Tryz.func127 ax (pW op a b n form) ?_;unfold kJ aU bt;refine bm ?_;intro g1 b1 e1 z1
 try simp only [aE]
 repeat' (first
  | (refine af b1 (_,()) rfl ?_; refine an ?_)
  | (refine aI (cy _ _ _) ?_)
  | (refine aI (bR _ _ _) ?_)
  | (refine ak (fun q=>?_) (fun q=>?_)))
 all_goals (refine ⟨?_,e1⟩; first | (simp_all [cC,cT]; done) | (simp_all [cC,cT] <;> simp [vN] <;> omega))
theorem PH (h:Hp) (op a b n form:Int):HC Tryz.prog 128 #[cZ op a b n form,.int .i64 3] h fun w h'=>w=.bool (nR 3 n form)/\Ext h h':=by
 refine aX (args:=[cZ op a b n form,.int .i64 3]) mixed Tryz.func128 ax (tz op a b n form) ?_;unfold pI;refine bm ?_;intro g1 b1 e1 z1
 try simp only [aE]
 repeat' (first
  | (refine af b1 (_,()) rfl ?_; refine an ?_)
  | (refine aI (cy _ _ _) ?_)
  | (refine aI (bR _ _ _) ?_)
  | (refine ak (fun q=>?_) (fun q=>?_)))
 all_goals (refine ⟨?_,e1⟩; first | (simp_all [nR,cT]; done) | (simp_all [nR,cT] <;> omega))
theorem Nl (h:Hp) (op a b n form:Int):HC Tryz.prog 127 #[cZ op a b n form,.int .i64 4] h fun w h'=>w=.bool (cC 4 a b n)/\Ext h h':=by
 refine aX (args:=[cZ op a b n form,.int .i64 4]) mixed Tryz.func127 ax (qa op a b n form) ?_;unfold kK aU bt;refine bm ?_;intro g1 b1 e1 z1
 try simp only [aE]
 repeat' (first
  | (refine af b1 (_,()) rfl ?_; refine an ?_)
  | (refine aI (cy _ _ _) ?_)
  | (refine aI (bR _ _ _) ?_)
  | (refine ak (fun q=>?_) (fun q=>?_)))
 all_goals (refine ⟨?_,e1⟩; first | (simp_all [cC,cT]; done) | (simp_all [cC,cT] <;> simp [vN] <;> omega))
theorem OV (h:Hp) (op a b n form:Int):HC Tryz.prog 128 #[cZ op a b n form,.int .i64 4] h fun w h'=>w=.bool (nR 4 n form)/\Ext h h':=by
 refine aX (args:=[cZ op a b n form,.int .i64 4]) mixed Tryz.func128 ax (tp op a b n form) ?_;unfold pL;refine bm ?_;intro g1 b1 e1 z1
 try simp only [aE]
 repeat' (first
  | (refine af b1 (_,()) rfl ?_; refine an ?_)
  | (refine aI (cy _ _ _) ?_)
  | (refine aI (bR _ _ _) ?_)
  | (refine ak (fun q=>?_) (fun q=>?_)))
 all_goals (refine ⟨?_,e1⟩; first | (simp_all [nR,cT]; done) | (simp_all [nR,cT] <;> omega))
theorem Kj (h:Hp) (op a b n form:Int):HC Tryz.prog 127 #[cZ op a b n form,.int .i64 5] h fun w h'=>w=.bool (cC 5 a b n)/\Ext h h':=by
 refine aX (args:=[cZ op a b n form,.int .i64 5]) mixed Tryz.func127 ax (pY op a b n form) ?_;unfold ly aU bt;refine bm ?_;intro g1 b1 e1 z1
 try simp only [aE]
 repeat' (first
  | (refine af b1 (_,()) rfl ?_; refine an ?_)
  | (refine aI (cy _ _ _) ?_)
  | (refine aI (bR _ _ _) ?_)
  | (refine ak (fun q=>?_) (fun q=>?_)))
 all_goals (refine ⟨?_,e1⟩; first | (simp_all [cC,cT]; done) | (simp_all [cC,cT] <;> simp [vN] <;> omega))
theorem PA (h:Hp) (op a b n form:Int):HC Tryz.prog 128 #[cZ op a b n form,.int .i64 5] h fun w h'=>w=.bool (nR 5 n form)/\Ext h h':=by
 refine aX (args:=[cZ op a b n form,.int .i64 5]) mixed Tryz.func128 ax (sW op a b n form) ?_;unfold pG;refine bm ?_;intro g1 b1 e1 z1
 try simp only [aE]
 repeat' (first
  | (refine af b1 (_,()) rfl ?_; refine an ?_)
  | (refine aI (cy _ _ _) ?_)
  | (refine aI (bR _ _ _) ?_)
  | (refine ak (fun q=>?_) (fun q=>?_)))
 all_goals (refine ⟨?_,e1⟩; first | (simp_all [nR,cT]; done) | (simp_all [nR,cT] <;> omega))
theorem Ns (h:Hp) (op a b n form:Int):HC Tryz.prog 127 #[cZ op a b n form,.int .i64 6] h fun w h'=>w=.bool (cC 6 a b n)/\Ext h h':=by
 refine aX (args:=[cZ op a b n form,.int .i64 6]) mixed Tryz.func127 ax (pU op a b n form) ?_;unfold kA aU bt;refine bm ?_;intro g1 b1 e1 z1
 try simp only [aE]
 repeat' (first
  | (refine af b1 (_,()) rfl ?_; refine an ?_)
  | (refine aI (cy _ _ _) ?_)
  | (refine aI (bR _ _ _) ?_)
  | (refine ak (fun q=>?_) (fun q=>?_)))
 all_goals (refine ⟨?_,e1⟩; first | (simp_all [cC,cT]; done) | (simp_all [cC,cT] <;> simp [vN] <;> omega))
theorem O4 (h:Hp) (op a b n form:Int):HC Tryz.prog 128 #[cZ op a b n form,.int .i64 6] h fun w h'=>w=.bool (nR 6 n form)/\Ext h h':=by
 refine aX (args:=[cZ op a b n form,.int .i64 6]) mixed Tryz.func128 ax (tq op a b n form) ?_;unfold pM;refine bm ?_;intro g1 b1 e1 z1
 try simp only [aE]
 repeat' (first
  | (refine af b1 (_,()) rfl ?_; refine an ?_)
  | (refine aI (cy _ _ _) ?_)
  | (refine aI (bR _ _ _) ?_)
  | (refine ak (fun q=>?_) (fun q=>?_)))
 all_goals (refine ⟨?_,e1⟩; first | (simp_all [nR,cT]; done) | (simp_all [nR,cT] <;> omega))
theorem Og (h:Hp) (op a b n form:Int):HC Tryz.prog 127 #[cZ op a b n form,.int .i64 7] h fun w h'=>w=.bool (cC 7 a b n)/\Ext h h':=by
 refine aX (args:=[cZ op a b n form,.int .i64 7]) mixed Tryz.func127 ax (pZ op a b n form) ?_;unfold lr aU bt;refine bm ?_;intro g1 b1 e1 z1
 try simp only [aE]
 repeat' (first
  | (refine af b1 (_,()) rfl ?_; refine an ?_)
  | (refine aI (cy _ _ _) ?_)
  | (refine aI (bR _ _ _) ?_)
  | (refine ak (fun q=>?_) (fun q=>?_)))
 all_goals (refine ⟨?_,e1⟩; first | (simp_all [cC,cT]; done) | (simp_all [cC,cT] <;> simp [vN] <;> omega))
theorem Qd (h:Hp) (op a b n form:Int):HC Tryz.prog 128 #[cZ op a b n form,.int .i64 7] h fun w h'=>w=.bool (nR 7 n form)/\Ext h h':=by
 refine aX (args:=[cZ op a b n form,.int .i64 7]) mixed Tryz.func128 ax (tJ op a b n form) ?_;unfold pO;refine bm ?_;intro g1 b1 e1 z1
 try simp only [aE]
 repeat' (first
  | (refine af b1 (_,()) rfl ?_; refine an ?_)
  | (refine aI (cy _ _ _) ?_)
  | (refine aI (bR _ _ _) ?_)
  | (refine ak (fun q=>?_) (fun q=>?_)))
 all_goals (refine ⟨?_,e1⟩; first | (simp_all [nR,cT]; done) | (simp_all [nR,cT] <;> omega))
theorem M7 (h:Hp) (op a b n form:Int):HC Tryz.prog 127 #[cZ op a b n form,.int .i64 8] h fun w h'=>w=.bool (cC 8 a b n)/\Ext h h':=by
 refine aX (args:=[cZ op a b n form,.int .i64 8]) mixed Tryz.func127 ax (pV op a b n form) ?_;unfold lp aU bt;refine bm ?_;intro g1 b1 e1 z1
 try simp only [aE]
 repeat' (first
  | (refine af b1 (_,()) rfl ?_; refine an ?_)
  | (refine aI (cy _ _ _) ?_)
  | (refine aI (bR _ _ _) ?_)
  | (refine ak (fun q=>?_) (fun q=>?_)))
 all_goals (refine ⟨?_,e1⟩; first | (simp_all [cC,cT]; done) | (simp_all [cC,cT] <;> simp [vN] <;> omega))
theorem Qi (h:Hp) (op a b n form:Int):HC Tryz.prog 128 #[cZ op a b n form,.int .i64 8] h fun w h'=>w=.bool (nR 8 n form)/\Ext h h':=by
 refine aX (args:=[cZ op a b n form,.int .i64 8]) mixed Tryz.func128 ax (tE op a b n form) ?_;unfold pJ aU;refine bm ?_;intro g1 b1 e1 z1
 try simp only [aE]
 repeat' (first
  | (refine af b1 (_,()) rfl ?_; refine an ?_)
  | (refine aI (cy _ _ _) ?_)
  | (refine aI (bR _ _ _) ?_)
  | (refine ak (fun q=>?_) (fun q=>?_)))
 all_goals (refine ⟨?_,e1⟩; first | (simp_all [nR,cT]; done) | (simp_all [nR,cT] <;> omega))
theorem N9 (h:Hp) (op a b n form:Int):HC Tryz.prog 127 #[cZ op a b n form,.int .i64 9] h fun w h'=>w=.bool (cC 9 a b n)/\Ext h h':=by
 refine aX (args:=[cZ op a b n form,.int .i64 9]) mixed Tryz.func127 ax (pT op a b n form) ?_;unfold kH bt;refine bm ?_;intro g1 b1 e1 z1
 try simp only [aE]
 repeat' (first
  | (refine af b1 (_,()) rfl ?_; refine an ?_)
  | (refine aI (cy _ _ _) ?_)
  | (refine aI (bR _ _ _) ?_)
  | (refine ak (fun q=>?_) (fun q=>?_)))
 all_goals (refine ⟨?_,e1⟩; first | (simp_all [cC,cT]; done) | (simp_all [cC,cT] <;> simp [vN] <;> omega))
theorem PU (h:Hp) (op a b n form:Int):HC Tryz.prog 128 #[cZ op a b n form,.int .i64 9] h fun w h'=>w=.bool (nR 9 n form)/\Ext h h':=by
 refine aX (args:=[cZ op a b n form,.int .i64 9]) mixed Tryz.func128 ax (tB op a b n form) ?_;unfold pP bt;refine bm ?_;intro g1 b1 e1 z1
 try simp only [aE]
 repeat' (first
  | (refine af b1 (_,()) rfl ?_; refine an ?_)
  | (refine aI (cy _ _ _) ?_)
  | (refine aI (bR _ _ _) ?_)
  | (refine ak (fun q=>?_) (fun q=>?_)))
 all_goals (refine ⟨?_,e1⟩; first | (simp_all [nR,cT]; done) | (simp_all [nR,cT] <;> omega))
theorem J7 (h:Hp) (op a b n form:Int):HC Tryz.prog 127 #[cZ op a b n form,.int .i64 10] h fun w h'=>w=.bool (cC 10 a b n)/\Ext h h':=by
 refine aX (args:=[cZ op a b n form,.int .i64 10]) mixed Tryz.func127 ax (oz op a b n form) ?_;unfold j1 aU bt;refine bm ?_;intro g1 b1 e1 z1
 try simp only [aE]
 repeat' (first
  | (refine af b1 (_,()) rfl ?_; refine an ?_)
  | (refine aI (cy _ _ _) ?_)
  | (refine aI (bR _ _ _) ?_)
  | (refine ak (fun q=>?_) (fun q=>?_)))
 all_goals (refine ⟨?_,e1⟩; first | (simp_all [cC,cT]; done) | (simp_all [cC,cT] <;> simp [vN] <;> omega))
theorem Kt (h:Hp) (op a b n form:Int):HC Tryz.prog 128 #[cZ op a b n form,.int .i64 10] h fun w h'=>w=.bool (nR 10 n form)/\Ext h h':=by
 refine aX (args:=[cZ op a b n form,.int .i64 10]) mixed Tryz.func128 ax (sg op a b n form) ?_;unfold nI;refine bm ?_;intro g1 b1 e1 z1
 try simp only [aE]
 repeat' (first
  | (refine af b1 (_,()) rfl ?_; refine an ?_)
  | (refine aI (cy _ _ _) ?_)
  | (refine aI (bR _ _ _) ?_)
  | (refine ak (fun q=>?_) (fun q=>?_)))
 all_goals (refine ⟨?_,e1⟩; first | (simp_all [nR,cT]; done) | (simp_all [nR,cT] <;> omega))
theorem Jz (h:Hp) (op a b n form:Int):HC Tryz.prog 127 #[cZ op a b n form,.int .i64 11] h fun w h'=>w=.bool (cC 11 a b n)/\Ext h h':=by
 refine aX (args:=[cZ op a b n form,.int .i64 11]) mixed Tryz.func127 ax (py op a b n form) ?_;unfold j8 aU bt;refine bm ?_;intro g1 b1 e1 z1
 try simp only [aE]
 repeat' (first
  | (refine af b1 (_,()) rfl ?_; refine an ?_)
  | (refine aI (cy _ _ _) ?_)
  | (refine aI (bR _ _ _) ?_)
  | (refine ak (fun q=>?_) (fun q=>?_)))
 all_goals (refine ⟨?_,e1⟩; first | (simp_all [cC,cT]; done) | (simp_all [cC,cT] <;> simp [vN] <;> omega))
theorem Mr (h:Hp) (op a b n form:Int):HC Tryz.prog 128 #[cZ op a b n form,.int .i64 11] h fun w h'=>w=.bool (nR 11 n form)/\Ext h h':=by
 refine aX (args:=[cZ op a b n form,.int .i64 11]) mixed Tryz.func128 ax (r8 op a b n form) ?_;unfold nW bt;refine bm ?_;intro g1 b1 e1 z1
 try simp only [aE]
 repeat' (first
  | (refine af b1 (_,()) rfl ?_; refine an ?_)
  | (refine aI (cy _ _ _) ?_)
  | (refine aI (bR _ _ _) ?_)
  | (refine ak (fun q=>?_) (fun q=>?_)))
 all_goals (refine ⟨?_,e1⟩; first | (simp_all [nR,cT]; done) | (simp_all [nR,cT] <;> omega))
theorem JO (h:Hp) (op a b n form:Int):HC Tryz.prog 127 #[cZ op a b n form,.int .i64 12] h fun w h'=>w=.bool (cC 12 a b n)/\Ext h h':=by
 refine aX (args:=[cZ op a b n form,.int .i64 12]) mixed Tryz.func127 ax (pd op a b n form) ?_;unfold jW bt;refine bm ?_;intro g1 b1 e1 z1
 try simp only [aE]
 repeat' (first
  | (refine af b1 (_,()) rfl ?_; refine an ?_)
  | (refine aI (cy _ _ _) ?_)
  | (refine aI (bR _ _ _) ?_)
  | (refine ak (fun q=>?_) (fun q=>?_)))
 all_goals (refine ⟨?_,e1⟩; first | (simp_all [cC,cT]; done) | (simp_all [cC,cT] <;> simp [vN] <;> omega))
theorem Mq (h:Hp) (op a b n form:Int):HC Tryz.prog 128 #[cZ op a b n form,.int .i64 12] h fun w h'=>w=.bool (nR 12 n form)/\Ext h h':=by
 refine aX (args:=[cZ op a b n form,.int .i64 12]) mixed Tryz.func128 ax (rY op a b n form) ?_;unfold n' aU;refine bm ?_;intro g1 b1 e1 z1
 try simp only [aE]
 repeat' (first
  | (refine af b1 (_,()) rfl ?_; refine an ?_)
  | (refine aI (cy _ _ _) ?_)
  | (refine aI (bR _ _ _) ?_)
  | (refine ak (fun q=>?_) (fun q=>?_)))
 all_goals (refine ⟨?_,e1⟩; first | (simp_all [nR,cT]; done) | (simp_all [nR,cT] <;> omega))
theorem Jc (h:Hp) (op a b n form:Int):HC Tryz.prog 127 #[cZ op a b n form,.int .i64 13] h fun w h'=>w=.bool (cC 13 a b n)/\Ext h h':=by
 refine aX (args:=[cZ op a b n form,.int .i64 13]) mixed Tryz.func127 ax (ot op a b n form) ?_;unfold j3 aU bt;refine bm ?_;intro g1 b1 e1 z1
 try simp only [aE]
 repeat' (first
  | (refine af b1 (_,()) rfl ?_; refine an ?_)
  | (refine aI (cy _ _ _) ?_)
  | (refine aI (bR _ _ _) ?_)
  | (refine ak (fun q=>?_) (fun q=>?_)))
 all_goals (refine ⟨?_,e1⟩; first | (simp_all [cC,cT]; done) | (simp_all [cC,cT] <;> simp [vN] <;> omega))
theorem LI (h:Hp) (op a b n form:Int):HC Tryz.prog 128 #[cZ op a b n form,.int .i64 13] h fun w h'=>w=.bool (nR 13 n form)/\Ext h h':=by
 refine aX (args:=[cZ op a b n form,.int .i64 13]) mixed Tryz.func128 ax (sq op a b n form) ?_;unfold nL aU;refine bm ?_;intro g1 b1 e1 z1
 try simp only [aE]
 repeat' (first
  | (refine af b1 (_,()) rfl ?_; refine an ?_)
  | (refine aI (cy _ _ _) ?_)
  | (refine aI (bR _ _ _) ?_)
  | (refine ak (fun q=>?_) (fun q=>?_)))
 all_goals (refine ⟨?_,e1⟩; first | (simp_all [nR,cT]; done) | (simp_all [nR,cT] <;> omega))
theorem B1 (h:Hp) (op a b n form:Int) {s:Nat} (h1:1<=s) (h2:s<=13):HC Tryz.prog 127 #[cZ op a b n form,.int .i64 s] h fun w h'=>w=.bool (cC s a b n)/\Ext h h':=by
 have hs:s=1\/s=2\/s=3\/s=4\/s=5\/s=6\/s=7\/s=8\/s=9\/s=10\/s=11\/s=12\/s=13:=ad
 clear h1 h2;rcases hs with rfl | rfl | rfl | rfl | rfl | rfl | rfl | rfl | rfl | rfl | rfl | rfl | rfl
 ·exact M6 h op a b n form
 ·exact MC h op a b n form
 ·exact KW h op a b n form
 ·exact Nl h op a b n form
 ·exact Kj h op a b n form
 ·exact Ns h op a b n form
 ·exact Og h op a b n form
 ·exact M7 h op a b n form
 ·exact N9 h op a b n form
 ·exact J7 h op a b n form
 ·exact Jz h op a b n form
 ·exact JO h op a b n form
 ·exact Jc h op a b n form
theorem BT (h:Hp) (op a b n form:Int) {s:Nat} (h1:1<=s) (h2:s<=13):HC Tryz.prog 128 #[cZ op a b n form,.int .i64 s] h fun w h'=>w=.bool (nR s n form)/\Ext h h':=by
 have hs:s=1\/s=2\/s=3\/s=4\/s=5\/s=6\/s=7\/s=8\/s=9\/s=10\/s=11\/s=12\/s=13:=ad
 clear h1 h2;rcases hs with rfl | rfl | rfl | rfl | rfl | rfl | rfl | rfl | rfl | rfl | rfl | rfl | rfl
 ·exact Qf h op a b n form
 ·exact P0 h op a b n form
 ·exact PH h op a b n form
 ·exact OV h op a b n form
 ·exact PA h op a b n form
 ·exact O4 h op a b n form
 ·exact Qd h op a b n form
 ·exact Qi h op a b n form
 ·exact PU h op a b n form
 ·exact Kt h op a b n form
 ·exact Mr h op a b n form
 ·exact Mq h op a b n form
 ·exact LI h op a b n form
def Sm (n:Int):Prop:=-9223372036854775808<=n/\n<=9223372036854775807
theorem Ew {h:Hp} (t:An h) (op a b n form:Int) (ho:Sm op) :
  HC Tryz.prog 118 #[cZ op a b n form] h fun w h'=>w=.int .i64 (gd ⟨op,a,b,n,form⟩)/\Ext h h':=by
 refine aX (args:=[cZ op a b n form]) mixed Tryz.func118 ax (yQ op a b n form) ?_;unfold xC aU bG bS cd;refine bm ?_;intro g1 b1 e1 z1;refine af b1 (op,()) rfl ?_;refine an ?_;refine aH (MP (t.ao e1 aj) op ho.1 ho.2) ?_;rintro _ g2 ⟨s,y,rfl,e2⟩;refine ⟨(s,y,((cX op:Nat):Int),decide (cX op≠0),()),rfl,?_⟩;refine an ?_;refine bm ?_;intro g3 b3 e3 z3;refine aw b3 rfl aj ?_;intro g4 b4 k4 z4;have b4:bz g4 g2.size 165 [.string s,.int .u8 y,.int .i64 (cX op:Nat)]:=b4;have e4:=((e1.trans e2).trans e3).st k4 (by have:=e1.size; have:=e2.size; omega);have b1:=b1.ao ((e2.trans e3).st k4 (by have:=e2.size; omega)) aj;unfold gd;simp only [aE];refine ak (fun q=>?_) (fun q=>?_)
 ·have q:cX op=0:=by simpa using q
  exact ⟨by rw [W2 q],e4⟩
 have q:¬ cX op=0:=by simpa using q
 rw [WV q];refine af b1 (op,a,b,n,form,()) rfl ?_;refine an ?_;refine af b4 (((cX op:Nat):Int),()) rfl ?_;refine an ?_;have hs:=gS op;refine aH (B1 g4 op a b n form (s:=cX op) ad ad) ?_;rintro _ g5 ⟨rfl,e5⟩;refine ⟨(cC (cX op) a b n,()),rfl,?_⟩;refine an ?_;have e45:=e4.trans e5;refine ak (fun q=>?_) (fun q=>?_)
 ·have q:cC (cX op) a b n=false:=by simpa using q
  exact ⟨by rw [W2 q],e45⟩
 have q:cC (cX op) a b n=true:=by simpa using q
 rw [WV (by rw [q]; simp)];have b1:=b1.ao e5 aj;have b4:=b4.ao e5 aj;refine af b1 (op,()) rfl ?_;refine an ?_;refine aH (DQ (t.ao e45 aj) op ho.1 ho.2) ?_;rintro _ g6 ⟨rfl,e6⟩;refine ⟨(rC op,()),rfl,?_⟩;refine an ?_;have e46:=e45.trans e6;have b1:=b1.ao e6 aj;have b4:=b4.ao e6 aj;refine ak (fun q=>?_) (fun q=>?_)
 ·have q:rC op=false:=by simpa using q
  refine af b1 (form,()) rfl ?_;refine an ?_;refine ak (fun r=>?_) (fun r=>?_)
  ·have r:¬ form=0:=by simpa using r
   exact ⟨by rw [q]; simp [r],e46⟩
  have r:form=0:=by simpa using r
  refine af b1 (op,a,b,n,form,()) rfl ?_;refine an ?_;refine af b4 (((cX op:Nat):Int),()) rfl ?_;refine an ?_;refine aH (BT g6 op a b n form (s:=cX op) ad ad) ?_;rintro _ g7 ⟨rfl,e7⟩;refine ⟨(nR (cX op) n form,()),rfl,?_⟩;refine an ?_;refine ak (fun p=>?_) (fun p=>?_)
  ·exact ⟨by rw [q]; simp_all,e46.trans e7⟩
  ·exact ⟨by rw [q]; simp_all,e46.trans e7⟩
 ·have q:rC op=true:=by simpa using q
  refine af b1 (op,a,b,n,form,()) rfl ?_;refine an ?_;refine af b4 (((cX op:Nat):Int),()) rfl ?_;refine an ?_;refine aH (BT g6 op a b n form (s:=cX op) ad ad) ?_;rintro _ g7 ⟨rfl,e7⟩;refine ⟨(nR (cX op) n form,()),rfl,?_⟩;refine an ?_;refine ak (fun p=>?_) (fun p=>?_)
  ·exact ⟨by rw [q]; simp_all,e46.trans e7⟩
  ·exact ⟨by rw [q]; simp_all,e46.trans e7⟩
def encI (p:Option ZC) (l c:Nat) (x:cB):List ZB:=[.int .i64 x.kind,.string x.name,.int .i64 x.inst.op,.int .i64 x.inst.a,.int .i64 x.inst.b,.int .i32 x.inst.n,.int .i64 x.inst.form,.slice p l c,.int .u32 x.e.num,.int .i64 x.n]
def qe (p:Option ZC) (l c:Nat) (x:cB):ZB:=.agg (encI p l c x).toArray
structure nB (h:Hp) (p:Option ZC) (l:Nat) (x:bX):Prop where
 vw:gn h p l x.ai
 many:x.ai.length<=2^60
 names:∀ t,t∈x.ai->t.1.size<=maxLen
theorem nB.ao {h:Hp} {p:Option ZC} {l:Nat} {x:bX} (v:nB h p l x) (k:Ext h h'):nB h' p l x:=⟨v.vw.ao k aj,v.many,v.names⟩
theorem gn.none (h:Hp):gn h none 0 []:=⟨rfl,fun i hi=>absurd hi aj⟩
theorem qD (x:bX):nz x FF=Oq x:=by
 unfold nz Oq FF;rw [Bool.and_comm]
def Hi (g k:Nat):T :=
 T.ah ⟨g,5,none⟩ [.int .i32] <| fun (n16:Int) =>
 cond (n16==(0:Int))
  (T.ah ⟨k,0,none⟩ [.int .i64,.int .i64,.int .i64,.int .i32,.int .i64] <| fun (n17:Int) (n18:Int) (n19:Int) (n20:Int) (n21:Int) =>
  bG 118 [.agg #[.int .i64 n17,.int .i64 n18,.int .i64 n19,.int .i32 n20,.int .i64 n21]] false [aM] <| fun (n22:Int) =>
  cond (n22==(0:Int))
  (T.ah ⟨g,7,none⟩ [.slice 66,.int .u32] <| fun (p23:Option ZC) (l24:Nat) (l25:Nat) (n26:Int) =>
  bG 80 [.agg #[.slice p23 l24 l25,.int .u32 n26]] false [cd] <| fun (b27:Bool) =>
  T.ret (.bool b27))
  bt)
  bt
def LJ (g k:Nat):T :=
 T.ah ⟨k,0,none⟩ [.int .i64,.int .i64,.int .i64,.int .i32,.int .i64] <| fun (n16:Int) (n17:Int) (n18:Int) (n19:Int) (n20:Int) =>
 bG 118 [.agg #[.int .i64 n16,.int .i64 n17,.int .i64 n18,.int .i32 n19,.int .i64 n20]] false [aM] <| fun (n21:Int) =>
 cond (n21==(0:Int))
  (T.ah ⟨g,7,none⟩ [.slice 66,.int .u32] <| fun (p22:Option ZC) (l23:Nat) (l24:Nat) (n25:Int) =>
  bG 101 [.agg #[.slice p22 l23 l24,.int .u32 n25],.agg #[bd,.int .u32 (0:Int)]] false [cd] <| fun (b26:Bool) =>
  T.ret (.bool b26))
  bt
def nU (i:Ins):List ZB:=[.int .i64 i.op,.int .i64 i.a,.int .i64 i.b,.int .i32 i.n,.int .i64 i.form]
theorem D8 {L:Lp} {h0 h:Hp} (t:An h) {x:cB} {p:Option ZC} {l c g k:Nat} {i:Ins} (b1:bz h g e1 (encI p l c x)) (b2:bz h k e2 (nU i)) (v:nB h p l x.e) (ho:Sm i.op) (e:Ext h0 h) :
  Hi g k L (fun w h'=>w=.bool (decide (x.inst.n=0) && decide (gd i=0) && mS none x.e.ai)/\Ext h0 h') h:=by
 unfold Hi bG bt aM cd;refine af b1 (x.inst.n,()) rfl ?_;refine an ?_;refine ak (fun q=>?_) (fun q=>?_)
 ·have q:x.inst.n=0:=by simpa using q
  refine af b2 (i.op,i.a,i.b,i.n,i.form,()) rfl ?_;refine an ?_;refine aH (Ew t i.op i.a i.b i.n i.form ho) ?_;rintro _ g2 ⟨rfl,e2⟩;refine ⟨(gd i,()),rfl,?_⟩;refine an ?_;refine ak (fun r=>?_) (fun r=>?_)
  ·have r:gd i=0:=by simpa using r
   refine af (b1.ao e2 aj) ((p,l,c),(x.e.num:Int),()) rfl ?_;refine an ?_;refine aH (sX (c:=c) (v.ao e2).vw (by have:=v.many; omega) v.names) ?_;rintro _ g3 ⟨rfl,e3⟩;refine ⟨(mS none x.e.ai,()),rfl,?_⟩;exact ⟨by rw [W1 q,W1 r]; rfl,(e.trans e2).trans e3⟩
  ·have r:¬ gd i=0:=by simpa using r
   exact ⟨by rw [W4 r,YV]; rfl,e.trans e2⟩
 ·have q:¬ x.inst.n=0:=by simpa using q
  exact ⟨by rw [W4 q]; rfl,e⟩
theorem M1 {L:Lp} {h0 h:Hp} (t:An h) {x:cB} {p:Option ZC} {l c g k:Nat} {i:Ins} (b1:bz h g e1 (encI p l c x)) (b2:bz h k e2 (nU i)) (v:nB h p l x.e) (ho:Sm i.op) (e:Ext h0 h) :
  LJ g k L (fun w h'=>w=.bool (decide (gd i=0) && Oq x.e)/\Ext h0 h') h:=by
 unfold LJ bG bt bd aM cd;refine af b2 (i.op,i.a,i.b,i.n,i.form,()) rfl ?_;refine an ?_;refine aH (Ew t i.op i.a i.b i.n i.form ho) ?_;rintro _ g2 ⟨rfl,e2⟩;refine ⟨(gd i,()),rfl,?_⟩;refine an ?_;refine ak (fun r=>?_) (fun r=>?_)
 ·have r:gd i=0:=by simpa using r
  refine af (b1.ao e2 aj) ((p,l,c),(x.e.num:Int),()) rfl ?_;refine an ?_;refine aH (Bk (c:=c) (d:=0) (y:=FF) (v.ao e2).vw (gn.none g2) v.many) ?_;rintro _ g3 ⟨rfl,e3⟩;refine ⟨(nz x.e FF,()),rfl,?_⟩;exact ⟨by rw [W1 r,qD]; rfl,(e.trans e2).trans e3⟩
 ·have r:¬ gd i=0:=by simpa using r
  exact ⟨by rw [W4 r]; rfl,e.trans e2⟩
theorem instruction_hc {h:Hp} (t:An h) {x:cB} {p:Option ZC} {l c:Nat} (v:nB h p l x.e) (ho:Sm x.inst.op) :
  HC Tryz.prog 99 #[qe p l c x] h fun w h'=>w=.bool (yM x.inst x.e)/\Ext h h':=by
 refine aX (args:=[qe p l c x]) mixed Tryz.func99 ax (qc x.kind x.name x.inst.op x.inst.a x.inst.b x.inst.n x.inst.form p l c x.e.num x.n) ?_;unfold kB aU cD bG bt bd bS cd;refine bm ?_;intro g1 b1 e1 z1;have b1:bz g1 h.size 64 (encI p l c x):=b1;simp only [aE];refine af b1 (x.inst.op,()) rfl ?_;refine an ?_;refine aH (MP (t.ao e1 aj) x.inst.op ho.1 ho.2) ?_;rintro _ g2 ⟨s,y,rfl,e2⟩;refine ⟨(s,y,((cX x.inst.op:Nat):Int),decide (cX x.inst.op≠0),()),rfl,?_⟩;refine an ?_;refine bm ?_;intro g3 b3 e3 z3;refine aw b3 rfl aj ?_;intro g4 b4 k4 z4;have b4:bz g4 g2.size 165 [.string s,.int .u8 y,.int .i64 (cX x.inst.op:Nat)]:=b4;have s1:=e1.size;have s2:=e2.size;have e14:=(e2.trans e3).st k4 ad;have e4:=e1.trans e14;have b1:=b1.ao e14 aj;unfold yM;refine ak (fun q=>?_) (fun q=>?_)
 ·have q:cX x.inst.op=0:=by simpa using q
  exact ⟨by rw [q]; rfl,e4⟩
 have q:cX x.inst.op≠0:=by simpa using q
 rw [W1 q,Xx];refine af b1 (x.inst.form,()) rfl ?_;refine an ?_;refine ak (fun r=>?_) (fun r=>?_)
 ·have r:¬ x.inst.form=0:=by simpa using r
  exact ⟨by rw [W4 r]; rfl,e4⟩
 have r:x.inst.form=0:=by simpa using r
 rw [W1 r,Xx];refine af b1 (x.inst.op,x.inst.a,x.inst.b,x.inst.n,x.inst.form,()) rfl ?_;refine an ?_;refine bm ?_;intro g5 b5 e5 z5;refine aw b5 rfl aj ?_;intro g6 b6 k6 z6;have b6:bz g6 g4.size 62 (nU x.inst):=b6;have e46:=e5.st k6 ad;have e6:=e4.trans e46;have b1:=b1.ao e46 aj;have b4:=b4.ao e46 aj;simp only [aE];have hs:=gS x.inst.op;refine af b4 (((cX x.inst.op:Nat):Int),()) rfl ?_;refine an ?_;generalize hB:(if Fw x.inst.op=true then decide (x.inst.n=0) && decide (gd { x.inst with form:=if rC x.inst.op=true then 1 else 0 }=0) && mS none x.e.ai else decide (gd x.inst=0) && Oq x.e)=B;have hF:{ x.inst with form:=0 }=x.inst:=by
  rcases hx:x.inst with ⟨a1,a2,a3,a4,a5⟩
  rw [hx] at r;simp only at r;rw [r]
 have hA:12<=cX x.inst.op->T.aC ⟨g4.size,4,none⟩ [.int .i64 1] (Hi h.size g4.size) [] (fun w h'=>w=.bool B/\Ext h h') g6:=by
  intro hh;refine aw b6 rfl (by simp [nU]) ?_;intro g7 b7 k7 z7;have b7:bz g7 g4.size 62 (nU { x.inst with form:=1 }):=b7;have e67:Ext g4 g7:=e46.st k7 ad;have e7:=e4.trans e67;have hw:Fw x.inst.op=true:=W1 ad;have hp:rC x.inst.op=true:=W1 hh;rw [W2 hw,W2 hp] at hB
  have:=D8 (L:=[]) (h0:=h) (t.ao e7 aj) (b1.ao k7 (by simp; omega)) b7 (v.ao e7) ho e7
  rw [hB] at this;exact this
 have hR:cX x.inst.op=10\/cX x.inst.op=11->Hi h.size g4.size [] (fun w h'=>w=.bool B/\Ext h h') g6:=by
  intro hh;have hw:Fw x.inst.op=true:=W1 ad;have hp:¬ rC x.inst.op=true:=by unfold rC; rw [W4 ad]; simp
  rw [W2 hw,WV hp,hF] at hB
  have:=D8 (L:=[]) (h0:=h) (t.ao e6 aj) b1 b6 (v.ao e6) ho e6
  rw [hB] at this;exact this
 have hS:cX x.inst.op<10->LJ h.size g4.size [] (fun w h'=>w=.bool B/\Ext h h') g6:=by
  intro hh;have hw:¬ Fw x.inst.op=true:=by unfold Fw; rw [W4 ad]; simp
  rw [WV hw] at hB
  have:=M1 (L:=[]) (h0:=h) (t.ao e6 aj) b1 b6 (v.ao e6) ho e6
  rw [hB] at this;exact this
 clear hB;refine ak (fun q1=>?_) (fun q1=>?_)
 ·have q1:((cX x.inst.op:Nat):Int)=12:=by simpa using q1
  refine ak (fun q2=>hA ad) (fun q2=>?_);have q2:¬ ((cX x.inst.op:Nat):Int)=12:=by simpa using q2
  exact absurd q1 q2
 have q1:¬ ((cX x.inst.op:Nat):Int)=12:=by simpa using q1
 refine ak (fun q2=>?_) (fun q2=>?_)
 ·have q2:((cX x.inst.op:Nat):Int)=13:=by simpa using q2
  exact hA ad
 have q2:¬ ((cX x.inst.op:Nat):Int)=13:=by simpa using q2
 refine ak (fun q3=>?_) (fun q3=>?_)
 ·have q3:((cX x.inst.op:Nat):Int)=10:=by simpa using q3
  refine ak (fun q2=>hR ad) (fun q4=>?_);have q4:¬ ((cX x.inst.op:Nat):Int)=10:=by simpa using q4
  exact absurd q3 q4
 have q3:¬ ((cX x.inst.op:Nat):Int)=10:=by simpa using q3
 refine ak (fun q4=>?_) (fun q4=>?_)
 ·have q4:((cX x.inst.op:Nat):Int)=11:=by simpa using q4
  exact hR ad
 have q4:¬ ((cX x.inst.op:Nat):Int)=11:=by simpa using q4
 exact hS ad
structure iM (h:Hp) (p:Option ZC) (l:Nat) (x:cB):Prop where
 lin:nB h p l x.e
 name:x.name.size<=maxLen
 op:Sm x.inst.op
theorem iM.ao {h:Hp} {p:Option ZC} {l:Nat} {x:cB} (v:iM h p l x) (k:Ext h h'):iM h' p l x:=⟨v.lin.ao k,v.name,v.op⟩
def jZ (x y:cB):Bool:=decide (x.name=y.name) && decide (x.inst=y.inst) && decide (x.n=y.n) && nz x.e y.e
theorem Rl:Tryz.prog.underlying 62=some (.struct (AH Tryz.prog 62)):=ax
theorem TE (x y:Operand) (i j:Ins) (h:Hp) (K:ZB->Hp->Prop) (hk:K (.bool !(decide (i=j))) h) :
  aQ Tryz.prog (Sx.iF (BinOp.neq) 62 x y (.agg (nU i).toArray) (.agg (nU j).toArray)) h K:=by
 refine uG Rl ax ax ax K ?_;have he:(AH Tryz.prog 62).all (FK (nU i).toArray (nU j).toArray)=(i.op==j.op && (i.a==j.a && (i.b==j.b && (i.n==j.n && (i.form==j.form && true))))):=by
  rw [<- Yb]
  kernel_rfl
 rw [he,Yf]
 have:(i.op==j.op && (i.a==j.a && (i.b==j.b && (i.n==j.n && i.form==j.form))))=decide (i=j):=by
  rcases i with ⟨a1,a2,a3,a4,a5⟩
  rcases j with ⟨c1,c2,c3,c4,c5⟩
  simp only [cT,Ins.mk.injEq]
  by_cases h1:a1=c1 <;> by_cases h2:a2=c2 <;> by_cases h3:a3=c3 <;> by_cases h4:a4=c4 <;> by_cases h5:a5=c5 <;> simp [h1,h2,h3,h4,h5]
 rw [this];exact hk
def Wd (g k:Nat):T :=
 T.ah ⟨g,1,none⟩ [.string] <| fun (s8:ZA) =>
 T.ah ⟨k,1,none⟩ [.string] <| fun (s9:ZA) =>
 cond (!((ByteArray.toList s8)==(ByteArray.toList s9)))
  (T.ret (.int .i64 (31:Int)))
  (T.ah ⟨g,2,none⟩ [.int .i64,.int .i64,.int .i64,.int .i32,.int .i64] <| fun (n10:Int) (n11:Int) (n12:Int) (n13:Int) (n14:Int) =>
  T.ah ⟨k,2,none⟩ [.int .i64,.int .i64,.int .i64,.int .i32,.int .i64] <| fun (n15:Int) (n16:Int) (n17:Int) (n18:Int) (n19:Int) =>
  bK (Sx.iF (BinOp.neq) 62 (Operand.tmp 109) (Operand.tmp 111) (.agg #[.int .i64 n10,.int .i64 n11,.int .i64 n12,.int .i32 n13,.int .i64 n14]) (.agg #[.int .i64 n15,.int .i64 n16,.int .i64 n17,.int .i32 n18,.int .i64 n19])) false [cd] <| fun (b20:Bool) =>
  cond b20
  (T.ret (.int .i64 (31:Int)))
  (T.ah ⟨g,9,none⟩ [.int .i64] <| fun (n21:Int) =>
  T.ah ⟨k,9,none⟩ [.int .i64] <| fun (n22:Int) =>
  cond (n21 != n22)
   (T.ret (.int .i64 (31:Int)))
   (T.ah ⟨g,7,none⟩ [.slice 66,.int .u32] <| fun (p23:Option ZC) (l24:Nat) (l25:Nat) (n26:Int) =>
   T.ah ⟨k,7,none⟩ [.slice 66,.int .u32] <| fun (p27:Option ZC) (l28:Nat) (l29:Nat) (n30:Int) =>
   bG 101 [.agg #[.slice p23 l24 l25,.int .u32 n26],.agg #[.slice p27 l28 l29,.int .u32 n30]] false [cd] <| fun (b31:Bool) =>
   cond (!b31)
   (T.ret (.int .i64 (31:Int)))
   (T.ret (.int .i64 (0:Int))))))
def CW (b:Bool):ZB:=.int .i64 (if b then 0 else 31)
theorem oM {L:Lp} {h0 h:Hp} {x y:cB} {p q:Option ZC} {l c m d g k:Nat} (b1:bz h g e1 (encI p l c x)) (b2:bz h k e2 (encI q m d y)) (v:nB h p l x.e) (w:gn h q m y.e.ai) (e:Ext h0 h) :
  Wd g k L (fun w h'=>w=CW (jZ x y)/\Ext h0 h') h:=by
 unfold Wd jZ bG bK cd;refine af b1 (x.name,()) rfl ?_;refine an ?_;refine af b2 (y.name,()) rfl ?_;refine an ?_;rw [ByteArray.toList_eq,ByteArray.toList_eq];refine ak (fun r=>?_) (fun r=>?_)
 ·have r:¬ x.name=y.name:=fun he=>by rw [he] at r; simp at r
  exact ⟨by rw [W4 r]; rfl,e⟩
 have r:x.name=y.name:=C0 (by simpa using r);rw [W1 r,Xx];refine af b1 (x.inst.op,x.inst.a,x.inst.b,x.inst.n,x.inst.form,()) rfl ?_;refine an ?_;refine af b2 (y.inst.op,y.inst.a,y.inst.b,y.inst.n,y.inst.form,()) rfl ?_;refine an ?_;refine mU (fun K' hK=>TE _ _ x.inst y.inst h K' hK) ?_;refine ak (fun r=>?_) (fun r=>?_)
 ·have r:¬ x.inst=y.inst:=by simpa using r
  exact ⟨by rw [W4 r]; rfl,e⟩
 have r:x.inst=y.inst:=by simpa using r
 rw [W1 r,Xx];refine af b1 (x.n,()) rfl ?_;refine an ?_;refine af b2 (y.n,()) rfl ?_;refine an ?_;refine ak (fun r=>?_) (fun r=>?_)
 ·have r:¬ x.n=y.n:=by simpa using r
  exact ⟨by rw [W4 r]; rfl,e⟩
 have r:x.n=y.n:=by simpa using r
 rw [W1 r,Xx];refine af b1 ((p,l,c),(x.e.num:Int),()) rfl ?_;refine an ?_;refine af b2 ((q,m,d),(y.e.num:Int),()) rfl ?_;refine an ?_;refine aH (Bk (c:=c) (d:=d) v.vw w v.many) ?_;rintro _ g3 ⟨rfl,e3⟩;refine ⟨(nz x.e y.e,()),rfl,?_⟩;refine an ?_;refine ak (fun r=>?_) (fun r=>?_)
 ·have r:nz x.e y.e=false:=by simpa using r
  exact ⟨by rw [r]; rfl,e.trans e3⟩
 ·have r:nz x.e y.e=true:=by simpa using r
  exact ⟨by rw [r]; rfl,e.trans e3⟩
theorem sZ (x:bX):nz x x=true:=Je x
theorem Da {x:cB} (hk:x.kind=1):cr x sec=(cM x.name.data.toList && jZ x { eJ x.kind with name:=x.name }):=by
 unfold cr jZ;simp only [hk,eJ,sZ,qD,z1,z2,z3,z4];simp (decide:=true) only [if_true,if_false,YR,Xx,Yf]
 try simp only [Bool.and_assoc,Bool.and_comm,Bool.and_left_comm]
theorem LA {x:cB} (hk:x.kind=2):cr x sec=(decide (sec=0) && yM x.inst x.e && jZ x { eJ x.kind with inst:=x.inst,e:=x.e }):=by
 unfold cr jZ;simp only [hk,eJ,sZ,qD,z1,z2,z3,z4];simp (decide:=true) only [if_true,if_false,YR,Xx,Yf]
 try simp only [Bool.and_assoc,Bool.and_comm,Bool.and_left_comm]
theorem M9 {x:cB} (hk:x.kind=3):cr x sec=(tI x.n && jZ x { eJ x.kind with n:=x.n }):=by
 unfold cr jZ;simp only [hk,eJ,sZ,qD,z1,z2,z3,z4];simp (decide:=true) only [if_true,if_false,YR,Xx,Yf]
 try simp only [Bool.and_assoc,Bool.and_comm,Bool.and_left_comm]
theorem Kv {x:cB} (hk:x.kind=4):cr x sec=(decide (sec=0) && jZ x (eJ x.kind)):=by
 unfold cr jZ;simp only [hk,eJ,sZ,qD,z1,z2,z3,z4];simp (decide:=true) only [if_true,if_false,YR,Xx,Yf]
 try simp only [Bool.and_assoc,Bool.and_comm,Bool.and_left_comm]
theorem Ml {x:cB} (hk:x.kind=5):cr x sec=(decide (sec=1) && decide (-128<=x.n) && decide (x.n<=255) && jZ x { eJ x.kind with n:=x.n }):=by
 unfold cr jZ;simp only [hk,eJ,sZ,qD,z1,z2,z3,z4];simp (decide:=true) only [if_true,if_false,YR,Xx,Yf]
 try simp only [Bool.and_assoc,Bool.and_comm,Bool.and_left_comm]
theorem KM {x:cB} (hk:x.kind=6):cr x sec=(decide (sec=1) && mS none x.e.ai && jZ x { eJ x.kind with e:=x.e }):=by
 unfold cr jZ;simp only [hk,eJ,sZ,qD,z1,z2,z3,z4];simp (decide:=true) only [if_true,if_false,YR,Xx,Yf]
 try simp only [Bool.and_assoc,Bool.and_comm,Bool.and_left_comm]
theorem Lu {x:cB} (hk:x.kind=7):cr x sec=(decide (sec=1) && decide (0<=x.n) && decide (x.n<=1048576) && jZ x { eJ x.kind with n:=x.n }):=by
 unfold cr jZ;simp only [hk,eJ,sZ,qD,z1,z2,z3,z4];simp (decide:=true) only [if_true,if_false,YR,Xx,Yf]
 try simp only [Bool.and_assoc,Bool.and_comm,Bool.and_left_comm]
theorem HB {x:cB} (h1:x.kind≠1) (h2:x.kind≠2) (h3:x.kind≠3) (h4:x.kind≠4) (h5:x.kind≠5) (h6:x.kind≠6) (h7:x.kind≠7):cr x sec=false:=by
 unfold cr;rw [WV h1,WV h2,WV h3,WV h4,WV h5,WV h6,WV h7]
theorem NH {h:Hp} (t:An h) {x:cB} {p:Option ZC} {l c:Nat} (v:iM h p l x) :
  HC Tryz.prog 78 #[qe p l c x,.int .i64 0] h fun w h'=>w=CW (cr x 0)/\Ext h h':=by
 refine aX (args:=[qe p l c x,.int .i64 0]) mixed Tryz.func78 ax (tN x.kind x.name x.inst.op x.inst.a x.inst.b x.inst.n x.inst.form p l c x.e.num x.n) ?_;unfold pD aU dQ bd bS;refine bm ?_;intro g1 b1 e1 z1;have b1:bz g1 h.size 64 (encI p l c x):=b1;refine af b1 (x.kind,()) rfl ?_;refine an ?_;refine bm ?_;intro g2 b2 e2 z2;refine aw b2 rfl aj ?_;intro g3 b3 k3 z3;have b3:bz g3 g1.size 64 (encI none 0 0 (eJ x.kind)):=b3;have s1:=e1.size;have e13:=e2.st k3 (W9 _);have e3:=e1.trans e13;have b1:=b1.ao e13 aj;simp only [aE];refine af b1 (x.kind,()) rfl ?_;refine an ?_;refine ak (fun q=>?_) (fun q=>?_)
 ·have q:x.kind=1:=by simpa using q
  rw [Da q];refine af b1 (x.name,()) rfl ?_;refine an ?_;refine aw b3 rfl (by simp [encI]) ?_;intro g4 b4 k4 z4;have b4:bz g4 g1.size 64 (encI none 0 0 { eJ x.kind with name:=x.name }):=b4;have e4:=e3.st k4 ad;have b1:=b1.ao k4 (by simp; omega);refine af b1 (x.name,()) rfl ?_;refine an ?_;refine aI (tW x.name g4 (by have:=v.name; have:maxLen=9223372036854775807:=rfl; omega)) ?_;refine ak (fun r=>?_) (fun r=>?_)
  ·have r:cM x.name.data.toList=false:=by simpa using r
   exact ⟨by rw [r]; rfl,e4⟩
  have r:cM x.name.data.toList=true:=by simpa using r
  rw [r,Xx];have hh:=oM (L:=[]) (h0:=h) (y:={ eJ x.kind with name:=x.name }) b1 b4 (v.lin.ao e4) (gn.none g4) e4;exact hh
 have q1:x.kind≠1:=by simpa using q
 refine ak (fun q=>?_) (fun q=>?_)
 ·have q:x.kind=2:=by simpa using q
  rw [LA q];refine af b1 (x.inst.op,x.inst.a,x.inst.b,x.inst.n,x.inst.form,()) rfl ?_;refine an ?_;refine af b1 ((p,l,c),(x.e.num:Int),()) rfl ?_;refine an ?_;refine aw b3 rfl (by simp [encI]) ?_;intro g4 b4 k4 z4;have e4:=e3.st k4 ad;have b1:=b1.ao k4 (by simp; omega);refine ⟨⟨b1.cells [.slice p l c,.int .u32 x.e.num] rfl,trivial⟩,?_⟩;refine aw b4 rfl (by simp [encI,kM]) ?_;intro g5 b5 k5 z5;have b5:bz g5 g1.size 64 (encI p l c { eJ x.kind with inst:=x.inst,e:=x.e }):=b5;have e5:=e4.st k5 ad;have b1:=b1.ao k5 (by simp; omega);refine af b1 (x.kind,x.name,x.inst.op,x.inst.a,x.inst.b,x.inst.n,x.inst.form,(p,l,c),(x.e.num:Int),x.n,()) rfl ?_;refine an ?_;refine aH (instruction_hc (c:=c) (t.ao e5 aj) (v.lin.ao e5) v.op) ?_;rintro _ g6 ⟨rfl,e6'⟩;refine ⟨(yM x.inst x.e,()),rfl,?_⟩;refine an ?_;have e6:=e5.trans e6';refine ak (fun r=>?_) (fun r=>?_)
  ·have r:yM x.inst x.e=false:=by simpa using r
   exact ⟨by rw [r]; rfl,e6⟩
  have r:yM x.inst x.e=true:=by simpa using r
  rw [r];have b1:=b1.ao e6' aj;have b5:=b5.ao e6' aj;have hh:=oM (L:=[]) (h0:=h) (y:={ eJ x.kind with inst:=x.inst,e:=x.e }) b1 b5 (v.lin.ao e6) (v.lin.ao e6).vw e6;exact hh
 have q2:x.kind≠2:=by simpa using q
 refine ak (fun q=>?_) (fun q=>?_)
 ·have q:x.kind=3:=by simpa using q
  rw [M9 q];refine af b1 (x.n,()) rfl ?_;refine an ?_;refine aw b3 rfl (by simp [encI]) ?_;intro g4 b4 k4 z4;have b4:bz g4 g1.size 64 (encI none 0 0 { eJ x.kind with n:=x.n }):=b4;have e4:=e3.st k4 ad;have b1:=b1.ao k4 (by simp; omega);refine af b1 (x.n,()) rfl ?_;refine an ?_;refine aI (DW g4 x.n) ?_;refine ak (fun r=>?_) (fun r=>?_)
  ·have r:tI x.n=false:=by simpa using r
   exact ⟨by rw [r]; rfl,e4⟩
  have r:tI x.n=true:=by simpa using r
  rw [r,Xx];have hh:=oM (L:=[]) (h0:=h) (y:={ eJ x.kind with n:=x.n }) b1 b4 (v.lin.ao e4) (gn.none g4) e4;exact hh
 have q3:x.kind≠3:=by simpa using q
 refine ak (fun q=>?_) (fun q=>?_)
 ·have q:x.kind=4:=by simpa using q
  rw [Kv q];have hh:=oM (L:=[]) (h0:=h) (y:=(eJ x.kind)) b1 b3 (v.lin.ao e3) (gn.none g3) e3;exact hh
 have q4:x.kind≠4:=by simpa using q
 refine ak (fun q=>?_) (fun q=>?_)
 ·have q:x.kind=5:=by simpa using q
  rw [Ml q];refine af b1 (x.n,()) rfl ?_;refine an ?_;refine aw b3 rfl (by simp [encI]) ?_;intro g4 b4 k4 z4;have b4:bz g4 g1.size 64 (encI none 0 0 { eJ x.kind with n:=x.n }):=b4;have e4:=e3.st k4 ad;have b1:=b1.ao k4 (by simp; omega);exact ⟨rfl,e4⟩
 have q5:x.kind≠5:=by simpa using q
 refine ak (fun q=>?_) (fun q=>?_)
 ·have q:x.kind=6:=by simpa using q
  rw [KM q];refine af b1 ((p,l,c),(x.e.num:Int),()) rfl ?_;refine an ?_;refine aw b3 rfl (by simp [encI]) ?_;intro g4 b4 k4 z4;have b4:bz g4 g1.size 64 (encI p l c { eJ x.kind with e:=x.e }):=b4;have e4:=e3.st k4 ad;have b1:=b1.ao k4 (by simp; omega);exact ⟨rfl,e4⟩
 have q6:x.kind≠6:=by simpa using q
 refine ak (fun q=>?_) (fun q=>?_)
 ·have q:x.kind=7:=by simpa using q
  rw [Lu q];refine af b1 (x.n,()) rfl ?_;refine an ?_;refine aw b3 rfl (by simp [encI]) ?_;intro g4 b4 k4 z4;have b4:bz g4 g1.size 64 (encI none 0 0 { eJ x.kind with n:=x.n }):=b4;have e4:=e3.st k4 ad;have b1:=b1.ao k4 (by simp; omega);exact ⟨rfl,e4⟩
 have q7:x.kind≠7:=by simpa using q
 exact ⟨by rw [HB q1 q2 q3 q4 q5 q6 q7]; rfl,e3⟩
theorem M2 {h:Hp} (t:An h) {x:cB} {p:Option ZC} {l c:Nat} (v:iM h p l x) :
  HC Tryz.prog 78 #[qe p l c x,.int .i64 1] h fun w h'=>w=CW (cr x 1)/\Ext h h':=by
 refine aX (args:=[qe p l c x,.int .i64 1]) mixed Tryz.func78 ax (sS x.kind x.name x.inst.op x.inst.a x.inst.b x.inst.n x.inst.form p l c x.e.num x.n) ?_;unfold pQ aU dQ bd bS;refine bm ?_;intro g1 b1 e1 z1;have b1:bz g1 h.size 64 (encI p l c x):=b1;refine af b1 (x.kind,()) rfl ?_;refine an ?_;refine bm ?_;intro g2 b2 e2 z2;refine aw b2 rfl aj ?_;intro g3 b3 k3 z3;have b3:bz g3 g1.size 64 (encI none 0 0 (eJ x.kind)):=b3;have s1:=e1.size;have e13:=e2.st k3 (W9 _);have e3:=e1.trans e13;have b1:=b1.ao e13 aj;simp only [aE];refine af b1 (x.kind,()) rfl ?_;refine an ?_;refine ak (fun q=>?_) (fun q=>?_)
 ·have q:x.kind=1:=by simpa using q
  rw [Da q];refine af b1 (x.name,()) rfl ?_;refine an ?_;refine aw b3 rfl (by simp [encI]) ?_;intro g4 b4 k4 z4;have b4:bz g4 g1.size 64 (encI none 0 0 { eJ x.kind with name:=x.name }):=b4;have e4:=e3.st k4 ad;have b1:=b1.ao k4 (by simp; omega);refine af b1 (x.name,()) rfl ?_;refine an ?_;refine aI (tW x.name g4 (by have:=v.name; have:maxLen=9223372036854775807:=rfl; omega)) ?_;refine ak (fun r=>?_) (fun r=>?_)
  ·have r:cM x.name.data.toList=false:=by simpa using r
   exact ⟨by rw [r]; rfl,e4⟩
  have r:cM x.name.data.toList=true:=by simpa using r
  rw [r,Xx];have hh:=oM (L:=[]) (h0:=h) (y:={ eJ x.kind with name:=x.name }) b1 b4 (v.lin.ao e4) (gn.none g4) e4;exact hh
 have q1:x.kind≠1:=by simpa using q
 refine ak (fun q=>?_) (fun q=>?_)
 ·have q:x.kind=2:=by simpa using q
  rw [LA q];refine af b1 (x.inst.op,x.inst.a,x.inst.b,x.inst.n,x.inst.form,()) rfl ?_;refine an ?_;refine af b1 ((p,l,c),(x.e.num:Int),()) rfl ?_;refine an ?_;refine aw b3 rfl (by simp [encI]) ?_;intro g4 b4 k4 z4;have e4:=e3.st k4 ad;have b1:=b1.ao k4 (by simp; omega);refine ⟨⟨b1.cells [.slice p l c,.int .u32 x.e.num] rfl,trivial⟩,?_⟩;refine aw b4 rfl (by simp [encI,kM]) ?_;intro g5 b5 k5 z5;have b5:bz g5 g1.size 64 (encI p l c { eJ x.kind with inst:=x.inst,e:=x.e }):=b5;have e5:=e4.st k5 ad;have b1:=b1.ao k5 (by simp; omega);exact ⟨rfl,e5⟩
 have q2:x.kind≠2:=by simpa using q
 refine ak (fun q=>?_) (fun q=>?_)
 ·have q:x.kind=3:=by simpa using q
  rw [M9 q];refine af b1 (x.n,()) rfl ?_;refine an ?_;refine aw b3 rfl (by simp [encI]) ?_;intro g4 b4 k4 z4;have b4:bz g4 g1.size 64 (encI none 0 0 { eJ x.kind with n:=x.n }):=b4;have e4:=e3.st k4 ad;have b1:=b1.ao k4 (by simp; omega);refine af b1 (x.n,()) rfl ?_;refine an ?_;refine aI (DW g4 x.n) ?_;refine ak (fun r=>?_) (fun r=>?_)
  ·have r:tI x.n=false:=by simpa using r
   exact ⟨by rw [r]; rfl,e4⟩
  have r:tI x.n=true:=by simpa using r
  rw [r,Xx];have hh:=oM (L:=[]) (h0:=h) (y:={ eJ x.kind with n:=x.n }) b1 b4 (v.lin.ao e4) (gn.none g4) e4;exact hh
 have q3:x.kind≠3:=by simpa using q
 refine ak (fun q=>?_) (fun q=>?_)
 ·have q:x.kind=4:=by simpa using q
  rw [Kv q];exact ⟨rfl,e3⟩
 have q4:x.kind≠4:=by simpa using q
 refine ak (fun q=>?_) (fun q=>?_)
 ·have q:x.kind=5:=by simpa using q
  rw [Ml q];refine af b1 (x.n,()) rfl ?_;refine an ?_;refine aw b3 rfl (by simp [encI]) ?_;intro g4 b4 k4 z4;have b4:bz g4 g1.size 64 (encI none 0 0 { eJ x.kind with n:=x.n }):=b4;have e4:=e3.st k4 ad;have b1:=b1.ao k4 (by simp; omega);refine af b1 (x.n,()) rfl ?_;refine an ?_;refine ak (fun r=>?_) (fun r=>?_)
  ·have r:=WR r;refine af b1 (x.n,()) rfl ?_;refine an ?_;refine ak (fun r2=>?_) (fun r2=>?_)
   ·have r2:¬ x.n<=255:=by simpa using r2
    exact ⟨by rw [W4 r2,YV]; rfl,e4⟩
   have r2:x.n<=255:=by simpa using r2
   rw [W1 r2,W1 (show -128<=x.n from r)];have hh:=oM (L:=[]) (h0:=h) (y:={ eJ x.kind with n:=x.n }) b1 b4 (v.lin.ao e4) (gn.none g4) e4;exact hh
  ·have r:=WS r;exact ⟨by rw [W4 (show ¬ -128<=x.n from r),YV]; rfl,e4⟩
 have q5:x.kind≠5:=by simpa using q
 refine ak (fun q=>?_) (fun q=>?_)
 ·have q:x.kind=6:=by simpa using q
  rw [KM q];refine af b1 ((p,l,c),(x.e.num:Int),()) rfl ?_;refine an ?_;refine aw b3 rfl (by simp [encI]) ?_;intro g4 b4 k4 z4;have b4:bz g4 g1.size 64 (encI p l c { eJ x.kind with e:=x.e }):=b4;have e4:=e3.st k4 ad;have b1:=b1.ao k4 (by simp; omega);refine af b1 ((p,l,c),(x.e.num:Int),()) rfl ?_;refine an ?_;refine aH (sX (c:=c) (v.lin.ao e4).vw (by have:=v.lin.many; omega) v.lin.names) ?_;rintro _ g6 ⟨rfl,e6'⟩;refine ⟨(mS none x.e.ai,()),rfl,?_⟩;refine an ?_;have e6:=e4.trans e6';refine ak (fun r=>?_) (fun r=>?_)
  ·have r:mS none x.e.ai=false:=by simpa using r
   exact ⟨by rw [r]; rfl,e6⟩
  have r:mS none x.e.ai=true:=by simpa using r
  rw [r];have b1:=b1.ao e6' aj;have b4:=b4.ao e6' aj;have hh:=oM (L:=[]) (h0:=h) (y:={ eJ x.kind with e:=x.e }) b1 b4 (v.lin.ao e6) (v.lin.ao e6).vw e6;exact hh
 have q6:x.kind≠6:=by simpa using q
 refine ak (fun q=>?_) (fun q=>?_)
 ·have q:x.kind=7:=by simpa using q
  rw [Lu q];refine af b1 (x.n,()) rfl ?_;refine an ?_;refine aw b3 rfl (by simp [encI]) ?_;intro g4 b4 k4 z4;have b4:bz g4 g1.size 64 (encI none 0 0 { eJ x.kind with n:=x.n }):=b4;have e4:=e3.st k4 ad;have b1:=b1.ao k4 (by simp; omega);refine af b1 (x.n,()) rfl ?_;refine an ?_;refine ak (fun r=>?_) (fun r=>?_)
  ·have r:=WR r;refine af b1 (x.n,()) rfl ?_;refine an ?_;refine ak (fun r2=>?_) (fun r2=>?_)
   ·have r2:¬ x.n<=1048576:=by simpa using r2
    exact ⟨by rw [W4 r2,YV]; rfl,e4⟩
   have r2:x.n<=1048576:=by simpa using r2
   rw [W1 r2,W1 (show 0<=x.n from r)];have hh:=oM (L:=[]) (h0:=h) (y:={ eJ x.kind with n:=x.n }) b1 b4 (v.lin.ao e4) (gn.none g4) e4;exact hh
  ·have r:=WS r;exact ⟨by rw [W4 (show ¬ 0<=x.n from r),YV]; rfl,e4⟩
 have q7:x.kind≠7:=by simpa using q
 exact ⟨by rw [HB q1 q2 q3 q4 q5 q6 q7]; rfl,e3⟩
section
variable {α:Type}
def vE (en:α->ZB) (D:List (ZA × α)):List (ZA × ZB):=D.map fun p=>(p.1,en p.2)
def gE (D:List (ZA × α)) (s:ZA):Option α:=(D.find? fun p=>decide (s=p.1)).map (·.2)
def pE (D:List (ZA × α)) (s:ZA) (v:α):List (ZA × α):=if (gE D s).isSome then D.map fun p=>if s=p.1 then (p.1,v) else p else D++[(s,v)]
theorem lT (en:α->ZB) (D:List (ZA × α)) (s:ZA):look (vE en D) s=(gE D s).map en:=by
 unfold look gE vE
 induction D with
 | nil=>rfl
 | cons p D ih =>
  by_cases h:s=p.1
  ·simp [h]
  ·simp only [List.map_cons,List.find?_cons,decide_eq_false h];exact ih
theorem Gu (en:α->ZB) (D:List (ZA × α)) (s:ZA) (v:α):jN (vE en D) s (en v)=vE en (pE D s v):=by
 unfold jN pE;rw [lT];cases h:gE D s with
 | none=>simp [vE]
 | some q =>
  simp only [Option.map_some,Option.isSome_some,if_true,vE,List.map_map];refine XC fun p hp=>?_
  simp only [Function.comp];split <;> simp_all
theorem wu (D:List (ZA × α)) (s:ZA) (v:α):(pE D s v).length=if (gE D s).isSome then D.length else D.length+1:=by
 unfold pE;split <;> simp
theorem wM (D:List (ZA × α)) (s t:ZA) (v:α):gE (D++[(s,v)]) t=(gE D t).or (if t=s then some v else none):=by
 unfold gE;rw [List.find?_append];cases h:D.find? (fun p=>decide (t=p.1)) with
 | some q=>simp
 | none =>
  simp only [Option.none_or,Option.map_none,List.find?_cons,List.find?_nil]
  by_cases e:t=s
  ·simp [e]
  ·simp [e]
theorem Hb (D:List (ZA × α)) (s t:ZA) (v:α) (hs:(gE D s).isSome):gE (D.map fun p=>if s=p.1 then (p.1,v) else p) t=if t=s then some v else gE D t:=by
 unfold gE at *
 induction D with
 | nil=>simp at hs
 | cons p D ih =>
  by_cases h:s=p.1
  ·by_cases e:t=s
   ·simp [h,e]
   ·have e2:¬ t=p.1:=fun k=>e (k.trans h.symm)
    have hg:∀ l:List (ZA × α),(List.find? (fun p=>decide (t=p.1)) (List.map (fun p=>if s=p.1 then (p.1,v) else p) l)).map (·.2)=(List.find? (fun p=>decide (t=p.1)) l).map (·.2):=by
     intro l
     induction l with
     | nil=>rfl
     | cons q l ihl =>
      by_cases hq:s=q.1
      ·have:¬ t=q.1:=fun k=>e (k.trans hq.symm)
       simp only [List.map_cons,List.find?_cons,if_pos hq,decide_eq_false this];exact ihl
      ·simp only [List.map_cons,List.find?_cons,if_neg hq]
       by_cases ht:t=q.1
       ·simp [ht]
       ·simp only [decide_eq_false ht];exact ihl
    simp only [List.map_cons,List.find?_cons,if_pos h,decide_eq_false e2,if_neg e];exact hg D
  ·have hs2:(Option.map (fun x=>x.2) (List.find? (fun p=>decide (s=p.1)) D)).isSome:=by
    simpa [List.find?_cons,decide_eq_false h] using hs
   simp only [List.map_cons,List.find?_cons,if_neg h]
   by_cases ht:t=p.1
   ·have:¬ t=s:=fun k=>h (k.symm.trans ht)
    simp [ht,if_neg (ht▸this)]
   ·simp only [decide_eq_false ht];exact ih hs2
theorem MF (D:List (ZA × α)) (s:ZA) (v:α) (t:ZA):gE (pE D s v) t=if t=s then some v else gE D t:=by
 unfold pE;split
 ·rename_i h;exact Hb D s t v h
 ·rename_i h;rw [wM]
  by_cases e:t=s
  ·subst e
   have:gE D t=none:=by simpa using h
   rw [this]; simp
  ·simp [e]
def dy (f:ZA->Option α) (s:ZA) (v:α):ZA->Option α:=fun t=>if t=s then some v else f t
def dK (en:α->ZB) (h:Hp) (g:Nat) (f:ZA->Option α) (n:Nat):Prop:=∃ D:List (ZA × α),eD h g (vE en D)/\(∀ s,gE D s=f s)/\D.length=n
theorem dK.ao {en:α->ZB} {ws:List Nat} {h h':Hp} {g:Nat} {f:ZA->Option α} {n:Nat} (m:dK en h g f n) (k:Ch ws h h') (hw:g∉ws):dK en h' g f n:=by
 obtain ⟨D,m,r⟩:=m;exact ⟨D,m.ao k hw,r⟩
theorem dK.lt {en:α->ZB} {h:Hp} {g:Nat} {f:ZA->Option α} {n:Nat} (m:dK en h g f n):g<h.size:=by
 obtain ⟨D,m,r⟩:=m;exact m.lt
theorem dK.new {en:α->ZB} {h:Hp} {g:Nat} (m:eD h g []):dK en h g (fun _=>none) 0:=⟨[],m,fun s=>rfl,rfl⟩
theorem dK.jN {en:α->ZB} {h':Hp} {g:Nat} {f:ZA->Option α} {n:Nat} {D:List (ZA × α)} (hD:∀ s,gE D s=f s) (hn:D.length=n) {s:ZA} {v:α} (m:eD h' g (Sx.jN (vE en D) s (en v))):dK en h' g (dy f s v) (if (f s).isSome then n else n+1):=by
 rw [Gu] at m;refine ⟨_,m,fun t=>?_,?_⟩
 ·rw [MF,hD t]; rfl
 ·rw [wu,hD s,hn]
end
def eB (b:Bool):ZB:=.bool b
theorem Q9:Tryz.prog.underlying 142=some (.map 9 4):=ax
theorem wT:Tryz.prog.underlying 9=some .string:=ax
theorem Kz:(Tryz.prog.info? 4).bind (·.zero)=some (.bool false):=ax
def AI (h:Hp) (g:Nat) (D:List ZA):Prop:=∃ n,dK eB h g (fun s=>if fz D s then some true else none) n
theorem AI.ao {ws:List Nat} {h h':Hp} {g:Nat} {D:List ZA} (m:AI h g D) (k:Ch ws h h') (hw:g∉ws):AI h' g D:=by
 obtain ⟨n,m⟩:=m;exact ⟨n,m.ao k hw⟩
theorem AI.lt {h:Hp} {g:Nat} {D:List ZA} (m:AI h g D):g<h.size:=by
 obtain ⟨n,m⟩:=m;exact m.lt
section
variable {L:Lp} {K:ZB->Hp->Prop} {h:Hp} {g:Nat} {D:List ZA}
theorem Lj (m:AI h g D) (s:ZA) {k:Bool->T} (hk:k (fz D s) L K h):T.dY Tryz.prog (Instr.lookup 142 (.map (some g)) (.string s) false) false [(false,[.bool])] k L K h:=by
 obtain ⟨n,D',m,hD,hn⟩:=m;refine jh Q9 wT Kz m s false _ ?_;refine ⟨(fz D s,()),?_,hk⟩;simp only [Bool.false_eq_true,if_false];rw [lT,hD s];dsimp only
 all_goals (cases fz D s <;> rfl)
theorem cV (m:AI h g D) {s:ZA} (hs:s.size<=maxLen) {k:T} (hk:∀ h',AI h' g (s::D)->Ch [g] h h'->h'.size=h.size->k L K h') :
  T.ec Tryz.prog (Instr.mapUpdate 142 (.map (some g)) (.string s) (.bool true)) k L K h:=by
 obtain ⟨n,D',m,hD,hn⟩:=m;refine fN Q9 wT m hs _ _ ?_;intro h' m' c' z'
 have:=dK.jN (en:=eB) hD hn (v:=true) m'
 have he:dy (fun t=>if fz D t then some true else none) s true=fun t=>if fz (s::D) t then some true else none:=by
  funext t
  unfold dy fz
  by_cases h1:t=s
  ·rw [W2 h1,W2];simp [h1]
  ·rw [WV h1]
   have:¬ s=t:=fun e=>h1 e.symm
   rw [List.any_cons,W4 this,Bool.false_or]
 rw [he] at this;exact hk h' ⟨_,this⟩ c' z'
theorem Ub {t:TypeId} {k:Option Nat->T} (hk:∀ h',AI h' h.size []->Ext h h'->h'.size=h.size+1->k (some h.size) L K h'):T.dY Tryz.prog (Instr.makeMap t none) false [(false,[.map 0 0])] k L K h:=by
 refine lA _ ?_;intro h' m e z;exact ⟨(some h.size,()),rfl,hk h' ⟨0,dK.new m⟩ e z⟩
end
structure CD (h:Hp) (p:Option ZC) (l:Nat) (us:List cB):Prop where
 len:l=us.length
 many:us.length<=2^60
 cells:∀ i,(hi:i<us.length)->∃ a q m c,p=some a/\aG h (a.add (i*10)) 0 (encI q m c us[i])/\iM h q m us[i]
theorem CD.ao {h h':Hp} {p:Option ZC} {l:Nat} {us:List cB} (v:CD h p l us) (k:Ext h h'):CD h' p l us :=
 ⟨v.len,v.many,fun i hi=>by
  obtain ⟨a,q,m,c,ha,hc,hv⟩:=v.cells i hi;exact ⟨a,q,m,c,ha,aT k aj _ _ hc,hv.ao k⟩⟩
def SX (p:Option ZC) (l c:Nat) (x:qi):List ZB:=[.string x.1,.slice p l c,.int .u32 x.2.num]
structure tH (h:Hp) (p:Option ZC) (l:Nat) (us:List qi):Prop where
 len:l=us.length
 many:us.length<=2^60
 cells:∀ i,(hi:i<us.length)->∃ a q m c,p=some a/\aG h (a.add (i*3)) 0 (SX q m c us[i])/\nB h q m us[i].2/\us[i].1.size<=maxLen
theorem tH.ao {h h':Hp} {p:Option ZC} {l:Nat} {us:List qi} (v:tH h p l us) (k:Ext h h'):tH h' p l us :=
 ⟨v.len,v.many,fun i hi=>by
  obtain ⟨a,q,m,c,ha,hc,hv,hs⟩:=v.cells i hi;exact ⟨a,q,m,c,ha,aT k aj _ _ hc,hv.ao k,hs⟩⟩
structure Uh (h:Hp) (p:Option ZC) (l:Nat) (us:List ZA):Prop where
 len:l=us.length
 many:us.length<=2^60
 cells:∀ i,(hi:i<us.length)->∃ a,p=some a/\aG h (a.add (i*1)) 0 [.string us[i]]/\us[i].size<=maxLen
theorem Uh.ao {h h':Hp} {p:Option ZC} {l:Nat} {us:List ZA} (v:Uh h p l us) (k:Ext h h'):Uh h' p l us :=
 ⟨v.len,v.many,fun i hi=>by
  obtain ⟨a,ha,hc,hs⟩:=v.cells i hi;exact ⟨a,ha,aT k aj _ _ hc,hs⟩⟩
structure cn where
 p:Option ZC
 l:Nat
 c:Nat
def cn.v (s:cn):ZB:=.slice s.p s.l s.c
structure nX (h:Hp) (a b c d:cn) (u:bJ):Prop where
 text:CD h a.p a.l u.text
 data:CD h b.p b.l u.data
 aY:tH h c.p c.l u.aY
 aP:Uh h d.p d.l u.aP
theorem nX.ao {h h':Hp} {a b c d:cn} {u:bJ} (v:nX h a b c d u) (k:Ext h h'):nX h' a b c d u:=⟨v.text.ao k,v.data.ao k,v.aY.ao k,v.aP.ao k⟩
def Ce (a b c d:cn):ZB:=.agg #[a.v,b.v,c.v,d.v]
theorem MT:Tryz.prog.underlying 68=some (.slice 26):=ax
theorem VT:(Tryz.prog.info? 26).map (fun i=>(i.zero,i.size,i.bytes))=some (some (.slice none 0 0),1,24):=ax
theorem NC (p1:Option ZC) (l1 c1:Nat) (p2:Option ZC) (l2 c2:Nat):Instr.fill (fun j=>some (j*1,1)) ((Array.range (2*1)).map ((Value.slice none 0 0).cells[· % (Value.slice none 0 0).cells.size]!)) [(0,.slice p1 l1 c1),(1,.slice p2 l2 c2)]=some ([.slice p1 l1 c1,.slice p2 l2 c2]:List ZB).toArray:=ax
def xO (u:bJ) (k:Nat):List cB:=if k=0 then u.text else u.data
def tn (u:bJ) (k:Nat):List ZA:=if k=0 then [] else if k=1 then cI [] u.text else cI (cI [] u.text) u.data
def zb (u:bJ) (k:Nat):Bool:=if k=0 then sO u else if k=1 then (eH 1 (cI [] u.text) u.data && (fT (cI (cI [] u.text) u.data) u.aY && cQ u.names dt u.aP)) else (fT (cI (cI [] u.text) u.data) u.aY && cQ u.names dt u.aP)
theorem Jn (u:bJ) {k:Nat} (hk:k<2):zb u k=(eH k (tn u k) (xO u k) && zb u (k+1)):=by
 have:k=0\/k=1:=ad
 rcases this with rfl | rfl
 ·simp [zb,tn,xO,sO,Bool.and_assoc]
 ·simp [zb,tn,xO]
theorem Jp (u:bJ) {k:Nat} (hk:k<2):tn u (k+1)=cI (tn u k) (xO u k):=by
 have:k=0\/k=1:=ad
 rcases this with rfl | rfl <;> rfl
theorem EB (D:List ZA) (l:List cB) {i:Nat} (hi:i<l.length):cI D (l.take (i+1))=sY (cI D (l.take i)) l[i]:=by
 unfold cI;rw [WW hi,XV] <;> rfl
theorem EC (D:List ZA) (l:List qi) {i:Nat} (hi:i<l.length):aS D (l.take (i+1))=l[i].1::aS D (l.take i):=by
 unfold aS;rw [WW hi,XV] <;> rfl
theorem CZ (sec:Nat) (D:List ZA) (l:List cB) {i:Nat} (hi:i<l.length):eH sec D (l.drop i)=(xL sec D l[i] && eH sec (sY D l[i]) (l.drop (i+1))):=by
 rw [W8 hi,eH]
theorem D4 (D:List ZA) (l:List qi) {i:Nat} (hi:i<l.length):fT D (l.drop i)=(Bc D l[i] && fT (l[i].1::D) (l.drop (i+1))):=by
 rw [W8 hi,fT]
def nN (l:List ZA) (i:Nat):ZA:=if i=0 then dt else l.getD (i-1) dt
theorem ux (D:List ZA) (l:List ZA) {i:Nat} (hi:i<l.length):cQ D (nN l i) (l.drop i)=(Pd D (nN l i) l[i] && cQ D (nN l (i+1)) (l.drop (i+1))):=by
 rw [W8 hi,cQ]
 congr 2
 unfold nN;rw [WV ad,Nat.add_sub_cancel,X8,WT hi] <;> rfl
def Eh (h:Hp) (g:Nat) (D:List ZA):Prop:=AI h g D/\∀ s,s∈D->cM s.data.toList=true
theorem Eh.ao {ws:List Nat} {h h':Hp} {g:Nat} {D:List ZA} (m:Eh h g D) (k:Ch ws h h') (hw:g∉ws):Eh h' g D:=⟨m.1.ao k hw,m.2⟩
theorem EX {s:ZA} (h:cM s.data.toList=true):gF dt s:=by
 unfold cM at h;simp only [Bool.and_eq_true,decide_eq_true_eq] at h;have h2:=h.1.1.1.1;show (dt.data.toList:List UInt8)<s.data.toList
 have:(dt.data.toList:List UInt8)=[]:=rfl
 rw [this];cases hs:s.data.toList with
 | nil=>rw [hs] at h2; simp at h2
 | cons a l=>exact List.Lex.nil
theorem u7 {D:List ZA} {s:ZA} (h:fz D s=true):s∈D:=by
 unfold fz at h;simp only [List.any_eq_true,decide_eq_true_eq] at h;obtain ⟨y,hy,rfl⟩:=h;exact hy
theorem Qm {h:Hp} (t:An h) {x:cB} {p:Option ZC} {l c k:Nat} (v:iM h p l x) (hk:k<2) :
  HC Tryz.prog 78 #[qe p l c x,.int .i64 (k:Int)] h fun w h'=>w=CW (cr x k)/\Ext h h':=by
 have:k=0\/k=1:=ad
 rcases this with rfl | rfl
 ·exact NH t v
 ·exact M2 t v
theorem vc {h:Hp} (t:An h) {a b c d:cn} {u:bJ} (v:nX h a b c d u):HC Tryz.prog 42 #[Ce a b c d] h fun w h'=>w=.int .i64 (dC u:Nat)/\Ext h h':=by
 refine aX (args:=[Ce a b c d]) mixed Tryz.func42 ax (xU a.p a.l a.c b.p b.l b.c c.p c.l c.c d.p d.l d.c) ?_;unfold vB aZ bg bq aK aU cD dQ bh bK bi bd bS aM;refine bm ?_;intro g1 b1 e1 z1;have b1:bz g1 h.size 30 [a.v,b.v,c.v,d.v]:=b1;have m1:=v.text.many;have m2:=v.data.many;have m3:=v.aY.many;have m4:=v.aP.many;have n1:=v.text.len;have n2:=v.data.len;have n3:=v.aY.len;have n4:=v.aP.len;have s1:=e1.size;simp only [aE];refine af b1 ((a.p,a.l,a.c),()) rfl ?_;refine an ?_;refine af b1 ((b.p,b.l,b.c),()) rfl ?_;refine an ?_;rw [wrap_i64 ad ad];unfold dC uB;refine ak (fun q=>?_) (fun q=>?_)
 ·have q:=WR q;exact ⟨by rw [W1 (show 8192<u.text.length+u.data.length from ad)]; rfl,e1⟩
 have q:=WS q;rw [W4 (show ¬ 8192<u.text.length+u.data.length from ad),Bool.false_or];refine af b1 ((c.p,c.l,c.c),()) rfl ?_;refine an ?_;refine ak (fun q=>?_) (fun q=>?_)
 ·have q:=WR q;exact ⟨by rw [W1 (show 8192<u.aY.length from ad)]; rfl,e1⟩
 have q:=WS q;rw [W4 (show ¬ 8192<u.aY.length from ad),WV aj];refine Ub ?_;intro g2 m e2 z2;have b2:=b1.ao e2 aj;refine af b2 ((a.p,a.l,a.c),()) rfl ?_;refine an ?_;refine af b2 ((b.p,b.l,b.c),()) rfl ?_;refine an ?_;refine ml MT VT ad ad (NC a.p a.l a.c b.p b.l b.c) ?_;intro g3 b3 e3 z3;have m:=m.ao e3 (by have:=m.lt; simp);have e03:=(e1.trans e2).trans e3;have b3':=b2.ao e3 aj;have s2:=e2.size;clear b1 b2;have hsec:∀ k,k<2->∃ s:cn,([a.v,b.v]:List ZB).drop k=s.v::([a.v,b.v]:List ZB).drop (k+1)/\CD h s.p s.l (xO u k):=by
  intro k hk
  have:k=0\/k=1:=ad
  rcases this with rfl | rfl
  ·exact ⟨a,rfl,v.text⟩
  ·exact ⟨b,rfl,v.data⟩
 have s3:=e3.size;have b3:bz g3 g2.size 26 [a.v,b.v]:=b3;generalize hU:sO u=U;refine aR (cs:=[(false,[.int .i64]),(false,[.int .i64])]) (fun y w h'=>∃ k:Nat,y.2.1=(k:Int)/\k<=2/\w=2-k/\Ext h h'/\bz h' h.size 30 [a.v,b.v,c.v,d.v]/\bz h' g2.size 26 [a.v,b.v]/\Eh h' g1.size (tn u k)/\U=zb u k) ((0:Int),(0:Int),()) 2 rfl
  ⟨0,rfl,ad,ad,e03,b3',b3,⟨m,by simp [tn]⟩,hU.symm⟩ ?_
 rintro ⟨n21,n22,⟨⟩⟩ w h4 ⟨k,hk,hk2,rfl,e4,b1,b2,m,hu⟩;simp only at hk;subst hk;refine an ?_;refine ak (fun q=>?_) (fun q=>?_)
 ·have q:=WR q;have hk:k<2:=ad
  obtain ⟨sl,hsl,vs⟩:=hsec k hk;refine ay ⟨ad,ad⟩ (av rfl ?_);rw [aE];refine af b2 ((sl.p,sl.l,sl.c),()) (by rw [show 0+(k:Int).toNat*1=k from ad,hsl]; rfl) ?_;refine an ?_;have lk:=vs.len;have mk:=vs.many;generalize hl:xO u k=l at vs lk mk;have hu2:U=(eH k (cI (tn u k) (l.take 0)) (l.drop 0) && zb u (k+1)):=by
   rw [hu,Jn u hk,hl] <;> rfl
  refine aR (cs:=[(false,[.int .i64]),(false,[.int .i64])]) (fun y w h'=>∃ i:Nat,y.2.1=(i:Int)/\i<=l.length/\w=l.length-i/\Ext h h'/\bz h' h.size 30 [a.v,b.v,c.v,d.v]/\bz h' g2.size 26 [a.v,b.v]/\Eh h' g1.size (cI (tn u k) (l.take i))/\U=(eH k (cI (tn u k) (l.take i)) (l.drop i) && zb u (k+1))) (n21,(0:Int),()) l.length rfl
   ⟨0,rfl,ad,ad,e4,b1,b2,m,hu2⟩ ?_
  clear hu hu2 m b1 b2 e4;rintro ⟨n27,n28,⟨⟩⟩ w h5 ⟨i,hi,hile,rfl,e5,b1,b2,m,hu⟩;simp only at hi;subst hi;refine an ?_;refine ak (fun q2=>?_) (fun q2=>?_)
  ·have q2:=WR q2;have hil:i<l.length:=ad
   obtain ⟨aa,pp,ll,cc,rfl',hc,va⟩:=(vs.ao e5).cells i hil;rw [CZ k _ l hil] at hu;have hnt:=EB (tn u k) l hil;generalize l[i]=x at hc va hu hnt;refine ay ⟨ad,ad⟩ (av rfl' ?_);rw [show Int.toNat (i:Int)=i from ad];refine az (x.kind,x.name,x.inst.op,x.inst.a,x.inst.b,x.inst.n,x.inst.form,(pp,ll,cc),(x.e.num:Int),x.n,()) hc ?_;refine an ?_;refine bm ?_;intro h6 b6 e6 z6;refine aw b6 rfl aj ?_;intro h7 b7 k7 z7;have b7:bz h7 h5.size 64 (encI pp ll cc x):=b7;have e57:Ext h5 h7:=e6.st k7 (W9 _);have e7:=e5.trans e57;simp only [aE];refine af b7 (x.kind,x.name,x.inst.op,x.inst.a,x.inst.b,x.inst.n,x.inst.form,(pp,ll,cc),(x.e.num:Int),x.n,()) rfl ?_;refine an ?_;refine aH (Qm (c:=cc) (t.ao e7 aj) (va.ao e57) hk) ?_;rintro _ h8 ⟨rfl,e8⟩;refine ⟨((if cr x k then 0 else 31:Int),()),rfl,?_⟩;refine an ?_;have e58:=e57.trans e8;have e08:=e5.trans e58;have b1:=b1.ao e58 aj;have b2:=b2.ao e58 aj;have m:=m.ao e58 aj;have b8:=b7.ao e8 aj;refine ak (fun r=>?_) (fun r=>?_)
   ·have r:cr x k=false:=by
     cases hr:cr x k with
     | false=>rfl
     | true=>rw [hr] at r; simp at r
    exact ⟨by rw [hu,xL,r]; rfl,e08⟩
   have r:cr x k=true:=by
    cases hr:cr x k with
    | true=>rfl
    | false=>rw [hr] at r; simp at r
   have hno:∀ D,xL k D x=!(decide (x.kind=1) && fz D x.name):=fun D=>by rw [xL,r]; rfl
   rw [hno] at hu;refine af b8 (x.kind,()) rfl ?_;refine an ?_;refine ak (fun r1=>?_) (fun r1=>?_)
   ·have r1:x.kind=1:=by simpa using r1
    rw [W1 r1,Xx] at hu;have hle:cM x.name.data.toList=true:=by
     rw [Da r1,XO] at r;exact r.1
    refine af b8 (x.name,()) rfl ?_;refine an ?_;refine Lj m.1 x.name ?_;refine ak (fun r2=>?_) (fun r2=>?_)
    ·exact ⟨by rw [hu,r2]; rfl,e08⟩
    rw [r2] at hu;refine af b8 (x.kind,()) rfl ?_;refine an ?_;refine bT (by simpa using r1) ?_;refine af b8 (x.name,()) rfl ?_;refine an ?_;refine cV m.1 va.name ?_;intro h9 m9 k9 z9;have e09:Ext h h9:=e08.st k9 ad;have s5:=e5.size;have hadd:sY (cI (tn u k) (l.take i)) x=x.name::cI (tn u k) (l.take i):=by unfold sY; rw [W2 r1]
    refine aF (cs:=[(false,[.int .i64]),(false,[.int .i64])]) (n27,((i+1:Nat):Int),()) (l.length-(i+1)) rfl ad (by rw [wrap_i64 ad ad]; rfl) ?_;refine ⟨i+1,rfl,ad,rfl,e09,b1.ao k9 (by simp; omega),b2.ao k9 (by simp; omega),by rw [hnt,hadd]; exact ⟨m9,fun s hs=>(Xo.1 hs).elim (fun e=>by rw [e]; exact hle) (m.2 s)⟩,by rw [hu,hnt]; rfl⟩
   ·have r1:¬ x.kind=1:=by simpa using r1
    rw [W4 r1] at hu;refine af b8 (x.kind,()) rfl ?_;refine an ?_;refine bZ (by simpa using r1) ?_;have hadd:sY (cI (tn u k) (l.take i)) x=cI (tn u k) (l.take i):=by unfold sY; rw [WV r1]
    refine aF (cs:=[(false,[.int .i64]),(false,[.int .i64])]) (n27,((i+1:Nat):Int),()) (l.length-(i+1)) rfl ad (by rw [wrap_i64 ad ad]; rfl) ?_;refine ⟨i+1,rfl,ad,rfl,e08,b1,b2,by rw [hnt,hadd]; exact m,by rw [hu,hnt]; rfl⟩
  ·have q2:=WS q2;have hil:i=l.length:=ad
   subst hil;rw [XG] at m hu;rw [Yu,eH,Xx] at hu;refine aF (cs:=[(false,[.int .i64]),(false,[.int .i64])]) (n27,((k+1:Nat):Int),()) (2-(k+1)) rfl ad (by rw [wrap_i64 ad ad]; rfl) ?_;refine ⟨k+1,rfl,ad,rfl,e5,b1,b2,by rw [Jp u hk,hl]; exact m,hu⟩
 ·have q:=WS q;have hk:k=2:=ad
  subst hk;have hu:U=(fT (cI (cI [] u.text) u.data) u.aY && cQ u.names dt u.aP):=hu;have m:Eh h4 g1.size (cI (cI [] u.text) u.data):=m;generalize hD:cI (cI [] u.text) u.data=D at hu m;have hN:u.names=aS D u.aY:=by rw [<- hD]; rfl
  rw [hN] at hu;refine af b1 ((c.p,c.l,c.c),()) rfl ?_;refine an ?_;have hu2:U=(fT (aS D (u.aY.take 0)) (u.aY.drop 0) && cQ (aS D u.aY) dt u.aP):=hu;refine aR (cs:=[(false,[.int .i64]),(false,[.int .i64])]) (fun y w h'=>∃ i:Nat,y.2.1=(i:Int)/\i<=u.aY.length/\w=u.aY.length-i/\Ext h h'/\bz h' h.size 30 [a.v,b.v,c.v,d.v]/\Eh h' g1.size (aS D (u.aY.take i))/\U=(fT (aS D (u.aY.take i)) (u.aY.drop i) && cQ (aS D u.aY) dt u.aP)) (n21,(0:Int),()) u.aY.length rfl
   ⟨0,rfl,ad,ad,e4,b1,m,hu2⟩ ?_
  clear hu hu2 m b1 b2 e4;rintro ⟨n27,n28,⟨⟩⟩ w h5 ⟨i,hi,hile,rfl,e5,b1,m,hu⟩;simp only at hi;subst hi;refine an ?_;have s5:=e5.size;refine ak (fun q2=>?_) (fun q2=>?_)
  ·have q2:=WR q2;have hil:i<u.aY.length:=ad
   obtain ⟨aa,pp,ll,cc,rfl',hc,va,vn⟩:=(v.aY.ao e5).cells i hil;rw [D4 _ _ hil] at hu;have hnt:=EC D u.aY hil;generalize u.aY[i]=x at hc va vn hu hnt;refine ay ⟨ad,ad⟩ (av rfl' ?_);rw [show Int.toNat (i:Int)=i from ad];refine az (x.1,(pp,ll,cc),(x.2.num:Int),()) hc ?_;refine an ?_;refine bm ?_;intro h6 b6 e6 z6;refine aw b6 rfl aj ?_;intro h7 b7 k7 z7;have b7:bz h7 h5.size 88 (SX pp ll cc x):=b7;have e57:Ext h5 h7:=e6.st k7 (W9 _);have e7:=e5.trans e57;simp only [aE];have b1:=b1.ao e57 aj;have m:=m.ao e57 aj;unfold Bc at hu;refine af b7 (x.1,()) rfl ?_;refine an ?_;refine Lj m.1 x.1 ?_;refine ak (fun r=>?_) (fun r=>?_)
   ·exact ⟨by rw [hu,r]; rfl,e7⟩
   rw [r] at hu;refine af b7 (x.1,()) rfl ?_;refine an ?_;refine aI (tW x.1 h7 (by have:maxLen=9223372036854775807:=rfl; omega)) ?_;refine ak (fun r=>?_) (fun r=>?_)
   ·have r:cM x.1.data.toList=false:=by simpa using r
    exact ⟨by rw [hu,r]; rfl,e7⟩
   have hle:cM x.1.data.toList=true:=by simpa using r
   rw [hle] at hu;refine af b7 ((pp,ll,cc),(x.2.num:Int),()) rfl ?_;refine an ?_;refine aH (sX (c:=cc) (va.ao e57).vw (by have:=va.many; omega) va.names) ?_;rintro _ h8 ⟨rfl,e8⟩;refine ⟨(mS none x.2.ai,()),rfl,?_⟩;refine an ?_;have e08:=e7.trans e8;have b1:=b1.ao e8 aj;have m:=m.ao e8 aj;have b8:=b7.ao e8 aj;refine ak (fun r=>?_) (fun r=>?_)
   ·have r:mS none x.2.ai=false:=by simpa using r
    exact ⟨by rw [hu,r]; rfl,e08⟩
   have r:mS none x.2.ai=true:=by simpa using r
   rw [r] at hu;refine af b8 (x.1,()) rfl ?_;refine an ?_;refine cV m.1 vn ?_;intro h9 m9 k9 z9;have e09:Ext h h9:=e08.st k9 ad;refine aF (cs:=[(false,[.int .i64]),(false,[.int .i64])]) (n27,((i+1:Nat):Int),()) (u.aY.length-(i+1)) rfl ad (by rw [wrap_i64 ad ad]; rfl) ?_;refine ⟨i+1,rfl,ad,rfl,e09,b1.ao k9 (by simp; omega),by rw [hnt]; exact ⟨m9,fun s hs=>(Xo.1 hs).elim (fun e=>by rw [e]; exact hle) (m.2 s)⟩,by rw [hu,hnt]; rfl⟩
  have q2:=WS q2;have hil:i=u.aY.length:=ad
  subst hil;rw [XG] at m hu;rw [Yu,fT,Xx] at hu;generalize hE:aS D u.aY=E at m hu;refine af b1 ((d.p,d.l,d.c),()) rfl ?_;refine an ?_;have hu2:U=cQ E (nN u.aP 0) (u.aP.drop 0):=hu;refine aR (cs:=[(false,[.int .i64]),(false,[.int .i64])]) (fun y w h'=>∃ i:Nat,y.2.1=(i:Int)/\i<=u.aP.length/\w=u.aP.length-i/\Ext h h'/\bz h' h.size 30 [a.v,b.v,c.v,d.v]/\Eh h' g1.size E/\U=cQ E (nN u.aP i) (u.aP.drop i)) (n27,(0:Int),()) u.aP.length rfl
   ⟨0,rfl,ad,ad,e5,b1,m,hu2⟩ ?_
  clear hu hu2 m b1 e5 s5;rintro ⟨n31,n32,⟨⟩⟩ w h6 ⟨i,hi,hile,rfl,e6,b1,m,hu⟩;simp only at hi;subst hi;refine an ?_;refine ak (fun q3=>?_) (fun q3=>?_)
  ·have q3:=WR q3;have hil:i<u.aP.length:=ad
   obtain ⟨aa,rfl',hc,va⟩:=(v.aP.ao e6).cells i hil;rw [ux _ _ hil] at hu;unfold Pd at hu;refine ay ⟨ad,ad⟩ (av rfl' ?_);rw [show Int.toNat (i:Int)=i from ad];refine az (u.aP[i],()) hc ?_;refine an ?_;refine Lj m.1 _ ?_;refine ak (fun r=>?_) (fun r=>?_)
   ·have r:fz E u.aP[i]=false:=by simpa using r
    exact ⟨by rw [hu,r]; rfl,e6⟩
   have r:fz E u.aP[i]=true:=by simpa using r
   rw [r,Xx] at hu;refine ak (fun r2=>?_) (fun r2=>?_)
   ·have r2:=WR r2;refine af b1 ((d.p,d.l,d.c),()) rfl ?_;refine an ?_;rw [wrap_i64 ad ad];obtain ⟨ab,rfl'',hc',va'⟩:=(v.aP.ao e6).cells (i-1) ad;refine ay ⟨ad,ad⟩ (av rfl'' ?_);rw [show Int.toNat ((i:Int)-1)=i-1 from ad];refine az (u.aP[i-1],()) hc' ?_;refine an ?_;have hla:nN u.aP i=u.aP[i-1]:=by
     unfold nN;rw [WV ad,X8,WT ad] <;> rfl
    rw [leB];rw [hla] at hu;refine ak (fun r3=>?_) (fun r3=>?_)
    ·have r3:decide (gF u.aP[i-1] u.aP[i])=false:=by simpa using r3
     exact ⟨by rw [hu,r3]; rfl,e6⟩
    ·have r3:decide (gF u.aP[i-1] u.aP[i])=true:=by simpa using r3
     rw [r3,Xx] at hu;refine aF (cs:=[(false,[.int .i64]),(false,[.int .i64])]) (n31,((i+1:Nat):Int),()) (u.aP.length-(i+1)) rfl ad (by rw [wrap_i64 ad ad]; rfl) ?_;exact ⟨i+1,rfl,ad,rfl,e6,b1,m,hu⟩
   ·have r2:=WS r2;have hi0:i=0:=ad
    subst hi0;have hg:decide (gF (nN u.aP 0) u.aP[0])=true:=W1 (EX (m.2 _ (u7 r)));rw [hg,Xx] at hu;refine aF (cs:=[(false,[.int .i64]),(false,[.int .i64])]) (n31,((0+1:Nat):Int),()) (u.aP.length-(0+1)) rfl ad (by rw [wrap_i64 ad ad]; rfl) ?_;exact ⟨0+1,rfl,ad,rfl,e6,b1,m,hu⟩
  ·have q3:=WS q3;have hil:i=u.aP.length:=ad
   subst hil;rw [Yu] at hu;exact ⟨by rw [hu]; rfl,e6⟩
def Lq (l:List UInt8):List (List ZB):=l.map fun b=>[.int .u8 (b.toNat:Int)]
theorem Gg (l:List UInt8):(Lq l).length=l.length:=by simp [Lq]
theorem Lh (l:List UInt8):(Lq l).flatten=l.map fun b=>.int .u8 (b.toNat:Int):=by
 induction l with
 | nil=>rfl
 | cons a l ih =>
  have:Lq (a::l)=[.int .u8 (a.toNat:Int)]::Lq l:=rfl
  rw [this,Yq,ih] <;> rfl
theorem Ww:(Tryz.prog.info? 5).map (fun i=>(i.zero,i.size,i.bytes))=some (some (.int .u8 0),1,1):=ax
theorem SL.bY {h:Hp} {b:Nat} {e:TypeId} {sz:Nat} {p:Option ZC} {l c:Nat} {xs:List (List ZB)} (s:SL h b e sz p l c xs):∀ i,i∈aJ p->b<=i/\i<h.size:=by
 intro i hi;cases p with
 | none=>simp [aJ] at hi
 | some a =>
  obtain ⟨g,pre,rest,rfl,hb,_,hbox,_⟩:=s.2.2;simp [aJ] at hi;exact ⟨ad,by rw [hi]; exact hbox.lt⟩
theorem IT {P:Program} {h:Hp} (a:ZC) (l:List UInt8) (cap:Nat) (K:ZB->Hp->Prop) (hc:aG h a 0 (l.map Nh)) (hk:K (.string ⟨l.toArray⟩) h):aQ P (Conv.bytesToString (.slice (some a) l.length cap)) h K:=by
 unfold Conv.bytesToString;simp only;rw [ar];refine dA aj hc _ ?_;rw [ar,<- Array.forIn_toList]
 have key:∀ (l:List UInt8) (s:ZA) (K':ZA->Hp->Prop),K' ⟨s.data++l.toArray⟩ h->aQ P (forIn (l.map Nh) s fun c r=>match c with
   | .int .u8 n=>(pure (ForInStep.yield (r.push (UInt8.ofNat n.toNat))):Sem (ForInStep ZA))
   | _ => stuck "bytesToString: byte expected") h K' := by
  intro l
  induction l with
  | nil =>
   intro s K' hk;have e:(⟨s.data++([]:List UInt8).toArray⟩:ZA)=s:=aj
   rw [e] at hk;exact hk
  | cons c l ih =>
   intro s K' hk;rw [Xy,List.forIn_cons];rw [ar];show aQ P (forIn (List.map Nh l) (s.push (UInt8.ofNat ((c.toNat:Nat):Int).toNat)) _) h K';have e1:UInt8.ofNat ((c.toNat:Nat):Int).toNat=c:=aj
   rw [e1];refine ih (s.push c) K' ?_
   have:(⟨(s.push c).data++l.toArray⟩:ZA)=⟨s.data++(c::l).toArray⟩:=by
    congr 1
    apply Xv.1
    simp
   rw [this]; exact hk
 refine key l ByteArray.empty _ ?_;have e:(⟨ByteArray.empty.data++l.toArray⟩:ZA)=⟨l.toArray⟩:=by
  congr 1
  apply Xv.1
  simp
 rw [e];exact hk
abbrev St:=Except (Nat × Nat) Bt
theorem Wj {k c:Nat} (h:k≠c):(((k:Nat):Int)==(c:Int))=false:=by
 simp only [beq_eq_false_iff_ne,ne_eq];omega
def iz:List ZB:=[.int .i64 (0:Int),.string ⟨#[]⟩,.int .i64 (0:Int),.int .i64 (0:Int),.int .i64 (0:Int),.int .i32 (0:Int),.int .i64 (0:Int),.slice none 0 0,.int .u32 (0:Int),.int .i64 (0:Int)]
structure Ls {α:Type} (e:TypeId) (sz:Nat) (enc:cn->α->List ZB) (tm:α->cU) (ok:α->Prop) (h:Hp) (b:Nat) (p:Option ZC) (l c:Nat) (us:List (cn × α)):Prop where
 sl:SL h b e sz p l c (us.map fun u=>enc u.1 u.2)
 own:∀ u,u∈us->SL h b 66 2 u.1.p u.1.l u.1.c ((tm u.2).map cR)
 ok:∀ u,u∈us->ok u.2
section
variable {α:Type} {e:TypeId} {sz:Nat} {enc:cn->α->List ZB} {tm:α->cU} {ok:α->Prop} {h h':Hp} {b b':Nat} {p:Option ZC} {l c:Nat} {us:List (cn × α)}
end
abbrev ptr (g:Nat):ZB:=.pointer (some ⟨g,0,none⟩)
theorem Q5:Tryz.prog.underlying 26=some (.slice 64):=ax
theorem U7:Tryz.prog.underlying 27=some (.slice 88):=ax
theorem Hw:Tryz.prog.underlying 28=some (.slice 9):=ax
theorem UB:(Tryz.prog.info? 9).map (fun i=>(i.zero,i.size,i.bytes))=some (some (.string ⟨#[]⟩),1,16):=ax
theorem SL.Ay {h:Hp} {b:Nat} {e:TypeId} {sz:Nat} {p:Option ZC} {l c:Nat} {xs:List (List ZB)} (s:SL h b e sz p l c xs):∀ i,i∈aJ p->∃ xs,bz h i e xs:=by
 intro i hi;cases p with
 | none=>simp [aJ] at hi
 | some a =>
  obtain ⟨g,pre,rest,rfl,hb,_,hbox,_⟩:=s.2.2;simp [aJ] at hi;subst hi;exact ⟨_,hbox⟩
theorem SL.qG {ws:List Nat} {h h':Hp} {b:Nat} {e e':TypeId} {sz:Nat} {p:Option ZC} {l c:Nat} {xs:List (List ZB)} (s:SL h b e sz p l c xs) (k:Ch ws h h') (hw:∀ i,i∈ws->∃ ys,bz h i e' ys) (he:e≠e'):SL h' b e sz p l c xs:=by
 refine Sx.SL.bF s k (fun i hi hm=>?_);obtain ⟨ys,b1⟩:=SL.Ay s i hi;obtain ⟨zs,b2⟩:=hw i hm;unfold bz at b1 b2;rw [b1] at b2;simp only [Option.some.injEq,Obj.cells.injEq] at b2;exact he b2.2.1
section
variable {h0 h:Hp} {g gm:Nat} {bp:Option ZC} {bl bc:Nat} {full:Bt} {st:St} {D:List ZA}
end
def lO:cn:=⟨none,0,0⟩
abbrev R9:=Ls 64 10 (fun s x=>encI s.p s.l s.c x) (fun x:cB=>x.e.ai) (fun _=>True)
theorem yD:Tryz.prog.underlying 26=some (.slice 64):=ax
theorem Fu:(Tryz.prog.info? 64).map (fun i=>(i.zero,i.size,i.bytes))=some (some (.agg iz.toArray),10,104):=ax
def sB (u:cn × cB):List ZB:=encI u.1.p u.1.l u.1.c u.2
theorem BW {a b:Nat} (h:(((a:Nat):Int)==((b:Nat):Int))=true):a=b:=by
 have:=eq_of_beq h
 omega
theorem EW {a b:Nat} (h:(((a:Nat):Int)==((b:Nat):Int))=false):¬ a=b:=by
 rintro rfl;simp at h
end Go.Sx.Ob
