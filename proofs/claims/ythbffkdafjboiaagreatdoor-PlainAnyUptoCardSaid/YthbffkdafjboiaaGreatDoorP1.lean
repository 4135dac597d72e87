/- Contracts over heaps, part 1. Condition: as each statement says. -/
import Derived.Test.YthbffkdafjboiaaGreatDoorBtA
import Derived.Test.YthbffkdafjboiaaGreatDoorCShelf
import Derived.Test.YthbffkdafjboiaaGreatDoorSxG
import Derived.Test.YthbffkdafjboiaaGreatDoorSxE
import Derived.Test.YthbffkdafjboiaaGreatDoorBtB
import Derived.Test.YthbffkdafjboiaaGreatDoorBtC
set_option linter.all false
set_option maxRecDepth 100000
set_option maxHeartbeats 4000000
namespace Go.Sx
open Go.Proofs
def mixed:Tryz.prog.follows .mixedOrders=true:=az
def To : (Tryz.f153.name == "runtime.NumGoroutine") = false :=az
def Sn:Tryz.f153.body.isNone=true:=az
def SK:Extern.findNext Tryz.f153=none:=az
def Tb:Extern.find Tryz.f153=some Extern.BytealgIndexByte.indexByte:=az
def Bn (s:Xaa) (c:Int) (h:Hp):wz Tryz.prog 137 [.string s,.int .u8 c] h (.int .i64 (Lib.indexByte s.data.toList c.toNat.toUInt8)):=by
 refine ei mixed Tryz.func137 az (gR s c) ?_;refine FV Tryz.func153 To Sn SK Tb ?_;rw [qY];exact ⟨(_,()),rfl,rfl,rfl⟩
def D8 (s:Xaa) (c:Int) (h:Hp):wz Tryz.prog 114 [.string s,.int .u8 c] h (.int .i64 (Lib.indexByte s.data.toList c.toNat.toUInt8)):=by
 refine ei mixed Tryz.func114 az (pJ s c) ?_;exact kj (Bn s c h) ⟨rfl,rfl⟩
def mS (s set:List UInt8):Nat:=(s.takeWhile fun c=>set.contains c).length
def R0 (s set:List UInt8):mS s set<=s.length:=by
 unfold mS;exact (List.takeWhile_prefix _).length_le
theorem r6 {p:UInt8->Bool}:∀ (l:List UInt8) (k:Nat),k<=(l.takeWhile p).length->k<l.length->(k<(l.takeWhile p).length↔p (l.getD k 0)=true)
 | [],k,_,h=>by simp at h
 | c::l,0,_,_=>by
  simp only [List.takeWhile_cons,List.getD_cons_zero];cases d:p c <;> simp
 | c::l,k+1,h,hl=>by
  simp only [List.takeWhile_cons] at h ⊢;cases d:p c with
  | false=>rw [d] at h; simp at h
  | true =>
   rw [d] at h;simp at h hl
   have:=r6 l k (by simpa using h) hl
   simpa using this
def CF (s set:List UInt8) (k:Nat) (hk:k<=mS s set) (hl:k<s.length):(k<mS s set↔set.contains (s.getD k 0)=true):=r6 s k hk hl
def OM (s:Xaa) (n:Int):(cw s n).toNat.toUInt8=s.data.toList.getD n.toNat 0:=by
 unfold cw; simp
def NA (s set:Xaa) (h:Hp) (hs:s.size<=9223372036854775807):wz Tryz.prog 88 [.string s,.string set] h (.int .i64 (mS s.data.toList set.data.toList)):=by
 refine ei mixed Tryz.func88 az (Da s set) ?_;have U:s.data.toList.length=s.size:=aj
 have V:=R0 s.data.toList set.data.toList;refine aS (cs:=[(false,[.int .i64])]) (fun x n h'=>h'=h/\∃ k:Nat,x.1=(k:Int)/\k<=mS s.data.toList set.data.toList/\n=s.size-k) ((0:Int),()) s.size rfl ⟨rfl,0,rfl,ad,ad⟩ ?_;rintro ⟨n,⟨⟩⟩ m h' ⟨rfl,k,hk,u,rfl⟩;simp only at hk;subst hk;refine ar (fun G=>?_) (fun G=>?_)
 ·have J:(k:Int)<s.size:=Yz G;have F:=CF s.data.toList set.data.toList k u ad;refine ax ⟨ad,J⟩ ?_;refine kj (D8 _ _ _) ?_;rw [OM];have hc:=Lib.contains_iff_indexByte set.data.toList (s.data.toList.getD k 0);refine ar (fun d=>?_) (fun d=>?_)
  ·have h2:=Yz d;rw [wrap_i64 ad ad];have j:set.data.toList.contains (s.data.toList.getD k 0)=true:=by rw [hc]; exact YA h2
   exact aG (cs:=[(false,[.int .i64])]) ((k:Int)+1,()) (s.size-(k+1)) rfl ad rfl ⟨rfl,k+1,(show ((k:Int)+1)=((k+1:Nat):Int) from ad),F.2 j,rfl⟩
  ·have h2:=YG d;have j:¬ set.data.toList.contains (s.data.toList.getD k 0)=true:=by rw [hc]; exact fun O=>h2 (Yz O)
   have:k=mS s.data.toList set.data.toList:=by
    have:¬ k<mS s.data.toList set.data.toList:=fun O=>j (F.1 O)
    omega
   exact ⟨by rw [<- this],rfl⟩
 ·have X:¬ (k:Int)<s.size:=YG G
  have:k=mS s.data.toList set.data.toList:=ad
  exact ⟨by rw [<- this],rfl⟩
def eZ (c:UInt8):Bool:=(97<=c.toNat && c.toNat<=122) || (65<=c.toNat && c.toNat<=90) || c.toNat==95
def iw (c:UInt8):Bool:=48<=c.toNat && c.toNat<=57
def gQ:List UInt8:=[97,98,99,100,101,102,103,104,105,106,107,108,109,110,111,112,113,114,115,116,117,118,119,120,121,122,65,66,67,68,69,70,71,72,73,74,75,76,77,78,79,80,81,82,83,84,85,86,87,88,89,90,95]
def iS:List UInt8:=[48,49,50,51,52,53,54,55,56,57]
def Cu (p q:UInt8->Bool) (h:(List.range 256).all (fun n=>p (UInt8.ofNat n)==q (UInt8.ofNat n))=true) (c:UInt8):p c=q c:=by
 have:=Y1.1 h c.toNat (ag9.2 (by have:=c.toNat_lt; omega))
 simpa using this
def GW (c:UInt8):gQ.contains c=eZ c:=Cu (fun c=>gQ.contains c) eZ (by decide +kernel) c
def NW (c:UInt8):(gQ++iS).contains c=(eZ c || iw c):=Cu (fun c=>(gQ++iS).contains c) (fun c=>eZ c || iw c) (by decide +kernel) c
def cN (c:UInt8):Int:=(c.toNat:Nat)
def Ow (c:UInt8) (h:Hp):wz Tryz.prog 107 [.int .u8 (cN c)] h (.bool (iw c)):=by
 refine ei mixed Tryz.func107 az (oz _) ?_;unfold jX iw cN bC;refine aM (fun h1=>?_) (fun h1=>?_)
 ·refine ⟨?_,rfl⟩
  congr 1
  rw [show decide (48<=c.toNat)=true from YA ad,YU];exact bn9.2 ad
 ·refine ⟨?_,rfl⟩
  congr 1
  rw [show decide (48<=c.toNat)=false from YB ad,bu9]
def Ko (c:UInt8):eZ c=true↔(97<=cN c/\cN c<=122)\/(65<=cN c/\cN c<=90)\/cN c=95:=by
 unfold eZ cN;simp only [Bool.or_eq_true,Bool.and_eq_true,decide_eq_true_eq,beq_iff_eq];omega
def B3 (c:UInt8) (h:Hp):wz Tryz.prog 106 [.int .u8 (cN c)] h (.bool (eZ c)):=by
 refine ei mixed Tryz.func106 az (nQ _) ?_;unfold jd dy;have hl:=Ko c
 repeat' (refine ar (fun h1=>?_) (fun h1=>?_) <;> first | replace h1:=Yz h1 | replace h1:=YG h1)
 all_goals exact ⟨YJ Value.bool (Z3.2 (by simp only [hl,true_iff,beq_iff_eq]; omega)),rfl⟩
def yM (s:List UInt8):Int × Bool × Bool :=
 match s with
 | [a,b]=>if cN a=114/\48<=cN b/\cN b<=55 then (cN b-48,false,true) else if cN a=122/\48<=cN b/\cN b<=51 then (cN b-48,true,true) else (0,false,false)
 | _=>(0,false,false)
def Fi {s:List UInt8} (h:s.length≠2):yM s=(0,false,false):=by
 unfold yM;split
 ·simp at h
 ·rfl
def my (s:Xaa) (n:Int):cw s n=cN (s.data.toList.getD n.toNat 0):=rfl
def two_bytes {s:Xaa} (h1:(s.size:Int)=2):∃ a b,s.data.toList=[a,b]:=by
 have d:s.data.toList.length=s.size:=aj
 match hl:s.data.toList with
 | [a,b]=>exact ⟨a,b,rfl⟩
 | []=>rw [hl] at d; simp at d; omega
 | [a]=>rw [hl] at d; simp at d; omega
 | a::b::c::l=>rw [hl] at d; simp at d; omega
def Ek (s:Xaa) (h:Hp):wz Tryz.prog 87 [.string s] h (.tuple #[.int .i64 (yM s.data.toList).1,.bool (yM s.data.toList).2.1,.bool (yM s.data.toList).2.2]):=by
 refine ei mixed Tryz.func87 az (vq s) ?_;have j:s.data.toList.length=s.size:=aj
 unfold qS bm fA bn;refine ar (fun h1=>?_) (fun h1=>?_)
 ·have h1:(s.size:Int)≠2:=by simpa using h1
  rw [Fi ad];exact ⟨rfl,rfl⟩
 ·have h1:(s.size:Int)=2:=by simpa using h1
  obtain ⟨a,b,d⟩:=two_bytes h1;have e0:cw s 0=cN a:=by rw [my,d]; rfl
  have e1:cw s 1=cN b:=by rw [my,d]; rfl
  have F:=b.toNat_lt;have u:IntKind.wrap .i64 (IntKind.wrap .i64 (cw s 1)-48)=cN b-48:=by
   rw [e1,wrap_i64 (x:=cN b) (by unfold cN; omega) (by unfold cN; omega),wrap_i64 (by unfold cN; omega) (by unfold cN; omega)]
  rw [u,e0,d];unfold yM
  repeat' (first | refine ax ⟨ad,ad⟩ ?_ | (refine ar (fun h1=>?_) (fun h1=>?_) <;> first | replace h1:=Yz h1 | replace h1:=YG h1 | replace h1:=eq_of_beq h1 | replace h1:=ne_of_beq_false h1))
  all_goals
   refine ⟨?_,rfl⟩;simp only
   first
    | (exfalso; omega)
    | rw [YC ad]
    | rw [Yx ad,YC ad]
    | rw [Yx ad,Yx ad]
def Dg (s:Xaa) (h:Hp):wz Tryz.prog 108 [.string s] h (.tuple #[.int .i64 (yM s.data.toList).1,.bool (yM s.data.toList).2.1,.bool (yM s.data.toList).2.2]):=by
 refine ei mixed Tryz.func108 az (mn s) ?_;have j:s.data.toList.length=s.size:=aj
 unfold iy bm fA bn;refine ar (fun h1=>?_) (fun h1=>?_)
 ·have h1:(s.size:Int)≠2:=by simpa using h1
  rw [Fi ad];exact ⟨rfl,rfl⟩
 ·have h1:(s.size:Int)=2:=by simpa using h1
  obtain ⟨a,b,d⟩:=two_bytes h1;have e0:cw s 0=cN a:=by rw [my,d]; rfl
  have e1:cw s 1=cN b:=by rw [my,d]; rfl
  have F:=b.toNat_lt;have u:IntKind.wrap .i64 (IntKind.wrap .i64 (cw s 1)-48)=cN b-48:=by
   rw [e1,wrap_i64 (x:=cN b) (by unfold cN; omega) (by unfold cN; omega),wrap_i64 (by unfold cN; omega) (by unfold cN; omega)]
  rw [u,e0,d];unfold yM
  repeat' (first | refine ax ⟨ad,ad⟩ ?_ | (refine ar (fun h1=>?_) (fun h1=>?_) <;> first | replace h1:=Yz h1 | replace h1:=YG h1 | replace h1:=eq_of_beq h1 | replace h1:=ne_of_beq_false h1))
  all_goals
   refine ⟨?_,rfl⟩;simp only
   first
    | (exfalso; omega)
    | rw [YC ad]
    | rw [Yx ad,YC ad]
    | rw [Yx ad,Yx ad]
def cX (s:List UInt8):Bool:=decide (0<s.length) && decide (s.length<=32) && eZ (s.getD 0 0) && s.all (fun c=>eZ c || iw c) && !(yM s).2.2
def N9 {s set:List UInt8} (h:0<s.length):0<mS s set↔set.contains (s.getD 0 0)=true:=CF s set 0 (bj9 _) h
def Lt {s set:List UInt8}:mS s set=s.length↔s.all (fun c=>set.contains c)=true:=by
 unfold mS
 induction s with
 | nil=>simp
 | cons c s d =>
  rw [List.takeWhile_cons,bd9];cases hc:set.contains c with
  | true=>simp only [if_true,List.length_cons,Bool.true_and]; rw [<- d]; omega
  | false=>simp
def Xo:(⟨#[97,98,99,100,101,102,103,104,105,106,107,108,109,110,111,112,113,114,115,116,117,118,119,120,121,122,65,66,67,68,69,70,71,72,73,74,75,76,77,78,79,80,81,82,83,84,85,86,87,88,89,90,95]⟩:Xaa).data.toList=gQ:=rfl
def XJ:(⟨#[97,98,99,100,101,102,103,104,105,106,107,108,109,110,111,112,113,114,115,116,117,118,119,120,121,122,65,66,67,68,69,70,71,72,73,74,75,76,77,78,79,80,81,82,83,84,85,86,87,88,89,90,95,48,49,50,51,52,53,54,55,56,57]⟩:Xaa).data.toList=gQ++iS:=rfl
def toList_nil {s:Xaa}:(s.toList==[])=decide (s.size=0):=by
 have:s.toList=s.data.toList:=ByteArray.toList_eq s
 rw [this];have d:s.data.toList.length=s.size:=aj
 cases hl:s.data.toList with
 | nil=>rw [hl] at d; simp at d; simp [<- d]
 | cons a l=>rw [hl] at d; simp at d; simp [<- d]
def uR (s:Xaa) (h:Hp) (hs:s.size<=9223372036854775807):wz Tryz.prog 60 [.string s] h (.bool (cX s.data.toList)):=by
 refine ei mixed Tryz.func60 az (zW s) ?_;have d:s.data.toList.length=s.size:=aj
 unfold yp ct bJ bC aP bR;refine Gw (Ek s h) ?_;unfold cX;rw [d];refine ar (fun h1=>?_) (fun h1=>?_)
 ·have h1:s.size≠0:=by rw [toList_nil] at h1; simpa using h1
  refine aM (fun h2=>?_) (fun h2=>?_)
  ·refine kj (NA s _ h hs) ?_;rw [Xo];have j:=N9 (set:=gQ) (by omega:0<s.data.toList.length);rw [GW] at j;refine aM (fun h3=>?_) (fun h3=>?_)
   ·refine kj (NA s _ h hs) ?_;rw [XJ];have u:=Lt (s:=s.data.toList) (set:=gQ++iS);have F:(fun c=>(gQ++iS).contains c)=(fun c=>eZ c || iw c):=funext NW;rw [F] at u;rw [show decide (0<s.size)=true from YA ad,show decide (s.size<=32)=true from YA ad,j.1 ad];refine ar (fun h4=>?_) (fun h4=>?_)
    ·have h4:=eq_of_beq h4;rw [u.1 ad];exact ⟨rfl,rfl⟩
    ·have h4:=ne_of_beq_false h4
     have:s.data.toList.all (fun c=>eZ c || iw c)=false:=by
      cases hx:s.data.toList.all (fun c=>eZ c || iw c) with
      | false=>rfl
      | true=>exact (h4 (by rw [u.2 hx]; omega)).elim
     rw [this];exact ⟨rfl,rfl⟩
   ·have:eZ (s.data.toList.getD 0 0)=false:=by
     cases hx:eZ (s.data.toList.getD 0 0) with
     | false=>rfl
     | true=>have:=j.2 hx; omega
    rw [this];exact ⟨aj,rfl⟩
  ·rw [show decide (s.size<=32)=false from YB ad];exact ⟨aj,rfl⟩
 ·have h1:s.size=0:=by rw [toList_nil] at h1; simpa using h1
  rw [show decide (0<s.size)=false from YB ad];exact ⟨aj,rfl⟩
open Go.Proofs Go.MapKept Go.WideAt Go.WideMaps Go.Maps Go.RowKit Go.WideElems Go.WideElems
def AM:Xab->Option (DataW Unit × List MemPlace):=fun _=>some (.nil,[])
def xw:Tryz.prog.underlying 9=some .string:=az
def Sj:Tryz.prog.underlying 183=some (.map 9 67):=az
def keysOf (D:List (Xaa × Xab)):List (List UInt8):=(D.map fun p=>p.1.data.toList).mergeSort fun x y=>decide (x<=y)
def Nh {x:MapEntry} {s:Xaa} (hk:x.key=.string s) (hs:s.size<=maxLen):WideElems.rd Tryz.prog 9 AM x=some (.string s.data.toList,.nil):=by
 unfold WideElems.rd;rw [hk,keyOf_string_mk xw hs] <;> rfl
def dV.owns {W:World} {g:Nat} {D:List (Xaa × Xab)} (m:dV W.heap g D) (hl:D.length<=maxLen) :
  ∃ u:DataW Unit,W.ownsMap Tryz.prog 9 AM g D.length u/\(strKeys u).Perm (D.map fun p=>p.1.data.toList)/\Maps.size u=D.length:=by
 obtain ⟨es,clock,O,F,hs,G⟩:=m;have J:es.size=D.length:=by
  have:=YJ List.length F
  simpa using this
 have d:es.toList.map (WideElems.rg Tryz.prog 9 AM)=D.map fun p=>(Lit.string p.1.data.toList,DataW.nil):=by
  apply ZF;intro i;have h1:(es.toList.map (fun e=>(e.key,e.val)))[i]?=(D.map (fun p=>(Value.string p.1,p.2)))[i]?:=by rw [F]
  simp only [List.getElem?_map] at h1 ⊢;rcases Zn i D.length with hi | hi
  ·rw [Yv hi,Yv (show i<es.toList.length by simp; omega)] at h1 ⊢;simp only [Option.map_some,Option.some.injEq,Prod.mk.injEq] at h1 ⊢;exact WideElems.rg_of (Nh h1.1 (G _ (YD hi)))
  ·rw [Y9 hi,Y9 (show es.toList.length<=i by simp; omega)] <;> rfl
 refine ⟨_,⟨es,clock,O,⟨ad,hs,?_⟩,ad,rfl⟩,?_,?_⟩
 ·intro x hx;obtain ⟨i,hi,rfl⟩:=Y0 hx;have j:i<D.length:=by simp at hi; omega
  have h1:(es.toList.map (fun e=>(e.key,e.val)))[i]?=(D.map (fun p=>(Value.string p.1,p.2)))[i]?:=by rw [F]
  simp only [List.getElem?_map,List.getElem?_eq_getElem j,List.getElem?_eq_getElem hi,Option.map_some,Option.some.injEq,Prod.mk.injEq] at h1;exact ⟨_,Nh h1.1 (G _ (YD j))⟩
 ·show List.Perm (((es.toList.map (WideElems.rg Tryz.prog 9 AM)).foldr DataW.insert []).map fun p=>strOf p.1) _;rw [d];refine ((WideShapes.sorted_perm _).map _).trans ?_;rw [YY];exact List.Perm.refl _
 ·show ((es.toList.map (WideElems.rg Tryz.prog 9 AM)).foldr DataW.insert []).length=D.length;rw [d,length_sorted,Yu]
def World.LG {W:World} {h:Hp} {o:Obj} (d:W.heap=h.push o):({ W with heap:=h }:World).alloc o=W:=by
 cases W;simp only at d;subst d;rfl
def dK.alloc (w:World) (o:Obj):dK w (w.alloc o):=⟨rfl,rfl,rfl⟩
def IV (r:Option Nat) (h:Hp):HC Tryz.prog 93 #[.map r] h fun v h'=>v=.func (.func 117) #[] #[.pointer (some ⟨h.size,0,none⟩)]/\h'=h.push (.cells #[.map r] 183):=by
 intro W d;subst d;exact (callsIn_wide.1 (Tryz.Bm r W)).mono fun e w' ⟨j,hw⟩=>⟨_,j,by rw [hw]; exact dK.alloc _ _,rfl,by rw [hw]; rfl⟩
def SL.TP {W:World} {b:Nat} {e:TypeId} {v:Xab} {xs:List Xab} (r:W.ownsRow b e 1 v xs.length xs):∃ p l c,v=.slice p l c/\SL W.heap b e 1 p l c (xs.map fun x=>[x]):=by
 have d:∀ ys:List Xab,(ys.map fun x=>[x]).flatten=ys:=by
  intro ys
  induction ys with
  | nil=>rfl
  | cons y ys u=>simp [u]
 obtain ⟨h1,h2⟩:=r;rcases h2 with ⟨hv,hn⟩ | ⟨g,cap,jv,hv,F,G,j,hc,hs,J⟩
 ·have:xs=[]:=Zf hn
  subst this;exact ⟨none,0,0,hv,SL.nil _ _ _ _⟩
 ·refine ⟨some ⟨g,0,none⟩,xs.length,cap,hv,aj,aj,g,[],jv.toList.drop xs.length,rfl,F,⟨j,by unfold maxLen at hc; omega⟩,?_,?_⟩
  ·rw [d,ZT]
   have:xs=jv.toList.take xs.length:=by rw [<- J]; simp
   unfold bI;rw [G]
   congr 2
   conv=>lhs; rw [<- Array.toArray_toList (xs:=jv),<- Zc xs.length jv.toList]
   rw [<- this]
  ·rw [Zl,ZE,hs]; omega
def sS {h:Hp} {g:Nat} {D:List (Xaa × Xab)} (m:dV h g D) (hl:D.length<=2^40) :
  HC Tryz.prog 92 #[.func (.func 117) #[] #[.pointer (some ⟨h.size,0,none⟩)]] (h.push (.cells #[.map (some g)] 183)) fun v h'=>∃ p l c,v=.slice p l c/\SL h' (h.size+1) 9 1 p l c ((keysOf D).map fun k=>[encStr k]) /\
   Ext (h.push (.cells #[.map (some g)] 183)) h':=by
 intro W O;obtain ⟨V,hown,u,d⟩:=dV.owns (W:={ W with heap:=h }) m (by unfold maxLen; omega);have hc:=callsIn_wide.1 (Tryz.lV g D.length V AM { W with heap:=h } hown (by rw [d]; unfold maxLen; omega) (by rw [d]; omega));rw [World.LG O] at hc;refine hc.mono fun e w' X=>?_
 obtain ⟨v,ss,Y,Z,j,_,G⟩:=X;have U:ss.mergeSort (fun x y=>decide (x<=y))=keysOf D:=mergeSort_of_perm (Z.trans u);have J:ss.length=((ss.mergeSort (fun x y=>decide (x<=y))).map encStr).length:=by rw [Yu,List.length_mergeSort]
 rw [J,U] at j;obtain ⟨p,l,c,hv,F⟩:=SL.TP j;refine ⟨v,Y,⟨G.os,G.tape,G.output⟩,p,l,c,hv,?_,?_⟩
 ·rw [YY] at F
  have:W.heap.size=h.size+1:=by rw [O]; simp
  rw [this] at F;exact F
 ·rw [<- O];exact ⟨G.size,fun i hi _=>G.block i hi⟩
abbrev dc:=List (Xaa × Nat)
def df (p:Xaa × Nat):List Xab:=[.string p.1,.int .u32 p.2]
def vm (D:dc):List (Xaa × Xab):=D.map fun p=>(p.1,Value.int .u32 p.2)
def dP (D:dc) (s:Xaa):Nat:=((D.find? fun p=>decide (s=p.1)).map (·.2)).getD 0
def uW (D:dc) (s:Xaa) (v:Nat):dc:=if (D.find? fun p=>decide (s=p.1)).isSome then D.map fun p=>if s=p.1 then (p.1,v) else p else D++[(s,v)]
def ja (D:dc) (p:Xaa × Nat):dc:=uW D p.1 ((dP D p.1+p.2) % 4294967296)
def Eh (D:dc):dc:=(keysOf (vm D)).filterMap fun k=>if dP D ⟨k.toArray⟩=0 then none else some (⟨k.toArray⟩,dP D ⟨k.toArray⟩)
def R4 (D:dc) (s:Xaa):(vm D).find? (fun p=>decide (s=p.1))=(D.find? fun p=>decide (s=p.1)).map fun p=>(p.1,Value.int .u32 p.2):=by
 unfold vm
 induction D with
 | nil=>rfl
 | cons p D d =>
  by_cases h:s=p.1
  ·simp [h]
  ·simp only [List.map_cons,List.find?_cons,decide_eq_false h];exact d
def Jo (D:dc) (s:Xaa):look (vm D) s=(D.find? fun p=>decide (s=p.1)).map fun p=>Value.int .u32 p.2:=by
 unfold look;rw [R4,Option.map_map] <;> rfl
def J3 (D:dc) (s:Xaa):(look (vm D) s).getD (.int .u32 0)=.int .u32 (dP D s):=by
 rw [Jo];unfold dP
 all_goals (cases D.find? fun p=>decide (s=p.1) <;> rfl)
def TV (D:dc) (s:Xaa) (v:Nat):iR (vm D) s (.int .u32 v)=vm (uW D s v):=by
 unfold iR uW;rw [Jo];cases h:(D.find? fun p=>decide (s=p.1)) with
 | none=>simp [vm]
 | some q =>
  simp only [Option.map_some,Option.isSome_some,if_true,vm,List.map_map];refine Zm fun p d=>?_
  simp only [Function.comp];split <;> simp_all
def Gu (D:dc) (s:Xaa) (v:Nat):(uW D s v).length<=D.length+1:=by
 unfold uW;split <;> simp
def UF:(Tryz.prog.info? 67).bind (·.zero)=some (.int .u32 0):=az
def xQ:Tryz.prog.underlying 66=some (.slice 117):=az
def rl:(Tryz.prog.info? 117).map (fun i=>(i.zero,i.size,i.bytes))=some (some (.agg #[.string ⟨#[]⟩,.int .u32 0]),2,24):=az
def pN {L:Lp} {K:Xab->Hp->Prop} {h:Hp} {g:Nat} {D:dc} (m:dV h g (vm D)) (s:Xaa) {k:Int->T} (hk:k (dP D s) L K h):T.ek Tryz.prog (Instr.lookup 183 (.map (some g)) (.string s) false) false [(false,[.int .u32])] k L K h:=by
 refine ix Sj xw UF m s false _ ?_;refine ⟨((dP D s:Int),()),?_,hk⟩;simp only [Bool.false_eq_true,if_false];rw [J3] <;> rfl
def Hm {L:Lp} {K:Xab->Hp->Prop} {h:Hp} {g:Nat} {D:dc} (m:dV h g (vm D)) {s:Xaa} (hs:s.size<=maxLen) {v:Int} {n:Nat} (hv:v=(n:Int)) {k:T} (hk:∀ h',dV h' g (vm (uW D s n))->Ch [g] h h'->h'.size=h.size->k L K h') :
  T.ey Tryz.prog (Instr.mapUpdate 183 (.map (some g)) (.string s) (.int .u32 v)) k L K h:=by
 subst hv;refine fm Sj xw m hs _ _ ?_;intro h' m' c' d;rw [TV] at m';exact hk h' m' c' d
def QY {h:Hp} {g:Nat} {D:dc} (m:dV h g (vm D)) (hl:D.length<=2^40) (n:Int) :
  HC Tryz.prog 94 #[.map (some g),.int .u32 n] h fun v h'=>Ext h h'/\∃ p l c,v=.agg #[.slice p l c,.int .u32 n]/\SL h' h.size 117 2 p l c ((Eh D).map df):=by
 refine aY (args:=[.map (some g),.int .u32 n]) mixed Tryz.func94 az (zD (some g) n) ?_;unfold yo bf bg bz aK bJ bt bU aH bq aP;refine br ?_;intro h1 b1 e1 z1;refine br ?_;intro h2 b2 e2 z2;refine aw b2 rfl aj ?_;intro h3 b3 k3 z3;have b3:bI h3 h1.size 69 [.slice none 0 0,.int .u32 n]:=b3;have e3:Ext h h3:=bQ (e1.trans e2) k3;have m3:=m.an e3 aj;have c3:bI h3 h.size 69 [.slice none 0 0,.int .u32 0]:=(b1.an e2 aj).an k3 (by simp; omega);refine aI (IV (some g) h3) ?_;rintro _ h4 ⟨rfl,rfl⟩;refine ⟨(.func (.func 117) #[] #[.pointer (some ⟨h3.size,0,none⟩)],()),rfl,ak ?_⟩;have e4:Ext h3 (h3.push (.cells #[.map (some g)] 183)):=Ext.push _ _;have V:(vm D).length<=2^40:=by unfold vm; rw [Yu]; exact hl
 refine aI (sS m3 V) ?_;rintro _ h5 ⟨pk,lk,ck,rfl,sk,e5⟩;refine ⟨((pk,lk,ck),()),rfl,ak ?_⟩;have d:=e4.trans e5;have G:(keysOf (vm D)).length<=2^40:=by
  unfold keysOf;rw [List.length_mergeSort,Yu];exact V
 have hlk:lk=(keysOf (vm D)).length:=by rw [sk.1,Yu]
 unfold Eh;generalize keysOf (vm D)=ks at sk G hlk ⊢;have b5:=b3.an d aj;have c5:=c3.an d aj;have m5:=m3.an d aj;have X:=e3.trans d;have hz3:=d.size;have hb3:=b3.lt;have hg:=m.lt;refine aS (cs:=[(false,[.int .i64])]) (fun x w h'=>∃ (i:Nat) (p:Xac) (l c:Nat),x.1=(i:Int)/\i<=ks.length/\w=ks.length-i/\Ch [h1.size] h5 h'/\bI h' h1.size 69 [.slice p l c,.int .u32 n] /\
  SL h' h5.size 117 2 p l c (((ks.take i).filterMap fun k=>if dP D ⟨k.toArray⟩=0 then none else some ((⟨k.toArray⟩:Xaa),dP D ⟨k.toArray⟩)).map df)/\l<=i) ((0:Int),()) ks.length rfl
  ⟨0,none,0,0,rfl,ad,ad,Ch.refl _ _,b5,SL.nil _ _ _ _,ad⟩ ?_
 rintro ⟨n8,⟨⟩⟩ w h6 ⟨i,p,l,c,hi,hile,rfl,J,b6,O,hli⟩;simp only at hi;subst hi;refine ak ?_;have m6:=m5.an J (by simp; omega);have hz6:=J.size;have e06:Ext h h6:=bQ X J;refine aM (fun g1=>?_) (fun g1=>?_)
 ·have F:i<ks.length:=ad
  have sk6:=sk.bP J (fun j u=>by have:=(sk.cv u).1; simp; omega);obtain ⟨a,rfl,hc⟩:=sk6.cells (i:=i) (by simpa using F);rw [YE] at hc;have U:ks.take (i+1)=ks.take i++[ks[i]]:=Yw F;generalize ks[i]=k at hc U;refine ax ⟨ad,ad⟩ (av rfl ?_);rw [show Int.toNat (i:Int)=i from ad];refine ay ((⟨k.toArray⟩:Xaa),()) hc (ak ?_);have hw:=gu i;refine pN m6 _ (ar (fun g2=>?_) (fun g2=>?_))
  ·have g2:((dP D ⟨k.toArray⟩:Nat):Int)≠0:=by simpa using g2
   refine af b6 ((p,l,c),()) rfl (ak ?_);refine pN m6 _ ?_;refine mV (vs:=df (⟨k.toArray⟩,dP D ⟨k.toArray⟩)) xQ rl rfl ad ad az rfl rfl O hz6 ad ad ?_;intro p' c' h7 s7 Y hp7;have Z:=b6.an Y (fun hh=>by have:=(O.cv hh).1; omega);refine aw Z rfl aj ?_;intro h8 b8 k8 z8;refine aG (cs:=[(false,[.int .i64])]) (((i+1:Nat):Int),()) (ks.length-(i+1)) rfl ad (YJ (fun z=>[Value.int .i64 z]) hw) ⟨i+1,p',l+1,c',rfl,ad,rfl,?_,b8,?_,ad⟩
   ·exact Ch.trans (Ch.trans J Y (fun j u hl=>by have:=(O.cv u).1; omega)) k8 (fun j u _=>u)
   ·rw [U,Z5,YH];have hf:([k].filterMap fun k=>if dP D ⟨k.toArray⟩=0 then none else some ((⟨k.toArray⟩:Xaa),dP D ⟨k.toArray⟩))=[((⟨k.toArray⟩:Xaa),dP D ⟨k.toArray⟩)]:=by
     simp only [List.filterMap_cons,List.filterMap_nil];rw [Yx ad]
    rw [hf];exact s7.bP k8 (fun j u=>by have:=(s7.cv u).1; simp; omega)
  ·have g2:((dP D ⟨k.toArray⟩:Nat):Int)=0:=by simpa using g2
   refine aG (cs:=[(false,[.int .i64])]) (((i+1:Nat):Int),()) (ks.length-(i+1)) rfl ad (YJ (fun z=>[Value.int .i64 z]) hw) ⟨i+1,p,l,c,rfl,ad,rfl,J,b6,?_,ad⟩;rw [U,Z5];have hf:([k].filterMap fun k=>if dP D ⟨k.toArray⟩=0 then none else some ((⟨k.toArray⟩:Xaa),dP D ⟨k.toArray⟩))=[]:=by
    simp only [List.filterMap_cons,List.filterMap_nil];rw [YC ad]
   rw [hf,Zs];exact O
 ·have hi:i=ks.length:=ad
  subst hi;rw [Y4] at O;have c6:=c5.an J (by simp; omega);refine af b6 ((p,l,c),n,()) rfl (ak ?_);refine aw c6 rfl aj ?_;intro h7 Z Y z7;have Z:bI h7 h.size 69 [.slice p l c,.int .u32 n]:=Z;refine af Z ((p,l,c),n,()) rfl ?_;have hz5:=X.size;exact ⟨bQ e06 Y,p,l,c,rfl,(O.bP Y (fun j u=>by have:=(O.cv u).1; simp; omega)).mono ad⟩
structure gW (h:Hp) (p:Xac) (l:Nat) (us:dc):Prop where
 len:l=us.length
 cells:∀ i,(hi:i<us.length)->∃ a,p=some a/\aJ h (a.add (i*2)) 0 (df us[i])
def gW.an {ws:List Nat} {h h':Hp} {p:Xac} {l:Nat} {us:dc} (v:gW h p l us) (k:Ch ws h h') (hw:∀ i,i∈aR p->i∉ws):gW h' p l us :=
 ⟨v.len,fun i hi=>by
  obtain ⟨a,d,hc⟩:=v.cells i hi;exact ⟨a,d,aT k (by rw [ic]; exact hw _ (by rw [d]; simp [aR])) _ _ hc⟩⟩
def SL.Sg {h:Hp} {b:Nat} {e:TypeId} {p:Xac} {l c:Nat} {us:dc} (s:SL h b e 2 p l c (us.map df)):gW h p l us:=by
 refine ⟨by rw [s.1,Yu],fun i hi=>?_⟩;obtain ⟨a,d,hc⟩:=s.cells (i:=i) (by simpa using hi);rw [YE] at hc;exact ⟨a,d,hc⟩
structure cn where
 ai:dc
 num:Nat
def iI (p:Xac) (l c:Nat) (x:cn):Xab:=.agg #[.slice p l c,.int .u32 x.num]
def D9 (l:dc):dc:=Eh (l.foldl ja [])
def mF (x y:cn):cn:=⟨D9 (x.ai++y.ai),(x.num+y.num) % 4294967296⟩
def dT (x:Int):IntKind.wrap .u32 x=x % 4294967296:=by
 simp only [IntKind.wrap] <;> rfl
def iH (a:Nat):((a % 4294967296:Nat):Int)=(a:Int) % 4294967296:=Int.natCast_emod a 4294967296
def hY (a b:Xaa):Prop:=a.data.toList<b.data.toList
instance (a b:Xaa):Decidable (hY a b):=inferInstanceAs (Decidable (a.data.toList<b.data.toList))
def AU (a:Xaa):¬ hY a a:=List.lt_irrefl (α:=UInt8) _
def jF {a b c:Xaa} (h:hY a b) (k:hY b c):hY a c:=List.lt_trans (α:=UInt8) h k
def vB {a b:Xaa} (h:a.data.toList=b.data.toList):a=b:=by
 cases a; cases b;simp only at h;rw [Zg.1 h]
def zf (a b:Xaa) (h:¬ hY a b) (k:¬ hY b a):a=b :=
 vB (List.le_antisymm (α:=UInt8) (List.not_lt.1 k) (List.not_lt.1 h))
def kD {a b:Xaa} (h:hY a b):a≠b:=fun e=>by subst e; exact AU _ h
def Cj {a b:Xaa} (h:hY a b):¬ hY b a:=fun k=>AU _ (jF h k)
structure Nf (l:dc):Prop where
 Tu:l.Pairwise fun p q=>hY p.1 q.1
 FJ:∀ p,p∈l->p.2≠0/\p.2<4294967296
def cf:dc->Xaa->Nat
 | [],_=>0
 | p::l,s=>(if p.1=s then p.2 else 0)+cf l s
def zJ (s:Xaa):cf [] s=0:=rfl
def eP (p:Xaa × Nat) (l:dc) (s:Xaa):cf (p::l) s=(if p.1=s then p.2 else 0)+cf l s:=rfl
def Nf.tail {p:Xaa × Nat} {l:dc} (h:Nf (p::l)):Nf l:=⟨(ZR.1 h.1).2,fun q d=>h.2 q (YM _ d)⟩
def Nf.head {p:Xaa × Nat} {l:dc} (h:Nf (p::l)):∀ q,q∈l->hY p.1 q.1:=(ZR.1 h.1).1
def Nf.nil:Nf []:=⟨List.Pairwise.nil,aj⟩
def y6 {l:dc} {s:Xaa} (h:∀ p,p∈l->p.1≠s):cf l s=0:=by
 induction l with
 | nil=>rfl
 | cons p l d =>
  rw [eP,Yx (h p (Z7 ..)),d fun q j=>h q (YM _ j)]
def Kh (l m:dc) (s:Xaa):cf (l++m) s=cf l s+cf m s:=by
 induction l with
 | nil=>simp [cf]
 | cons p l d=>simp only [List.cons_append,cf,d]; omega
def Nf.nl {p:Xaa × Nat} {l:dc} (h:Nf (p::l)):cf (p::l) p.1=p.2:=by
 rw [eP,YC rfl,y6 fun q d=>(kD (h.head q d)).symm] <;> rfl
def Nf.DB {l:dc} {s:Xaa} (h:∀ p,p∈l->hY s p.1):cf l s=0:=y6 fun p d=>(kD (h p d)).symm
theorem Nf.Rl:∀ {l m:dc},Nf l->Nf m->(∀ s,cf l s % 4294967296=cf m s % 4294967296)->l=m
 | [],[],_,_,_=>rfl
 | [],q::m,_,hm,h=>by
  have:=h q.1
  rw [hm.nl] at this;have u:=hm.FJ q (Z7 ..);simp only [cf] at this;omega
 | p::l,[],hl,_,h=>by
  have:=h p.1
  rw [hl.nl] at this;have u:=hl.FJ p (Z7 ..);simp only [cf] at this;omega
 | p::l,q::m,hl,hm,h=>by
  have J:=hl.FJ p (Z7 ..);have u:=hm.FJ q (Z7 ..)
  by_cases h1:hY p.1 q.1
  ·exfalso
   have:=h p.1
   rw [hl.nl,Nf.DB (l:=q::m) (s:=p.1) (by
    intro r j;rcases YS.1 j with rfl | j
    ·exact h1
    ·exact jF h1 (hm.head r j))] at this
   omega
  ·by_cases h2:hY q.1 p.1
   ·exfalso
    have:=h q.1
    rw [hm.nl,Nf.DB (l:=p::l) (s:=q.1) (by
     intro r j;rcases YS.1 j with rfl | j
     ·exact h2
     ·exact jF h2 (hl.head r j))] at this
    omega
   ·have F:=zf _ _ h1 h2;have h3:=h p.1;rw [hl.nl,F,hm.nl] at h3;have G:p=q:=by
     obtain ⟨a,b⟩:=p;obtain ⟨c,d⟩:=q;simp only at F h3 J u;subst F
     congr 1
     rw [af9 J.2,af9 u.2] at h3;exact h3
    subst G
    congr 1
    refine Nf.Rl hl.tail hm.tail fun s=>?_
    by_cases hs:p.1=s
    ·subst hs;rw [Nf.DB hl.head,Nf.DB hm.head]
    ·have:=h s
     simp only [cf,if_neg hs,Nat.zero_add] at this;exact this
def qU (s:Xaa):dP [] s=0:=rfl
def oV (p:Xaa × Nat) (D:dc) (s:Xaa):dP (p::D) s=if s=p.1 then p.2 else dP D s:=by
 unfold dP;rw [az9]
 by_cases h:s=p.1
 ·simp [h]
 ·simp [h]
def Fv (D:dc) (s t:Xaa) (v:Nat):dP (D++[(t,v)]) s=if (D.find? fun p=>decide (s=p.1)).isSome then dP D s else if s=t then v else 0:=by
 induction D with
 | nil=>simp [oV,qU]
 | cons p D d =>
  rw [ae9,oV,oV,d,az9]
  by_cases h:s=p.1
  ·simp [h]
  ·simp only [decide_eq_false h,if_neg h]
def Cf {D:dc} {s:Xaa} (h:(D.find? fun p=>decide (s=p.1)).isSome=false):dP D s=0:=by
 unfold dP;cases d:(D.find? fun p=>decide (s=p.1)) with
 | none=>rfl
 | some x=>rw [d] at h; cases h
def LL (D:dc) (t:Xaa) (v:Nat) (s:Xaa):dP (D.map fun p=>if t=p.1 then (p.1,v) else p) s=if s=t/\(D.find? fun p=>decide (t=p.1)).isSome then v else dP D s:=by
 induction D with
 | nil=>simp [qU]
 | cons p D d =>
  rw [Zb,oV,d,oV,az9]
  by_cases h:t=p.1
  ·subst h
   by_cases k:s=p.1 <;> simp [k]
  ·rw [Yx h]
   by_cases k:s=p.1
   ·subst k
    have:¬ p.1=t:=fun e=>h e.symm
    simp [this]
   ·simp only [decide_eq_false h,if_neg k]
def Cy (D:dc) (t:Xaa) (v:Nat) (s:Xaa):dP (uW D t v) s=if s=t then v else dP D s:=by
 unfold uW;split
 ·rename_i d;rw [LL]
  by_cases k:s=t <;> simp [k,d]
 ·rename_i d;rw [Fv]
  by_cases k:s=t
  ·subst k;simp [d]
  ·rw [Yx k];split
   ·rfl
   ·rename_i h2;rw [Cf (Bool.eq_false_iff.2 h2)]
def Hj (l:dc) (s:Xaa):∀ D:dc,dP (l.foldl ja D) s % 4294967296=(dP D s+cf l s) % 4294967296:=by
 induction l with
 | nil=>intro D; simp [cf]
 | cons p l d =>
  intro D;rw [Y6,d];unfold ja;rw [eP,Cy]
  by_cases h:s=p.1
  ·subst h;rw [YC rfl,YC rfl,Nat.mod_add_mod]
   congr 1; omega
  ·rw [Yx h,Yx fun e=>h e.symm]
   congr 1; omega
def Hu {D:dc} (h:(D.map (·.1)).Nodup) (t:Xaa) (v:Nat):((uW D t v).map (·.1)).Nodup:=by
 unfold uW;have h1:(D.find? fun p=>decide (t=p.1)).isSome=true↔t∈D.map (·.1):=by
  rw [List.find?_isSome];simp [eq_comm]
 split
 ·have e:(D.map fun p=>if t=p.1 then (p.1,v) else p).map (·.1)=D.map (·.1):=by
   rw [YY];refine Zm fun p u=>?_
   simp only [Function.comp];split <;> rfl
  rw [e]; exact h
 ·rename_i hn;rw [YH,Zr];refine ⟨h,aj,?_⟩;rintro a j b d rfl;simp only [List.map_cons,List.map_nil,List.mem_singleton] at d;subst d;exact hn (h1.2 j)
def zO (l:dc):∀ D:dc,(D.map (·.1)).Nodup->((l.foldl ja D).map (·.1)).Nodup:=by
 induction l with
 | nil=>intro D h; exact h
 | cons p l d =>
  intro D h;rw [Y6];exact d _ (Hu h _ _)
def IQ (l:dc):∀ D:dc,(∀ s,dP D s<4294967296)->∀ s,dP (l.foldl ja D) s<4294967296:=by
 induction l with
 | nil=>intro D h; exact h
 | cons p l d =>
  intro D h;rw [Y6];refine d _ fun s=>?_
  unfold ja;rw [Cy];split
  ·exact bs9 _ cm
  ·exact h s
def Pg {D:dc} {s:Xaa} (h:s∉D.map (·.1)):dP D s=0:=by
 refine Cf ?_;cases d:(D.find? fun p=>decide (s=p.1)).isSome with
 | false=>rfl
 | true =>
  rw [List.find?_isSome] at d;obtain ⟨x,hx,hs⟩:=d;exact absurd (YF.2 ⟨x,hx,(Yz hs).symm⟩) h
def pick (g:Xaa->Nat) (ks:List (List UInt8)):dc:=ks.filterMap fun k=>if g ⟨k.toArray⟩=0 then none else some (⟨k.toArray⟩,g ⟨k.toArray⟩)
def RY (g:Xaa->Nat) (s:Xaa):∀ ks:List (List UInt8),ks.Nodup->cf (pick g ks) s=if s.data.toList∈ks then g s else 0:=by
 intro ks
 induction ks with
 | nil=>intro _; simp [pick,cf]
 | cons k ks j =>
  intro h;rw [Z4] at h;have j:=j h.2;unfold pick at j ⊢;rw [ap9];have e1:(⟨k.toArray⟩:Xaa)=s↔s.data.toList=k:=by
   constructor
   ·rintro rfl; simp
   ·intro e; exact vB (by simp [e])
  by_cases hk:s.data.toList=k
  ·have hs:=e1.2 hk;rw [hs];split
   ·rename_i d;split at d
    ·rename_i h0;rw [j,h0]
     simp
    ·cases d
   ·rename_i d;split at d
    ·cases d
    ·cases d;rw [eP,j,YC rfl,Yx (by rw [hk]; exact h.1),YC (by rw [hk]; simp)] <;> rfl
  ·have hs:¬ (⟨k.toArray⟩:Xaa)=s:=fun e=>hk (e1.1 e)
   split
   ·rw [j];simp [hk]
   ·rename_i d;split at d
    ·cases d
    ·cases d;rw [eP,j,Yx hs];simp [hk]
def RQ (g:Xaa->Nat) (F:∀ s,g s<4294967296) {ks:List (List UInt8)} (h:ks.Pairwise fun a b=>a<b):Nf (pick g ks):=by
 refine ⟨?_,?_⟩
 ·unfold pick;refine List.Pairwise.filterMap _ ?_ h;intro a b j p d q u;split at d
  ·cases d
  ·split at u
   ·cases u
   ·cases d; cases u;unfold hY;simpa using j
 ·intro p d;unfold pick at d;rw [ZQ] at d;obtain ⟨k,_,hk⟩:=d;split at hk
  ·cases hk
  ·rename_i h0;cases hk;exact ⟨h0,F _⟩
def xZ (D:dc):(keysOf (vm D)).Perm (D.map fun p=>p.1.data.toList):=by
 unfold keysOf vm;rw [YY];exact List.mergeSort_perm _ _
def tF {D:dc} (h:(D.map (·.1)).Nodup):(keysOf (vm D)).Pairwise fun a b=>a<b:=by
 have hn:(keysOf (vm D)).Nodup:=by
  refine (xZ D).nodup_iff.2 ?_
  have:(D.map fun p=>p.1.data.toList)=(D.map (·.1)).map fun s=>s.data.toList:=by rw [YY]; rfl
  rw [this];exact Zw.2 (h.imp fun j e=>j (vB e))
 have hs:(keysOf (vm D)).Pairwise fun a b=>a<=b:=by
  unfold keysOf;refine (List.pairwise_mergeSort ?_ ?_ _).imp ?_
  ·intro a b c h1 h2;exact YA (List.le_trans (α:=UInt8) (Yz h1) (Yz h2))
  ·intro a b;simp only [Bool.or_eq_true,decide_eq_true_eq];exact List.le_total (α:=UInt8) a b
  ·intro a b u;exact Yz u
 refine (hs.and hn).imp ?_;rintro a b ⟨h1,h2⟩
 by_cases d:a<b
 ·exact d
 ·exact absurd (List.le_antisymm (α:=UInt8) h1 (List.not_lt.1 d)) h2
def Gk (l:dc):D9 l=pick (dP (l.foldl ja [])) (keysOf (vm (l.foldl ja []))):=rfl
def Ag (l:dc):Nf (D9 l):=by
 rw [Gk];exact RQ _ (IQ l [] (fun s=>by rw [qU]; decide)) (tF (zO l [] aj))
def AW (l:dc) (s:Xaa):cf (D9 l) s=cf l s % 4294967296:=by
 have h1:=Hj l s [];rw [qU,Y7,af9 (IQ l [] (fun s=>by rw [qU]; decide) s)] at h1;rw [Gk,RY _ _ _ ((tF (zO l [] aj)).imp fun h e=>by subst e; exact List.lt_irrefl (α:=UInt8) _ h)];split
 ·exact h1
 ·rename_i hn;rw [<- h1,Pg];intro hm;refine hn ((xZ _).mem_iff.2 ?_);obtain ⟨p,d,rfl⟩:=YF.1 hm;exact YF.2 ⟨p,d,rfl⟩
def fl (n:Nat) (l:dc):dc:=l.filterMap fun p=>if p.2*n % 4294967296=0 then none else some (p.1,p.2*n % 4294967296)
def fo:Nat->dc->dc->dc
 | 0,_,_=>[]
 | n+1,x,y=>match x,y with
  | [],[]=>[]
  | p::x,[]=>p::fo n x []
  | [],q::y=>q::fo n [] y
  | p::x,q::y=>if hY p.1 q.1 then p::fo n x (q::y) else if hY q.1 p.1 then q::fo n (p::x) y else if (p.2+q.2) % 4294967296=0 then fo n x y else (p.1,(p.2+q.2) % 4294967296)::fo n x y
def Kp (x y:dc):dc:=fo (x.length+y.length) x y
def JK {n:Nat} {l:dc} (h:Nf l):Nf (fl n l):=by
 refine ⟨?_,?_⟩
 ·unfold fl;refine List.Pairwise.filterMap _ ?_ h.1;intro a b j p d q u;split at d
  ·cases d
  ·split at u
   ·cases u
   ·cases d; cases u;exact j
 ·intro p d;unfold fl at d;rw [ZQ] at d;obtain ⟨k,_,hk⟩:=d;split at hk
  ·cases hk
  ·rename_i h0;cases hk;exact ⟨h0,bs9 _ cm⟩
def KN (n:Nat) (l:dc) (s:Xaa):cf (fl n l) s % 4294967296=cf l s*n % 4294967296:=by
 induction l with
 | nil=>simp [fl,cf]
 | cons p l j =>
  have hc:cf (fl n (p::l)) s=(if p.1=s then p.2*n % 4294967296 else 0)+cf (fl n l) s:=by
   unfold fl;rw [ap9];split
   ·rename_i d;split at d
    ·rename_i h0;rw [h0]; simp
    ·cases d
   ·rename_i d;split at d
    ·cases d
    ·cases d;rfl
  rw [hc,Z8,j,eP]
  by_cases h:p.1=s
  ·rw [YC h,YC h,ZA,bv9,<- Z8]
  ·rw [Yx h,Yx h,Y7]; simp
def qV {n:Nat} {x y:dc} {r:Xaa × Nat} (h:r∈fo n x y):(∃ p,p∈x/\p.1=r.1)\/(∃ q,q∈y/\q.1=r.1):=by
 induction n generalizing x y with
 | zero=>simp [fo] at h
 | succ n j =>
  rcases x with _ | ⟨p,x⟩ <;> rcases y with _ | ⟨q,y⟩
  ·simp [fo] at h
  ·simp only [fo,List.mem_cons] at h;rcases h with rfl | h
   ·exact .inr ⟨_,aj,rfl⟩
   ·rcases j h with ⟨a,d,e⟩ | ⟨a,d,e⟩
    ·simp at d
    ·exact .inr ⟨a,by simp [d],e⟩
  ·simp only [fo,List.mem_cons] at h;rcases h with rfl | h
   ·exact .inl ⟨_,aj,rfl⟩
   ·rcases j h with ⟨a,d,e⟩ | ⟨a,d,e⟩
    ·exact .inl ⟨a,by simp [d],e⟩
    ·simp at d
  ·simp only [fo] at h;split at h
   ·rcases YS.1 h with rfl | h
    ·exact .inl ⟨_,aj,rfl⟩
    ·rcases j h with ⟨a,d,e⟩ | ⟨a,d,e⟩
     ·exact .inl ⟨a,by simp [d],e⟩
     ·exact .inr ⟨a,d,e⟩
   ·split at h
    ·rcases YS.1 h with rfl | h
     ·exact .inr ⟨_,aj,rfl⟩
     ·rcases j h with ⟨a,d,e⟩ | ⟨a,d,e⟩
      ·exact .inl ⟨a,d,e⟩
      ·exact .inr ⟨a,by simp [d],e⟩
    ·split at h
     ·rcases j h with ⟨a,d,e⟩ | ⟨a,d,e⟩
      ·exact .inl ⟨a,by simp [d],e⟩
      ·exact .inr ⟨a,by simp [d],e⟩
     ·rcases YS.1 h with rfl | h
      ·exact .inl ⟨p,aj,rfl⟩
      ·rcases j h with ⟨a,d,e⟩ | ⟨a,d,e⟩
       ·exact .inl ⟨a,by simp [d],e⟩
       ·exact .inr ⟨a,by simp [d],e⟩
def Nf.cons {p:Xaa × Nat} {l:dc} (h:Nf l) (hc:p.2≠0/\p.2<4294967296) (hl:∀ q,q∈l->hY p.1 q.1):Nf (p::l) :=
 ⟨ZR.2 ⟨hl,h.1⟩,fun q d=>by rcases YS.1 d with rfl | d; exact hc; exact h.2 q d⟩
def Rr {n:Nat} {x y:dc} (hx:Nf x) (j:Nf y):Nf (fo n x y):=by
 induction n generalizing x y with
 | zero=>exact Nf.nil
 | succ n F =>
  rcases x with _ | ⟨p,x⟩ <;> rcases y with _ | ⟨q,y⟩
  ·exact Nf.nil
  ·simp only [fo];refine (F Nf.nil j.tail).cons (j.2 q aj) fun r u=>?_
   rcases qV u with ⟨a,d,e⟩ | ⟨a,d,e⟩
   ·simp at d
   ·rw [<- e]; exact j.head a d
  ·simp only [fo];refine (F hx.tail Nf.nil).cons (hx.2 p aj) fun r u=>?_
   rcases qV u with ⟨a,d,e⟩ | ⟨a,d,e⟩
   ·rw [<- e]; exact hx.head a d
   ·simp at d
  ·simp only [fo];split
   ·rename_i h1;refine (F hx.tail j).cons (hx.2 p aj) fun r u=>?_
    rcases qV u with ⟨a,d,e⟩ | ⟨a,d,e⟩
    ·rw [<- e]; exact hx.head a d
    ·rw [<- e];rcases YS.1 d with rfl | d
     ·exact h1
     ·exact jF h1 (j.head a d)
   ·rename_i h1;split
    ·rename_i h2;refine (F hx j.tail).cons (j.2 q aj) fun r u=>?_
     rcases qV u with ⟨a,d,e⟩ | ⟨a,d,e⟩
     ·rw [<- e];rcases YS.1 d with rfl | d
      ·exact h2
      ·exact jF h2 (hx.head a d)
     ·rw [<- e]; exact j.head a d
    ·rename_i h2;have G:=zf _ _ h1 h2;split
     ·exact F hx.tail j.tail
     ·rename_i h0;refine (F hx.tail j.tail).cons ⟨h0,bs9 _ cm⟩ fun r u=>?_
      rcases qV u with ⟨a,d,e⟩ | ⟨a,d,e⟩
      ·rw [<- e]; exact hx.head a d
      ·rw [<- e];show hY p.1 a.1;rw [G]; exact j.head a d
def QM {n:Nat} {x y:dc} (hn:x.length+y.length<=n) (s:Xaa):cf (fo n x y) s % 4294967296=(cf x s+cf y s) % 4294967296:=by
 induction n generalizing x y with
 | zero =>
  have h1:x=[]:=ZZ.1 ad;have h2:y=[]:=ZZ.1 ad;subst h1 h2;rfl
 | succ n d =>
  rcases x with _ | ⟨p,x⟩ <;> rcases y with _ | ⟨q,y⟩
  ·rfl
  ·simp only [fo,eP,zJ]
   have:=d (x:=[]) (y:=y) (by simp at hn ⊢; omega)
   simp only [zJ] at this;omega
  ·simp only [fo,eP,zJ]
   have:=d (x:=x) (y:=[]) (by simp at hn ⊢; omega)
   simp only [zJ] at this;omega
  ·simp only [List.length_cons] at hn;simp only [fo];split
   ·have:=d (x:=x) (y:=q::y) (by simp; omega)
    simp only [eP] at this ⊢;omega
   ·rename_i h1;split
    ·have:=d (x:=p::x) (y:=y) (by simp; omega)
     simp only [eP] at this ⊢;omega
    ·rename_i h2;have j:=zf _ _ h1 h2
     have:=d (x:=x) (y:=y) ad
     split
     ·rename_i h0;simp only [eP,<- j];split
      ·omega
      ·omega
     ·simp only [eP,<- j];split
      ·omega
      ·omega
def RF {x y:dc} (hx:Nf x) (d:Nf y):Nf (Kp x y):=Rr hx d
def Rw (x y:dc) (s:Xaa):cf (Kp x y) s % 4294967296=(cf x s+cf y s) % 4294967296:=QM (YI _) s
def DD (n:Nat) (l:dc) (s:Xaa):cf (l.map fun p=>(p.1,p.2*n % 4294967296)) s % 4294967296=cf l s*n % 4294967296:=by
 induction l with
 | nil=>simp [cf]
 | cons p l d =>
  simp only [List.map_cons,cf];rw [Z8,d]
  by_cases h:p.1=s
  ·rw [YC h,YC h,ZA,bv9,<- Z8]
  ·rw [Yx h,Yx h,Y7]; simp
def CW (x:cn) (n:Nat):cn:=⟨fl n x.ai,x.num*n % 4294967296⟩
def xI (x y:cn):cn:=⟨Kp x.ai y.ai,(x.num+y.num) % 4294967296⟩
def Bq (n:Nat) (l:dc):(fl n l).length<=l.length:=List.length_filterMap_le _ _
def VC (r:Option Nat) (p:Xac) (l lv:Nat) (k:T):T :=
 T.loop [aP] [.int .i64 (0:Int)] <| fun (d:Int) =>
 bz d l
  (T.need (dU d l) <|
  T.bi p <| fun (u:Xax) =>
  T.ah (u.add (aK d 2)) [.string,.int .u32] <| fun (F:Xaa) (G:Int) =>
  T.new [bX,aH (0:Int)] 117 <| fun (a24:Xax) =>
  T.aC a24 [.string F,aH G] <|
  T.ah a24 [.string] <| fun (j:Xaa) =>
  bU (Instr.lookup 183 (.map r) (.string j) false) false [(false,[.int .u32])] <| fun (J:Int) =>
  T.ah (a24.add 1) [.int .u32] <| fun (O:Int) =>
  T.ey Tryz.prog (Instr.mapUpdate 183 (.map r) (.string j) (aH (IntKind.wrap .u32 (J+O)))) <|
  T.again lv [.int .i64 (bm (d+(1:Int)))]) k
def vh (l:dc):∀ D:dc,(l.foldl ja D).length<=D.length+l.length:=by
 induction l with
 | nil=>intro D; simp
 | cons p l d =>
  intro D;rw [Y6];have h1:=d (ja D p);have h2:=Gu D p.1 ((dP D p.1+p.2) % 4294967296);have h3:(ja D p).length<=D.length+1:=h2;simp only [List.length_cons];omega
def Jw {L:Lp} {K:Xab->Hp->Prop} {h:Hp} {g:Nat} {p:Xac} {l:Nat} {us D:dc} {k:T} {lv:Nat} (U:L.length=lv) (v:gW h p l us) (hl:us.length<=2^40) (hs:∀ t,t∈us->t.1.size<=maxLen) (m:dV h g (vm D)) (hg:g∉aR p)
  (hk:∀ J h',dV h' g (vm (us.foldl ja D))->Ch [g] h h'->k (L++[J]) K h'):VC (some g) p l lv k L K h:=by
 have hll:=v.len;have hL:∀ J:List Xab->Hp->Prop,(L++[J])[lv]?=some J:=by intro J; subst U; simp
 unfold VC bz aK bU bm dU aH bX aP;refine aS (cs:=[(false,[.int .i64])]) (fun y w h'=>∃ (i:Nat),y.1=(i:Int)/\i<=us.length/\w=us.length-i/\Ch [g] h h'/\dV h' g (vm ((us.take i).foldl ja D))) ((0:Int),()) us.length rfl
  ⟨0,rfl,ad,ad,Ch.refl _ _,by simpa using m⟩ ?_
 rintro ⟨n8,⟨⟩⟩ w h4 ⟨i,hi,hile,rfl,V,X⟩;simp only at hi;subst hi;refine ak ?_;refine aM (fun g1=>?_) (fun g1=>?_)
 ·have d:i<us.length:=ad
  obtain ⟨a,rfl,hc⟩:=(v.an V (by intro j Y hm; rw [YP] at hm; subst hm; exact hg Y)).cells i d;have u:us.take (i+1)=us.take i++[us[i]]:=Yw d;have F:=hs us[i] (YD d);generalize us[i]=t at hc u F;refine ax ⟨ad,ad⟩ (av rfl ?_);rw [show Int.toNat (i:Int)=i from ad];refine ay (t.1,(t.2:Int),()) hc (ak ?_);refine br ?_;intro h5 b5 e5 z5;refine aw b5 rfl aj ?_;intro h6 O k6 z6;have O:bI h6 h4.size 117 (df t):=O;have G:Ext h4 h6:=bQ e5 k6;have Z:=X.an G aj;refine af O (t.1,()) rfl (ak ?_);refine pN Z _ ?_;rw [aE];refine af O ((t.2:Int),()) rfl (ak ?_);generalize hDD:(us.take i).foldl ja D=D' at Z;refine Hm (n:=(dP D' t.1+t.2) % 4294967296) Z F ?_ ?_
  ·rw [dT,iH,bb9]
  ·intro h7 m7 k7 z7;have hw:=gu i;have hf:(us.take (i+1)).foldl ja D=uW D' t.1 ((dP D' t.1+t.2) % 4294967296):=by
    rw [u,Zk,hDD] <;> rfl
   refine aG (cs:=[(false,[.int .i64])]) (((i+1:Nat):Int),()) (us.length-(i+1)) (hL _) ad (YJ (fun z=>[Value.int .i64 z]) hw) ⟨i+1,rfl,ad,rfl,?_,by rw [hf]; exact m7⟩;exact Ch.trans (Ch.trans V G aj) k7 (fun j Y _=>Y)
 ·have hi:i=us.length:=ad
  subst hi;rw [Y4] at X;exact hk _ _ X V
def gW.U4 {h:Hp} {p:Xac} {l:Nat} {us:dc} (v:gW h p l us) (hn:us≠[]):∀ i,i∈aR p->i<h.size:=by
 intro i hi;cases us with
 | nil=>exact absurd rfl hn
 | cons t us =>
  obtain ⟨a,rfl,hc⟩:=v.cells 0 aj;simp only [aR,List.mem_singleton] at hi;subst hi;rw [show a.add (0*2)=a by simp [Addr.add]] at hc;have h1:=hc.1;unfold iD at h1;split at h1
  ·rename_i d
   have:=fc d
   simpa [ic] using this
  ·cases h1
def VV:Tryz.prog.underlying 188=some (.slice 66):=az
def We:(Tryz.prog.info? 66).map (fun i=>(i.zero,i.size,i.bytes))=some (some (.slice none 0 0),1,24):=az
def TM {h:Hp} {p q:Xac} {l c m d:Nat} {x y:cn} (v:gW h p l x.ai) (u:gW h q m y.ai) (hp:∀ i,i∈aR p->i<h.size) (hq:∀ i,i∈aR q->i<h.size)
  (hl:x.ai.length+y.ai.length<=2^40) (hx:∀ t,t∈x.ai->t.1.size<=maxLen) (hy:∀ t,t∈y.ai->t.1.size<=maxLen) :
  HC Tryz.prog 67 #[iI p l c x,iI q m d y] h fun w h'=>Ext h h'/\∃ p' l' c',w=iI p' l' c' (mF x y)/\SL h' h.size 117 2 p' l' c' ((mF x y).ai.map df):=by
 refine aY (args:=[.agg #[.slice p l c,.int .u32 x.num],.agg #[.slice q m d,.int .u32 y.num]]) mixed Tryz.func67 az (Bl p l c x.num q m d y.num) ?_;unfold Aw bf bg bz aK bJ bt bU aH bq bX aP;refine br ?_;intro h1 b1 e1 z1;refine br ?_;intro h2 G e2 z2;refine br ?_;intro h3 O e3 z3;refine jM _ ?_;intro h4 m4 Z z4;refine ⟨(some h3.size,()),rfl,ak ?_⟩;have b1:=((b1.an e2 aj).an e3 aj).an Z aj;have G:=(G.an e3 aj).an Z aj;have O:=O.an Z aj;have e04:=((e1.trans e2).trans e3).trans Z;refine af b1 ((p,l,c),()) rfl (ak ?_);refine af G ((q,m,d),()) rfl (ak ?_);refine jC (cells:=[.slice p l c,.slice q m d]) VV We cm cm az ?_;intro h5 b5 V z5;have m5:dV h5 h3.size (vm []):=m4.an V aj;have b1:=b1.an V aj;have G:=G.an V aj;have O:=O.an V aj;have e05:=e04.trans V;have hb5:=b5.lt;have hm4:=m4.lt;refine aS (cs:=[(false,[.int .i64])]) (fun z w h'=>∃ (i:Nat),z.1=(i:Int)/\i<=2/\w=2-i/\Ch [h3.size] h5 h'/\dV h' h3.size (vm ((([x.ai,y.ai].take i).flatten).foldl ja []))) ((0:Int),()) 2 rfl
  ⟨0,rfl,ad,ad,Ch.refl _ _,m5⟩ ?_
 rintro ⟨n8,⟨⟩⟩ w h6 ⟨i,hi,hile,rfl,U,X⟩;simp only at hi;subst hi;refine ak ?_;have b6:=b5.an U (by simp; omega);have F:Ext h h6:=bQ e05 U;refine aM (fun g1=>?_) (fun g1=>?_)
 ·refine ax ⟨ad,ad⟩ (av rfl ?_);rw [show Int.toNat (i:Int)=i from ad,aE];have hw:=gu i;have hi2:i=0\/i=1:=ad
  rcases hi2 with rfl | rfl
  ·refine af b6 ((p,l,c),()) rfl (ak ?_);refine Jw (us:=x.ai) (D:=[]) rfl (v.an F aj) ad hx X (fun hh=>by have:=hp _ hh; omega) ?_;intro J h7 m7 k7;refine aG (cs:=[(false,[.int .i64])]) (((0+1:Nat):Int),()) (2-(0+1)) rfl ad (YJ (fun z=>[Value.int .i64 z]) hw) ⟨0+1,rfl,ad,rfl,Ch.trans U k7 (fun j Y _=>Y),?_⟩;simpa using m7
  ·refine af b6 ((q,m,d),()) rfl (ak ?_);refine Jw (us:=y.ai) (D:=x.ai.foldl ja []) rfl (u.an F aj) ad hy (by simpa using X) (fun hh=>by have:=hq _ hh; omega) ?_;intro J h7 m7 k7;refine aG (cs:=[(false,[.int .i64])]) (((1+1:Nat):Int),()) (2-(1+1)) rfl ad (YJ (fun z=>[Value.int .i64 z]) hw) ⟨1+1,rfl,ad,rfl,Ch.trans U k7 (fun j Y _=>Y),?_⟩;simpa using m7
 ·have hi:i=2:=ad
  subst hi;have X:dV h6 h3.size (vm ((x.ai++y.ai).foldl ja [])):=by simpa using X
  have b1:=b1.an U (by simp; omega);have G:=G.an U (by simp; omega);have O:=O.an U (by simp; omega);rw [aE,aE];refine af b1 ((x.num:Int),()) rfl (ak ?_);refine af G ((y.num:Int),()) rfl (ak ?_);refine aI (QY X (by have:=vh (x.ai++y.ai) []; rw [Yy,List.length_nil] at this; omega) _) ?_;rintro _ h7 ⟨e7,p',l',c',rfl,s7⟩;refine ⟨((p',l',c'),IntKind.wrap .u32 ((x.num:Int)+(y.num:Int)),()),rfl,ak ?_⟩;refine aw (O.an e7 aj) rfl aj ?_;intro h8 b8 k8 z8;have b8:bI h8 h2.size 69 [.slice p' l' c',.int .u32 (IntKind.wrap .u32 ((x.num:Int)+(y.num:Int)))]:=b8;refine af b8 ((p',l',c'),IntKind.wrap .u32 ((x.num:Int)+(y.num:Int)),()) rfl ?_;have hz6:=F.size;have hz2:=(e1.trans e2).size;have hb3:=O.lt;refine ⟨bQ (F.trans e7) k8,p',l',c',?_,(s7.bP k8 (fun j Y=>by have:=(s7.cv Y).1; simp; omega)).mono ad⟩;unfold iI mF;rw [dT];dsimp only;rw [iH,bb9]
def rn (p:UInt8->Bool) (l:List UInt8) (k:Nat) (hk:k<l.length):(l.take (k+1)).all p=((l.take k).all p && p (l.getD k 0)):=by
 rw [Yw hk,List.all_append];simp [List.getD,List.getElem?_eq_getElem hk]
def sG (s:Xaa) (h:Hp) (hs:s.size<=9223372036854775807):wz Tryz.prog 82 [.string s] h (.bool (cX s.data.toList)):=by
 refine ei mixed Tryz.func82 az (oZ s) ?_;have J:s.data.toList.length=s.size:=aj
 unfold jT bg aX bJ dU fA bC aP bR;unfold cX;rw [J];refine ar (fun h1=>?_) (fun h1=>?_)
 ·have h1:=Yz h1;rw [show decide (0<s.size)=false from YB ad];exact ⟨aj,rfl⟩
 have h1:=YG h1;refine ar (fun h2=>?_) (fun h2=>?_)
 ·have h2:=Yz h2;rw [show decide (s.size<=32)=false from YB ad];exact ⟨aj,rfl⟩
 have h2:=YG h2;rw [show decide (0<s.size)=true from YA ad,show decide (s.size<=32)=true from YA ad];refine ax ⟨ad,ad⟩ ?_;refine aQ (B3 (s.data.toList.getD 0 0) h) ?_;refine ar (fun h3=>?_) (fun h3=>?_)
 ·have h3:eZ (s.data.toList.getD 0 0)=false:=by simpa using h3
  rw [h3];exact ⟨aj,rfl⟩
 have h3:eZ (s.data.toList.getD 0 0)=true:=by simpa using h3
 rw [h3];refine aS (cs:=[(false,[.bool]),(false,[.int .i64])]) (fun x n h'=>h'=h/\∃ k:Nat,x.2.1=(k:Int)/\k<=s.size/\n=s.size-k/\(s.data.toList.take k).all (fun c=>eZ c || iw c)=true)
  (false,(0:Int),()) s.size rfl ⟨rfl,0,rfl,ad,ad,aj⟩ ?_
 rintro ⟨b,n,⟨⟩⟩ m h' ⟨rfl,k,hk,U,rfl,d⟩;simp only at hk;subst hk;refine ar (fun O=>?_) (fun O=>?_)
 ·have G:(k:Int)<s.size:=Yz O;have j:=rn (fun c=>eZ c || iw c) s.data.toList k ad;rw [d,YU] at j;have F:∀ k':Nat,(eZ (s.data.toList.getD k 0) || iw (s.data.toList.getD k 0))=false->s.data.toList.all (fun c=>eZ c || iw c)=false:=by
   intro k' V;rw [V] at j;cases hx:s.data.toList.all (fun c=>eZ c || iw c) with
   | false=>rfl
   | true =>
    have:(s.data.toList.take (k+1)).all (fun c=>eZ c || iw c)=true:=Y1.2 fun c hc=>Y1.1 hx c (ZB hc)
    rw [this] at j; cases j
  have u:(eZ (s.data.toList.getD k 0) || iw (s.data.toList.getD k 0))=true->T.again 0 [.bool b,.int .i64 (IntKind.wrap .i64 ((k:Int)+1))] ([]++[Jl (cs:=[(false,[.bool]),(false,[.int .i64])]) (fun x n h''=>h''=h'/\∃ k:Nat,x.2.1=(k:Int)/\k<=s.size/\n=s.size-k/\(s.data.toList.take k).all (fun c=>eZ c || iw c)=true) (s.size-k)]) (fun v' h''=>v'=.bool (true && true && true && s.data.toList.all (fun c=>eZ c || iw c) && !(yM s.data.toList).2.2)/\h''=h') h':=by
   intro X;rw [wrap_i64 ad ad];exact aG (cs:=[(false,[.bool]),(false,[.int .i64])]) (b,(k:Int)+1,()) (s.size-(k+1)) rfl ad rfl ⟨rfl,k+1,(show ((k:Int)+1)=((k+1:Nat):Int) from ad),ad,rfl,by rw [j,X]⟩
  refine ax ⟨(by show (0:Int)<=(k:Int); omega),G⟩ ?_;refine aQ (B3 (s.data.toList.getD k 0) h') ?_;refine ar (fun h4=>?_) (fun h4=>?_)
  ·have h4:eZ (s.data.toList.getD k 0)=false:=by simpa using h4
   refine ax ⟨(by show (0:Int)<=(k:Int); omega),G⟩ ?_;refine aQ (Ow (s.data.toList.getD k 0) h') ?_;refine ar (fun h5=>?_) (fun h5=>?_)
   ·have h5:iw (s.data.toList.getD k 0)=false:=by simpa using h5
    rw [F 0 (by rw [h4,h5]; rfl)];exact ⟨aj,rfl⟩
   ·have h5:iw (s.data.toList.getD k 0)=true:=by simpa using h5
    exact u (by rw [h5]; simp)
  ·have h4:eZ (s.data.toList.getD k 0)=true:=by simpa using h4
   exact u (by rw [h4]; simp)
 ·have Y:¬ (k:Int)<s.size:=YG O;have hk:k=s.data.toList.length:=ad
  rw [hk,Y4] at d;rw [d];refine Gw (Dg s h') ?_;exact ⟨aj,rfl⟩
def dv (c:UInt8):Nat:=if c.toNat<58 then c.toNat-48 else c.toNat-87
def UB (b:Nat) (l:List UInt8):Nat:=l.foldl (fun n c=>n*b+dv c) 0
def Wr (c:UInt8):Bool:=iw c || (97<=c.toNat && c.toNat<=102)
def Dj:List UInt8:=[48,49,50,51,52,53,54,55,56,57,97,98,99,100,101,102]
def Rv (l:List UInt8):Nat × Nat :=
 if l.take 2=[48,120] then
  (if 8<mS (l.drop 2) Dj\/mS (l.drop 2) Dj=0 then (0,0) else (2+mS (l.drop 2) Dj,UB 16 ((l.drop 2).take (mS (l.drop 2) Dj))))
 else
  (if (1<mS l iS/\l.getD 0 0=48)\/mS l iS=0\/4294967296<=UB 10 (l.take (mS l iS)) then (0,0) else (mS l iS,UB 10 (l.take (mS l iS))))
def TW:List UInt8:=gQ++iS
def Es (P:Program) (t:TypeId):Array Field :=
 match P.underlying t with
 | some (.struct fs)=>fs
 | _=>#[]
def bytes_beq (t:Xaa):(t==t)=true:=by
 cases t with | mk d=>show (d==d)=true; simp
def hv (c:UInt8):Int:=if Wr c=true then (dv c:Int) else -1
def uu (D:List UInt8):Nat × Nat :=
 if D.getD 0 0=39 then
  (if D.length<3\/(D.getD 1 0).toNat<32\/126<(D.getD 1 0).toNat\/D.getD 1 0=39\/D.getD 2 0≠39 then (0,0) else ((D.getD 1 0).toNat,3))
 else if (Rv D).1=0\/0<mS (D.drop (Rv D).1) TW then (0,0) else ((Rv D).2,(Rv D).1)
def C2 {s t:Xaa} (h:s.data.toList=t.data.toList):s=t:=by
 cases s; cases t;simp only at h
 congr 1
 exact Zg.1 h
def add_add (a:Xax) (i j:Nat):(a.add i).add j=a.add (i+j):=by
 unfold Addr.add
 by_cases hi:i=0 <;> by_cases d:j=0 <;> simp [hi,d] <;> omega
def uq:cn:=⟨[],0⟩
structure Good (x:cn):Prop where
 nf:Nf x.ai
 MX:∀ t,t∈x.ai->cX t.1.data.toList=true
 num:x.num<4294967296
def Hv {s:Xaa} (h:cX s.data.toList=true):s.size<=32:=by
 unfold cX at h;simp only [Bool.and_eq_true,decide_eq_true_eq] at h
 have:s.data.toList.length=s.size:=aj
 omega
abbrev ptr (a:Nat):Xab:=.pointer (some ⟨a,0,none⟩)
def cS {h:Hp} {b:Xax} {t:Xaa × Nat} (hc:aJ h b 0 (df t)):aJ h b 0 [.string t.1]/\aJ h (b.add 1) 0 [.int .u32 (t.2:Int)]:=by
 obtain ⟨h1,h2,h3⟩:=hc;exact ⟨⟨h1,trivial⟩,⟨by rw [add_add]; exact h2,trivial⟩⟩
def IU (a n:Nat):IntKind.wrap .u32 ((a:Int)*(n:Int))=((a*n % 4294967296:Nat):Int):=by rw [dT,iH,Int.natCast_mul]
def IS (a n:Nat):IntKind.wrap .u32 ((a:Int)+(n:Int))=(((a+n) % 4294967296:Nat):Int):=by rw [dT,iH,bb9]
def Hr {h:Hp} {p:Xac} {l c:Nat} {x:cn} (v:gW h p l x.ai) (hl:x.ai.length<=2^40) (hp:∀ i,i∈aR p->i<h.size) (n:Nat) :
  HC Tryz.prog 102 #[iI p l c x,.int .u32 n] h fun w h'=>Ext h h'/\∃ p' l' c',w=iI p' l' c' (CW x n)/\SL h' h.size 117 2 p' l' c' ((CW x n).ai.map df):=by
 refine aY (args:=[.agg #[.slice p l c,.int .u32 x.num],.int .u32 n]) mixed Tryz.func102 az (oA p l c x.num n) ?_;unfold j7 bf bg bz aK bt aH bq aP;have hll:=v.len;refine br ?_;intro h1 b1 e1 z1;refine br ?_;intro h2 b2 e2 z2;have b1:=b1.an e2 aj;rw [aE];refine af b1 ((x.num:Int),()) rfl (ak ?_);refine br ?_;intro h3 b3 e3 z3;refine aw b3 rfl aj ?_;intro h4 b4 k4 z4;rw [IU] at b4;have b4:bI h4 h2.size 69 [.slice none 0 0,.int .u32 ((x.num*n % 4294967296:Nat):Int)]:=b4;have O:Ext h2 h4:=bQ e3 k4;have b1:=b1.an O aj;have b2:=b2.an O aj;have U:=(e1.trans e2).trans O;have hb4:=b4.lt;refine aS (cs:=[(false,[.int .i64])]) (fun y w h'=>∃ (i:Nat) (q:Xac) (m d:Nat),y.1=(i:Int)/\i<=x.ai.length/\w=x.ai.length-i/\Ch [h2.size] h4 h'/\bI h' h2.size 69 [.slice q m d,.int .u32 ((x.num*n % 4294967296:Nat):Int)] /\
  SL h' h4.size 117 2 q m d ((fl n (x.ai.take i)).map df)/\m<=i) ((0:Int),()) x.ai.length rfl ⟨0,none,0,0,rfl,ad,ad,Ch.refl _ _,b4,SL.nil _ _ _ _,ad⟩ ?_
 rintro ⟨n8,⟨⟩⟩ w h5 ⟨i,q,m,d,hi,hile,rfl,Z,b5,V,hm⟩;simp only at hi;subst hi;refine ak ?_;have u:=b1.an Z (by simp; omega);have hz5:=Z.size;have e05:Ext h h5:=bQ U Z;have v5:=v.an e05 aj;refine af u ((p,l,c),()) rfl (ak ?_);have hw:=gu i;refine aM (fun g1=>?_) (fun g1=>?_)
 ·have G:i<x.ai.length:=ad
  have X:x.ai.take (i+1)=x.ai.take i++[x.ai[i]]:=Yw G;obtain ⟨a,rfl,hc⟩:=v5.cells i G;generalize x.ai[i]=t at hc X;obtain ⟨c1,c2⟩:=cS hc;refine af u ((some a,l,c),()) rfl (ak ?_);refine ax ⟨ad,ad⟩ (av rfl ?_);rw [show Int.toNat (i:Int)=i from ad];refine ay ((t.2:Int),()) c2 (ak ?_);rw [IU];refine ar (fun g2=>?_) (fun g2=>?_)
  ·have g2:¬ t.2*n % 4294967296=0:=by
    intro hh;rw [hh] at g2;cases g2
   refine af b5 ((q,m,d),()) rfl (ak ?_);refine af u ((some a,l,c),()) rfl (ak ?_);refine ax ⟨ad,ad⟩ (av rfl ?_);refine ay (t.1,()) c1 (ak ?_);have hab:=hp a.block (by simp [aR]);refine gU (vs:=df (t.1,t.2*n % 4294967296)) xQ rl rfl ad ad az rfl rfl V hz5 ad ad (fun h' e=>⟨aT e aj _ _ c1,(u.an e aj).cells _ rfl,(b5.an e aj).cells _ rfl,trivial⟩) ?_;intro p' c' h7 s7 Y hp7;have F:∀ j,j<h4.size->j∉aR q:=fun j J hm=>by have:=(V.cv hm).1; omega
   refine ⟨⟨aT Y (by rw [ic]; exact F _ (by have:=U.size; omega)) _ _ c1,(u.an Y (F _ ad)).cells _ rfl,trivial⟩,?_⟩;refine aw (b5.an Y (F _ ad)) rfl aj ?_;intro h8 b8 k8 z8;refine aG (cs:=[(false,[.int .i64])]) (((i+1:Nat):Int),()) (x.ai.length-(i+1)) rfl ad (YJ (fun z=>[Value.int .i64 z]) hw) ⟨i+1,p',m+1,c',rfl,ad,rfl,?_,b8,?_,ad⟩
   ·exact Ch.trans (Ch.trans Z Y (fun j J hl=>by have:=(V.cv J).1; omega)) k8 (fun j J _=>J)
   ·have hf:fl n (x.ai.take (i+1))=fl n (x.ai.take i)++[(t.1,t.2*n % 4294967296)]:=by
     unfold fl;rw [X,Z5]
     congr 1
     simp only [List.filterMap_cons,List.filterMap_nil];rw [Yx g2]
    rw [hf,YH];exact s7.bP k8 (fun j J=>by have:=(s7.cv J).1; simp; omega)
  ·have g2:t.2*n % 4294967296=0:=by
    have:((t.2*n % 4294967296:Nat):Int)=0:=by simpa using g2
    omega
   refine aG (cs:=[(false,[.int .i64])]) (((i+1:Nat):Int),()) (x.ai.length-(i+1)) rfl ad (YJ (fun z=>[Value.int .i64 z]) hw) ⟨i+1,q,m,d,rfl,ad,rfl,Z,b5,?_,ad⟩;have hf:fl n (x.ai.take (i+1))=fl n (x.ai.take i):=by
    unfold fl;rw [X,Z5];simp only [List.filterMap_cons,List.filterMap_nil];rw [YC g2,Zs]
   rw [hf];exact V
 ·have hi:i=x.ai.length:=ad
  subst hi;rw [Y4] at V;refine af b5 ((q,m,d),((x.num*n % 4294967296:Nat):Int),()) rfl (ak ?_);refine aw (b2.an Z (by simp; omega)) rfl aj ?_;intro h7 b7 Y z7;have b7:bI h7 h1.size 69 [.slice q m d,.int .u32 ((x.num*n % 4294967296:Nat):Int)]:=b7;refine af b7 ((q,m,d),((x.num*n % 4294967296:Nat):Int),()) rfl ?_;have hz4:=U.size;exact ⟨bQ e05 Y,q,m,d,rfl,(V.bP Y (fun j J=>by have:=(V.cv J).1; simp; omega)).mono ad⟩
def leB (a b:Xaa):(Op.bytesLess (ByteArray.toList a) (ByteArray.toList b) || (ByteArray.toList a==ByteArray.toList b))=!decide (hY b a):=by
 rw [ByteArray.toList_eq,ByteArray.toList_eq,Proofs.bytesLess_eq]
 by_cases h:hY b a
 ·rw [YA h];have h1:¬ a.data.toList<b.data.toList:=Cj h;have h2:¬ a.data.toList=b.data.toList:=fun e=>kD h (C2 e).symm
  have h3:¬ a.data=b.data:=fun e=>h2 (by rw [e])
  simp [h1,h3]
 ·rw [YB h]
  by_cases h1:hY a b
  ·have h1:a.data.toList<b.data.toList:=h1;simp [h1]
  ·have:=zf a b h1 h
   subst this
   simp
def nV:Option Xaa->dc->Bool
 | _,[]=>true
 | o,t::r=>cX t.1.data.toList && decide (t.2≠0) && (match o with
  | none=>true
  | some s=>decide (hY s t.1)) && nV (some t.1) r
def IR (l:dc) (i:Nat):Option Xaa:=if i=0 then none else (l[i-1]?).map (·.1)
def H7 {o:Option Xaa} {l:dc} (h:nV o l=true):(∀ t,t∈l->cX t.1.data.toList=true/\t.2≠0)/\(l.Pairwise fun p q=>hY p.1 q.1)/\∀ s,o=some s->∀ t,t∈l->hY s t.1:=by
 induction l generalizing o with
 | nil=>exact ⟨aj,List.Pairwise.nil,aj⟩
 | cons t r d =>
  unfold nV at h;simp only [Bool.and_eq_true,decide_eq_true_eq] at h;obtain ⟨⟨⟨h1,h2⟩,h3⟩,h4⟩:=h;obtain ⟨j,i2,i3⟩:=d h4;refine ⟨?_,ZR.2 ⟨fun q F=>i3 _ rfl q F,i2⟩,?_⟩
  ·intro u hu;rcases YS.1 hu with rfl | hu
   ·exact ⟨h1,h2⟩
   ·exact j u hu
  ·rintro s rfl u hu;have h3:hY s t.1:=by simpa using h3
   rcases YS.1 hu with rfl | hu
   ·exact h3
   ·exact jF h3 (i3 _ rfl u hu)
def DN {x:cn} (h:nV none x.ai=true) (hc:∀ t,t∈x.ai->t.2<4294967296) (hn:x.num<4294967296):Good x :=
 ⟨⟨(H7 h).2.1,fun p d=>⟨((H7 h).1 p d).2,hc p d⟩⟩,fun t j=>((H7 h).1 t j).1,hn⟩
def ui {h : Hp} {p : Xac} {l c : Nat} {x : cn} (v : gW h p l x.ai) (hl : x.ai.length <= 9223372036854775807) (hs : ∀ t, t ∈ x.ai -> t.1.size <= maxLen) :
    HC Tryz.prog 61 #[iI p l c x] h fun w h' => w = .bool (nV none x.ai) /\ Ext h h' := by
  refine aY (args := [.agg #[.slice p l c, .int .u32 x.num]]) mixed Tryz.func61 az (yN p l c x.num) ?_;unfold uV bf bg bz aK aX bm aH bC dy bX aP bR;have hll := v.len;refine br ?_;intro h1 b1 e1 z1;refine af b1 ((p, l, c), ()) rfl (ak ?_)
  refine aS (cs := [(false, [.bool]), (false, [.int .i64])]) (fun y w h' => ∃ (i : Nat), y.2.1 = (i : Int) /\ i <= x.ai.length /\ w = x.ai.length - i /\ Ext h1 h' /\ nV none x.ai = nV (IR x.ai i) (x.ai.drop i)) (false, (0 : Int), ()) x.ai.length rfl
    ⟨0, rfl, ad, ad, Ch.refl _ _, rfl⟩ ?_
  rintro ⟨b8, n8, ⟨⟩⟩ w h2 ⟨i, hi, hile, rfl, e2, j⟩;simp only at hi;subst hi;refine ak ?_;have O := e1.trans e2;refine aM (fun g1 => ?_) (fun g1 => ?_)
  · have d : i < x.ai.length :=ad
    have v2 := v.an O aj;obtain ⟨a, rfl, hc⟩ := v2.cells i d;have hdr : x.ai.drop i = x.ai[i] :: x.ai.drop (i + 1) := YK d
    have Y : IR x.ai (i + 1) = some x.ai[i].1 := by
      unfold IR;rw [Yx ad, Nat.add_sub_cancel, Yv d] <;> rfl
    have hsz := hs x.ai[i] (YD d);rw [hdr] at j;generalize x.ai[i] = t at hc j Y hsz;refine ax ⟨ad, ad⟩ (av rfl ?_);rw [show Int.toNat (i : Int) = i from ad];refine ay (t.1, (t.2 : Int), ()) hc (ak ?_);refine br ?_;intro h3 b3 e3 z3;refine aw b3 rfl aj ?_;intro h4 X k4 z4;have X : bI h4 h2.size 117 [.string t.1, .int .u32 t.2] := X;have F : Ext h2 h4 := bQ e3 k4;have G := O.trans F;rw [aE];refine af X ((t.2 : Int), ()) rfl (ak ?_);refine ar (fun g2 => ?_) (fun g2 => ?_)
    · have g2 : t.2 = 0 := by have : (t.2 : Int) = 0 := by simpa using g2
                              omega
      refine ⟨?_, G⟩;rw [j];unfold nV;rw [YB ad]
      simp
    · have g2 : t.2 ≠ 0 := by have : ¬ (t.2 : Int) = 0 := by simpa using g2
                              omega
      refine af X (t.1, ()) rfl (ak ?_);refine aQ (uR t.1 h4 (by have : maxLen = 9223372036854775807 := rfl; omega)) ?_;refine ⟨⟨X.cells _ rfl, trivial⟩, ?_⟩;refine ar (fun U => ?_) (fun U => ?_)
      · have U : cX t.1.data.toList = false := by simpa using U
        refine ⟨?_, G⟩;rw [j];unfold nV;rw [U]
        simp
      · have U : cX t.1.data.toList = true := by simpa using U
        have hw := gu i
        have J : (match IR x.ai i with
            | none => true
            | some s => decide (hY s t.1)) = true -> nV none x.ai = nV (IR x.ai (i + 1)) (x.ai.drop (i + 1)) := by
          intro hm;rw [j, Y]
          conv => lhs; unfold nV
          rw [U, YA g2, hm] <;> rfl
        refine aM (fun g4 => ?_) (fun g4 => ?_)
        · have hw1 : IntKind.wrap .i64 ((i : Int) - 1) = ((i - 1 : Nat) : Int) := by rw [wrap_i64 ad ad]; omega
          have Z : i - 1 < x.ai.length :=ad
          obtain ⟨a', ha', hc'⟩ := (v.an G aj).cells (i - 1) Z;cases ha'
          have hpi : IR x.ai i = some x.ai[i - 1].1 := by
            unfold IR;rw [Yx ad, Yv Z] <;> rfl
          rw [hpi] at J j;generalize x.ai[i - 1] = u at hc' hpi J j;refine af X (t.1, ()) rfl (ak ?_);refine af ((b1.an e2 aj).an F aj) ((some a, l, c), ()) rfl (ak ?_);rw [hw1];refine ax ⟨ad, ad⟩ (av rfl ?_);rw [show Int.toNat ((i - 1 : Nat) : Int) = i - 1 from ad];refine ay (u.1, ()) (cS hc').1 (ak ?_);rw [leB];refine ar (fun V => ?_) (fun V => ?_)
          · have V : ¬ hY u.1 t.1 := by simpa using V
            refine ⟨?_, G⟩;rw [j];unfold nV;dsimp only;rw [YB V]
            simp
          · have V : hY u.1 t.1 := by simpa using V
            exact aG (cs := [(false, [.bool]), (false, [.int .i64])]) (b8, ((i + 1 : Nat) : Int), ()) (x.ai.length - (i + 1)) rfl ad (YJ (fun z => [Value.bool b8, Value.int .i64 z]) hw) ⟨i + 1, rfl, ad, rfl, e2.trans F, J (YA V)⟩
        · have hi0 : i = 0 :=ad
          subst hi0;exact aG (cs := [(false, [.bool]), (false, [.int .i64])]) (b8, ((0 + 1 : Nat) : Int), ()) (x.ai.length - (0 + 1)) rfl ad (YJ (fun z => [Value.bool b8, Value.int .i64 z]) hw) ⟨0 + 1, rfl, ad, rfl, e2.trans F, J rfl⟩
  · have hi : i = x.ai.length :=ad
    subst hi;refine ⟨?_, O⟩;rw [j, ZJ] <;> rfl
def tV {h : Hp} {p : Xac} {l c : Nat} {x : cn} (v : gW h p l x.ai) (hl : x.ai.length <= 9223372036854775807) (hs : ∀ t, t ∈ x.ai -> t.1.size <= maxLen) :
    HC Tryz.prog 97 #[iI p l c x] h fun w h' => w = .bool (nV none x.ai) /\ Ext h h' := by
  refine aY (args := [.agg #[.slice p l c, .int .u32 x.num]]) mixed Tryz.func97 az (oI p l c x.num) ?_;unfold j4 bf bg bz aK aX bm aH bC dy aP bR;have hll := v.len;refine br ?_;intro h1 b1 e1 z1;have v := v.an e1 aj
  refine aS (cs := [(false, [.bool]), (false, [.int .i64])]) (fun y w h' => ∃ (i : Nat), y.2.1 = (i : Int) /\ i <= x.ai.length /\ w = x.ai.length - i /\ h1 = h' /\ nV none x.ai = nV (IR x.ai i) (x.ai.drop i)) (false, (0 : Int), ()) x.ai.length rfl
    ⟨0, rfl, ad, ad, rfl, rfl⟩ ?_
  rintro ⟨Y, n8, ⟨⟩⟩ w h2 ⟨i, hi, hile, rfl, rfl, j⟩;simp only at hi;subst hi;refine ak ?_;refine af b1 ((p, l, c), ()) rfl (ak ?_);refine aM (fun g1 => ?_) (fun g1 => ?_)
  · have d : i < x.ai.length :=ad
    obtain ⟨a, rfl, hc⟩ := v.cells i d;have Z : x.ai.drop i = x.ai[i] :: x.ai.drop (i + 1) := YK d
    have O : IR x.ai (i + 1) = some x.ai[i].1 := by
      unfold IR;rw [Yx ad, Nat.add_sub_cancel, Yv d] <;> rfl
    have hsz := hs x.ai[i] (YD d);rw [Z] at j;generalize x.ai[i] = t at hc j O hsz;refine af b1 ((some a, l, c), ()) rfl (ak ?_);refine ax ⟨ad, ad⟩ (av rfl ?_);rw [show Int.toNat (i : Int) = i from ad];refine ay (t.1, ()) (cS hc).1 (ak ?_);refine aQ (sG t.1 h1 (by have : maxLen = 9223372036854775807 := rfl; omega)) ?_;refine ⟨⟨b1.cells _ rfl, trivial⟩, ?_⟩;refine ar (fun G => ?_) (fun G => ?_)
    · have G : cX t.1.data.toList = false := by simpa using G
      refine ⟨?_, e1⟩;rw [j];unfold nV;rw [G]
      simp
    · have G : cX t.1.data.toList = true := by simpa using G
      refine af b1 ((some a, l, c), ()) rfl (ak ?_);refine ax ⟨ad, ad⟩ (av rfl ?_);refine ay ((t.2 : Int), ()) (cS hc).2 (ak ?_);refine ar (fun g2 => ?_) (fun g2 => ?_)
      · have g2 : t.2 = 0 := by have : (t.2 : Int) = 0 := by simpa using g2
                                omega
        refine ⟨?_, e1⟩;rw [j];unfold nV;rw [YB ad]
        simp
      · have g2 : t.2 ≠ 0 := by have : ¬ (t.2 : Int) = 0 := by simpa using g2
                                omega
        have hw := gu i
        have F : (match IR x.ai i with
            | none => true
            | some s => decide (hY s t.1)) = true -> nV none x.ai = nV (IR x.ai (i + 1)) (x.ai.drop (i + 1)) := by
          intro hm;rw [j, O]
          conv => lhs; unfold nV
          rw [G, YA g2, hm] <;> rfl
        refine aM (fun g4 => ?_) (fun g4 => ?_)
        · have hw1 : IntKind.wrap .i64 ((i : Int) - 1) = ((i - 1 : Nat) : Int) := by rw [wrap_i64 ad ad]; omega
          have U : i - 1 < x.ai.length :=ad
          obtain ⟨a', ha', V⟩ := v.cells (i - 1) U;cases ha'
          have X : IR x.ai i = some x.ai[i - 1].1 := by
            unfold IR;rw [Yx ad, Yv U] <;> rfl
          rw [X] at F j;generalize x.ai[i - 1] = u at V X F j;refine af b1 ((some a, l, c), ()) rfl (ak ?_);refine ax ⟨ad, ad⟩ (av rfl ?_);refine ay (t.1, ()) (cS hc).1 (ak ?_);refine af b1 ((some a, l, c), ()) rfl (ak ?_);rw [hw1];refine ax ⟨ad, ad⟩ (av rfl ?_);rw [show Int.toNat ((i - 1 : Nat) : Int) = i - 1 from ad];refine ay (u.1, ()) (cS V).1 (ak ?_);rw [leB];refine ar (fun J => ?_) (fun J => ?_)
          · have J : ¬ hY u.1 t.1 := by simpa using J
            refine ⟨?_, e1⟩;rw [j];unfold nV;dsimp only;rw [YB J]
            simp
          · have J : hY u.1 t.1 := by simpa using J
            exact aG (cs := [(false, [.bool]), (false, [.int .i64])]) (Y, ((i + 1 : Nat) : Int), ()) (x.ai.length - (i + 1)) rfl ad (YJ (fun z => [Value.bool Y, Value.int .i64 z]) hw) ⟨i + 1, rfl, ad, rfl, rfl, F (YA J)⟩
        · have hi0 : i = 0 :=ad
          subst hi0;exact aG (cs := [(false, [.bool]), (false, [.int .i64])]) (Y, ((0 + 1 : Nat) : Int), ()) (x.ai.length - (0 + 1)) rfl ad (YJ (fun z => [Value.bool Y, Value.int .i64 z]) hw) ⟨0 + 1, rfl, ad, rfl, rfl, F rfl⟩
  · have hi : i = x.ai.length :=ad
    subst hi;refine ⟨?_, e1⟩;rw [j, ZJ] <;> rfl
end Go.Sx
namespace Go.Sx.Ob
abbrev Bt:=List UInt8
def ur:Nat->Nat->Bt
 | _,0=>[]
 | n,w+1=>UInt8.ofNat n::ur (n / 256) w
def On:Bt->Nat
 | []=>0
 | b::l=>b.toNat+256*On l
theorem dz:∀ (w n:Nat),(ur n w).length=w
 | 0,_=>rfl
 | w+1,n=>by rw [ur,Zi,dz w]
theorem Cl:∀ (w n:Nat),On (ur n w)=n % 256^w
 | 0,n=>by simp [ur,On,Nat.mod_one]
 | w+1,n=>by
  rw [ur,On,Cl w,Nat.pow_succ,bo9 (256^w) 256,Nat.mod_mul]
  congr 1
abbrev Rd (α:Type):=Except (Nat × Nat) (α × Bt)
def ld {α β:Type} (a:Rd α) (f:α->Bt->Rd β):Rd β :=
 match a with
 | .ok p=>f p.1 p.2
 | .error e=>.error e
@[simp] theorem vJ {α β:Type} (x:α) (r:Bt) (f:α->Bt->Rd β):ld (.ok (x,r)) f=f x r:=rfl
def uu (w:Nat) (r:Bt):Rd Nat:=if w<=r.length then .ok (On (r.take w),r.drop w) else .error (0,10)
def Gt (r:Bt):Rd Xaa:=ld (uu 2 r) fun n r=>if n<=r.length then .ok (⟨(r.take n).toArray⟩,r.drop n) else .error (0,10)
def O5:Nat->Bt->Rd dc
 | 0,r=>.ok ([],r)
 | n+1,r=>ld (Gt r) fun s r=>ld (uu 4 r) fun c r=>ld (O5 n r) fun ts r=>.ok ((s,c)::ts,r)
def iC (r:Bt):Rd cn:=ld (uu 2 r) fun n r=>ld (O5 n r) fun ts r=>ld (uu 4 r) fun c r=>.ok (⟨ts,c⟩,r)
def jg (s:Xaa):Bt:=ur s.size 2++s.data.toList
def FQ (t:Xaa × Nat):Bt:=jg t.1++ur t.2 4
def lR (x:cn):Bt:=ur x.ai.length 2++(x.ai.flatMap FQ++ur x.num 4)
def MK (w n:Nat) (t:Bt):uu w (ur n w++t)=.ok (n % 256^w,t):=by
 unfold uu;rw [YC (by rw [Yy,dz]; omega),List.take_left' (dz w n),List.drop_left' (dz w n),Cl]
def KF {s:Xaa} (h:s.size<65536) (t:Bt):Gt (jg s++t)=.ok (s,t):=by
 unfold Gt jg;rw [YV,MK,vJ,af9 ad];have hl:s.data.toList.length=s.size:=aj
 rw [YC (by rw [Yy,hl]; omega),List.take_left' hl,List.drop_left' hl]
structure Ins where
 op:Int
 a:Int
 b:Int
 n:Int
 form:Int
deriving DecidableEq
structure cB where
 kind:Int
 name:Xaa
 inst:Ins
 e:cn
 n:Int
def RU:Ins:=⟨0,0,0,0,0⟩
def Fx:cn:=⟨[],0⟩
def dJ:Xaa:=⟨#[]⟩
def ff (k:Int):cB:=⟨k,dJ,RU,Fx,0⟩
def iN:List Nat:=[1,1,1,2,2,2,2,2,2,2,3,3,4,4,4,4,4,4,4,4,4,4,4,4,4,4,4,4,5,5,5,5,6,6,7,8,9,10,11,12,12,13,13]
def cC (op:Int):Nat:=if op<1 then 0 else iN.getD (op-1).toNat 0
def wB (n m:Int):Bool:=decide (0<=n) && decide (n<m)
def cJ (s:Nat) (a b n:Int):Bool :=
 if s=1\/s=9\/s=12 then decide (a=0) && decide (b=0)
 else if s=2\/s=8\/s=10\/s=11\/s=13 then wB a 8 && decide (b=0)
 else if s=3 then wB a 4 && decide (b=0)
 else if s=4 then wB a 8 && wB b 8
 else if s=5 then wB a 4 && wB b 4
 else if s=6 then wB a 8 && wB b 4
 else wB a 4 && wB b 8 && wB n 8
def mH (n form:Int):Bool :=
 if form=1 then decide (-128<=n) && decide (n<=127)
 else if form=2 then decide (-32768<=n) && decide (n<=32767)
 else decide (form=4)
def nR (s:Nat) (n form:Int):Bool :=
 if s=8 then mH n 1
 else if s=9 then decide (0<=n) && decide (n<=255)
 else if s=10\/s=7 then true
 else if s=11 then decide (0<=n) && decide (n<=4095)
 else if s=12\/s=13 then mH n form
 else decide (n=0)
def nq (op:Int):Bool:=decide (12<=cC op)
def Gp (op:Int):Bool:=decide (10<=cC op)
def gC (i:Ins):Int :=
 if cC i.op=0 then 11
 else if cJ (cC i.op) i.a i.b i.n=false then 12
 else if (!nq i.op && decide (i.form≠0) || !nR (cC i.op) i.n i.form)=true then 13
 else 0
def Pz (x:cn):Bool:=decide (x.ai=[]) && decide (x.num=0)
def yC (i:Ins) (e:cn):Bool :=
 decide (cC i.op≠0) && decide (i.form=0) && (if Gp i.op then decide (i.n=0) && decide (gC { i with form:=if nq i.op then 1 else 0 }=0) && nV none e.ai
  else decide (gC i=0) && Pz e)
def uF (n:Int):Bool:=decide (n=1) || decide (n=2) || decide (n=4) || decide (n=8) || decide (n=16) || decide (n=32) || decide (n=64) || decide (n=128) || decide (n=256)
def z1 (x:cB):Bool:=decide (x.name=dJ)
def z2 (x:cB):Bool:=decide (x.inst=RU)
def z3 (x:cB):Bool:=Pz x.e
def z4 (x:cB):Bool:=decide (x.n=0)
def cD (x:cB) (sec:Nat):Bool :=
 if x.kind=1 then cX x.name.data.toList && z2 x && z3 x && z4 x
 else if x.kind=2 then decide (sec=0) && yC x.inst x.e && z1 x && z4 x
 else if x.kind=3 then uF x.n && z1 x && z2 x && z3 x
 else if x.kind=4 then decide (sec=0) && z1 x && z2 x && z3 x && z4 x
 else if x.kind=5 then decide (sec=1) && decide (-128<=x.n) && decide (x.n<=255) && z1 x && z2 x && z3 x
 else if x.kind=6 then decide (sec=1) && nV none x.e.ai && z1 x && z2 x && z4 x
 else if x.kind=7 then decide (sec=1) && decide (0<=x.n) && decide (x.n<=1048576) && z1 x && z2 x && z3 x
 else false
def u32 (n:Int):Nat:=(n % 4294967296).toNat
def Ti (n:Nat):Int:=if n<2147483648 then (n:Int) else (n:Int)-4294967296
def Yo (n:Nat):Int:=if n<32768 then (n:Int) else (n:Int)-65536
def C6 (n:Int) (w:Nat):Bt:=ur (u32 n) w
def H2 (x:cB):Bt:=C6 x.kind 1 ++
 (if x.kind=1 then jg x.name
 else if x.kind=2 then C6 x.inst.op 1++(C6 x.inst.a 1++(C6 x.inst.b 1++(C6 x.inst.n 4++if Gp x.inst.op then lR x.e else [])))
 else if x.kind=3\/x.kind=5 then C6 x.n 2
 else if x.kind=6 then lR x.e
 else if x.kind=7 then C6 x.n 4
 else [])
def XF (r:Bt):Rd cB:=ld (uu 1 r) fun op r=>ld (uu 1 r) fun a r=>ld (uu 1 r) fun b r=>ld (uu 4 r) fun n r =>
 if Gp (op:Int) then ld (iC r) fun e r=>.ok ({ ff 2 with inst:=⟨op,a,b,Ti n,0⟩,e:=e },r) else .ok ({ ff 2 with inst:=⟨op,a,b,Ti n,0⟩ },r)
def W8 (k:Nat) (r:Bt):Rd cB :=
 if k=1 then ld (Gt r) fun s r=>.ok ({ ff 1 with name:=s },r)
 else if k=2 then XF r
 else if k=3 then ld (uu 2 r) fun n r=>.ok ({ ff 3 with n:=n },r)
 else if k=5 then ld (uu 2 r) fun n r=>.ok ({ ff 5 with n:=Yo n },r)
 else if k=6 then ld (iC r) fun e r=>.ok ({ ff 6 with e:=e },r)
 else if k=7 then ld (uu 4 r) fun n r=>.ok ({ ff 7 with n:=n },r)
 else .ok (ff k,r)
def at_ {α:Type} (r:Bt) (qF:Nat) (ok:α->Bool) (a:Rd α):Rd α:=ld a fun x d=>if ok x then .ok (x,d) else .error (r.length,qF)
def gd (D:List Xaa) (s:Xaa):Bool:=D.any fun t=>decide (t=s)
def x5 (sec:Nat) (D:List Xaa) (x:cB):Bool:=cD x sec && !(decide (x.kind=1) && gd D x.name)
def ub (D:List Xaa) (x:cB):List Xaa:=if x.kind=1 then x.name::D else D
def Wd (sec:Nat) (D:List Xaa) (r:Bt):Rd cB:=at_ r 31 (x5 sec D) (ld (uu 1 r) W8)
def T8 {α:Type} {r d:Bt} {qF:Nat} {ok:α->Bool} {a:Rd α} {x:α} (h:a=.ok (x,d)) (h2:ok x=true):at_ r qF ok a=.ok (x,d):=by
 unfold at_;rw [h,vJ,YC h2]
def zQ (op:Int) (h:cC op≠0):1<=op/\op<=43:=by
 unfold cC at h;split at h
 ·exact absurd rfl h
 ·refine ⟨ad,?_⟩
  by_cases g:op<=43
  ·exact g
  ·exfalso;apply h;rw [Zh,Y9 (by simp [iN]; omega)] <;> rfl
def Ew {i:Ins} (h:gC i=0):cC i.op≠0/\cJ (cC i.op) i.a i.b i.n=true:=by
 unfold gC at h;split at h
 ·cases h
 ·split at h
  ·cases h
  ·rename_i h1 h2;exact ⟨h1,by simpa using h2⟩
def ig (op:Int):cC op=0\/(1<=cC op/\cC op<=13):=by
 by_cases h:cC op=0
 ·exact .inl h
 ·right
  have h1:=zQ op h;unfold cC;rw [Yx ad];have h2:(op-1).toNat<43:=ad
  generalize (op-1).toNat=k at h2
  have:∀ k:Fin 43,1<=iN.getD k.1 0/\iN.getD k.1 0<=13:=cm
  exact this ⟨k,h2⟩
abbrev rO:=Xaa × cn
structure cd where
 text:List cB
 data:List cB
 bh:List rO
 aZ:List Xaa
def wY (sec:Nat):Nat->List Xaa->Bt->Rd (List cB)
 | 0,_,r=>.ok ([],r)
 | n+1,D,r=>ld (Wd sec D r) fun x r=>ld (wY sec n (ub D x) r) fun l r=>.ok (x::l,r)
def CK (D:List Xaa) (p:rO):Bool:=!(gd D p.1) && cX p.1.data.toList && nV none p.2.ai
def RM (D:List Xaa) (last g:Xaa):Bool:=gd D g && decide (hY last g)
def SP (D:List Xaa) (last:Xaa) (r:Bt):Rd Xaa:=at_ r 31 (RM D last) (Gt r)
def Hs (D:List Xaa):Nat->Xaa->Bt->Rd (List Xaa)
 | 0,_,r=>.ok ([],r)
 | n+1,last,r=>ld (SP D last r) fun x r=>ld (Hs D n x r) fun l r=>.ok (x::l,r)
def N':Bt:=[83,80,65,78,1]
def cR (D:List Xaa) (l:List cB):List Xaa:=l.foldl ub D
def bd (D:List Xaa) (l:List rO):List Xaa:=l.foldl (fun D p=>p.1::D) D
def eQ (sec:Nat):List Xaa->List cB->Bool
 | _,[]=>true
 | D,x::l=>x5 sec D x && eQ sec (ub D x) l
def gp:List Xaa->List rO->Bool
 | _,[]=>true
 | D,x::l=>CK D x && gp (x.1::D) l
def cV (D:List Xaa):Xaa->List Xaa->Bool
 | _,[]=>true
 | last,x::l=>RM D last x && cV D x l
def cd.names (u:cd):List Xaa:=bd (cR (cR [] u.text) u.data) u.bh
def tN (u:cd):Bool:=eQ 0 [] u.text && eQ 1 (cR [] u.text) u.data && gp (cR (cR [] u.text) u.data) u.bh && cV u.names dJ u.aZ
def vH (u:cd):Bool:=decide (8192<u.text.length+u.data.length) || decide (8192<u.bh.length)
def eO (u:cd):Nat:=if vH u then 4 else if tN u then 0 else 31
def Me (p:rO):Bt:=jg p.1++lR p.2
def CU {α:Type} (w:α->Bt) (l:List α):Bt:=ur l.length 2++l.flatMap w
def Xj (u:cd):Bt:=N'++(CU H2 u.text++(CU H2 u.data++(CU Me u.bh++CU jg u.aZ)))
theorem G7 (D:List Xaa) (d:∀ s,s∈D->s.size<65536):∀ (l:List Xaa) (o:Xaa) (t:Bt),cV D o l=true->Hs D l.length o (l.flatMap jg++t)=.ok (l,t)
 | [],o,t,_=>rfl
 | x::l,o,t,h=>by
  unfold cV at h;rw [YZ] at h;obtain ⟨h1,h2⟩:=h;have h3:x.size<65536:=by
   unfold RM gd at h1;simp only [Bool.and_eq_true,List.any_eq_true,decide_eq_true_eq] at h1;obtain ⟨⟨y,j,rfl⟩,_⟩:=h1;exact d y j
  rw [Zi,Zd,YV,Hs];have h5:SP D o (jg x++(l.flatMap jg++t))=.ok (x,l.flatMap jg++t):=T8 (KF h3 _) h1;rw [h5,vJ,G7 D d l _ t h2,vJ]
theorem xX (D:List Xaa):∀ (l:List Xaa) (o:Xaa),cV D o l=true->(∀ x,x∈l->x∈D/\hY o x)/\l.Pairwise hY
 | [],o,_=>⟨aj,List.Pairwise.nil⟩
 | x::l,o,h=>by
  unfold cV RM gd at h;simp only [Bool.and_eq_true,List.any_eq_true,decide_eq_true_eq] at h;obtain ⟨⟨⟨y,j,rfl⟩,h2⟩,h3⟩:=h;obtain ⟨a,b⟩:=xX D l y h3;refine ⟨?_,ZR.2 ⟨fun z d=>(a z d).2,b⟩⟩;intro z d;rcases YS.1 d with rfl | d
  ·exact ⟨j,h2⟩
  ·exact ⟨(a z d).1,jF h2 (a z d).2⟩
def wZ {u:cd} (h:eO u=0):vH u=false/\tN u=true:=by
 unfold eO at h;split at h
 ·cases h
 ·rename_i h1;split at h
  ·rename_i h2;exact ⟨by simpa using h1,h2⟩
  ·cases h
end Go.Sx.Ob
namespace Go.Sx
open Go.Proofs
def Wu:Tryz.prog.underlying 117=some (.struct (Es Tryz.prog 117)):=az
def UL (x y:Operand) (a:Xaa) (b:Int) (a':Xaa) (b':Int) (h:Hp) (K:Xab->Hp->Prop) (hk:K (.bool !(a==a' && b==b')) h) :
  aU Tryz.prog (Sx.kw (BinOp.neq) 117 x y (.agg #[.string a,.int .u32 b]) (.agg #[.string a',.int .u32 b'])) h K:=by
 refine zm Wu az az az K ?_;have d:(Es Tryz.prog 117).all (H4 #[.string a,.int .u32 b] #[.string a',.int .u32 b'])=(a==a' && (b==b' && true)):=by
  rw [<- ZV]
  kernel_rfl
 rw [d,ZK];exact hk
def TH (t u:Xaa × Nat):(!(t.1==u.1 && (t.2:Int)==(u.2:Int)))=decide (t≠u):=by
 obtain ⟨a,b⟩:=t;obtain ⟨a',b'⟩:=u
 by_cases h1:a=a'
 ·subst h1;rw [bytes_beq]
  by_cases h2:b=b'
  ·subst h2
   simp
  ·have h3:¬ ((b:Int)=(b':Int)):=ad
   have h4:((b:Int)==(b':Int))=false:=by simpa using h3
   simp [h2,h4]
 ·have h3:(a==a')=false:=by
   obtain ⟨d⟩:=a;obtain ⟨d'⟩:=a';show (d==d')=false;have h4:¬ d=d':=fun e=>h1 (by rw [e])
   simpa using h4
  simp [h1,h3]
def Ht {α:Type} {l m:List α} {i:Nat} (hi:i<l.length) (d:i<m.length) (h:l[i]≠m[i]):l≠m:=by
 rintro rfl;exact h rfl
def D3 {α:Type} {l m:List α} {i:Nat} (hi:i<l.length) (d:i<m.length) (h:l[i]=m[i]):(l.drop i=m.drop i)↔(l.drop (i+1)=m.drop (i+1)):=by
 rw [YK hi,YK d,h];exact ⟨fun e=>(List.cons.inj e).2,fun e=>by rw [e]⟩
instance:DecidableEq dc:=inferInstance
def GH {h:Hp} {p q:Xac} {l m c d:Nat} {us vs:dc} (v:gW h p l us) (w:gW h q m vs) (hl:us.length<=2^60):wz Tryz.prog 113 [.slice p l c,.slice q m d] h (.bool (decide (us=vs))):=by
 refine ei mixed Tryz.func113 az (fQ p l c q m d) ?_;unfold dZ bf bg bz aK eA aH bC dy aP bR;have h1:=v.len;have h2:=w.len;refine ar (fun g1=>?_) (fun g1=>?_)
 ·have g1:¬ (l:Int)=(m:Int):=by simpa using g1
  exact ⟨by rw [YB (fun e=>by rw [e] at h1; omega)],rfl⟩
 ·have g1:(l:Int)=(m:Int):=by simpa using g1
  refine aS (cs:=[(false,[.bool]),(false,[.int .i64])]) (fun y n h'=>∃ (i:Nat),y.2.1=(i:Int)/\i<=us.length/\n=us.length-i/\h=h'/\(us=vs↔us.drop i=vs.drop i)) (false,(0:Int),()) us.length rfl
   ⟨0,rfl,ad,ad,rfl,Iff.rfl⟩ ?_
  rintro ⟨V,Z,⟨⟩⟩ n h2 ⟨i,hi,X,rfl,rfl,Y⟩;simp only at hi;subst hi;refine ak ?_;refine aM (fun g2=>?_) (fun g2=>?_)
  ·have j:i<us.length:=ad
   have F:i<vs.length:=ad
   obtain ⟨a,rfl,hc⟩:=v.cells i j;obtain ⟨a',rfl,O⟩:=w.cells i F;have G:=D3 j F;have J:=Ht j F;generalize us[i]=t at hc G J;generalize vs[i]=u at O G J;refine ax ⟨ad,ad⟩ (av rfl ?_);rw [show Int.toNat (i:Int)=i from ad];refine ay (t.1,(t.2:Int),()) hc (ak ?_);refine ax ⟨ad,ad⟩ (av rfl ?_);refine ay (u.1,(u.2:Int),()) O (ak ?_);refine Al (b:=decide (t≠u)) (fun K' hk=>UL _ _ _ _ _ _ _ _ (by rw [TH]; exact hk)) ?_;refine ar (fun U=>?_) (fun U=>?_)
   ·exact ⟨by rw [YB (J (Yz U))],rfl⟩
   ·have U:t=u:=by simpa using U
    have hw:=gu i;exact aG (cs:=[(false,[.bool]),(false,[.int .i64])]) (V,((i+1:Nat):Int),()) (us.length-(i+1)) rfl ad (YJ (fun z=>[Value.bool V,Value.int .i64 z]) hw) ⟨i+1,rfl,ad,rfl,rfl,Y.trans (G U)⟩
  ·refine ⟨?_,rfl⟩;rw [YA (Y.2 (by rw [Zo ad,Zo ad]))]
def wW (x y:cn):Bool:=decide (x.num=y.num) && decide (x.ai=y.ai)
def JO (x:cn):wW x x=true:=by unfold wW; simp
def BJ {h : Hp} {p q : Xac} {l m c d : Nat} {x y : cn} (v : gW h p l x.ai) (w : gW h q m y.ai) (hl : x.ai.length <= 2 ^ 60) :
    HC Tryz.prog 86 #[iI p l c x, iI q m d y] h fun r h' => r = .bool (wW x y) /\ Ext h h' := by
  refine aY (args := [.agg #[.slice p l c, .int .u32 x.num], .agg #[.slice q m d, .int .u32 y.num]]) mixed Tryz.func86 az (Am p l c x.num q m d y.num) ?_;unfold ya aX aH bC;refine br ?_;intro h1 b1 e1 z1;refine br ?_;intro h2 u e2 z2;have b1 := b1.an e2 aj;have j := e1.trans e2;rw [aE, aE];refine af b1 ((x.num : Int), ()) rfl (ak ?_);refine af u ((y.num : Int), ()) rfl (ak ?_);refine ar (fun g1 => ?_) (fun g1 => ?_)
  · have g1 : x.num = y.num := by have : (x.num : Int) = y.num := by simpa using g1
                                  omega
    refine af b1 ((p, l, c), ()) rfl (ak ?_);refine af u ((q, m, d), ()) rfl (ak ?_);refine aQ (GH (v.an j aj) (w.an j aj) hl) ?_;refine ⟨?_, j⟩;unfold wW;rw [YA g1] <;> rfl
  · have g1 : ¬ x.num = y.num := by have : ¬ (x.num : Int) = y.num := by simpa using g1
                                    omega
    refine ⟨?_, j⟩;unfold wW;rw [YB g1] <;> rfl
def Qq {P:Program} {L:Lp} {K:Xab->Hp->Prop} {h:Hp} {k:Xac->Nat->Nat->T} {t e:TypeId} {z:Xab} {sz by':Nat} (j:P.underlying t=some (.slice e)) (d:(P.info? e).map (fun i=>(i.zero,i.size,i.bytes))=some (some z,sz,by'))
  (hk:∀ h' ,SL h' h.size e sz (some ⟨h.size,0,none⟩) 0 0 []->Ext h h'->k (some ⟨h.size,0,none⟩) 0 0 L K h'):T.ek P (Instr.buildSlice t 0 #[]) false [(false,[.slice 0])] k L K h:=by
 obtain ⟨i,hi,u,rfl,rfl⟩:=nu d;refine du ?_;unfold Instr.buildSlice;rw [ao,aF j];simp only;rw [ao,bT hi];simp only [Nat.zero_mul];rw [Yx ad];have h0:∀ f:Nat->Xab,Array.map f (Array.range 0)=#[]:=fun f=>aj
 simp only [h0];refine ⟨_,_,_,rfl,hk _ ?_ (Ext.push h _)⟩;exact ⟨rfl,aj,h.size,[],[],rfl,YI _,⟨YI _,ad⟩,by simpa using bI.new h e [],aj⟩
theorem vQ {h:Hp} {a:Xax}:∀ (us:dc) (k:Nat),(∀ i,(hi:i<us.length)->aJ h (a.add ((k+i)*2)) 0 (df us[i]))->aJ h a (k*2) (us.map df).flatten
 | [],_,_=>trivial
 | t::us,k,hc=>by
  have h0:=hc 0 aj;obtain ⟨h1,h2,_⟩:=h0;rw [add_add] at h1 h2;have d:=vQ us (k+1) (fun i hi=>by
   have:=hc (i+1) (by simpa using hi)
   rw [show k+(i+1)=k+1+i from ad] at this;exact this)
  rw [show (k+1)*2=k*2+1+1 from ad] at d;exact ⟨h1,by simpa using h2,d⟩
def gW.flat {h:Hp} {a:Xax} {l:Nat} {us:dc} (v:gW h (some a) l us):aJ h a 0 (us.map df).flatten:=by
 have:=vQ (h:=h) (a:=a) us 0 (fun i hi=>by
  obtain ⟨a',e,hc⟩:=v.cells i hi;cases e;rw [Y7];exact hc)
 simpa using this
def G1 (us:dc):(us.map df).flatten.all cU=true:=by
 rw [Y1];intro v hv;obtain ⟨x,hx,hv⟩:=av9.1 hv;obtain ⟨t,_,rfl⟩:=YF.1 hx;simp only [df,List.mem_cons,List.not_mem_nil,or_false] at hv;rcases hv with rfl | rfl <;> rfl
end Go.Sx
namespace Go.Sx.Ob
open Go.Proofs
variable {h':Hp} {e2 e1:TypeId} {sec:Nat}
def _root_.Go.Sx.Ch.st {h a b:Hp} {g:Nat} (e:Ext h a) (k:Ch [g] a b) (d:h.size<=g):Ext h b:=bQ e k
def gw (nm:Nat->Xaa) (by_:Nat->Int):List Xab:=(List.range 43).flatMap fun k=>[.string (nm k),.int .u8 (by_ k),.int .i64 (iN.getD k 0:Nat)]
def Bh (h:Hp):Prop:=∃ nm by_ e f,h[0]?=some (.cells (gw nm by_).toArray e f)
def Bh.an {ws:List Nat} {h:Hp} (t:Bh h) (k:Ch ws h h') (hw:0∉ws):Bh h':=by
 obtain ⟨nm,by_,e,f,d⟩:=t;exact ⟨nm,by_,e,f,k.get d hw⟩
theorem oM {α β:Type} (f:α->List β) (m:Nat) (d:∀ x,(f x).length=m):∀ (l:List α) (i j:Nat),j<m->(l.flatMap f)[i*m+j]?=(l[i]?).bind fun x=>(f x)[j]?
 | [],i,j,u=>aj
 | x::l,0,j,u=>by
  rw [Zd,Za (by rw [d]; omega)]
  simp
 | x::l,i+1,j,u=>by
  rw [Zd,Y5 (by rw [d,ZA]; omega),d,show (i+1)*m+j-m=i*m+j by rw [ZA]; omega,oM f m d l i j u]
  simp
def Bh.cells {h:Hp} (t:Bh h) {k:Nat} (hk:k<43):∃ (s:Xaa) (b:Int),aJ h ((⟨0,0,none⟩:Xax).add (k*3)) 0 [.string s,.int .u8 b,.int .i64 (iN.getD k 0:Nat)]:=by
 obtain ⟨nm,by_,e,f,d⟩:=t;refine ⟨nm k,by_ k,?_⟩;have u:∀ j,j<3->(gw nm by_)[k*3+j]?=([.string (nm k),.int .u8 (by_ k),.int .i64 (iN.getD k 0:Nat)]:List Xab)[j]?:=by
  intro j F;unfold gw;rw [oM _ 3 aj _ _ _ F];simp [hk]
 rw [aE];refine ⟨?_,?_,?_,trivial⟩
 ·rw [aE,jW d]
  have:=u 0 ad
  simpa using this
 ·rw [aE,jW d]
  have:=u 1 ad
  simpa using this
 ·rw [aE,jW d]
  have:=u 2 ad
  simpa using this
def Oa {h:Hp} (t:Bh h) (op:Int) (h1:-9223372036854775808<=op) (h2:op<=9223372036854775807) :
  HC Tryz.prog 44 #[.int .i64 op] h fun w h'=>∃ (s:Xaa) (b:Int),w=.tuple #[.agg #[.string s,.int .u8 b,.int .i64 (cC op:Nat)],.bool (decide (cC op≠0))]/\Ext h h':=by
 refine aY (args:=[.int .i64 op]) mixed Tryz.func44 az (yw op) ?_;unfold zC bm bn bX;refine br ?_;intro g1 b1 e1 z1;have u:∀ (F:cC op=0),(∃ (s:Xaa) (b:Int),(Value.tuple #[.agg #[.string ⟨#[]⟩,.int .u8 0,.int .i64 0],.bool false])=.tuple #[.agg #[.string s,.int .u8 b,.int .i64 (cC op:Nat)],.bool (decide (cC op≠0))]) :=
  fun F=>⟨⟨#[]⟩,0,by rw [F]; rfl⟩
 refine ar (fun q=>?_) (fun q=>?_)
 ·have q:=Yz q;refine aw b1 rfl aj ?_;intro g2 d j z2;refine af d ((⟨#[]⟩:Xaa),(0:Int),(0:Int),()) rfl ?_;obtain ⟨s,b,e⟩:=u (by unfold cC; rw [YC q]);exact ⟨s,b,e,bQ e1 j⟩
 refine ar (fun r=>?_) (fun r=>?_)
 ·have r:=Yz r;refine aw b1 rfl aj ?_;intro g2 d j z2;refine af d ((⟨#[]⟩:Xaa),(0:Int),(0:Int),()) rfl ?_;obtain ⟨s,b,e⟩:=u (by
   by_cases g:cC op=0
   ·exact g
   ·have:=zQ op g
    omega)
  exact ⟨s,b,e,bQ e1 j⟩
 ·have q:=YG q;have r:=YG r;rw [wrap_i64 ad ad];refine ax ⟨ad,ad⟩ ?_;obtain ⟨s,b,hc⟩:=(t.an e1 aj).cells (k:=(op-1).toNat) ad;refine ay (s,b,((iN.getD (op-1).toNat 0:Nat):Int),()) hc (ak ?_);refine aw b1 rfl aj ?_;intro g2 d j z2;refine af d (s,b,((iN.getD (op-1).toNat 0:Nat):Int),()) rfl ?_;refine ⟨s,b,?_,bQ e1 j⟩;have h3:cC op=iN.getD (op-1).toNat 0:=by unfold cC; rw [Yx ad]
  have h4:cC op≠0:=by
   rw [h3]
   have:∀ k:Fin 43,iN.getD k.1 0≠0:=cm
   exact this ⟨(op-1).toNat,ad⟩
  rw [YA h4,h3]
def Au {h:Hp} (t:Bh h) (op:Int) (h1:-9223372036854775808<=op) (h2:op<=9223372036854775807) :
  HC Tryz.prog 45 #[.int .i64 op] h fun w h'=>w=.bool (nq op)/\Ext h h':=by
 refine aY (args:=[.int .i64 op]) mixed Tryz.func45 az (zF op) ?_;unfold ye bJ dy bX bR;refine aI (Oa t op h1 h2) ?_;rintro _ g1 ⟨s,b,rfl,e1⟩;refine ⟨(s,b,((cC op:Nat):Int),decide (cC op≠0),()),rfl,ak ?_⟩;refine br ?_;intro g2 u e2 z2;refine aw u rfl aj ?_;intro F d G z3;have j:=(e1.trans e2).st G (by have:=e1.size; omega);have d:bI F g1.size 120 [.string s,.int .u8 b,.int .i64 (cC op:Nat)]:=d;rw [aE];refine af d (((cC op:Nat):Int),()) rfl (ak ?_);have hc:=ig op;refine ar (fun q=>?_) (fun q=>?_)
 ·have q:((cC op:Nat):Int)=12:=by simpa using q
  refine ⟨?_,j⟩;unfold nq;rw [YA ad]
 ·have q:¬ ((cC op:Nat):Int)=12:=by simpa using q
  refine af d (((cC op:Nat):Int),()) rfl ?_;refine ⟨?_,j⟩;unfold nq
  by_cases r:cC op=13
  ·rw [r]; rfl
  ·rw [YB ad]
   congr 1
   simp
   omega
def Hw (n:Int):(n==IntKind.wrap .i32 (IntKind.wrap .i8 n))=(decide (-128<=n) && decide (n<=127)):=by
 have h1:IntKind.wrap .i8 n=if n % 256<128 then n % 256 else n % 256-256:=by
  simp only [IntKind.wrap,IntKind.bits,IntKind.signed,Bool.true_and];split <;> rename_i d
  ·have:=Yz d
   rw [Yx ad] <;> rfl
  ·have:¬ _:=fun h=>d (YA h)
   rw [YC ad] <;> rfl
 have h2:IntKind.wrap .i32 (IntKind.wrap .i8 n)=IntKind.wrap .i8 n:=by
  have:-128<=IntKind.wrap .i8 n/\IntKind.wrap .i8 n<=127:=by rw [h1]; split <;> omega
  generalize IntKind.wrap .i8 n=m at this;simp only [IntKind.wrap,IntKind.bits,IntKind.signed,Bool.true_and];split <;> rename_i d
  ·have:=Yz d; omega
  ·have:¬ _:=fun h=>d (YA h); omega
 rw [h2,h1]
 by_cases g:-128<=n/\n<=127
 ·rw [YA g.1,YA g.2]
  simp
  split <;> omega
 ·have:(decide (-128<=n) && decide (n<=127))=false:=by
   rw [Bool.and_eq_false_iff]
   simp
   omega
  rw [this]
  simp
  split <;> omega
def FL (n:Int):(n==IntKind.wrap .i32 (IntKind.wrap .i16 n))=(decide (-32768<=n) && decide (n<=32767)):=by
 have h1:IntKind.wrap .i16 n=if n % 65536<32768 then n % 65536 else n % 65536-65536:=by
  simp only [IntKind.wrap,IntKind.bits,IntKind.signed,Bool.true_and];split <;> rename_i d
  ·have:=Yz d
   rw [Yx ad] <;> rfl
  ·have:¬ _:=fun h=>d (YA h)
   rw [YC ad] <;> rfl
 have h2:IntKind.wrap .i32 (IntKind.wrap .i16 n)=IntKind.wrap .i16 n:=by
  have:-32768<=IntKind.wrap .i16 n/\IntKind.wrap .i16 n<=32767:=by rw [h1]; split <;> omega
  generalize IntKind.wrap .i16 n=m at this;simp only [IntKind.wrap,IntKind.bits,IntKind.signed,Bool.true_and];split <;> rename_i d
  ·have:=Yz d; omega
  ·have:¬ _:=fun h=>d (YA h); omega
 rw [h2,h1]
 by_cases g:-32768<=n/\n<=32767
 ·rw [YA g.1,YA g.2]
  simp
  split <;> omega
 ·have:(decide (-32768<=n) && decide (n<=32767))=false:=by
   rw [Bool.and_eq_false_iff]
   simp
   omega
  rw [this]
  simp
  split <;> omega
def cj (h:Hp) (n f:Int):wz Tryz.prog 152 [.int .i32 n,.int .i64 f] h (.bool (mH n f)):=by
 refine ei mixed Tryz.func152 az (xi n f) ?_;unfold tD;rw [Hw,FL];refine ar (fun q=>?_) (fun q=>?_)
 ·have q:f=1:=by simpa using q
  exact ⟨by unfold mH; rw [YC q],rfl⟩
 have q:¬ f=1:=by simpa using q
 refine ar (fun r=>?_) (fun r=>?_)
 ·have r:f=2:=by simpa using r
  exact ⟨by unfold mH; rw [Yx q,YC r],rfl⟩
 have r:¬ f=2:=by simpa using r
 exact ⟨by unfold mH; rw [Yx q,Yx r]; rfl,rfl⟩
def Fp (h:Hp) (n:Int):wz Tryz.prog 85 [.int .i64 n] h (.bool (uF n)):=by
 refine ei mixed Tryz.func85 az (yO n) ?_;unfold vS bm bC;have d:¬ (1<=n/\n<=256)->uF n=false:=by
  intro g;cases j:uF n with
  | false=>rfl
  | true =>
   exfalso;unfold uF at j;simp only [Bool.or_eq_true,decide_eq_true_eq] at j;omega
 refine aM (fun q=>?_) (fun q=>?_)
 ·refine aM (fun r=>?_) (fun r=>?_)
  ·refine ⟨?_,rfl⟩;obtain ⟨k,rfl,hk⟩:∃ k:Nat,n=((k+1:Nat):Int)/\k<256:=⟨(n-1).toNat,ad,ad⟩
   have:∀ k:Fin 256,(IntKind.wrap .i64 (((BitVec.toNat ((BitVec.ofInt 64 ((k.1+1:Nat):Int)) &&& (BitVec.ofInt 64 (IntKind.wrap .i64 (((k.1+1:Nat):Int)-(1:Int)))))):Nat):Int)==(0:Int))=uF ((k.1+1:Nat):Int):=by
    decide +kernel
   rw [this ⟨k,hk⟩]
  ·exact ⟨by rw [d ad],rfl⟩
 ·exact ⟨by rw [d ad],rfl⟩
def cI (h:Hp) (n m:Int):wz Tryz.prog 151 [.int .i64 n,.int .i64 m] h (.bool (wB n m)):=by
 refine ei mixed Tryz.func151 az (AY n m) ?_;unfold xL bC;refine aM (fun q=>?_) (fun q=>?_)
 ·refine ⟨?_,rfl⟩;unfold wB;rw [YA (show 0<=n from ad)] <;> rfl
 ·refine ⟨?_,rfl⟩;unfold wB;rw [YB (show ¬ 0<=n from ad)] <;> rfl
def db (a b:Int):(a==b)=decide (a=b):=rfl
def dm (op a b n form:Int):Xab:=.agg #[.int .i64 op,.int .i64 a,.int .i64 b,.int .i32 n,.int .i64 form]
def Oq (h:Hp) (op a b n form:Int):HC Tryz.prog 135 #[dm op a b n form,.int .i64 1] h fun w h'=>w=.bool (cJ 1 a b n)/\Ext h h':=by
 refine aY (args:=[dm op a b n form,.int .i64 1]) mixed Tryz.func135 az (qI op a b n form) ?_;unfold lW bC;refine br ?_;intro g1 b1 e1 z1
 try simp only [aE]
 repeat' (first
  | (refine af b1 (_,()) rfl ?_; refine ak ?_)
  | (refine aQ (cI _ _ _) ?_)
  | (refine aQ (cj _ _ _) ?_)
  | (refine ar (fun q=>?_) (fun q=>?_)))
 all_goals (refine ⟨?_,e1⟩; first | (simp_all [cJ,db]; done) | (simp_all [cJ,db] <;> simp [wB] <;> omega))
def RA (h:Hp) (op a b n form:Int):HC Tryz.prog 136 #[dm op a b n form,.int .i64 1] h fun w h'=>w=.bool (nR 1 n form)/\Ext h h':=by
 refine aY (args:=[dm op a b n form,.int .i64 1]) mixed Tryz.func136 az (uh op a b n form) ?_;unfold qn;refine br ?_;intro g1 b1 e1 z1
 try simp only [aE]
 repeat' (first
  | (refine af b1 (_,()) rfl ?_; refine ak ?_)
  | (refine aQ (cI _ _ _) ?_)
  | (refine aQ (cj _ _ _) ?_)
  | (refine ar (fun q=>?_) (fun q=>?_)))
 all_goals (refine ⟨?_,e1⟩; first | (simp_all [nR,db]; done) | (simp_all [nR,db] <;> omega))
def Ov (h:Hp) (op a b n form:Int):HC Tryz.prog 135 #[dm op a b n form,.int .i64 2] h fun w h'=>w=.bool (cJ 2 a b n)/\Ext h h':=by
 refine aY (args:=[dm op a b n form,.int .i64 2]) mixed Tryz.func135 az (qC op a b n form) ?_;unfold mu aX bC;refine br ?_;intro g1 b1 e1 z1
 try simp only [aE]
 repeat' (first
  | (refine af b1 (_,()) rfl ?_; refine ak ?_)
  | (refine aQ (cI _ _ _) ?_)
  | (refine aQ (cj _ _ _) ?_)
  | (refine ar (fun q=>?_) (fun q=>?_)))
 all_goals (refine ⟨?_,e1⟩; first | (simp_all [cJ,db]; done) | (simp_all [cJ,db] <;> simp [wB] <;> omega))
def RC (h:Hp) (op a b n form:Int):HC Tryz.prog 136 #[dm op a b n form,.int .i64 2] h fun w h'=>w=.bool (nR 2 n form)/\Ext h h':=by
 refine aY (args:=[dm op a b n form,.int .i64 2]) mixed Tryz.func136 az (tZ op a b n form) ?_;unfold qk;refine br ?_;intro g1 b1 e1 z1
 try simp only [aE]
 repeat' (first
  | (refine af b1 (_,()) rfl ?_; refine ak ?_)
  | (refine aQ (cI _ _ _) ?_)
  | (refine aQ (cj _ _ _) ?_)
  | (refine ar (fun q=>?_) (fun q=>?_)))
 all_goals (refine ⟨?_,e1⟩; first | (simp_all [nR,db]; done) | (simp_all [nR,db] <;> omega))
def NP (h:Hp) (op a b n form:Int):HC Tryz.prog 135 #[dm op a b n form,.int .i64 3] h fun w h'=>w=.bool (cJ 3 a b n)/\Ext h h':=by
 refine aY (args:=[dm op a b n form,.int .i64 3]) mixed Tryz.func135 az (qN op a b n form) ?_;unfold lO aX bC;refine br ?_;intro g1 b1 e1 z1
 try simp only [aE]
 repeat' (first
  | (refine af b1 (_,()) rfl ?_; refine ak ?_)
  | (refine aQ (cI _ _ _) ?_)
  | (refine aQ (cj _ _ _) ?_)
  | (refine ar (fun q=>?_) (fun q=>?_)))
 all_goals (refine ⟨?_,e1⟩; first | (simp_all [cJ,db]; done) | (simp_all [cJ,db] <;> simp [wB] <;> omega))
def PL (h:Hp) (op a b n form:Int):HC Tryz.prog 136 #[dm op a b n form,.int .i64 3] h fun w h'=>w=.bool (nR 3 n form)/\Ext h h':=by
 refine aY (args:=[dm op a b n form,.int .i64 3]) mixed Tryz.func136 az (tW op a b n form) ?_;unfold qo;refine br ?_;intro g1 b1 e1 z1
 try simp only [aE]
 repeat' (first
  | (refine af b1 (_,()) rfl ?_; refine ak ?_)
  | (refine aQ (cI _ _ _) ?_)
  | (refine aQ (cj _ _ _) ?_)
  | (refine ar (fun q=>?_) (fun q=>?_)))
 all_goals (refine ⟨?_,e1⟩; first | (simp_all [nR,db]; done) | (simp_all [nR,db] <;> omega))
def OZ (h:Hp) (op a b n form:Int):HC Tryz.prog 135 #[dm op a b n form,.int .i64 4] h fun w h'=>w=.bool (cJ 4 a b n)/\Ext h h':=by
 refine aY (args:=[dm op a b n form,.int .i64 4]) mixed Tryz.func135 az (qx op a b n form) ?_;unfold lH aX bC;refine br ?_;intro g1 b1 e1 z1
 try simp only [aE]
 repeat' (first
  | (refine af b1 (_,()) rfl ?_; refine ak ?_)
  | (refine aQ (cI _ _ _) ?_)
  | (refine aQ (cj _ _ _) ?_)
  | (refine ar (fun q=>?_) (fun q=>?_)))
 all_goals (refine ⟨?_,e1⟩; first | (simp_all [cJ,db]; done) | (simp_all [cJ,db] <;> simp [wB] <;> omega))
def QW (h:Hp) (op a b n form:Int):HC Tryz.prog 136 #[dm op a b n form,.int .i64 4] h fun w h'=>w=.bool (nR 4 n form)/\Ext h h':=by
 refine aY (args:=[dm op a b n form,.int .i64 4]) mixed Tryz.func136 az (uc op a b n form) ?_;unfold qm;refine br ?_;intro g1 b1 e1 z1
 try simp only [aE]
 repeat' (first
  | (refine af b1 (_,()) rfl ?_; refine ak ?_)
  | (refine aQ (cI _ _ _) ?_)
  | (refine aQ (cj _ _ _) ?_)
  | (refine ar (fun q=>?_) (fun q=>?_)))
 all_goals (refine ⟨?_,e1⟩; first | (simp_all [nR,db]; done) | (simp_all [nR,db] <;> omega))
def NL (h:Hp) (op a b n form:Int):HC Tryz.prog 135 #[dm op a b n form,.int .i64 5] h fun w h'=>w=.bool (cJ 5 a b n)/\Ext h h':=by
 refine aY (args:=[dm op a b n form,.int .i64 5]) mixed Tryz.func135 az (qL op a b n form) ?_;unfold ma aX bC;refine br ?_;intro g1 b1 e1 z1
 try simp only [aE]
 repeat' (first
  | (refine af b1 (_,()) rfl ?_; refine ak ?_)
  | (refine aQ (cI _ _ _) ?_)
  | (refine aQ (cj _ _ _) ?_)
  | (refine ar (fun q=>?_) (fun q=>?_)))
 all_goals (refine ⟨?_,e1⟩; first | (simp_all [cJ,db]; done) | (simp_all [cJ,db] <;> simp [wB] <;> omega))
def Qg (h:Hp) (op a b n form:Int):HC Tryz.prog 136 #[dm op a b n form,.int .i64 5] h fun w h'=>w=.bool (nR 5 n form)/\Ext h h':=by
 refine aY (args:=[dm op a b n form,.int .i64 5]) mixed Tryz.func136 az (tS op a b n form) ?_;unfold qj;refine br ?_;intro g1 b1 e1 z1
 try simp only [aE]
 repeat' (first
  | (refine af b1 (_,()) rfl ?_; refine ak ?_)
  | (refine aQ (cI _ _ _) ?_)
  | (refine aQ (cj _ _ _) ?_)
  | (refine ar (fun q=>?_) (fun q=>?_)))
 all_goals (refine ⟨?_,e1⟩; first | (simp_all [nR,db]; done) | (simp_all [nR,db] <;> omega))
def Ny (h:Hp) (op a b n form:Int):HC Tryz.prog 135 #[dm op a b n form,.int .i64 6] h fun w h'=>w=.bool (cJ 6 a b n)/\Ext h h':=by
 refine aY (args:=[dm op a b n form,.int .i64 6]) mixed Tryz.func135 az (qA op a b n form) ?_;unfold lM aX bC;refine br ?_;intro g1 b1 e1 z1
 try simp only [aE]
 repeat' (first
  | (refine af b1 (_,()) rfl ?_; refine ak ?_)
  | (refine aQ (cI _ _ _) ?_)
  | (refine aQ (cj _ _ _) ?_)
  | (refine ar (fun q=>?_) (fun q=>?_)))
 all_goals (refine ⟨?_,e1⟩; first | (simp_all [cJ,db]; done) | (simp_all [cJ,db] <;> simp [wB] <;> omega))
def QK (h:Hp) (op a b n form:Int):HC Tryz.prog 136 #[dm op a b n form,.int .i64 6] h fun w h'=>w=.bool (nR 6 n form)/\Ext h h':=by
 refine aY (args:=[dm op a b n form,.int .i64 6]) mixed Tryz.func136 az (uz op a b n form) ?_;unfold qp;refine br ?_;intro g1 b1 e1 z1
 try simp only [aE]
 repeat' (first
  | (refine af b1 (_,()) rfl ?_; refine ak ?_)
  | (refine aQ (cI _ _ _) ?_)
  | (refine aQ (cj _ _ _) ?_)
  | (refine ar (fun q=>?_) (fun q=>?_)))
 all_goals (refine ⟨?_,e1⟩; first | (simp_all [nR,db]; done) | (simp_all [nR,db] <;> omega))
def Mp (h:Hp) (op a b n form:Int):HC Tryz.prog 135 #[dm op a b n form,.int .i64 7] h fun w h'=>w=.bool (cJ 7 a b n)/\Ext h h':=by
 refine aY (args:=[dm op a b n form,.int .i64 7]) mixed Tryz.func135 az (qJ op a b n form) ?_;unfold lF aX bC;refine br ?_;intro g1 b1 e1 z1
 try simp only [aE]
 repeat' (first
  | (refine af b1 (_,()) rfl ?_; refine ak ?_)
  | (refine aQ (cI _ _ _) ?_)
  | (refine aQ (cj _ _ _) ?_)
  | (refine ar (fun q=>?_) (fun q=>?_)))
 all_goals (refine ⟨?_,e1⟩; first | (simp_all [cJ,db]; done) | (simp_all [cJ,db] <;> simp [wB] <;> omega))
def R3 (h:Hp) (op a b n form:Int):HC Tryz.prog 136 #[dm op a b n form,.int .i64 7] h fun w h'=>w=.bool (nR 7 n form)/\Ext h h':=by
 refine aY (args:=[dm op a b n form,.int .i64 7]) mixed Tryz.func136 az (uB op a b n form) ?_;unfold qv;refine br ?_;intro g1 b1 e1 z1
 try simp only [aE]
 repeat' (first
  | (refine af b1 (_,()) rfl ?_; refine ak ?_)
  | (refine aQ (cI _ _ _) ?_)
  | (refine aQ (cj _ _ _) ?_)
  | (refine ar (fun q=>?_) (fun q=>?_)))
 all_goals (refine ⟨?_,e1⟩; first | (simp_all [nR,db]; done) | (simp_all [nR,db] <;> omega))
def M' (h:Hp) (op a b n form:Int):HC Tryz.prog 135 #[dm op a b n form,.int .i64 8] h fun w h'=>w=.bool (cJ 8 a b n)/\Ext h h':=by
 refine aY (args:=[dm op a b n form,.int .i64 8]) mixed Tryz.func135 az (qO op a b n form) ?_;unfold lJ aX bC;refine br ?_;intro g1 b1 e1 z1
 try simp only [aE]
 repeat' (first
  | (refine af b1 (_,()) rfl ?_; refine ak ?_)
  | (refine aQ (cI _ _ _) ?_)
  | (refine aQ (cj _ _ _) ?_)
  | (refine ar (fun q=>?_) (fun q=>?_)))
 all_goals (refine ⟨?_,e1⟩; first | (simp_all [cJ,db]; done) | (simp_all [cJ,db] <;> simp [wB] <;> omega))
def RP (h:Hp) (op a b n form:Int):HC Tryz.prog 136 #[dm op a b n form,.int .i64 8] h fun w h'=>w=.bool (nR 8 n form)/\Ext h h':=by
 refine aY (args:=[dm op a b n form,.int .i64 8]) mixed Tryz.func136 az (um op a b n form) ?_;unfold qt aX;refine br ?_;intro g1 b1 e1 z1
 try simp only [aE]
 repeat' (first
  | (refine af b1 (_,()) rfl ?_; refine ak ?_)
  | (refine aQ (cI _ _ _) ?_)
  | (refine aQ (cj _ _ _) ?_)
  | (refine ar (fun q=>?_) (fun q=>?_)))
 all_goals (refine ⟨?_,e1⟩; first | (simp_all [nR,db]; done) | (simp_all [nR,db] <;> omega))
def O8 (h:Hp) (op a b n form:Int):HC Tryz.prog 135 #[dm op a b n form,.int .i64 9] h fun w h'=>w=.bool (cJ 9 a b n)/\Ext h h':=by
 refine aY (args:=[dm op a b n form,.int .i64 9]) mixed Tryz.func135 az (qz op a b n form) ?_;unfold lQ bC;refine br ?_;intro g1 b1 e1 z1
 try simp only [aE]
 repeat' (first
  | (refine af b1 (_,()) rfl ?_; refine ak ?_)
  | (refine aQ (cI _ _ _) ?_)
  | (refine aQ (cj _ _ _) ?_)
  | (refine ar (fun q=>?_) (fun q=>?_)))
 all_goals (refine ⟨?_,e1⟩; first | (simp_all [cJ,db]; done) | (simp_all [cJ,db] <;> simp [wB] <;> omega))
def Qv (h:Hp) (op a b n form:Int):HC Tryz.prog 136 #[dm op a b n form,.int .i64 9] h fun w h'=>w=.bool (nR 9 n form)/\Ext h h':=by
 refine aY (args:=[dm op a b n form,.int .i64 9]) mixed Tryz.func136 az (tX op a b n form) ?_;unfold qi bC;refine br ?_;intro g1 b1 e1 z1
 try simp only [aE]
 repeat' (first
  | (refine af b1 (_,()) rfl ?_; refine ak ?_)
  | (refine aQ (cI _ _ _) ?_)
  | (refine aQ (cj _ _ _) ?_)
  | (refine ar (fun q=>?_) (fun q=>?_)))
 all_goals (refine ⟨?_,e1⟩; first | (simp_all [nR,db]; done) | (simp_all [nR,db] <;> omega))
def KW (h:Hp) (op a b n form:Int):HC Tryz.prog 135 #[dm op a b n form,.int .i64 10] h fun w h'=>w=.bool (cJ 10 a b n)/\Ext h h':=by
 refine aY (args:=[dm op a b n form,.int .i64 10]) mixed Tryz.func135 az (pW op a b n form) ?_;unfold kJ aX bC;refine br ?_;intro g1 b1 e1 z1
 try simp only [aE]
 repeat' (first
  | (refine af b1 (_,()) rfl ?_; refine ak ?_)
  | (refine aQ (cI _ _ _) ?_)
  | (refine aQ (cj _ _ _) ?_)
  | (refine ar (fun q=>?_) (fun q=>?_)))
 all_goals (refine ⟨?_,e1⟩; first | (simp_all [cJ,db]; done) | (simp_all [cJ,db] <;> simp [wB] <;> omega))
def NO (h:Hp) (op a b n form:Int):HC Tryz.prog 136 #[dm op a b n form,.int .i64 10] h fun w h'=>w=.bool (nR 10 n form)/\Ext h h':=by
 refine aY (args:=[dm op a b n form,.int .i64 10]) mixed Tryz.func136 az (tf op a b n form) ?_;unfold oH;refine br ?_;intro g1 b1 e1 z1
 try simp only [aE]
 repeat' (first
  | (refine af b1 (_,()) rfl ?_; refine ak ?_)
  | (refine aQ (cI _ _ _) ?_)
  | (refine aQ (cj _ _ _) ?_)
  | (refine ar (fun q=>?_) (fun q=>?_)))
 all_goals (refine ⟨?_,e1⟩; first | (simp_all [nR,db]; done) | (simp_all [nR,db] <;> omega))
def JN (h:Hp) (op a b n form:Int):HC Tryz.prog 135 #[dm op a b n form,.int .i64 11] h fun w h'=>w=.bool (cJ 11 a b n)/\Ext h h':=by
 refine aY (args:=[dm op a b n form,.int .i64 11]) mixed Tryz.func135 az (pA op a b n form) ?_;unfold kM aX bC;refine br ?_;intro g1 b1 e1 z1
 try simp only [aE]
 repeat' (first
  | (refine af b1 (_,()) rfl ?_; refine ak ?_)
  | (refine aQ (cI _ _ _) ?_)
  | (refine aQ (cj _ _ _) ?_)
  | (refine ar (fun q=>?_) (fun q=>?_)))
 all_goals (refine ⟨?_,e1⟩; first | (simp_all [cJ,db]; done) | (simp_all [cJ,db] <;> simp [wB] <;> omega))
def LA (h:Hp) (op a b n form:Int):HC Tryz.prog 136 #[dm op a b n form,.int .i64 11] h fun w h'=>w=.bool (nR 11 n form)/\Ext h h':=by
 refine aY (args:=[dm op a b n form,.int .i64 11]) mixed Tryz.func136 az (sY op a b n form) ?_;unfold oO bC;refine br ?_;intro g1 b1 e1 z1
 try simp only [aE]
 repeat' (first
  | (refine af b1 (_,()) rfl ?_; refine ak ?_)
  | (refine aQ (cI _ _ _) ?_)
  | (refine aQ (cj _ _ _) ?_)
  | (refine ar (fun q=>?_) (fun q=>?_)))
 all_goals (refine ⟨?_,e1⟩; first | (simp_all [nR,db]; done) | (simp_all [nR,db] <;> omega))
def Ke (h:Hp) (op a b n form:Int):HC Tryz.prog 135 #[dm op a b n form,.int .i64 12] h fun w h'=>w=.bool (cJ 12 a b n)/\Ext h h':=by
 refine aY (args:=[dm op a b n form,.int .i64 12]) mixed Tryz.func135 az (pf op a b n form) ?_;unfold kL bC;refine br ?_;intro g1 b1 e1 z1
 try simp only [aE]
 repeat' (first
  | (refine af b1 (_,()) rfl ?_; refine ak ?_)
  | (refine aQ (cI _ _ _) ?_)
  | (refine aQ (cj _ _ _) ?_)
  | (refine ar (fun q=>?_) (fun q=>?_)))
 all_goals (refine ⟨?_,e1⟩; first | (simp_all [cJ,db]; done) | (simp_all [cJ,db] <;> simp [wB] <;> omega))
def O4 (h:Hp) (op a b n form:Int):HC Tryz.prog 136 #[dm op a b n form,.int .i64 12] h fun w h'=>w=.bool (nR 12 n form)/\Ext h h':=by
 refine aY (args:=[dm op a b n form,.int .i64 12]) mixed Tryz.func136 az (sV op a b n form) ?_;unfold ox aX;refine br ?_;intro g1 b1 e1 z1
 try simp only [aE]
 repeat' (first
  | (refine af b1 (_,()) rfl ?_; refine ak ?_)
  | (refine aQ (cI _ _ _) ?_)
  | (refine aQ (cj _ _ _) ?_)
  | (refine ar (fun q=>?_) (fun q=>?_)))
 all_goals (refine ⟨?_,e1⟩; first | (simp_all [nR,db]; done) | (simp_all [nR,db] <;> omega))
def Kf (h:Hp) (op a b n form:Int):HC Tryz.prog 135 #[dm op a b n form,.int .i64 13] h fun w h'=>w=.bool (cJ 13 a b n)/\Ext h h':=by
 refine aY (args:=[dm op a b n form,.int .i64 13]) mixed Tryz.func135 az (pH op a b n form) ?_;unfold kX aX bC;refine br ?_;intro g1 b1 e1 z1
 try simp only [aE]
 repeat' (first
  | (refine af b1 (_,()) rfl ?_; refine ak ?_)
  | (refine aQ (cI _ _ _) ?_)
  | (refine aQ (cj _ _ _) ?_)
  | (refine ar (fun q=>?_) (fun q=>?_)))
 all_goals (refine ⟨?_,e1⟩; first | (simp_all [cJ,db]; done) | (simp_all [cJ,db] <;> simp [wB] <;> omega))
def NU (h:Hp) (op a b n form:Int):HC Tryz.prog 136 #[dm op a b n form,.int .i64 13] h fun w h'=>w=.bool (nR 13 n form)/\Ext h h':=by
 refine aY (args:=[dm op a b n form,.int .i64 13]) mixed Tryz.func136 az (sW op a b n form) ?_;unfold n' aX;refine br ?_;intro g1 b1 e1 z1
 try simp only [aE]
 repeat' (first
  | (refine af b1 (_,()) rfl ?_; refine ak ?_)
  | (refine aQ (cI _ _ _) ?_)
  | (refine aQ (cj _ _ _) ?_)
  | (refine ar (fun q=>?_) (fun q=>?_)))
 all_goals (refine ⟨?_,e1⟩; first | (simp_all [nR,db]; done) | (simp_all [nR,db] <;> omega))
def D2 (h:Hp) (op a b n form:Int) {s:Nat} (h1:1<=s) (h2:s<=13):HC Tryz.prog 135 #[dm op a b n form,.int .i64 s] h fun w h'=>w=.bool (cJ s a b n)/\Ext h h':=by
 have hs:s=1\/s=2\/s=3\/s=4\/s=5\/s=6\/s=7\/s=8\/s=9\/s=10\/s=11\/s=12\/s=13:=ad
 clear h1 h2;rcases hs with rfl | rfl | rfl | rfl | rfl | rfl | rfl | rfl | rfl | rfl | rfl | rfl | rfl
 ·exact Oq h op a b n form
 ·exact Ov h op a b n form
 ·exact NP h op a b n form
 ·exact OZ h op a b n form
 ·exact NL h op a b n form
 ·exact Ny h op a b n form
 ·exact Mp h op a b n form
 ·exact M' h op a b n form
 ·exact O8 h op a b n form
 ·exact KW h op a b n form
 ·exact JN h op a b n form
 ·exact Ke h op a b n form
 ·exact Kf h op a b n form
def Ck (h:Hp) (op a b n form:Int) {s:Nat} (h1:1<=s) (h2:s<=13):HC Tryz.prog 136 #[dm op a b n form,.int .i64 s] h fun w h'=>w=.bool (nR s n form)/\Ext h h':=by
 have hs:s=1\/s=2\/s=3\/s=4\/s=5\/s=6\/s=7\/s=8\/s=9\/s=10\/s=11\/s=12\/s=13:=ad
 clear h1 h2;rcases hs with rfl | rfl | rfl | rfl | rfl | rfl | rfl | rfl | rfl | rfl | rfl | rfl | rfl
 ·exact RA h op a b n form
 ·exact RC h op a b n form
 ·exact PL h op a b n form
 ·exact QW h op a b n form
 ·exact Qg h op a b n form
 ·exact QK h op a b n form
 ·exact R3 h op a b n form
 ·exact RP h op a b n form
 ·exact Qv h op a b n form
 ·exact NO h op a b n form
 ·exact LA h op a b n form
 ·exact O4 h op a b n form
 ·exact NU h op a b n form
def Sm (n:Int):Prop:=-9223372036854775808<=n/\n<=9223372036854775807
def vP {h:Hp} (t:Bh h) (op a b n form:Int) (G:Sm op) :
  HC Tryz.prog 112 #[dm op a b n form] h fun w h'=>w=.int .i64 (gC ⟨op,a,b,n,form⟩)/\Ext h h':=by
 refine aY (args:=[dm op a b n form]) mixed Tryz.func112 az (Ah op a b n form) ?_;unfold ym aX bJ bX bR;refine br ?_;intro g1 b1 e1 z1;refine af b1 (op,()) rfl (ak ?_);refine aI (Oa (t.an e1 aj) op G.1 G.2) ?_;rintro _ g2 ⟨s,y,rfl,e2⟩;refine ⟨(s,y,((cC op:Nat):Int),decide (cC op≠0),()),rfl,ak ?_⟩;refine br ?_;intro g3 Z U z3;refine aw Z rfl aj ?_;intro V j X z4;have j:bI V g2.size 120 [.string s,.int .u8 y,.int .i64 (cC op:Nat)]:=j;have Y:=((e1.trans e2).trans U).st X (by have:=e1.size; have:=e2.size; omega);have b1:=b1.an ((e2.trans U).st X (by have:=e2.size; omega)) aj;unfold gC;simp only [aE];refine ar (fun q=>?_) (fun q=>?_)
 ·have q:cC op=0:=by simpa using q
  exact ⟨by rw [YC q],Y⟩
 have q:¬ cC op=0:=by simpa using q
 rw [Yx q];refine af b1 (op,a,b,n,form,()) rfl (ak ?_);refine af j (((cC op:Nat):Int),()) rfl (ak ?_);have hs:=ig op;refine aI (D2 V op a b n form (s:=cC op) ad ad) ?_;rintro _ g5 ⟨rfl,J⟩;refine ⟨(cJ (cC op) a b n,()),rfl,ak ?_⟩;have u:=Y.trans J;refine ar (fun q=>?_) (fun q=>?_)
 ·have q:cJ (cC op) a b n=false:=by simpa using q
  exact ⟨by rw [YC q],u⟩
 have q:cJ (cC op) a b n=true:=by simpa using q
 rw [Yx (by rw [q]; simp)];have b1:=b1.an J aj;have j:=j.an J aj;refine af b1 (op,()) rfl (ak ?_);refine aI (Au (t.an u aj) op G.1 G.2) ?_;rintro _ g6 ⟨rfl,O⟩;refine ⟨(nq op,()),rfl,ak ?_⟩;have d:=u.trans O;have b1:=b1.an O aj;have j:=j.an O aj;refine ar (fun q=>?_) (fun q=>?_)
 ·have q:nq op=false:=by simpa using q
  refine af b1 (form,()) rfl (ak ?_);refine ar (fun r=>?_) (fun r=>?_)
  ·have r:¬ form=0:=by simpa using r
   exact ⟨by rw [q]; simp [r],d⟩
  have r:form=0:=by simpa using r
  refine af b1 (op,a,b,n,form,()) rfl (ak ?_);refine af j (((cC op:Nat):Int),()) rfl (ak ?_);refine aI (Ck g6 op a b n form (s:=cC op) ad ad) ?_;rintro _ g7 ⟨rfl,F⟩;refine ⟨(nR (cC op) n form,()),rfl,ak ?_⟩;refine ar (fun p=>?_) (fun p=>?_)
  ·exact ⟨by rw [q]; simp_all,d.trans F⟩
  ·exact ⟨by rw [q]; simp_all,d.trans F⟩
 ·have q:nq op=true:=by simpa using q
  refine af b1 (op,a,b,n,form,()) rfl (ak ?_);refine af j (((cC op:Nat):Int),()) rfl (ak ?_);refine aI (Ck g6 op a b n form (s:=cC op) ad ad) ?_;rintro _ g7 ⟨rfl,F⟩;refine ⟨(nR (cC op) n form,()),rfl,ak ?_⟩;refine ar (fun p=>?_) (fun p=>?_)
  ·exact ⟨by rw [q]; simp_all,d.trans F⟩
  ·exact ⟨by rw [q]; simp_all,d.trans F⟩
def encI (p:Xac) (l c:Nat) (x:cB):List Xab:=[.int .i64 x.kind,.string x.name,.int .i64 x.inst.op,.int .i64 x.inst.a,.int .i64 x.inst.b,.int .i32 x.inst.n,.int .i64 x.inst.form,.slice p l c,.int .u32 x.e.num,.int .i64 x.n]
def vU (p:Xac) (l c:Nat) (x:cB):Xab:=.agg (encI p l c x).toArray
structure oK (h:Hp) (p:Xac) (l:Nat) (x:cn):Prop where
 vw:gW h p l x.ai
 many:x.ai.length<=2^60
 names:∀ t,t∈x.ai->t.1.size<=maxLen
def oK.an {h:Hp} {p:Xac} {l:Nat} {x:cn} (v:oK h p l x) (k:Ext h h'):oK h' p l x:=⟨v.vw.an k aj,v.many,v.names⟩
def gW.none (h:Hp):gW h none 0 []:=⟨rfl,fun i hi=>absurd hi aj⟩
def rJ (x:cn):wW x Fx=Pz x:=by
 unfold wW Pz Fx;rw [Bool.and_comm]
def IA (g k:Nat):T :=
 T.ah ⟨g,5,none⟩ [.int .i32] <| fun (d:Int) =>
 cond (d==(0:Int))
  (T.ah ⟨k,0,none⟩ [.int .i64,.int .i64,.int .i64,.int .i32,.int .i64] <| fun (j:Int) (u:Int) (F:Int) (G:Int) (J:Int) =>
  bJ 112 [.agg #[.int .i64 j,.int .i64 u,.int .i64 F,.int .i32 G,.int .i64 J]] false [aP] <| fun (O:Int) =>
  cond (O==(0:Int))
  (T.ah ⟨g,7,none⟩ [.slice 117,.int .u32] <| fun (U:Xac) (V:Nat) (X:Nat) (Y:Int) =>
  bJ 61 [.agg #[.slice U V X,aH Y]] false [bR] <| fun (Z:Bool) =>
  T.ret (.bool Z))
  bC)
  bC
def L4 (g k:Nat):T :=
 T.ah ⟨k,0,none⟩ [.int .i64,.int .i64,.int .i64,.int .i32,.int .i64] <| fun (d:Int) (j:Int) (u:Int) (F:Int) (G:Int) =>
 bJ 112 [.agg #[.int .i64 d,.int .i64 j,.int .i64 u,.int .i32 F,.int .i64 G]] false [aP] <| fun (J:Int) =>
 cond (J==(0:Int))
  (T.ah ⟨g,7,none⟩ [.slice 117,.int .u32] <| fun (O:Xac) (U:Nat) (V:Nat) (X:Int) =>
  bJ 86 [.agg #[.slice O U V,aH X],.agg #[bq,aH (0:Int)]] false [bR] <| fun (Y:Bool) =>
  T.ret (.bool Y))
  bC
def oN (i:Ins):List Xab:=[.int .i64 i.op,.int .i64 i.a,.int .i64 i.b,.int .i32 i.n,.int .i64 i.form]
def Fq {L:Lp} {h0 h:Hp} (t:Bh h) {x:cB} {p:Xac} {l c g k:Nat} {i:Ins} (b1:bI h g e1 (encI p l c x)) (d:bI h k e2 (oN i)) (v:oK h p l x.e) (j:Sm i.op) (e:Ext h0 h) :
  IA g k L (fun w h'=>w=.bool (decide (x.inst.n=0) && decide (gC i=0) && nV none x.e.ai)/\Ext h0 h') h:=by
 unfold IA bJ aH bC aP bR;refine af b1 (x.inst.n,()) rfl (ak ?_);refine ar (fun q=>?_) (fun q=>?_)
 ·have q:x.inst.n=0:=by simpa using q
  refine af d (i.op,i.a,i.b,i.n,i.form,()) rfl (ak ?_);refine aI (vP t i.op i.a i.b i.n i.form j) ?_;rintro _ g2 ⟨rfl,e2⟩;refine ⟨(gC i,()),rfl,ak ?_⟩;refine ar (fun r=>?_) (fun r=>?_)
  ·have r:gC i=0:=by simpa using r
   refine af (b1.an e2 aj) ((p,l,c),(x.e.num:Int),()) rfl (ak ?_);refine aI (ui (c:=c) (v.an e2).vw (by have:=v.many; omega) v.names) ?_;rintro _ F ⟨rfl,u⟩;refine ⟨(nV none x.e.ai,()),rfl,?_⟩;exact ⟨by rw [YA q,YA r]; rfl,(e.trans e2).trans u⟩
  ·have r:¬ gC i=0:=by simpa using r
   exact ⟨by rw [YB r,aj9]; rfl,e.trans e2⟩
 ·have q:¬ x.inst.n=0:=by simpa using q
  exact ⟨by rw [YB q]; rfl,e⟩
def L5 {L:Lp} {h0 h:Hp} (t:Bh h) {x:cB} {p:Xac} {l c g k:Nat} {i:Ins} (b1:bI h g e1 (encI p l c x)) (j:bI h k e2 (oN i)) (v:oK h p l x.e) (u:Sm i.op) (e:Ext h0 h) :
  L4 g k L (fun w h'=>w=.bool (decide (gC i=0) && Pz x.e)/\Ext h0 h') h:=by
 unfold L4 bJ aH bC bq aP bR;refine af j (i.op,i.a,i.b,i.n,i.form,()) rfl (ak ?_);refine aI (vP t i.op i.a i.b i.n i.form u) ?_;rintro _ g2 ⟨rfl,e2⟩;refine ⟨(gC i,()),rfl,ak ?_⟩;refine ar (fun r=>?_) (fun r=>?_)
 ·have r:gC i=0:=by simpa using r
  refine af (b1.an e2 aj) ((p,l,c),(x.e.num:Int),()) rfl (ak ?_);refine aI (BJ (c:=c) (d:=0) (y:=Fx) (v.an e2).vw (gW.none g2) v.many) ?_;rintro _ G ⟨rfl,F⟩;refine ⟨(wW x.e Fx,()),rfl,?_⟩;exact ⟨by rw [YA r,rJ]; rfl,(e.trans e2).trans F⟩
 ·have r:¬ gC i=0:=by simpa using r
  exact ⟨by rw [YB r]; rfl,e.trans e2⟩
def instruction_hc {h:Hp} (t:Bh h) {x:cB} {p:Xac} {l c:Nat} (v:oK h p l x.e) (V:Sm x.inst.op) :
  HC Tryz.prog 84 #[vU p l c x] h fun w h'=>w=.bool (yC x.inst x.e)/\Ext h h':=by
 refine aY (args:=[vU p l c x]) mixed Tryz.func84 az (qD x.kind x.name x.inst.op x.inst.a x.inst.b x.inst.n x.inst.form p l c x.e.num x.n) ?_;unfold mi aX ct bJ aH bC bq bX bR;refine br ?_;intro g1 b1 e1 z1;have b1:bI g1 h.size 71 (encI p l c x):=b1;simp only [aE];refine af b1 (x.inst.op,()) rfl (ak ?_);refine aI (Oa (t.an e1 aj) x.inst.op V.1 V.2) ?_;rintro _ g2 ⟨s,y,rfl,e2⟩;refine ⟨(s,y,((cC x.inst.op:Nat):Int),decide (cC x.inst.op≠0),()),rfl,ak ?_⟩;refine br ?_;intro g3 b3 e3 z3;refine aw b3 rfl aj ?_;intro F X k4 z4;have X:bI F g2.size 120 [.string s,.int .u8 y,.int .i64 (cC x.inst.op:Nat)]:=X;have s1:=e1.size;have s2:=e2.size;have Y:=(e2.trans e3).st k4 ad;have e4:=e1.trans Y;have b1:=b1.an Y aj;unfold yC;refine ar (fun q=>?_) (fun q=>?_)
 ·have q:cC x.inst.op=0:=by simpa using q
  exact ⟨by rw [q]; rfl,e4⟩
 have q:cC x.inst.op≠0:=by simpa using q
 rw [YA q,YU];refine af b1 (x.inst.form,()) rfl (ak ?_);refine ar (fun r=>?_) (fun r=>?_)
 ·have r:¬ x.inst.form=0:=by simpa using r
  exact ⟨by rw [YB r]; rfl,e4⟩
 have r:x.inst.form=0:=by simpa using r
 rw [YA r,YU];refine af b1 (x.inst.op,x.inst.a,x.inst.b,x.inst.n,x.inst.form,()) rfl (ak ?_);refine br ?_;intro g5 b5 e5 z5;refine aw b5 rfl aj ?_;intro g6 Z k6 z6;have Z:bI g6 F.size 65 (oN x.inst):=Z;have j:=e5.st k6 ad;have J:=e4.trans j;have b1:=b1.an j aj;have X:=X.an j aj;simp only [aE];have hs:=ig x.inst.op;refine af X (((cC x.inst.op:Nat):Int),()) rfl (ak ?_);generalize G:(if Gp x.inst.op=true then decide (x.inst.n=0) && decide (gC { x.inst with form:=if nq x.inst.op=true then 1 else 0 }=0) && nV none x.e.ai else decide (gC x.inst=0) && Pz x.e)=B;have hF:{ x.inst with form:=0 }=x.inst:=by
  rcases hx:x.inst with ⟨a1,a2,a3,a4,a5⟩
  rw [hx] at r;simp only at r;rw [r]
 have hA:12<=cC x.inst.op->T.aC ⟨F.size,4,none⟩ [.int .i64 1] (IA h.size F.size) [] (fun w h'=>w=.bool B/\Ext h h') g6:=by
  intro hh;refine aw Z rfl (by simp [oN]) ?_;intro g7 b7 k7 z7;have b7:bI g7 F.size 65 (oN { x.inst with form:=1 }):=b7;have e67:Ext F g7:=j.st k7 ad;have e7:=e4.trans e67;have hw:Gp x.inst.op=true:=YA ad;have hp:nq x.inst.op=true:=YA hh;rw [YC hw,YC hp] at G
  have:=Fq (L:=[]) (h0:=h) (t.an e7 aj) (b1.an k7 (by simp; omega)) b7 (v.an e7) V e7
  rw [G] at this;exact this
 have hR:cC x.inst.op=10\/cC x.inst.op=11->IA h.size F.size [] (fun w h'=>w=.bool B/\Ext h h') g6:=by
  intro hh;have hw:Gp x.inst.op=true:=YA ad;have hp:¬ nq x.inst.op=true:=by unfold nq; rw [YB ad]; simp
  rw [YC hw,Yx hp,hF] at G
  have:=Fq (L:=[]) (h0:=h) (t.an J aj) b1 Z (v.an J) V J
  rw [G] at this;exact this
 have hS:cC x.inst.op<10->L4 h.size F.size [] (fun w h'=>w=.bool B/\Ext h h') g6:=by
  intro hh;have hw:¬ Gp x.inst.op=true:=by unfold Gp; rw [YB ad]; simp
  rw [Yx hw] at G
  have:=L5 (L:=[]) (h0:=h) (t.an J aj) b1 Z (v.an J) V J
  rw [G] at this;exact this
 clear G;refine ar (fun O=>?_) (fun O=>?_)
 ·have O:((cC x.inst.op:Nat):Int)=12:=by simpa using O
  refine ar (fun d=>hA ad) (fun d=>?_);have d:¬ ((cC x.inst.op:Nat):Int)=12:=by simpa using d
  exact absurd O d
 have O:¬ ((cC x.inst.op:Nat):Int)=12:=by simpa using O
 refine ar (fun d=>?_) (fun d=>?_)
 ·have d:((cC x.inst.op:Nat):Int)=13:=by simpa using d
  exact hA ad
 have d:¬ ((cC x.inst.op:Nat):Int)=13:=by simpa using d
 refine ar (fun U=>?_) (fun U=>?_)
 ·have U:((cC x.inst.op:Nat):Int)=10:=by simpa using U
  refine ar (fun d=>hR ad) (fun u=>?_);have u:¬ ((cC x.inst.op:Nat):Int)=10:=by simpa using u
  exact absurd U u
 have U:¬ ((cC x.inst.op:Nat):Int)=10:=by simpa using U
 refine ar (fun u=>?_) (fun u=>?_)
 ·have u:((cC x.inst.op:Nat):Int)=11:=by simpa using u
  exact hR ad
 have u:¬ ((cC x.inst.op:Nat):Int)=11:=by simpa using u
 exact hS ad
structure js (h:Hp) (p:Xac) (l:Nat) (x:cB):Prop where
 lin:oK h p l x.e
 name:x.name.size<=maxLen
 op:Sm x.inst.op
def js.an {h:Hp} {p:Xac} {l:Nat} {x:cB} (v:js h p l x) (k:Ext h h'):js h' p l x:=⟨v.lin.an k,v.name,v.op⟩
def kV (x y:cB):Bool:=decide (x.name=y.name) && decide (x.inst=y.inst) && decide (x.n=y.n) && wW x.e y.e
def SX:Tryz.prog.underlying 65=some (.struct (Es Tryz.prog 65)):=az
def TX (x y:Operand) (i j:Ins) (h:Hp) (K:Xab->Hp->Prop) (hk:K (.bool !(decide (i=j))) h) :
  aU Tryz.prog (Sx.kw (BinOp.neq) 65 x y (.agg (oN i).toArray) (.agg (oN j).toArray)) h K:=by
 refine zm SX az az az K ?_;have d:(Es Tryz.prog 65).all (H4 (oN i).toArray (oN j).toArray)=(i.op==j.op && (i.a==j.a && (i.b==j.b && (i.n==j.n && (i.form==j.form && true))))):=by
  rw [<- ZV]
  kernel_rfl
 rw [d,ZK]
 have:(i.op==j.op && (i.a==j.a && (i.b==j.b && (i.n==j.n && i.form==j.form))))=decide (i=j):=by
  rcases i with ⟨u,a2,a3,a4,a5⟩
  rcases j with ⟨F,G,c3,J,c5⟩
  simp only [db,Ins.mk.injEq]
  by_cases h1:u=F <;> by_cases h2:a2=G <;> by_cases h3:a3=c3 <;> by_cases h4:a4=J <;> by_cases h5:a5=c5 <;> simp [h1,h2,h3,h4,h5]
 rw [this];exact hk
def XT (g k:Nat):T :=
 T.ah ⟨g,1,none⟩ [.string] <| fun (s8:Xaa) =>
 T.ah ⟨k,1,none⟩ [.string] <| fun (s9:Xaa) =>
 cond (!((ByteArray.toList s8)==(ByteArray.toList s9)))
  (T.ret (.int .i64 (31:Int)))
  (T.ah ⟨g,2,none⟩ [.int .i64,.int .i64,.int .i64,.int .i32,.int .i64] <| fun (d:Int) (j:Int) (u:Int) (F:Int) (G:Int) =>
  T.ah ⟨k,2,none⟩ [.int .i64,.int .i64,.int .i64,.int .i32,.int .i64] <| fun (J:Int) (O:Int) (U:Int) (V:Int) (X:Int) =>
  bU (Sx.kw (BinOp.neq) 65 (Operand.tmp 109) (Operand.tmp 111) (.agg #[.int .i64 d,.int .i64 j,.int .i64 u,.int .i32 F,.int .i64 G]) (.agg #[.int .i64 J,.int .i64 O,.int .i64 U,.int .i32 V,.int .i64 X])) false [bR] <| fun (Y:Bool) =>
  cond Y
  (T.ret (.int .i64 (31:Int)))
  (T.ah ⟨g,9,none⟩ [.int .i64] <| fun (Z:Int) =>
  T.ah ⟨k,9,none⟩ [.int .i64] <| fun (n22:Int) =>
  cond (Z != n22)
   (T.ret (.int .i64 (31:Int)))
   (T.ah ⟨g,7,none⟩ [.slice 117,.int .u32] <| fun (p23:Xac) (l24:Nat) (l25:Nat) (n26:Int) =>
   T.ah ⟨k,7,none⟩ [.slice 117,.int .u32] <| fun (p27:Xac) (l28:Nat) (l29:Nat) (n30:Int) =>
   bJ 86 [.agg #[.slice p23 l24 l25,aH n26],.agg #[.slice p27 l28 l29,aH n30]] false [bR] <| fun (b31:Bool) =>
   cond (!b31)
   (T.ret (.int .i64 (31:Int)))
   (T.ret (.int .i64 (0:Int))))))
def DO (b:Bool):Xab:=.int .i64 (if b then 0 else 31)
def pB {L:Lp} {h0 h:Hp} {x y:cB} {p q:Xac} {l c m d g k:Nat} (b1:bI h g e1 (encI p l c x)) (j:bI h k e2 (encI q m d y)) (v:oK h p l x.e) (w:gW h q m y.e.ai) (e:Ext h0 h) :
  XT g k L (fun w h'=>w=DO (kV x y)/\Ext h0 h') h:=by
 unfold XT kV bJ bU aH bR;refine af b1 (x.name,()) rfl (ak ?_);refine af j (y.name,()) rfl (ak ?_);rw [ByteArray.toList_eq,ByteArray.toList_eq];refine ar (fun r=>?_) (fun r=>?_)
 ·have r:¬ x.name=y.name:=fun F=>by rw [F] at r; simp at r
  exact ⟨by rw [YB r]; rfl,e⟩
 have r:x.name=y.name:=C2 (by simpa using r);rw [YA r,YU];refine af b1 (x.inst.op,x.inst.a,x.inst.b,x.inst.n,x.inst.form,()) rfl (ak ?_);refine af j (y.inst.op,y.inst.a,y.inst.b,y.inst.n,y.inst.form,()) rfl (ak ?_);refine Al (fun K' G=>TX _ _ x.inst y.inst h K' G) ?_;refine ar (fun r=>?_) (fun r=>?_)
 ·have r:¬ x.inst=y.inst:=by simpa using r
  exact ⟨by rw [YB r]; rfl,e⟩
 have r:x.inst=y.inst:=by simpa using r
 rw [YA r,YU];refine af b1 (x.n,()) rfl (ak ?_);refine af j (y.n,()) rfl (ak ?_);refine ar (fun r=>?_) (fun r=>?_)
 ·have r:¬ x.n=y.n:=by simpa using r
  exact ⟨by rw [YB r]; rfl,e⟩
 have r:x.n=y.n:=by simpa using r
 rw [YA r,YU];refine af b1 ((p,l,c),(x.e.num:Int),()) rfl (ak ?_);refine af j ((q,m,d),(y.e.num:Int),()) rfl (ak ?_);refine aI (BJ (c:=c) (d:=d) v.vw w v.many) ?_;rintro _ J ⟨rfl,u⟩;refine ⟨(wW x.e y.e,()),rfl,ak ?_⟩;refine ar (fun r=>?_) (fun r=>?_)
 ·have r:wW x.e y.e=false:=by simpa using r
  exact ⟨by rw [r]; rfl,e.trans u⟩
 ·have r:wW x.e y.e=true:=by simpa using r
  exact ⟨by rw [r]; rfl,e.trans u⟩
def uA (x:cn):wW x x=true:=JO x
def Dy {x:cB} (hk:x.kind=1):cD x sec=(cX x.name.data.toList && kV x { ff x.kind with name:=x.name }):=by
 unfold cD kV;simp only [hk,ff,uA,rJ,z1,z2,z3,z4];simp (decide:=true) only [if_true,if_false,bt9,YU,ZK]
 try simp only [Bool.and_assoc,Bool.and_comm,Bool.and_left_comm]
def Og {x:cB} (hk:x.kind=2):cD x sec=(decide (sec=0) && yC x.inst x.e && kV x { ff x.kind with inst:=x.inst,e:=x.e }):=by
 unfold cD kV;simp only [hk,ff,uA,rJ,z1,z2,z3,z4];simp (decide:=true) only [if_true,if_false,bt9,YU,ZK]
 try simp only [Bool.and_assoc,Bool.and_comm,Bool.and_left_comm]
def MT {x:cB} (hk:x.kind=3):cD x sec=(uF x.n && kV x { ff x.kind with n:=x.n }):=by
 unfold cD kV;simp only [hk,ff,uA,rJ,z1,z2,z3,z4];simp (decide:=true) only [if_true,if_false,bt9,YU,ZK]
 try simp only [Bool.and_assoc,Bool.and_comm,Bool.and_left_comm]
def Ou {x:cB} (hk:x.kind=4):cD x sec=(decide (sec=0) && kV x (ff x.kind)):=by
 unfold cD kV;simp only [hk,ff,uA,rJ,z1,z2,z3,z4];simp (decide:=true) only [if_true,if_false,bt9,YU,ZK]
 try simp only [Bool.and_assoc,Bool.and_comm,Bool.and_left_comm]
def Nn {x:cB} (hk:x.kind=5):cD x sec=(decide (sec=1) && decide (-128<=x.n) && decide (x.n<=255) && kV x { ff x.kind with n:=x.n }):=by
 unfold cD kV;simp only [hk,ff,uA,rJ,z1,z2,z3,z4];simp (decide:=true) only [if_true,if_false,bt9,YU,ZK]
 try simp only [Bool.and_assoc,Bool.and_comm,Bool.and_left_comm]
def Lr {x:cB} (hk:x.kind=6):cD x sec=(decide (sec=1) && nV none x.e.ai && kV x { ff x.kind with e:=x.e }):=by
 unfold cD kV;simp only [hk,ff,uA,rJ,z1,z2,z3,z4];simp (decide:=true) only [if_true,if_false,bt9,YU,ZK]
 try simp only [Bool.and_assoc,Bool.and_comm,Bool.and_left_comm]
def Ol {x:cB} (hk:x.kind=7):cD x sec=(decide (sec=1) && decide (0<=x.n) && decide (x.n<=1048576) && kV x { ff x.kind with n:=x.n }):=by
 unfold cD kV;simp only [hk,ff,uA,rJ,z1,z2,z3,z4];simp (decide:=true) only [if_true,if_false,bt9,YU,ZK]
 try simp only [Bool.and_assoc,Bool.and_comm,Bool.and_left_comm]
def Ib {x:cB} (h1:x.kind≠1) (h2:x.kind≠2) (h3:x.kind≠3) (h4:x.kind≠4) (h5:x.kind≠5) (h6:x.kind≠6) (h7:x.kind≠7):cD x sec=false:=by
 unfold cD;rw [Yx h1,Yx h2,Yx h3,Yx h4,Yx h5,Yx h6,Yx h7]
def ON {h:Hp} (t:Bh h) {x:cB} {p:Xac} {l c:Nat} (v:js h p l x) :
  HC Tryz.prog 59 #[vU p l c x,.int .i64 0] h fun w h'=>w=DO (cD x 0)/\Ext h h':=by
 refine aY (args:=[vU p l c x,.int .i64 0]) mixed Tryz.func59 az (ug x.kind x.name x.inst.op x.inst.a x.inst.b x.inst.n x.inst.form p l c x.e.num x.n) ?_;unfold ql aX eA aH bq bX;refine br ?_;intro g1 b1 e1 z1;have b1:bI g1 h.size 71 (encI p l c x):=b1;refine af b1 (x.kind,()) rfl (ak ?_);refine br ?_;intro g2 b2 e2 z2;refine aw b2 rfl aj ?_;intro g3 G k3 z3;have G:bI g3 g1.size 71 (encI none 0 0 (ff x.kind)):=G;have s1:=e1.size;have V:=e2.st k3 (YI _);have J:=e1.trans V;have b1:=b1.an V aj;simp only [aE];refine af b1 (x.kind,()) rfl (ak ?_);refine ar (fun q=>?_) (fun q=>?_)
 ·have q:x.kind=1:=by simpa using q
  rw [Dy q];refine af b1 (x.name,()) rfl (ak ?_);refine aw G rfl (by simp [encI]) ?_;intro F d j z4;have d:bI F g1.size 71 (encI none 0 0 { ff x.kind with name:=x.name }):=d;have u:=J.st j ad;have b1:=b1.an j (by simp; omega);refine af b1 (x.name,()) rfl (ak ?_);refine aQ (uR x.name F (by have:=v.name; have:maxLen=9223372036854775807:=rfl; omega)) ?_;refine ar (fun r=>?_) (fun r=>?_)
  ·have r:cX x.name.data.toList=false:=by simpa using r
   exact ⟨by rw [r]; rfl,u⟩
  have r:cX x.name.data.toList=true:=by simpa using r
  rw [r,YU];have O:=pB (L:=[]) (h0:=h) (y:={ ff x.kind with name:=x.name }) b1 d (v.lin.an u) (gW.none F) u;exact O
 have q1:x.kind≠1:=by simpa using q
 refine ar (fun q=>?_) (fun q=>?_)
 ·have q:x.kind=2:=by simpa using q
  rw [Og q];refine af b1 (x.inst.op,x.inst.a,x.inst.b,x.inst.n,x.inst.form,()) rfl (ak ?_);refine af b1 ((p,l,c),(x.e.num:Int),()) rfl (ak ?_);refine aw G rfl (by simp [encI]) ?_;intro F d j z4;have u:=J.st j ad;have b1:=b1.an j (by simp; omega);refine ⟨⟨b1.cells [.slice p l c,.int .u32 x.e.num] rfl,trivial⟩,?_⟩;refine aw d rfl (by simp [encI,lh]) ?_;intro g5 X k5 z5;have X:bI g5 g1.size 71 (encI p l c { ff x.kind with inst:=x.inst,e:=x.e }):=X;have Z:=u.st k5 ad;have b1:=b1.an k5 (by simp; omega);refine af b1 (x.kind,x.name,x.inst.op,x.inst.a,x.inst.b,x.inst.n,x.inst.form,(p,l,c),(x.e.num:Int),x.n,()) rfl (ak ?_);refine aI (instruction_hc (c:=c) (t.an Z aj) (v.lin.an Z) v.op) ?_;rintro _ g6 ⟨rfl,U⟩;refine ⟨(yC x.inst x.e,()),rfl,ak ?_⟩;have Y:=Z.trans U;refine ar (fun r=>?_) (fun r=>?_)
  ·have r:yC x.inst x.e=false:=by simpa using r
   exact ⟨by rw [r]; rfl,Y⟩
  have r:yC x.inst x.e=true:=by simpa using r
  rw [r];have b1:=b1.an U aj;have X:=X.an U aj;have O:=pB (L:=[]) (h0:=h) (y:={ ff x.kind with inst:=x.inst,e:=x.e }) b1 X (v.lin.an Y) (v.lin.an Y).vw Y;exact O
 have q2:x.kind≠2:=by simpa using q
 refine ar (fun q=>?_) (fun q=>?_)
 ·have q:x.kind=3:=by simpa using q
  rw [MT q];refine af b1 (x.n,()) rfl (ak ?_);refine aw G rfl (by simp [encI]) ?_;intro F d j z4;have d:bI F g1.size 71 (encI none 0 0 { ff x.kind with n:=x.n }):=d;have u:=J.st j ad;have b1:=b1.an j (by simp; omega);refine af b1 (x.n,()) rfl (ak ?_);refine aQ (Fp F x.n) ?_;refine ar (fun r=>?_) (fun r=>?_)
  ·have r:uF x.n=false:=by simpa using r
   exact ⟨by rw [r]; rfl,u⟩
  have r:uF x.n=true:=by simpa using r
  rw [r,YU];have O:=pB (L:=[]) (h0:=h) (y:={ ff x.kind with n:=x.n }) b1 d (v.lin.an u) (gW.none F) u;exact O
 have q3:x.kind≠3:=by simpa using q
 refine ar (fun q=>?_) (fun q=>?_)
 ·have q:x.kind=4:=by simpa using q
  rw [Ou q];have O:=pB (L:=[]) (h0:=h) (y:=(ff x.kind)) b1 G (v.lin.an J) (gW.none g3) J;exact O
 have q4:x.kind≠4:=by simpa using q
 refine ar (fun q=>?_) (fun q=>?_)
 ·have q:x.kind=5:=by simpa using q
  rw [Nn q];refine af b1 (x.n,()) rfl (ak ?_);refine aw G rfl (by simp [encI]) ?_;intro F d j z4;have d:bI F g1.size 71 (encI none 0 0 { ff x.kind with n:=x.n }):=d;have u:=J.st j ad;have b1:=b1.an j (by simp; omega);exact ⟨rfl,u⟩
 have q5:x.kind≠5:=by simpa using q
 refine ar (fun q=>?_) (fun q=>?_)
 ·have q:x.kind=6:=by simpa using q
  rw [Lr q];refine af b1 ((p,l,c),(x.e.num:Int),()) rfl (ak ?_);refine aw G rfl (by simp [encI]) ?_;intro F d j z4;have d:bI F g1.size 71 (encI p l c { ff x.kind with e:=x.e }):=d;have u:=J.st j ad;have b1:=b1.an j (by simp; omega);exact ⟨rfl,u⟩
 have q6:x.kind≠6:=by simpa using q
 refine ar (fun q=>?_) (fun q=>?_)
 ·have q:x.kind=7:=by simpa using q
  rw [Ol q];refine af b1 (x.n,()) rfl (ak ?_);refine aw G rfl (by simp [encI]) ?_;intro F d j z4;have d:bI F g1.size 71 (encI none 0 0 { ff x.kind with n:=x.n }):=d;have u:=J.st j ad;have b1:=b1.an j (by simp; omega);exact ⟨rfl,u⟩
 have q7:x.kind≠7:=by simpa using q
 exact ⟨by rw [Ib q1 q2 q3 q4 q5 q6 q7]; rfl,J⟩
def LF {h:Hp} (t:Bh h) {x:cB} {p:Xac} {l c:Nat} (v:js h p l x) :
  HC Tryz.prog 59 #[vU p l c x,.int .i64 1] h fun w h'=>w=DO (cD x 1)/\Ext h h':=by
 refine aY (args:=[vU p l c x,.int .i64 1]) mixed Tryz.func59 az (uj x.kind x.name x.inst.op x.inst.a x.inst.b x.inst.n x.inst.form p l c x.e.num x.n) ?_;unfold qg aX eA aH bq bX;refine br ?_;intro g1 b1 e1 z1;have b1:bI g1 h.size 71 (encI p l c x):=b1;refine af b1 (x.kind,()) rfl (ak ?_);refine br ?_;intro g2 b2 e2 z2;refine aw b2 rfl aj ?_;intro g3 O k3 z3;have O:bI g3 g1.size 71 (encI none 0 0 (ff x.kind)):=O;have s1:=e1.size;have X:=e2.st k3 (YI _);have U:=e1.trans X;have b1:=b1.an X aj;simp only [aE];refine af b1 (x.kind,()) rfl (ak ?_);refine ar (fun q=>?_) (fun q=>?_)
 ·have q:x.kind=1:=by simpa using q
  rw [Dy q];refine af b1 (x.name,()) rfl (ak ?_);refine aw O rfl (by simp [encI]) ?_;intro F d u z4;have d:bI F g1.size 71 (encI none 0 0 { ff x.kind with name:=x.name }):=d;have j:=U.st u ad;have b1:=b1.an u (by simp; omega);refine af b1 (x.name,()) rfl (ak ?_);refine aQ (uR x.name F (by have:=v.name; have:maxLen=9223372036854775807:=rfl; omega)) ?_;refine ar (fun r=>?_) (fun r=>?_)
  ·have r:cX x.name.data.toList=false:=by simpa using r
   exact ⟨by rw [r]; rfl,j⟩
  have r:cX x.name.data.toList=true:=by simpa using r
  rw [r,YU];have J:=pB (L:=[]) (h0:=h) (y:={ ff x.kind with name:=x.name }) b1 d (v.lin.an j) (gW.none F) j;exact J
 have q1:x.kind≠1:=by simpa using q
 refine ar (fun q=>?_) (fun q=>?_)
 ·have q:x.kind=2:=by simpa using q
  rw [Og q];refine af b1 (x.inst.op,x.inst.a,x.inst.b,x.inst.n,x.inst.form,()) rfl (ak ?_);refine af b1 ((p,l,c),(x.e.num:Int),()) rfl (ak ?_);refine aw O rfl (by simp [encI]) ?_;intro F d u z4;have j:=U.st u ad;have b1:=b1.an u (by simp; omega);refine ⟨⟨b1.cells [.slice p l c,.int .u32 x.e.num] rfl,trivial⟩,?_⟩;refine aw d rfl (by simp [encI,lh]) ?_;intro g5 Z k5 z5;have Z:bI g5 g1.size 71 (encI p l c { ff x.kind with inst:=x.inst,e:=x.e }):=Z;have e5:=j.st k5 ad;have b1:=b1.an k5 (by simp; omega);exact ⟨rfl,e5⟩
 have q2:x.kind≠2:=by simpa using q
 refine ar (fun q=>?_) (fun q=>?_)
 ·have q:x.kind=3:=by simpa using q
  rw [MT q];refine af b1 (x.n,()) rfl (ak ?_);refine aw O rfl (by simp [encI]) ?_;intro F d u z4;have d:bI F g1.size 71 (encI none 0 0 { ff x.kind with n:=x.n }):=d;have j:=U.st u ad;have b1:=b1.an u (by simp; omega);refine af b1 (x.n,()) rfl (ak ?_);refine aQ (Fp F x.n) ?_;refine ar (fun r=>?_) (fun r=>?_)
  ·have r:uF x.n=false:=by simpa using r
   exact ⟨by rw [r]; rfl,j⟩
  have r:uF x.n=true:=by simpa using r
  rw [r,YU];have J:=pB (L:=[]) (h0:=h) (y:={ ff x.kind with n:=x.n }) b1 d (v.lin.an j) (gW.none F) j;exact J
 have q3:x.kind≠3:=by simpa using q
 refine ar (fun q=>?_) (fun q=>?_)
 ·have q:x.kind=4:=by simpa using q
  rw [Ou q];exact ⟨rfl,U⟩
 have q4:x.kind≠4:=by simpa using q
 refine ar (fun q=>?_) (fun q=>?_)
 ·have q:x.kind=5:=by simpa using q
  rw [Nn q];refine af b1 (x.n,()) rfl (ak ?_);refine aw O rfl (by simp [encI]) ?_;intro F d u z4;have d:bI F g1.size 71 (encI none 0 0 { ff x.kind with n:=x.n }):=d;have j:=U.st u ad;have b1:=b1.an u (by simp; omega);refine af b1 (x.n,()) rfl (ak ?_);refine aM (fun r=>?_) (fun r=>?_)
  ·refine af b1 (x.n,()) rfl (ak ?_);refine ar (fun G=>?_) (fun G=>?_)
   ·have G:¬ x.n<=255:=by simpa using G
    exact ⟨by rw [YB G,aj9]; rfl,j⟩
   have G:x.n<=255:=by simpa using G
   rw [YA G,YA (show -128<=x.n from r)];have J:=pB (L:=[]) (h0:=h) (y:={ ff x.kind with n:=x.n }) b1 d (v.lin.an j) (gW.none F) j;exact J
  ·exact ⟨by rw [YB (show ¬ -128<=x.n from r),aj9]; rfl,j⟩
 have q5:x.kind≠5:=by simpa using q
 refine ar (fun q=>?_) (fun q=>?_)
 ·have q:x.kind=6:=by simpa using q
  rw [Lr q];refine af b1 ((p,l,c),(x.e.num:Int),()) rfl (ak ?_);refine aw O rfl (by simp [encI]) ?_;intro F d u z4;have d:bI F g1.size 71 (encI p l c { ff x.kind with e:=x.e }):=d;have j:=U.st u ad;have b1:=b1.an u (by simp; omega);refine af b1 ((p,l,c),(x.e.num:Int),()) rfl (ak ?_);refine aI (ui (c:=c) (v.lin.an j).vw (by have:=v.lin.many; omega) v.lin.names) ?_;rintro _ g6 ⟨rfl,V⟩;refine ⟨(nV none x.e.ai,()),rfl,ak ?_⟩;have Y:=j.trans V;refine ar (fun r=>?_) (fun r=>?_)
  ·have r:nV none x.e.ai=false:=by simpa using r
   exact ⟨by rw [r]; rfl,Y⟩
  have r:nV none x.e.ai=true:=by simpa using r
  rw [r];have b1:=b1.an V aj;have d:=d.an V aj;have J:=pB (L:=[]) (h0:=h) (y:={ ff x.kind with e:=x.e }) b1 d (v.lin.an Y) (v.lin.an Y).vw Y;exact J
 have q6:x.kind≠6:=by simpa using q
 refine ar (fun q=>?_) (fun q=>?_)
 ·have q:x.kind=7:=by simpa using q
  rw [Ol q];refine af b1 (x.n,()) rfl (ak ?_);refine aw O rfl (by simp [encI]) ?_;intro F d u z4;have d:bI F g1.size 71 (encI none 0 0 { ff x.kind with n:=x.n }):=d;have j:=U.st u ad;have b1:=b1.an u (by simp; omega);refine af b1 (x.n,()) rfl (ak ?_);refine aM (fun r=>?_) (fun r=>?_)
  ·refine af b1 (x.n,()) rfl (ak ?_);refine ar (fun G=>?_) (fun G=>?_)
   ·have G:¬ x.n<=1048576:=by simpa using G
    exact ⟨by rw [YB G,aj9]; rfl,j⟩
   have G:x.n<=1048576:=by simpa using G
   rw [YA G,YA (show 0<=x.n from r)];have J:=pB (L:=[]) (h0:=h) (y:={ ff x.kind with n:=x.n }) b1 d (v.lin.an j) (gW.none F) j;exact J
  ·exact ⟨by rw [YB (show ¬ 0<=x.n from r),aj9]; rfl,j⟩
 have q7:x.kind≠7:=by simpa using q
 exact ⟨by rw [Ib q1 q2 q3 q4 q5 q6 q7]; rfl,U⟩
section
variable {α:Type}
def vE (en:α->Xab) (D:List (Xaa × α)):List (Xaa × Xab):=D.map fun p=>(p.1,en p.2)
def gE (D:List (Xaa × α)) (s:Xaa):Option α:=(D.find? fun p=>decide (s=p.1)).map (·.2)
def pE (D:List (Xaa × α)) (s:Xaa) (v:α):List (Xaa × α):=if (gE D s).isSome then D.map fun p=>if s=p.1 then (p.1,v) else p else D++[(s,v)]
def mZ (en:α->Xab) (D:List (Xaa × α)) (s:Xaa):look (vE en D) s=(gE D s).map en:=by
 unfold look gE vE
 induction D with
 | nil=>rfl
 | cons p D d =>
  by_cases h:s=p.1
  ·simp [h]
  ·simp only [List.map_cons,List.find?_cons,decide_eq_false h];exact d
def Hk (en:α->Xab) (D:List (Xaa × α)) (s:Xaa) (v:α):iR (vE en D) s (en v)=vE en (pE D s v):=by
 unfold iR pE;rw [mZ];cases h:gE D s with
 | none=>simp [vE]
 | some q =>
  simp only [Option.map_some,Option.isSome_some,if_true,vE,List.map_map];refine Zm fun p d=>?_
  simp only [Function.comp];split <;> simp_all
def xj (D:List (Xaa × α)) (s:Xaa) (v:α):(pE D s v).length=if (gE D s).isSome then D.length else D.length+1:=by
 unfold pE;split <;> simp
def xn (D:List (Xaa × α)) (s t:Xaa) (v:α):gE (D++[(s,v)]) t=(gE D t).or (if t=s then some v else none):=by
 unfold gE;rw [Z9];cases h:D.find? (fun p=>decide (t=p.1)) with
 | some q=>simp
 | none =>
  simp only [Option.none_or,Option.map_none,List.find?_cons,List.find?_nil]
  by_cases e:t=s
  ·simp [e]
  ·simp [e]
def GO (D:List (Xaa × α)) (s t:Xaa) (v:α) (hs:(gE D s).isSome):gE (D.map fun p=>if s=p.1 then (p.1,v) else p) t=if t=s then some v else gE D t:=by
 unfold gE at *
 induction D with
 | nil=>simp at hs
 | cons p D G =>
  by_cases h:s=p.1
  ·by_cases e:t=s
   ·simp [h,e]
   ·have e2:¬ t=p.1:=fun k=>e (k.trans h.symm)
    have J:∀ l:List (Xaa × α),(List.find? (fun p=>decide (t=p.1)) (List.map (fun p=>if s=p.1 then (p.1,v) else p) l)).map (·.2)=(List.find? (fun p=>decide (t=p.1)) l).map (·.2):=by
     intro l
     induction l with
     | nil=>rfl
     | cons q l j =>
      by_cases u:s=q.1
      ·have:¬ t=q.1:=fun k=>e (k.trans u.symm)
       simp only [List.map_cons,List.find?_cons,if_pos u,decide_eq_false this];exact j
      ·simp only [List.map_cons,List.find?_cons,if_neg u]
       by_cases d:t=q.1
       ·simp [d]
       ·simp only [decide_eq_false d];exact j
    simp only [List.map_cons,List.find?_cons,if_pos h,decide_eq_false e2,if_neg e];exact J D
  ·have F:(Option.map (fun x=>x.2) (List.find? (fun p=>decide (s=p.1)) D)).isSome:=by
    simpa [List.find?_cons,decide_eq_false h] using hs
   simp only [List.map_cons,List.find?_cons,if_neg h]
   by_cases d:t=p.1
   ·have:¬ t=s:=fun k=>h (k.symm.trans d)
    simp [d,if_neg (d▸this)]
   ·simp only [decide_eq_false d];exact G F
def OE (D:List (Xaa × α)) (s:Xaa) (v:α) (t:Xaa):gE (pE D s v) t=if t=s then some v else gE D t:=by
 unfold pE;split
 ·rename_i h;exact GO D s t v h
 ·rename_i h;rw [xn]
  by_cases e:t=s
  ·subst e
   have:gE D t=none:=by simpa using h
   rw [this]; simp
  ·simp [e]
def dH (f:Xaa->Option α) (s:Xaa) (v:α):Xaa->Option α:=fun t=>if t=s then some v else f t
def dQ (en:α->Xab) (h:Hp) (g:Nat) (f:Xaa->Option α) (n:Nat):Prop:=∃ D:List (Xaa × α),dV h g (vE en D)/\(∀ s,gE D s=f s)/\D.length=n
def dQ.an {en:α->Xab} {ws:List Nat} {h h':Hp} {g:Nat} {f:Xaa->Option α} {n:Nat} (m:dQ en h g f n) (k:Ch ws h h') (hw:g∉ws):dQ en h' g f n:=by
 obtain ⟨D,m,r⟩:=m;exact ⟨D,m.an k hw,r⟩
def dQ.lt {en:α->Xab} {h:Hp} {g:Nat} {f:Xaa->Option α} {n:Nat} (m:dQ en h g f n):g<h.size:=by
 obtain ⟨D,m,r⟩:=m;exact m.lt
def dQ.new {en:α->Xab} {h:Hp} {g:Nat} (m:dV h g []):dQ en h g (fun _=>none) 0:=⟨[],m,fun s=>rfl,rfl⟩
def dQ.iR {en:α->Xab} {h':Hp} {g:Nat} {f:Xaa->Option α} {n:Nat} {D:List (Xaa × α)} (d:∀ s,gE D s=f s) (hn:D.length=n) {s:Xaa} {v:α} (m:dV h' g (Sx.iR (vE en D) s (en v))):dQ en h' g (dH f s v) (if (f s).isSome then n else n+1):=by
 rw [Hk] at m;refine ⟨_,m,fun t=>?_,?_⟩
 ·rw [OE,d t]; rfl
 ·rw [xj,d s,hn]
end
def eB (b:Bool):Xab:=.bool b
def Tr:Tryz.prog.underlying 58=some (.map 9 4):=az
def xw:Tryz.prog.underlying 9=some .string:=az
def NV:(Tryz.prog.info? 4).bind (·.zero)=some (.bool false):=az
def Bv (h:Hp) (g:Nat) (D:List Xaa):Prop:=∃ n,dQ eB h g (fun s=>if gd D s then some true else none) n
def Bv.an {ws:List Nat} {h h':Hp} {g:Nat} {D:List Xaa} (m:Bv h g D) (k:Ch ws h h') (hw:g∉ws):Bv h' g D:=by
 obtain ⟨n,m⟩:=m;exact ⟨n,m.an k hw⟩
def Bv.lt {h:Hp} {g:Nat} {D:List Xaa} (m:Bv h g D):g<h.size:=by
 obtain ⟨n,m⟩:=m;exact m.lt
section
variable {L:Lp} {K:Xab->Hp->Prop} {h:Hp} {g:Nat} {D:List Xaa}
def Oo (m:Bv h g D) (s:Xaa) {k:Bool->T} (hk:k (gd D s) L K h):T.ek Tryz.prog (Instr.lookup 58 (.map (some g)) (.string s) false) false [(false,[.bool])] k L K h:=by
 obtain ⟨n,D',m,d,hn⟩:=m;refine ix Tr xw NV m s false _ ?_;refine ⟨(gd D s,()),?_,hk⟩;simp only [Bool.false_eq_true,if_false];rw [mZ,d s];dsimp only
 all_goals (cases gd D s <;> rfl)
def de (m:Bv h g D) {s:Xaa} (hs:s.size<=maxLen) {k:T} (hk:∀ h',Bv h' g (s::D)->Ch [g] h h'->h'.size=h.size->k L K h') :
  T.ey Tryz.prog (Instr.mapUpdate 58 (.map (some g)) (.string s) (.bool true)) k L K h:=by
 obtain ⟨n,D',m,d,hn⟩:=m;refine fm Tr xw m hs _ _ ?_;intro h' m' c' j
 have:=dQ.iR (en:=eB) d hn (v:=true) m'
 have u:dH (fun t=>if gd D t then some true else none) s true=fun t=>if gd (s::D) t then some true else none:=by
  funext t
  unfold dH gd
  by_cases h1:t=s
  ·rw [YC h1,YC];simp [h1]
  ·rw [Yx h1]
   have:¬ s=t:=fun e=>h1 e.symm
   rw [List.any_cons,YB this,ad9]
 rw [u] at this;exact hk h' ⟨_,this⟩ c' j
def WC {t:TypeId} {k:Option Nat->T} (hk:∀ h',Bv h' h.size []->Ext h h'->h'.size=h.size+1->k (some h.size) L K h'):T.ek Tryz.prog (Instr.makeMap t none) false [(false,[.map 0 0])] k L K h:=by
 refine jM _ ?_;intro h' m e z;exact ⟨(some h.size,()),rfl,hk h' ⟨0,dQ.new m⟩ e z⟩
end
structure Bx (h:Hp) (p:Xac) (l:Nat) (us:List cB):Prop where
 len:l=us.length
 many:us.length<=2^60
 cells:∀ i,(hi:i<us.length)->∃ a q m c,p=some a/\aJ h (a.add (i*10)) 0 (encI q m c us[i])/\js h q m us[i]
def Bx.an {h h':Hp} {p:Xac} {l:Nat} {us:List cB} (v:Bx h p l us) (k:Ext h h'):Bx h' p l us :=
 ⟨v.len,v.many,fun i hi=>by
  obtain ⟨a,q,m,c,d,hc,hv⟩:=v.cells i hi;exact ⟨a,q,m,c,d,aT k aj _ _ hc,hv.an k⟩⟩
def UW (p:Xac) (l c:Nat) (x:rO):List Xab:=[.string x.1,.slice p l c,.int .u32 x.2.num]
structure uf (h:Hp) (p:Xac) (l:Nat) (us:List rO):Prop where
 len:l=us.length
 many:us.length<=2^60
 cells:∀ i,(hi:i<us.length)->∃ a q m c,p=some a/\aJ h (a.add (i*3)) 0 (UW q m c us[i])/\oK h q m us[i].2/\us[i].1.size<=maxLen
def uf.an {h h':Hp} {p:Xac} {l:Nat} {us:List rO} (v:uf h p l us) (k:Ext h h'):uf h' p l us :=
 ⟨v.len,v.many,fun i hi=>by
  obtain ⟨a,q,m,c,d,hc,hv,hs⟩:=v.cells i hi;exact ⟨a,q,m,c,d,aT k aj _ _ hc,hv.an k,hs⟩⟩
structure WO (h:Hp) (p:Xac) (l:Nat) (us:List Xaa):Prop where
 len:l=us.length
 many:us.length<=2^60
 cells:∀ i,(hi:i<us.length)->∃ a,p=some a/\aJ h (a.add (i*1)) 0 [.string us[i]]/\us[i].size<=maxLen
def WO.an {h h':Hp} {p:Xac} {l:Nat} {us:List Xaa} (v:WO h p l us) (k:Ext h h'):WO h' p l us :=
 ⟨v.len,v.many,fun i hi=>by
  obtain ⟨a,d,hc,hs⟩:=v.cells i hi;exact ⟨a,d,aT k aj _ _ hc,hs⟩⟩
structure cr where
 p:Xac
 l:Nat
 c:Nat
def cr.v (s:cr):Xab:=.slice s.p s.l s.c
structure tO (h:Hp) (a b c d:cr) (u:cd):Prop where
 text:Bx h a.p a.l u.text
 data:Bx h b.p b.l u.data
 bh:uf h c.p c.l u.bh
 aZ:WO h d.p d.l u.aZ
def tO.an {h h':Hp} {a b c d:cr} {u:cd} (v:tO h a b c d u) (k:Ext h h'):tO h' a b c d u:=⟨v.text.an k,v.data.an k,v.bh.an k,v.aZ.an k⟩
def ED (a b c d:cr):Xab:=.agg #[a.v,b.v,c.v,d.v]
def Px:Tryz.prog.underlying 79=some (.slice 43):=az
def Xa:(Tryz.prog.info? 43).map (fun i=>(i.zero,i.size,i.bytes))=some (some (.slice none 0 0),1,24):=az
def OQ (p1:Xac) (d u:Nat) (F:Xac) (G J:Nat):Instr.fill (fun j=>some (j*1,1)) ((Array.range (2*1)).map ((Value.slice none 0 0).cells[· % (Value.slice none 0 0).cells.size]!)) [(0,.slice p1 d u),(1,.slice F G J)]=some ([.slice p1 d u,.slice F G J]:List Xab).toArray:=az
def yW (u:cd) (k:Nat):List cB:=if k=0 then u.text else u.data
def uE (u:cd) (k:Nat):List Xaa:=if k=0 then [] else if k=1 then cR [] u.text else cR (cR [] u.text) u.data
def Av (u:cd) (k:Nat):Bool:=if k=0 then tN u else if k=1 then (eQ 1 (cR [] u.text) u.data && (gp (cR (cR [] u.text) u.data) u.bh && cV u.names dJ u.aZ)) else (gp (cR (cR [] u.text) u.data) u.bh && cV u.names dJ u.aZ)
def JM (u:cd) {k:Nat} (hk:k<2):Av u k=(eQ k (uE u k) (yW u k) && Av u (k+1)):=by
 have:k=0\/k=1:=ad
 rcases this with rfl | rfl
 ·simp [Av,uE,yW,tN,Bool.and_assoc]
 ·simp [Av,uE,yW]
def KA (u:cd) {k:Nat} (hk:k<2):uE u (k+1)=cR (uE u k) (yW u k):=by
 have:k=0\/k=1:=ad
 rcases this with rfl | rfl <;> rfl
def FX (D:List Xaa) (l:List cB) {i:Nat} (hi:i<l.length):cR D (l.take (i+1))=ub (cR D (l.take i)) l[i]:=by
 unfold cR;rw [Yw hi,Zk] <;> rfl
def Fy (D:List Xaa) (l:List rO) {i:Nat} (hi:i<l.length):bd D (l.take (i+1))=l[i].1::bd D (l.take i):=by
 unfold bd;rw [Yw hi,Zk] <;> rfl
def Dm (sec:Nat) (D:List Xaa) (l:List cB) {i:Nat} (hi:i<l.length):eQ sec D (l.drop i)=(x5 sec D l[i] && eQ sec (ub D l[i]) (l.drop (i+1))):=by
 rw [YK hi,eQ]
def FH (D:List Xaa) (l:List rO) {i:Nat} (hi:i<l.length):gp D (l.drop i)=(CK D l[i] && gp (l[i].1::D) (l.drop (i+1))):=by
 rw [YK hi,gp]
def ou (l:List Xaa) (i:Nat):Xaa:=if i=0 then dJ else l.getD (i-1) dJ
def vO (D:List Xaa) (l:List Xaa) {i:Nat} (hi:i<l.length):cV D (ou l i) (l.drop i)=(RM D (ou l i) l[i] && cV D (ou l (i+1)) (l.drop (i+1))):=by
 rw [YK hi,cV]
 congr 2
 unfold ou;rw [Yx ad,Nat.add_sub_cancel,Zh,Yv hi] <;> rfl
def Ga (h:Hp) (g:Nat) (D:List Xaa):Prop:=Bv h g D/\∀ s,s∈D->cX s.data.toList=true
def Ga.an {ws:List Nat} {h h':Hp} {g:Nat} {D:List Xaa} (m:Ga h g D) (k:Ch ws h h') (hw:g∉ws):Ga h' g D:=⟨m.1.an k hw,m.2⟩
def EC {s:Xaa} (h:cX s.data.toList=true):hY dJ s:=by
 unfold cX at h;simp only [Bool.and_eq_true,decide_eq_true_eq] at h;have h2:=h.1.1.1.1;show (dJ.data.toList:List UInt8)<s.data.toList
 have:(dJ.data.toList:List UInt8)=[]:=rfl
 rw [this];cases hs:s.data.toList with
 | nil=>rw [hs] at h2; simp at h2
 | cons a l=>exact List.Lex.nil
def vL {D:List Xaa} {s:Xaa} (h:gd D s=true):s∈D:=by
 unfold gd at h;simp only [List.any_eq_true,decide_eq_true_eq] at h;obtain ⟨y,d,rfl⟩:=h;exact d
def Qy {h:Hp} (t:Bh h) {x:cB} {p:Xac} {l c k:Nat} (v:js h p l x) (hk:k<2) :
  HC Tryz.prog 59 #[vU p l c x,.int .i64 (k:Int)] h fun w h'=>w=DO (cD x k)/\Ext h h':=by
 have:k=0\/k=1:=ad
 rcases this with rfl | rfl
 ·exact ON t v
 ·exact LF t v
def wb {h:Hp} (t:Bh h) {a b c d:cr} {u:cd} (v:tO h a b c d u):HC Tryz.prog 30 #[ED a b c d] h fun w h'=>w=.int .i64 (eO u:Nat)/\Ext h h':=by
 refine aY (args:=[ED a b c d]) mixed Tryz.func30 az (yV a.p a.l a.c b.p b.l b.c c.p c.l c.c d.p d.l d.c) ?_;unfold wy bf bg bz aK aX ct eA bt bU bm aH bq bX aP;refine br ?_;intro g1 b1 e1 z1;have b1:bI g1 h.size 47 [a.v,b.v,c.v,d.v]:=b1;have m1:=v.text.many;have m2:=v.data.many;have m3:=v.bh.many;have m4:=v.aZ.many;have n1:=v.text.len;have n2:=v.data.len;have n3:=v.bh.len;have n4:=v.aZ.len;have s1:=e1.size;simp only [aE];refine af b1 ((a.p,a.l,a.c),()) rfl (ak ?_);refine af b1 ((b.p,b.l,b.c),()) rfl (ak ?_);rw [wrap_i64 ad ad];unfold eO vH;refine ar (fun q=>?_) (fun q=>?_)
 ·have q:=Yz q;exact ⟨by rw [YA (show 8192<u.text.length+u.data.length from ad)]; rfl,e1⟩
 have q:=YG q;rw [YB (show ¬ 8192<u.text.length+u.data.length from ad),ad9];refine af b1 ((c.p,c.l,c.c),()) rfl (ak ?_);refine ar (fun q=>?_) (fun q=>?_)
 ·have q:=Yz q;exact ⟨by rw [YA (show 8192<u.bh.length from ad)]; rfl,e1⟩
 have q:=YG q;rw [YB (show ¬ 8192<u.bh.length from ad),Yx aj];refine WC ?_;intro g2 m e2 z2;have O:=b1.an e2 aj;refine af O ((a.p,a.l,a.c),()) rfl (ak ?_);refine af O ((b.p,b.l,b.c),()) rfl (ak ?_);refine jC Px Xa ad ad (OQ a.p a.l a.c b.p b.l b.c) ?_;intro g3 b3 e3 z3;have m:=m.an e3 (by have:=m.lt; simp);have e03:=(e1.trans e2).trans e3;have b3':=O.an e3 aj;have s2:=e2.size;clear b1 O;have hsec:∀ k,k<2->∃ s:cr,([a.v,b.v]:List Xab).drop k=s.v::([a.v,b.v]:List Xab).drop (k+1)/\Bx h s.p s.l (yW u k):=by
  intro k hk
  have:k=0\/k=1:=ad
  rcases this with rfl | rfl
  ·exact ⟨a,rfl,v.text⟩
  ·exact ⟨b,rfl,v.data⟩
 have s3:=e3.size;have b3:bI g3 g2.size 43 [a.v,b.v]:=b3;generalize hU:tN u=U;refine aS (cs:=[(false,[.int .i64]),(false,[.int .i64])]) (fun y w h'=>∃ k:Nat,y.2.1=(k:Int)/\k<=2/\w=2-k/\Ext h h'/\bI h' h.size 47 [a.v,b.v,c.v,d.v]/\bI h' g2.size 43 [a.v,b.v]/\Ga h' g1.size (uE u k)/\U=Av u k) ((0:Int),(0:Int),()) 2 rfl
  ⟨0,rfl,ad,ad,e03,b3',b3,⟨m,by simp [uE]⟩,hU.symm⟩ ?_
 rintro ⟨n21,n22,⟨⟩⟩ w h4 ⟨k,hk,hk2,rfl,e4,b1,O,m,hu⟩;simp only at hk;subst hk;refine ak ?_;refine aM (fun q=>?_) (fun q=>?_)
 ·have hk:k<2:=ad
  obtain ⟨sl,hsl,vs⟩:=hsec k hk;refine ax ⟨ad,ad⟩ (av rfl ?_);rw [aE];refine af O ((sl.p,sl.l,sl.c),()) (by rw [show 0+(k:Int).toNat*1=k from ad,hsl]; rfl) ?_;refine ak ?_;have lk:=vs.len;have mk:=vs.many;generalize hl:yW u k=l at vs lk mk;have G:U=(eQ k (cR (uE u k) (l.take 0)) (l.drop 0) && Av u (k+1)):=by
   rw [hu,JM u hk,hl] <;> rfl
  refine aS (cs:=[(false,[.int .i64]),(false,[.int .i64])]) (fun y w h'=>∃ i:Nat,y.2.1=(i:Int)/\i<=l.length/\w=l.length-i/\Ext h h'/\bI h' h.size 47 [a.v,b.v,c.v,d.v]/\bI h' g2.size 43 [a.v,b.v]/\Ga h' g1.size (cR (uE u k) (l.take i))/\U=(eQ k (cR (uE u k) (l.take i)) (l.drop i) && Av u (k+1))) (n21,(0:Int),()) l.length rfl
   ⟨0,rfl,ad,ad,e4,b1,O,m,G⟩ ?_
  clear hu G m b1 O e4;rintro ⟨X,n28,⟨⟩⟩ w h5 ⟨i,hi,hile,rfl,Z,b1,O,m,hu⟩;simp only at hi;subst hi;refine ak ?_;refine aM (fun q2=>?_) (fun q2=>?_)
  ·have j:i<l.length:=ad
   obtain ⟨aa,pp,ll,cc,rfl',hc,va⟩:=(vs.an Z).cells i j;rw [Dm k _ l j] at hu;have F:=FX (uE u k) l j;generalize l[i]=x at hc va hu F;refine ax ⟨ad,ad⟩ (av rfl' ?_);rw [show Int.toNat (i:Int)=i from ad];refine ay (x.kind,x.name,x.inst.op,x.inst.a,x.inst.b,x.inst.n,x.inst.form,(pp,ll,cc),(x.e.num:Int),x.n,()) hc (ak ?_);refine br ?_;intro h6 b6 e6 z6;refine aw b6 rfl aj ?_;intro h7 b7 k7 z7;have b7:bI h7 h5.size 71 (encI pp ll cc x):=b7;have J:Ext h5 h7:=e6.st k7 (YI _);have e7:=Z.trans J;simp only [aE];refine af b7 (x.kind,x.name,x.inst.op,x.inst.a,x.inst.b,x.inst.n,x.inst.form,(pp,ll,cc),(x.e.num:Int),x.n,()) rfl (ak ?_);refine aI (Qy (c:=cc) (t.an e7 aj) (va.an J) hk) ?_;rintro _ h8 ⟨rfl,e8⟩;refine ⟨((if cD x k then 0 else 31:Int),()),rfl,ak ?_⟩;have e58:=J.trans e8;have V:=Z.trans e58;have b1:=b1.an e58 aj;have O:=O.an e58 aj;have m:=m.an e58 aj;have b8:=b7.an e8 aj;refine ar (fun r=>?_) (fun r=>?_)
   ·have r:cD x k=false:=by
     cases hr:cD x k with
     | false=>rfl
     | true=>rw [hr] at r; simp at r
    exact ⟨by rw [hu,x5,r]; rfl,V⟩
   have r:cD x k=true:=by
    cases hr:cD x k with
    | true=>rfl
    | false=>rw [hr] at r; simp at r
   have hno:∀ D,x5 k D x=!(decide (x.kind=1) && gd D x.name):=fun D=>by rw [x5,r]; rfl
   rw [hno] at hu;refine af b8 (x.kind,()) rfl (ak ?_);refine ar (fun Y=>?_) (fun Y=>?_)
   ·have Y:x.kind=1:=by simpa using Y
    rw [YA Y,YU] at hu;have hle:cX x.name.data.toList=true:=by
     rw [Dy Y,YZ] at r;exact r.1
    refine af b8 (x.name,()) rfl (ak ?_);refine Oo m.1 x.name ?_;refine ar (fun r2=>?_) (fun r2=>?_)
    ·exact ⟨by rw [hu,r2]; rfl,V⟩
    rw [r2] at hu;refine af b8 (x.kind,()) rfl (ak ?_);refine bk (by simpa using Y) ?_;refine af b8 (x.name,()) rfl (ak ?_);refine de m.1 va.name ?_;intro h9 m9 k9 z9;have e09:Ext h h9:=V.st k9 ad;have s5:=Z.size;have hadd:ub (cR (uE u k) (l.take i)) x=x.name::cR (uE u k) (l.take i):=by unfold ub; rw [YC Y]
    refine aG (cs:=[(false,[.int .i64]),(false,[.int .i64])]) (X,((i+1:Nat):Int),()) (l.length-(i+1)) rfl ad (by rw [wrap_i64 ad ad]; rfl) ?_;refine ⟨i+1,rfl,ad,rfl,e09,b1.an k9 (by simp; omega),O.an k9 (by simp; omega),by rw [F,hadd]; exact ⟨m9,fun s hs=>(YS.1 hs).elim (fun e=>by rw [e]; exact hle) (m.2 s)⟩,by rw [hu,F]; rfl⟩
   ·have Y:¬ x.kind=1:=by simpa using Y
    rw [YB Y] at hu;refine af b8 (x.kind,()) rfl (ak ?_);refine bG (by simpa using Y) ?_;have hadd:ub (cR (uE u k) (l.take i)) x=cR (uE u k) (l.take i):=by unfold ub; rw [Yx Y]
    refine aG (cs:=[(false,[.int .i64]),(false,[.int .i64])]) (X,((i+1:Nat):Int),()) (l.length-(i+1)) rfl ad (by rw [wrap_i64 ad ad]; rfl) ?_;refine ⟨i+1,rfl,ad,rfl,V,b1,O,by rw [F,hadd]; exact m,by rw [hu,F]; rfl⟩
  ·have j:i=l.length:=ad
   subst j;rw [Y4] at m hu;rw [ZJ,eQ,YU] at hu;refine aG (cs:=[(false,[.int .i64]),(false,[.int .i64])]) (X,((k+1:Nat):Int),()) (2-(k+1)) rfl ad (by rw [wrap_i64 ad ad]; rfl) ?_;refine ⟨k+1,rfl,ad,rfl,Z,b1,O,by rw [KA u hk,hl]; exact m,hu⟩
 ·have hk:k=2:=ad
  subst hk;have hu:U=(gp (cR (cR [] u.text) u.data) u.bh && cV u.names dJ u.aZ):=hu;have m:Ga h4 g1.size (cR (cR [] u.text) u.data):=m;generalize hD:cR (cR [] u.text) u.data=D at hu m;have hN:u.names=bd D u.bh:=by rw [<- hD]; rfl
  rw [hN] at hu;refine af b1 ((c.p,c.l,c.c),()) rfl (ak ?_);have G:U=(gp (bd D (u.bh.take 0)) (u.bh.drop 0) && cV (bd D u.bh) dJ u.aZ):=hu;refine aS (cs:=[(false,[.int .i64]),(false,[.int .i64])]) (fun y w h'=>∃ i:Nat,y.2.1=(i:Int)/\i<=u.bh.length/\w=u.bh.length-i/\Ext h h'/\bI h' h.size 47 [a.v,b.v,c.v,d.v]/\Ga h' g1.size (bd D (u.bh.take i))/\U=(gp (bd D (u.bh.take i)) (u.bh.drop i) && cV (bd D u.bh) dJ u.aZ)) (n21,(0:Int),()) u.bh.length rfl
   ⟨0,rfl,ad,ad,e4,b1,m,G⟩ ?_
  clear hu G m b1 O e4;rintro ⟨X,n28,⟨⟩⟩ w h5 ⟨i,hi,hile,rfl,Z,b1,m,hu⟩;simp only at hi;subst hi;refine ak ?_;have s5:=Z.size;refine ar (fun q2=>?_) (fun q2=>?_)
  ·have q2:=Yz q2;have j:i<u.bh.length:=ad
   obtain ⟨aa,pp,ll,cc,rfl',hc,va,vn⟩:=(v.bh.an Z).cells i j;rw [FH _ _ j] at hu;have F:=Fy D u.bh j;generalize u.bh[i]=x at hc va vn hu F;refine ax ⟨ad,ad⟩ (av rfl' ?_);rw [show Int.toNat (i:Int)=i from ad];refine ay (x.1,(pp,ll,cc),(x.2.num:Int),()) hc (ak ?_);refine br ?_;intro h6 b6 e6 z6;refine aw b6 rfl aj ?_;intro h7 b7 k7 z7;have b7:bI h7 h5.size 100 (UW pp ll cc x):=b7;have J:Ext h5 h7:=e6.st k7 (YI _);have e7:=Z.trans J;simp only [aE];have b1:=b1.an J aj;have m:=m.an J aj;unfold CK at hu;refine af b7 (x.1,()) rfl (ak ?_);refine Oo m.1 x.1 ?_;refine ar (fun r=>?_) (fun r=>?_)
   ·exact ⟨by rw [hu,r]; rfl,e7⟩
   rw [r] at hu;refine af b7 (x.1,()) rfl (ak ?_);refine aQ (uR x.1 h7 (by have:maxLen=9223372036854775807:=rfl; omega)) ?_;refine ar (fun r=>?_) (fun r=>?_)
   ·have r:cX x.1.data.toList=false:=by simpa using r
    exact ⟨by rw [hu,r]; rfl,e7⟩
   have hle:cX x.1.data.toList=true:=by simpa using r
   rw [hle] at hu;refine af b7 ((pp,ll,cc),(x.2.num:Int),()) rfl (ak ?_);refine aI (ui (c:=cc) (va.an J).vw (by have:=va.many; omega) va.names) ?_;rintro _ h8 ⟨rfl,e8⟩;refine ⟨(nV none x.2.ai,()),rfl,ak ?_⟩;have V:=e7.trans e8;have b1:=b1.an e8 aj;have m:=m.an e8 aj;have b8:=b7.an e8 aj;refine ar (fun r=>?_) (fun r=>?_)
   ·have r:nV none x.2.ai=false:=by simpa using r
    exact ⟨by rw [hu,r]; rfl,V⟩
   have r:nV none x.2.ai=true:=by simpa using r
   rw [r] at hu;refine af b8 (x.1,()) rfl (ak ?_);refine de m.1 vn ?_;intro h9 m9 k9 z9;have e09:Ext h h9:=V.st k9 ad;refine aG (cs:=[(false,[.int .i64]),(false,[.int .i64])]) (X,((i+1:Nat):Int),()) (u.bh.length-(i+1)) rfl ad (by rw [wrap_i64 ad ad]; rfl) ?_;refine ⟨i+1,rfl,ad,rfl,e09,b1.an k9 (by simp; omega),by rw [F]; exact ⟨m9,fun s hs=>(YS.1 hs).elim (fun e=>by rw [e]; exact hle) (m.2 s)⟩,by rw [hu,F]; rfl⟩
  have q2:=YG q2;have j:i=u.bh.length:=ad
  subst j;rw [Y4] at m hu;rw [ZJ,gp,YU] at hu;generalize hE:bd D u.bh=E at m hu;refine af b1 ((d.p,d.l,d.c),()) rfl (ak ?_);have G:U=cV E (ou u.aZ 0) (u.aZ.drop 0):=hu;refine aS (cs:=[(false,[.int .i64]),(false,[.int .i64])]) (fun y w h'=>∃ i:Nat,y.2.1=(i:Int)/\i<=u.aZ.length/\w=u.aZ.length-i/\Ext h h'/\bI h' h.size 47 [a.v,b.v,c.v,d.v]/\Ga h' g1.size E/\U=cV E (ou u.aZ i) (u.aZ.drop i)) (X,(0:Int),()) u.aZ.length rfl
   ⟨0,rfl,ad,ad,Z,b1,m,G⟩ ?_
  clear hu G m b1 Z s5;rintro ⟨n31,n32,⟨⟩⟩ w h6 ⟨i,hi,hile,rfl,e6,b1,m,hu⟩;simp only at hi;subst hi;refine ak ?_;refine aM (fun q3=>?_) (fun q3=>?_)
  ·have j:i<u.aZ.length:=ad
   obtain ⟨aa,rfl',hc,va⟩:=(v.aZ.an e6).cells i j;rw [vO _ _ j] at hu;unfold RM at hu;refine ax ⟨ad,ad⟩ (av rfl' ?_);rw [show Int.toNat (i:Int)=i from ad];refine ay (u.aZ[i],()) hc (ak ?_);refine Oo m.1 _ ?_;refine ar (fun r=>?_) (fun r=>?_)
   ·have r:gd E u.aZ[i]=false:=by simpa using r
    exact ⟨by rw [hu,r]; rfl,e6⟩
   have r:gd E u.aZ[i]=true:=by simpa using r
   rw [r,YU] at hu;refine aM (fun r2=>?_) (fun r2=>?_)
   ·refine af b1 ((d.p,d.l,d.c),()) rfl (ak ?_);rw [wrap_i64 ad ad];obtain ⟨ab,rfl'',hc',va'⟩:=(v.aZ.an e6).cells (i-1) ad;refine ax ⟨ad,ad⟩ (av rfl'' ?_);rw [show Int.toNat ((i:Int)-1)=i-1 from ad];refine ay (u.aZ[i-1],()) hc' (ak ?_);have hla:ou u.aZ i=u.aZ[i-1]:=by
     unfold ou;rw [Yx ad,Zh,Yv ad] <;> rfl
    rw [leB];rw [hla] at hu;refine ar (fun r3=>?_) (fun r3=>?_)
    ·have r3:decide (hY u.aZ[i-1] u.aZ[i])=false:=by simpa using r3
     exact ⟨by rw [hu,r3]; rfl,e6⟩
    ·have r3:decide (hY u.aZ[i-1] u.aZ[i])=true:=by simpa using r3
     rw [r3,YU] at hu;refine aG (cs:=[(false,[.int .i64]),(false,[.int .i64])]) (n31,((i+1:Nat):Int),()) (u.aZ.length-(i+1)) rfl ad (by rw [wrap_i64 ad ad]; rfl) ?_;exact ⟨i+1,rfl,ad,rfl,e6,b1,m,hu⟩
   ·have hi0:i=0:=ad
    subst hi0;have hg:decide (hY (ou u.aZ 0) u.aZ[0])=true:=YA (EC (m.2 _ (vL r)));rw [hg,YU] at hu;refine aG (cs:=[(false,[.int .i64]),(false,[.int .i64])]) (n31,((0+1:Nat):Int),()) (u.aZ.length-(0+1)) rfl ad (by rw [wrap_i64 ad ad]; rfl) ?_;exact ⟨0+1,rfl,ad,rfl,e6,b1,m,hu⟩
  ·have j:i=u.aZ.length:=ad
   subst j;rw [ZJ] at hu;exact ⟨by rw [hu]; rfl,e6⟩
def Oj (l:List UInt8):List (List Xab):=l.map fun b=>[.int .u8 (b.toNat:Int)]
def Hf (l:List UInt8):(Oj l).length=l.length:=by simp [Oj]
def N6 (l:List UInt8):(Oj l).flatten=l.map fun b=>.int .u8 (b.toNat:Int):=by
 induction l with
 | nil=>rfl
 | cons a l d =>
  have:Oj (a::l)=[.int .u8 (a.toNat:Int)]::Oj l:=rfl
  rw [this,Z0,d] <;> rfl
def Yl:(Tryz.prog.info? 5).map (fun i=>(i.zero,i.size,i.bytes))=some (some (.int .u8 0),1,1):=az
def SL.cv {h:Hp} {b:Nat} {e:TypeId} {sz:Nat} {p:Xac} {l c:Nat} {xs:List (List Xab)} (s:SL h b e sz p l c xs):∀ i,i∈aR p->b<=i/\i<h.size:=by
 intro i hi;cases p with
 | none=>simp [aR] at hi
 | some a =>
  obtain ⟨g,j,rest,rfl,u,_,d,_⟩:=s.2.2;simp [aR] at hi;exact ⟨ad,by rw [hi]; exact d.lt⟩
def J2 {P:Program} {h:Hp} (a:Xax) (l:List UInt8) (cap:Nat) (K:Xab->Hp->Prop) (hc:aJ h a 0 (l.map Od)) (hk:K (.string ⟨l.toArray⟩) h):aU P (Conv.bytesToString (.slice (some a) l.length cap)) h K:=by
 unfold Conv.bytesToString;simp only;rw [ao];refine dt aj hc _ ?_;rw [ao,<- Array.forIn_toList]
 have key:∀ (l:List UInt8) (s:Xaa) (K':Xaa->Hp->Prop),K' ⟨s.data++l.toArray⟩ h->aU P (forIn (l.map Od) s fun c r=>match c with
   | .int .u8 n=>(pure (ForInStep.yield (r.push (UInt8.ofNat n.toNat))):Sem (ForInStep Xaa))
   | _ => stuck "bytesToString: byte expected") h K' := by
  intro l
  induction l with
  | nil =>
   intro s K' hk;have e:(⟨s.data++([]:List UInt8).toArray⟩:Xaa)=s:=aj
   rw [e] at hk;exact hk
  | cons c l d =>
   intro s K' hk;rw [Zb,List.forIn_cons];rw [ao];show aU P (forIn (List.map Od l) (s.push (UInt8.ofNat ((c.toNat:Nat):Int).toNat)) _) h K';have e1:UInt8.ofNat ((c.toNat:Nat):Int).toNat=c:=aj
   rw [e1];refine d (s.push c) K' ?_
   have:(⟨(s.push c).data++l.toArray⟩:Xaa)=⟨s.data++(c::l).toArray⟩:=by
    congr 1
    apply Zg.1
    simp
   rw [this]; exact hk
 refine key l ByteArray.empty _ ?_;have e:(⟨ByteArray.empty.data++l.toArray⟩:Xaa)=⟨l.toArray⟩:=by
  congr 1
  apply Zg.1
  simp
 rw [e];exact hk
abbrev St:=Except (Nat × Nat) Bt
def X0 {k c:Nat} (h:k≠c):(((k:Nat):Int)==(c:Int))=false:=by
 simp only [beq_eq_false_iff_ne,ne_eq];omega
def iz:List Xab:=[.int .i64 (0:Int),.string ⟨#[]⟩,.int .i64 (0:Int),.int .i64 (0:Int),.int .i64 (0:Int),.int .i32 (0:Int),.int .i64 (0:Int),.slice none 0 0,.int .u32 (0:Int),.int .i64 (0:Int)]
structure Ls {α:Type} (e:TypeId) (sz:Nat) (enc:cr->α->List Xab) (tm:α->dc) (ok:α->Prop) (h:Hp) (b:Nat) (p:Xac) (l c:Nat) (us:List (cr × α)):Prop where
 sl:SL h b e sz p l c (us.map fun u=>enc u.1 u.2)
 own:∀ u,u∈us->SL h b 117 2 u.1.p u.1.l u.1.c ((tm u.2).map df)
 ok:∀ u,u∈us->ok u.2
section
variable {α:Type} {e:TypeId} {sz:Nat} {enc:cr->α->List Xab} {tm:α->dc} {ok:α->Prop} {h h':Hp} {b b':Nat} {p:Xac} {l c:Nat} {us:List (cr × α)}
end
abbrev ptr (g:Nat):Xab:=.pointer (some ⟨g,0,none⟩)
def Ts:Tryz.prog.underlying 43=some (.slice 71):=az
def Wx:Tryz.prog.underlying 44=some (.slice 100):=az
def Im:Tryz.prog.underlying 45=some (.slice 9):=az
def VA:(Tryz.prog.info? 9).map (fun i=>(i.zero,i.size,i.bytes))=some (some (.string ⟨#[]⟩),1,16):=az
def SL.Bk {h:Hp} {b:Nat} {e:TypeId} {sz:Nat} {p:Xac} {l c:Nat} {xs:List (List Xab)} (s:SL h b e sz p l c xs):∀ i,i∈aR p->∃ xs,bI h i e xs:=by
 intro i hi;cases p with
 | none=>simp [aR] at hi
 | some a =>
  obtain ⟨g,j,rest,rfl,u,_,d,_⟩:=s.2.2;simp [aR] at hi;subst hi;exact ⟨_,d⟩
def SL.rY {ws:List Nat} {h h':Hp} {b:Nat} {e e':TypeId} {sz:Nat} {p:Xac} {l c:Nat} {xs:List (List Xab)} (s:SL h b e sz p l c xs) (k:Ch ws h h') (hw:∀ i,i∈ws->∃ ys,bI h i e' ys) (j:e≠e'):SL h' b e sz p l c xs:=by
 refine Sx.SL.bP s k (fun i hi hm=>?_);obtain ⟨ys,b1⟩:=SL.Bk s i hi;obtain ⟨zs,d⟩:=hw i hm;unfold bI at b1 d;rw [b1] at d;simp only [Option.some.injEq,Obj.cells.injEq] at d;exact j d.2.1
section
variable {h0 h:Hp} {g gm:Nat} {bp:Xac} {bl bc:Nat} {full:Bt} {st:St} {D:List Xaa}
end
def mM:cr:=⟨none,0,0⟩
abbrev Un:=Ls 71 10 (fun s x=>encI s.p s.l s.c x) (fun x:cB=>x.e.ai) (fun _=>True)
def Bc:Tryz.prog.underlying 43=some (.slice 71):=az
def EI:(Tryz.prog.info? 71).map (fun i=>(i.zero,i.size,i.bytes))=some (some (.agg iz.toArray),10,104):=az
def tJ (u:cr × cB):List Xab:=encI u.1.p u.1.l u.1.c u.2
def FD {a b:Nat} (h:(((a:Nat):Int)==((b:Nat):Int))=true):a=b:=by
 have:=eq_of_beq h
 omega
def FP {a b:Nat} (h:(((a:Nat):Int)==((b:Nat):Int))=false):¬ a=b:=by
 rintro rfl;simp at h
def Jg {L:Lp} {K:Xab->Hp->Prop} {h:Hp} {b:Bool} {t u:T} (hu:b=false->u L K h) (d:b=true->t L K h):(cond b t u) L K h:=ar d hu
theorem ko {h:Hp} {a:Xax}:∀ (vs:List Xab) (o i:Nat),aJ h a (o+i) vs->aJ h (a.add o) i vs
 | [],_,_,_=>trivial
 | v::vs,o,i,hc=>⟨by rw [add_add]; exact hc.1,ko vs o (i+1) hc.2⟩
def qM (s t:Xaa):(ByteArray.toList s==ByteArray.toList t)=decide (s=t):=by
 rw [ByteArray.toList_eq,ByteArray.toList_eq]
 by_cases h:s=t
 ·rw [YA h,h]; simp
 ·rw [YB h]
  have:¬ s.data.toList=t.data.toList:=fun e=>h (C2 e)
  simpa using this
def QJ (x y:Operand) (i j:Ins) (h:Hp) (K:Xab->Hp->Prop) (hk:K (.bool (decide (i=j))) h) :
  aU Tryz.prog (Sx.kw (BinOp.eql) 65 x y (.agg (oN i).toArray) (.agg (oN j).toArray)) h K:=by
 refine E1 SX az az az K ?_;have d:(Es Tryz.prog 65).all (H4 (oN i).toArray (oN j).toArray)=(i.op==j.op && (i.a==j.a && (i.b==j.b && (i.n==j.n && (i.form==j.form && true))))):=by
  rw [<- ZV]
  kernel_rfl
 rw [d,ZK]
 have:(i.op==j.op && (i.a==j.a && (i.b==j.b && (i.n==j.n && i.form==j.form))))=decide (i=j):=by
  rcases i with ⟨u,a2,a3,a4,a5⟩
  rcases j with ⟨F,G,c3,J,c5⟩
  simp only [db,Ins.mk.injEq]
  by_cases h1:u=F <;> by_cases h2:a2=G <;> by_cases h3:a3=c3 <;> by_cases h4:a4=J <;> by_cases h5:a5=c5 <;> simp [h1,h2,h3,h4,h5]
 rw [this];exact hk
end Go.Sx.Ob
