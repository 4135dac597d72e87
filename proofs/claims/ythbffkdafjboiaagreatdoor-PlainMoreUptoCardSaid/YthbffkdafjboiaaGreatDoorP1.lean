/- Contracts over heaps, part 1. Condition: as each statement says. -/
import Derived.Test.YthbffkdafjboiaaGreatDoorBtA
import Derived.Test.YthbffkdafjboiaaGreatDoorCShelf
import Derived.Test.YthbffkdafjboiaaGreatDoorSxG
import Derived.Test.YthbffkdafjboiaaGreatDoorSxE
import Derived.Test.YthbffkdafjboiaaGreatDoorBtB
import Derived.Test.YthbffkdafjboiaaGreatDoorBtC
set_option linter.all false
set_option maxRecDepth 100000
set_option maxHeartbeats 4000000
namespace Go.Sx
open Go.Proofs
def mixed:Tryz.prog.follows .mixedOrders=true:=ax
def SU : (Tryz.f153.name == "runtime.NumGoroutine") = false :=ax
def RW:Tryz.f153.body.isNone=true:=ax
def Se:Extern.findNext Tryz.f153=none:=ax
def SH:Extern.find Tryz.f153=some Extern.BytealgIndexByte.indexByte:=ax
def A4 (s:Xaa) (c:Int) (h:Hp):we Tryz.prog 137 [.string s,.int .u8 c] h (.int .i64 (Lib.indexByte s.data.toList c.toNat.toUInt8)):=by
 refine eC mixed Tryz.func137 ax (gR s c) ?_;refine FE Tryz.func153 SU RW Se SH ?_;rw [qI];exact ⟨(_,()),rfl,rfl,rfl⟩
def DT (s:Xaa) (c:Int) (h:Hp):we Tryz.prog 114 [.string s,.int .u8 c] h (.int .i64 (Lib.indexByte s.data.toList c.toNat.toUInt8)):=by
 refine eC mixed Tryz.func114 ax (pj s c) ?_;exact ka (A4 s c h) ⟨rfl,rfl⟩
def mv (s set:List UInt8):Nat:=(s.takeWhile fun c=>set.contains c).length
def RA (s set:List UInt8):mv s set<=s.length:=by
 unfold mv;exact (List.takeWhile_prefix _).length_le
theorem rO {p:UInt8->Bool}:∀ (l:List UInt8) (k:Nat),k<=(l.takeWhile p).length->k<l.length->(k<(l.takeWhile p).length↔p (l.getD k 0)=true)
 | [],k,_,h=>by simp at h
 | c::l,0,_,_=>by
  simp only [List.takeWhile_cons,List.getD_cons_zero];cases j:p c <;> simp
 | c::l,k+1,h,hl=>by
  simp only [List.takeWhile_cons] at h ⊢;cases j:p c with
  | false=>rw [j] at h; simp at h
  | true =>
   rw [j] at h;simp at h hl
   have:=rO l k (by simpa using h) hl
   simpa using this
def Ck (s set:List UInt8) (k:Nat) (hk:k<=mv s set) (hl:k<s.length):(k<mv s set↔set.contains (s.getD k 0)=true):=rO s k hk hl
def Oh (s:Xaa) (n:Int):(cU s n).toNat.toUInt8=s.data.toList.getD n.toNat 0:=by
 unfold cU; simp
def M6 (s set:Xaa) (h:Hp) (hs:s.size<=9223372036854775807):we Tryz.prog 88 [.string s,.string set] h (.int .i64 (mv s.data.toList set.data.toList)):=by
 refine eC mixed Tryz.func88 ax (CT s set) ?_;have V:s.data.toList.length=s.size:=aj
 have X:=RA s.data.toList set.data.toList;refine aX (cs:=[(false,[.int .i64])]) (fun x n h'=>h'=h/\∃ k:Nat,x.1=(k:Int)/\k<=mv s.data.toList set.data.toList/\n=s.size-k) ((0:Int),()) s.size rfl ⟨rfl,0,rfl,ad,ad⟩ ?_;rintro ⟨n,⟨⟩⟩ m h' ⟨rfl,k,hk,G,rfl⟩;simp only at hk;subst hk;refine av (fun hb=>?_) (fun hb=>?_)
 ·have O:(k:Int)<s.size:=Y5 hb;have J:=Ck s.data.toList set.data.toList k G ad;refine ay ⟨ad,O⟩ ?_;refine ka (DT _ _ _) ?_;rw [Oh];have hc:=Lib.contains_iff_indexByte set.data.toList (s.data.toList.getD k 0);refine av (fun j=>?_) (fun j=>?_)
  ·have h2:=Y5 j;rw [wrap_i64 ad ad];have u:set.data.toList.contains (s.data.toList.getD k 0)=true:=by rw [hc]; exact Y6 h2
   exact aH (cs:=[(false,[.int .i64])]) ((k:Int)+1,()) (s.size-(k+1)) rfl ad rfl ⟨rfl,k+1,(show ((k:Int)+1)=((k+1:Nat):Int) from ad),J.2 u,rfl⟩
  ·have h2:=Zc j;have u:¬ set.data.toList.contains (s.data.toList.getD k 0)=true:=by rw [hc]; exact fun U=>h2 (Y5 U)
   have:k=mv s.data.toList set.data.toList:=by
    have:¬ k<mv s.data.toList set.data.toList:=fun U=>u (J.1 U)
    omega
   exact ⟨by rw [<- this],rfl⟩
 ·have Y:¬ (k:Int)<s.size:=Zc hb
  have:k=mv s.data.toList set.data.toList:=ad
  exact ⟨by rw [<- this],rfl⟩
def fh (c:UInt8):Bool:=(97<=c.toNat && c.toNat<=122) || (65<=c.toNat && c.toNat<=90) || c.toNat==95
def iy (c:UInt8):Bool:=48<=c.toNat && c.toNat<=57
def gQ:List UInt8:=[97,98,99,100,101,102,103,104,105,106,107,108,109,110,111,112,113,114,115,116,117,118,119,120,121,122,65,66,67,68,69,70,71,72,73,74,75,76,77,78,79,80,81,82,83,84,85,86,87,88,89,90,95]
def iS:List UInt8:=[48,49,50,51,52,53,54,55,56,57]
def B9 (p q:UInt8->Bool) (h:(List.range 256).all (fun n=>p (UInt8.ofNat n)==q (UInt8.ofNat n))=true) (c:UInt8):p c=q c:=by
 have:=Zx.1 h c.toNat (aw9.2 (by have:=c.toNat_lt; omega))
 simpa using this
def GF (c:UInt8):gQ.contains c=fh c:=B9 (fun c=>gQ.contains c) fh (by decide +kernel) c
def Nw (c:UInt8):(gQ++iS).contains c=(fh c || iy c):=B9 (fun c=>(gQ++iS).contains c) (fun c=>fh c || iy c) (by decide +kernel) c
def cN (c:UInt8):Int:=(c.toNat:Nat)
def N2 (c:UInt8) (h:Hp):we Tryz.prog 107 [.int .u8 (cN c)] h (.bool (iy c)):=by
 refine eC mixed Tryz.func107 ax (nW _) ?_;unfold jU iy cN bI;refine aQ (fun h1=>?_) (fun h1=>?_)
 ·refine ⟨?_,rfl⟩
  congr 1
  rw [show decide (48<=c.toNat)=true from Y6 ad,Zt];exact ci9.2 ad
 ·refine ⟨?_,rfl⟩
  congr 1
  rw [show decide (48<=c.toNat)=false from Y7 ad,Bool.false_and]
def J4 (c:UInt8):fh c=true↔(97<=cN c/\cN c<=122)\/(65<=cN c/\cN c<=90)\/cN c=95:=by
 unfold fh cN;simp only [Bool.or_eq_true,Bool.and_eq_true,decide_eq_true_eq,beq_iff_eq];omega
def BH (c:UInt8) (h:Hp):we Tryz.prog 106 [.int .u8 (cN c)] h (.bool (fh c)):=by
 refine eC mixed Tryz.func106 ax (nu _) ?_;unfold je dP;have hl:=J4 c
 repeat' (refine av (fun h1=>?_) (fun h1=>?_) <;> first | replace h1:=Y5 h1 | replace h1:=Zc h1)
 all_goals exact ⟨Zl Value.bool (cb9.2 (by simp only [hl,true_iff,beq_iff_eq]; omega)),rfl⟩
def yw (s:List UInt8):Int × Bool × Bool :=
 match s with
 | [a,b]=>if cN a=114/\48<=cN b/\cN b<=55 then (cN b-48,false,true) else if cN a=122/\48<=cN b/\cN b<=51 then (cN b-48,true,true) else (0,false,false)
 | _=>(0,false,false)
def EU {s:List UInt8} (h:s.length≠2):yw s=(0,false,false):=by
 unfold yw;split
 ·simp at h
 ·rfl
def vO (s:Xaa) (n:Int):cU s n=cN (s.data.toList.getD n.toNat 0):=rfl
def two_bytes {s:Xaa} (h1:(s.size:Int)=2):∃ a b,s.data.toList=[a,b]:=by
 have j:s.data.toList.length=s.size:=aj
 match hl:s.data.toList with
 | [a,b]=>exact ⟨a,b,rfl⟩
 | []=>rw [hl] at j; simp at j; omega
 | [a]=>rw [hl] at j; simp at j; omega
 | a::b::c::l=>rw [hl] at j; simp at j; omega
def D7 (s:Xaa) (h:Hp):we Tryz.prog 87 [.string s] h (.tuple #[.int .i64 (yw s.data.toList).1,.bool (yw s.data.toList).2.1,.bool (yw s.data.toList).2.2]):=by
 refine eC mixed Tryz.func87 ax (uW s) ?_;have u:s.data.toList.length=s.size:=aj
 unfold qB bt iP bn;refine av (fun h1=>?_) (fun h1=>?_)
 ·have h1:(s.size:Int)≠2:=by simpa using h1
  rw [EU ad];exact ⟨rfl,rfl⟩
 ·have h1:(s.size:Int)=2:=by simpa using h1
  obtain ⟨a,b,j⟩:=two_bytes h1;have e0:cU s 0=cN a:=by rw [vO,j]; rfl
  have e1:cU s 1=cN b:=by rw [vO,j]; rfl
  have hb:=b.toNat_lt;have G:IntKind.wrap .i64 (IntKind.wrap .i64 (cU s 1)-48)=cN b-48:=by
   rw [e1,wrap_i64 (x:=cN b) (by unfold cN; omega) (by unfold cN; omega),wrap_i64 (by unfold cN; omega) (by unfold cN; omega)]
  rw [G,e0,j];unfold yw
  repeat' (first | refine ay ⟨ad,ad⟩ ?_ | (refine av (fun h1=>?_) (fun h1=>?_) <;> first | replace h1:=Y5 h1 | replace h1:=Zc h1 | replace h1:=eq_of_beq h1 | replace h1:=ne_of_beq_false h1))
  all_goals
   refine ⟨?_,rfl⟩;simp only
   first
    | (exfalso; omega)
    | rw [Y8 ad]
    | rw [Y2 ad,Y8 ad]
    | rw [Y2 ad,Y2 ad]
def CZ (s:Xaa) (h:Hp):we Tryz.prog 108 [.string s] h (.tuple #[.int .i64 (yw s.data.toList).1,.bool (yw s.data.toList).2.1,.bool (yw s.data.toList).2.2]):=by
 refine eC mixed Tryz.func108 ax (lS s) ?_;have u:s.data.toList.length=s.size:=aj
 unfold iC bt iP bn;refine av (fun h1=>?_) (fun h1=>?_)
 ·have h1:(s.size:Int)≠2:=by simpa using h1
  rw [EU ad];exact ⟨rfl,rfl⟩
 ·have h1:(s.size:Int)=2:=by simpa using h1
  obtain ⟨a,b,j⟩:=two_bytes h1;have e0:cU s 0=cN a:=by rw [vO,j]; rfl
  have e1:cU s 1=cN b:=by rw [vO,j]; rfl
  have hb:=b.toNat_lt;have G:IntKind.wrap .i64 (IntKind.wrap .i64 (cU s 1)-48)=cN b-48:=by
   rw [e1,wrap_i64 (x:=cN b) (by unfold cN; omega) (by unfold cN; omega),wrap_i64 (by unfold cN; omega) (by unfold cN; omega)]
  rw [G,e0,j];unfold yw
  repeat' (first | refine ay ⟨ad,ad⟩ ?_ | (refine av (fun h1=>?_) (fun h1=>?_) <;> first | replace h1:=Y5 h1 | replace h1:=Zc h1 | replace h1:=eq_of_beq h1 | replace h1:=ne_of_beq_false h1))
  all_goals
   refine ⟨?_,rfl⟩;simp only
   first
    | (exfalso; omega)
    | rw [Y8 ad]
    | rw [Y2 ad,Y8 ad]
    | rw [Y2 ad,Y2 ad]
def cX (s:List UInt8):Bool:=decide (0<s.length) && decide (s.length<=32) && fh (s.getD 0 0) && s.all (fun c=>fh c || iy c) && !(yw s).2.2
def NH {s set:List UInt8} (h:0<s.length):0<mv s set↔set.contains (s.getD 0 0)=true:=Ck s set 0 (cg9 _) h
def K1 {s set:List UInt8}:mv s set=s.length↔s.all (fun c=>set.contains c)=true:=by
 unfold mv
 induction s with
 | nil=>simp
 | cons c s j =>
  rw [List.takeWhile_cons,cn9];cases hc:set.contains c with
  | true=>simp only [if_true,List.length_cons,Bool.true_and]; rw [<- j]; omega
  | false=>simp
def XG:(⟨#[97,98,99,100,101,102,103,104,105,106,107,108,109,110,111,112,113,114,115,116,117,118,119,120,121,122,65,66,67,68,69,70,71,72,73,74,75,76,77,78,79,80,81,82,83,84,85,86,87,88,89,90,95]⟩:Xaa).data.toList=gQ:=rfl
def X9:(⟨#[97,98,99,100,101,102,103,104,105,106,107,108,109,110,111,112,113,114,115,116,117,118,119,120,121,122,65,66,67,68,69,70,71,72,73,74,75,76,77,78,79,80,81,82,83,84,85,86,87,88,89,90,95,48,49,50,51,52,53,54,55,56,57]⟩:Xaa).data.toList=gQ++iS:=rfl
def toList_nil {s:Xaa}:(s.toList==[])=decide (s.size=0):=by
 have:s.toList=s.data.toList:=ByteArray.toList_eq s
 rw [this];have j:s.data.toList.length=s.size:=aj
 cases hl:s.data.toList with
 | nil=>rw [hl] at j; simp at j; simp [<- j]
 | cons a l=>rw [hl] at j; simp at j; simp [<- j]
def uB (s:Xaa) (h:Hp) (hs:s.size<=9223372036854775807):we Tryz.prog 60 [.string s] h (.bool (cX s.data.toList)):=by
 refine eC mixed Tryz.func60 ax (zO s) ?_;have j:s.data.toList.length=s.size:=aj
 unfold ya cH bK bI aR cn;refine Gh (D7 s h) ?_;unfold cX;rw [j];refine av (fun h1=>?_) (fun h1=>?_)
 ·have h1:s.size≠0:=by rw [toList_nil] at h1; simpa using h1
  refine aQ (fun h2=>?_) (fun h2=>?_)
  ·refine ka (M6 s _ h hs) ?_;rw [XG];have u:=NH (set:=gQ) (by omega:0<s.data.toList.length);rw [GF] at u;refine aQ (fun h3=>?_) (fun h3=>?_)
   ·refine ka (M6 s _ h hs) ?_;rw [X9];have G:=K1 (s:=s.data.toList) (set:=gQ++iS);have J:(fun c=>(gQ++iS).contains c)=(fun c=>fh c || iy c):=funext Nw;rw [J] at G;rw [show decide (0<s.size)=true from Y6 ad,show decide (s.size<=32)=true from Y6 ad,u.1 ad];refine av (fun h4=>?_) (fun h4=>?_)
    ·have h4:=eq_of_beq h4;rw [G.1 ad];exact ⟨rfl,rfl⟩
    ·have h4:=ne_of_beq_false h4
     have:s.data.toList.all (fun c=>fh c || iy c)=false:=by
      cases hx:s.data.toList.all (fun c=>fh c || iy c) with
      | false=>rfl
      | true=>exact (h4 (by rw [G.2 hx]; omega)).elim
     rw [this];exact ⟨rfl,rfl⟩
   ·have:fh (s.data.toList.getD 0 0)=false:=by
     cases hx:fh (s.data.toList.getD 0 0) with
     | false=>rfl
     | true=>have:=u.2 hx; omega
    rw [this];exact ⟨aj,rfl⟩
  ·rw [show decide (s.size<=32)=false from Y7 ad];exact ⟨aj,rfl⟩
 ·have h1:s.size=0:=by rw [toList_nil] at h1; simpa using h1
  rw [show decide (0<s.size)=false from Y7 ad];exact ⟨aj,rfl⟩
open Go.Proofs Go.MapKept Go.WideAt Go.WideMaps Go.Maps Go.RowKit Go.WideElems Go.WideElems
def Kz:Xab->Option (DataW Unit × List MemPlace):=fun _=>some (.nil,[])
def xg:Tryz.prog.underlying 9=some .string:=ax
def RT:Tryz.prog.underlying 183=some (.map 9 67):=ax
def keysOf (D:List (Xaa × Xab)):List (List UInt8):=(D.map fun p=>p.1.data.toList).mergeSort fun x y=>decide (x<=y)
def MP {x:MapEntry} {s:Xaa} (hk:x.key=.string s) (hs:s.size<=maxLen):WideElems.rd Tryz.prog 9 Kz x=some (.string s.data.toList,.nil):=by
 unfold WideElems.rd;rw [hk,keyOf_string_mk xg hs] <;> rfl
def dW.owns {W:World} {g:Nat} {D:List (Xaa × Xab)} (m:dW W.heap g D) (hl:D.length<=maxLen) :
  ∃ G:DataW Unit,W.ownsMap Tryz.prog 9 Kz g D.length G/\(strKeys G).Perm (D.map fun p=>p.1.data.toList)/\Maps.size G=D.length:=by
 obtain ⟨es,clock,V,J,hs,O⟩:=m;have U:es.size=D.length:=by
  have:=Zl List.length J
  simpa using this
 have j:es.toList.map (WideElems.rg Tryz.prog 9 Kz)=D.map fun p=>(Lit.string p.1.data.toList,DataW.nil):=by
  apply ae9;intro i;have h1:(es.toList.map (fun e=>(e.key,e.val)))[i]?=(D.map (fun p=>(Value.string p.1,p.2)))[i]?:=by rw [J]
  simp only [List.getElem?_map] at h1 ⊢;rcases ZS i D.length with hi | hi
  ·rw [Y1 hi,Y1 (show i<es.toList.length by simp; omega)] at h1 ⊢;simp only [Option.map_some,Option.some.injEq,Prod.mk.injEq] at h1 ⊢;exact WideElems.rg_of (MP h1.1 (O _ (Y9 hi)))
  ·rw [ZI hi,ZI (show es.toList.length<=i by simp; omega)] <;> rfl
 refine ⟨_,⟨es,clock,V,⟨ad,hs,?_⟩,ad,rfl⟩,?_,?_⟩
 ·intro x hx;obtain ⟨i,hi,rfl⟩:=Zu hx;have u:i<D.length:=by simp at hi; omega
  have h1:(es.toList.map (fun e=>(e.key,e.val)))[i]?=(D.map (fun p=>(Value.string p.1,p.2)))[i]?:=by rw [J]
  simp only [List.getElem?_map,List.getElem?_eq_getElem u,List.getElem?_eq_getElem hi,Option.map_some,Option.some.injEq,Prod.mk.injEq] at h1;exact ⟨_,MP h1.1 (O _ (Y9 u))⟩
 ·show List.Perm (((es.toList.map (WideElems.rg Tryz.prog 9 Kz)).foldr DataW.insert []).map fun p=>strOf p.1) _;rw [j];refine ((WideShapes.sorted_perm _).map _).trans ?_;rw [Zv];exact List.Perm.refl _
 ·show ((es.toList.map (WideElems.rg Tryz.prog 9 Kz)).foldr DataW.insert []).length=D.length;rw [j,length_sorted,Y0]
def World.Lf {W:World} {h:Hp} {o:Obj} (j:W.heap=h.push o):({ W with heap:=h }:World).alloc o=W:=by
 cases W;simp only at j;subst j;rfl
def dI.alloc (w:World) (o:Obj):dI w (w.alloc o):=⟨rfl,rfl,rfl⟩
def IF (r:Option Nat) (h:Hp):HC Tryz.prog 93 #[.map r] h fun v h'=>v=.func (.func 117) #[] #[.pointer (some ⟨h.size,0,none⟩)]/\h'=h.push (.cells #[.map r] 183):=by
 intro W j;subst j;exact (callsIn_wide.1 (Tryz.A3 r W)).mono fun e w' ⟨u,hw⟩=>⟨_,u,by rw [hw]; exact dI.alloc _ _,rfl,by rw [hw]; rfl⟩
def SL.Tp {W:World} {b:Nat} {e:TypeId} {v:Xab} {xs:List Xab} (r:W.ownsRow b e 1 v xs.length xs):∃ p l c,v=.slice p l c/\SL W.heap b e 1 p l c (xs.map fun x=>[x]):=by
 have j:∀ ys:List Xab,(ys.map fun x=>[x]).flatten=ys:=by
  intro ys
  induction ys with
  | nil=>rfl
  | cons y ys G=>simp [G]
 obtain ⟨h1,h2⟩:=r;rcases h2 with ⟨hv,hn⟩ | ⟨g,cap,ju,hv,hb,J,u,hc,hs,O⟩
 ·have:xs=[]:=Z4 hn
  subst this;exact ⟨none,0,0,hv,SL.nil _ _ _ _⟩
 ·refine ⟨some ⟨g,0,none⟩,xs.length,cap,hv,aj,aj,g,[],ju.toList.drop xs.length,rfl,hb,⟨u,by unfold maxLen at hc; omega⟩,?_,?_⟩
  ·rw [j,aq9]
   have:xs=ju.toList.take xs.length:=by rw [<- O]; simp
   unfold bF;rw [J]
   congr 2
   conv=>lhs; rw [<- Array.toArray_toList (xs:=ju),<- ZL xs.length ju.toList]
   rw [<- this]
  ·rw [Z2,aa9,hs]; omega
def sE {h:Hp} {g:Nat} {D:List (Xaa × Xab)} (m:dW h g D) (hl:D.length<=2^40) :
  HC Tryz.prog 92 #[.func (.func 117) #[] #[.pointer (some ⟨h.size,0,none⟩)]] (h.push (.cells #[.map (some g)] 183)) fun v h'=>∃ p l c,v=.slice p l c/\SL h' (h.size+1) 9 1 p l c ((keysOf D).map fun k=>[encStr k]) /\
   Ext (h.push (.cells #[.map (some g)] 183)) h':=by
 intro W U;obtain ⟨X,hown,G,j⟩:=dW.owns (W:={ W with heap:=h }) m (by unfold maxLen; omega);have hc:=callsIn_wide.1 (Tryz.lI g D.length X Kz { W with heap:=h } hown (by rw [j]; unfold maxLen; omega) (by rw [j]; omega));rw [World.Lf U] at hc;refine hc.mono fun e w' Y=>?_
 obtain ⟨v,ss,Z,hp,u,_,hb⟩:=Y;have V:ss.mergeSort (fun x y=>decide (x<=y))=keysOf D:=mergeSort_of_perm (hp.trans G);have O:ss.length=((ss.mergeSort (fun x y=>decide (x<=y))).map encStr).length:=by rw [Y0,List.length_mergeSort]
 rw [O,V] at u;obtain ⟨p,l,c,hv,J⟩:=SL.Tp u;refine ⟨v,Z,⟨hb.os,hb.tape,hb.output⟩,p,l,c,hv,?_,?_⟩
 ·rw [Zv] at J
  have:W.heap.size=h.size+1:=by rw [U]; simp
  rw [this] at J;exact J
 ·rw [<- U];exact ⟨hb.size,fun i hi _=>hb.block i hi⟩
abbrev dc:=List (Xaa × Nat)
def df (p:Xaa × Nat):List Xab:=[.string p.1,.int .u32 p.2]
def vm (D:dc):List (Xaa × Xab):=D.map fun p=>(p.1,Value.int .u32 p.2)
def dT (D:dc) (s:Xaa):Nat:=((D.find? fun p=>decide (s=p.1)).map (·.2)).getD 0
def uG (D:dc) (s:Xaa) (v:Nat):dc:=if (D.find? fun p=>decide (s=p.1)).isSome then D.map fun p=>if s=p.1 then (p.1,v) else p else D++[(s,v)]
def ja (D:dc) (p:Xaa × Nat):dc:=uG D p.1 ((dT D p.1+p.2) % 4294967296)
def D5 (D:dc):dc:=(keysOf (vm D)).filterMap fun k=>if dT D ⟨k.toArray⟩=0 then none else some (⟨k.toArray⟩,dT D ⟨k.toArray⟩)
def RD (D:dc) (s:Xaa):(vm D).find? (fun p=>decide (s=p.1))=(D.find? fun p=>decide (s=p.1)).map fun p=>(p.1,Value.int .u32 p.2):=by
 unfold vm
 induction D with
 | nil=>rfl
 | cons p D j =>
  by_cases h:s=p.1
  ·simp [h]
  ·simp only [List.map_cons,List.find?_cons,decide_eq_false h];exact j
def I0 (D:dc) (s:Xaa):look (vm D) s=(D.find? fun p=>decide (s=p.1)).map fun p=>Value.int .u32 p.2:=by
 unfold look;rw [RD,Option.map_map] <;> rfl
def JH (D:dc) (s:Xaa):(look (vm D) s).getD (.int .u32 0)=.int .u32 (dT D s):=by
 rw [I0];unfold dT
 all_goals (cases D.find? fun p=>decide (s=p.1) <;> rfl)
def Tv (D:dc) (s:Xaa) (v:Nat):jn (vm D) s (.int .u32 v)=vm (uG D s v):=by
 unfold jn uG;rw [I0];cases h:(D.find? fun p=>decide (s=p.1)) with
 | none=>simp [vm]
 | some q =>
  simp only [Option.map_some,Option.isSome_some,if_true,vm,List.map_map];refine ZM fun p j=>?_
  simp only [Function.comp];split <;> simp_all
def Gf (D:dc) (s:Xaa) (v:Nat):(uG D s v).length<=D.length+1:=by
 unfold uG;split <;> simp
def Uh:(Tryz.prog.info? 67).bind (·.zero)=some (.int .u32 0):=ax
def zn:Tryz.prog.underlying 66=some (.slice 117):=ax
def sZ:(Tryz.prog.info? 117).map (fun i=>(i.zero,i.size,i.bytes))=some (some (.agg #[.string ⟨#[]⟩,.int .u32 0]),2,24):=ax
def px {L:Lp} {K:Xab->Hp->Prop} {h:Hp} {g:Nat} {D:dc} (m:dW h g (vm D)) (s:Xaa) {k:Int->T} (hk:k (dT D s) L K h):T.eh Tryz.prog (Instr.lookup 183 (.map (some g)) (.string s) false) false [(false,[.int .u32])] k L K h:=by
 refine iB RT xg Uh m s false _ ?_;refine ⟨((dT D s:Int),()),?_,hk⟩;simp only [Bool.false_eq_true,if_false];rw [JH] <;> rfl
def G7 {L:Lp} {K:Xab->Hp->Prop} {h:Hp} {g:Nat} {D:dc} (m:dW h g (vm D)) {s:Xaa} (hs:s.size<=maxLen) {v:Int} {n:Nat} (hv:v=(n:Int)) {k:T} (hk:∀ h',dW h' g (vm (uG D s n))->Ch [g] h h'->h'.size=h.size->k L K h') :
  T.et Tryz.prog (Instr.mapUpdate 183 (.map (some g)) (.string s) (.int .u32 v)) k L K h:=by
 subst hv;refine fp RT xg m hs _ _ ?_;intro h' m' c' j;rw [Tv] at m';exact hk h' m' c' j
def Qo {h:Hp} {g:Nat} {D:dc} (m:dW h g (vm D)) (hl:D.length<=2^40) (n:Int) :
  HC Tryz.prog 94 #[.map (some g),.int .u32 n] h fun v h'=>Ext h h'/\∃ p l c,v=.agg #[.slice p l c,.int .u32 n]/\SL h' h.size 117 2 p l c ((D5 D).map df):=by
 refine bd (args:=[.map (some g),.int .u32 n]) mixed Tryz.func94 ax (zy (some g) n) ?_;unfold x8 bf bk bH aP bK br bU aG bj aR;refine bm ?_;intro h1 b1 e1 z1;refine bm ?_;intro h2 b2 e2 z2;refine ar b2 rfl aj ?_;intro h3 b3 k3 z3;have b3:bF h3 h1.size 69 [.slice none 0 0,.int .u32 n]:=b3;have e3:Ext h h3:=bR (e1.trans e2) k3;have m3:=m.ak e3 aj;have c3:bF h3 h.size 69 [.slice none 0 0,.int .u32 0]:=(b1.ak e2 aj).ak k3 (by simp; omega);refine aJ (IF (some g) h3) ?_;rintro _ h4 ⟨rfl,rfl⟩;refine ⟨(.func (.func 117) #[] #[.pointer (some ⟨h3.size,0,none⟩)],()),rfl,an ?_⟩;have e4:Ext h3 (h3.push (.cells #[.map (some g)] 183)):=Ext.push _ _;have Y:(vm D).length<=2^40:=by unfold vm; rw [Y0]; exact hl
 refine aJ (sE m3 Y) ?_;rintro _ h5 ⟨pk,lk,ck,rfl,sk,e5⟩;refine ⟨((pk,lk,ck),()),rfl,an ?_⟩;have u:=e4.trans e5;have O:(keysOf (vm D)).length<=2^40:=by
  unfold keysOf;rw [List.length_mergeSort,Y0];exact Y
 have hlk:lk=(keysOf (vm D)).length:=by rw [sk.1,Y0]
 unfold D5;generalize keysOf (vm D)=ks at sk O hlk ⊢;have b5:=b3.ak u aj;have c5:=c3.ak u aj;have m5:=m3.ak u aj;have Z:=e3.trans u;have hz3:=u.size;have hb3:=b3.lt;have hg:=m.lt;refine aX (cs:=[(false,[.int .i64])]) (fun x w h'=>∃ (i:Nat) (p:Xac) (l c:Nat),x.1=(i:Int)/\i<=ks.length/\w=ks.length-i/\Ch [h1.size] h5 h'/\bF h' h1.size 69 [.slice p l c,.int .u32 n] /\
  SL h' h5.size 117 2 p l c (((ks.take i).filterMap fun k=>if dT D ⟨k.toArray⟩=0 then none else some ((⟨k.toArray⟩:Xaa),dT D ⟨k.toArray⟩)).map df)/\l<=i) ((0:Int),()) ks.length rfl
  ⟨0,none,0,0,rfl,ad,ad,Ch.refl _ _,b5,SL.nil _ _ _ _,ad⟩ ?_
 rintro ⟨n8,⟨⟩⟩ w h6 ⟨i,p,l,c,hi,hile,rfl,U,b6,V,hli⟩;simp only at hi;subst hi;refine an ?_;have m6:=m5.ak U (by simp; omega);have hz6:=U.size;have e06:Ext h h6:=bR Z U;refine aQ (fun g1=>?_) (fun g1=>?_)
 ·have J:i<ks.length:=ad
  have sk6:=sk.bM U (fun j G=>by have:=(sk.cr G).1; simp; omega);obtain ⟨a,rfl,hc⟩:=sk6.cells (i:=i) (by simpa using J);rw [Zb] at hc;have X:ks.take (i+1)=ks.take i++[ks[i]]:=Y3 J;generalize ks[i]=k at hc X;refine ay ⟨ad,ad⟩ (aw rfl ?_);rw [show Int.toNat (i:Int)=i from ad];refine az ((⟨k.toArray⟩:Xaa),()) hc (an ?_);have hw:=iA i;refine px m6 _ (av (fun g2=>?_) (fun g2=>?_))
  ·have g2:((dT D ⟨k.toArray⟩:Nat):Int)≠0:=by simpa using g2
   refine af b6 ((p,l,c),()) rfl (an ?_);refine px m6 _ ?_;refine mz (vs:=df (⟨k.toArray⟩,dT D ⟨k.toArray⟩)) zn sZ rfl ad ad ax rfl rfl V hz6 ad ad ?_;intro p' c' h7 s7 k7 hp7;have b7:=b6.ak k7 (fun hh=>by have:=(V.cr hh).1; omega);refine ar b7 rfl aj ?_;intro h8 b8 k8 z8;refine aH (cs:=[(false,[.int .i64])]) (((i+1:Nat):Int),()) (ks.length-(i+1)) rfl ad (Zl (fun z=>[Value.int .i64 z]) hw) ⟨i+1,p',l+1,c',rfl,ad,rfl,?_,b8,?_,ad⟩
   ·exact Ch.trans (Ch.trans U k7 (fun j G hl=>by have:=(V.cr G).1; omega)) k8 (fun j G _=>G)
   ·rw [X,bb9,Ze];have hf:([k].filterMap fun k=>if dT D ⟨k.toArray⟩=0 then none else some ((⟨k.toArray⟩:Xaa),dT D ⟨k.toArray⟩))=[((⟨k.toArray⟩:Xaa),dT D ⟨k.toArray⟩)]:=by
     simp only [List.filterMap_cons,List.filterMap_nil];rw [Y2 ad]
    rw [hf];exact s7.bM k8 (fun j G=>by have:=(s7.cr G).1; simp; omega)
  ·have g2:((dT D ⟨k.toArray⟩:Nat):Int)=0:=by simpa using g2
   refine aH (cs:=[(false,[.int .i64])]) (((i+1:Nat):Int),()) (ks.length-(i+1)) rfl ad (Zl (fun z=>[Value.int .i64 z]) hw) ⟨i+1,p,l,c,rfl,ad,rfl,U,b6,?_,ad⟩;rw [X,bb9];have hf:([k].filterMap fun k=>if dT D ⟨k.toArray⟩=0 then none else some ((⟨k.toArray⟩:Xaa),dT D ⟨k.toArray⟩))=[]:=by
    simp only [List.filterMap_cons,List.filterMap_nil];rw [Y8 ad]
   rw [hf,ZQ];exact V
 ·have hi:i=ks.length:=ad
  subst hi;rw [ZA] at V;have c6:=c5.ak U (by simp; omega);refine af b6 ((p,l,c),n,()) rfl (an ?_);refine ar c6 rfl aj ?_;intro h7 b7 k7 z7;have b7:bF h7 h.size 69 [.slice p l c,.int .u32 n]:=b7;refine af b7 ((p,l,c),n,()) rfl ?_;have hz5:=Z.size;exact ⟨bR e06 k7,p,l,c,rfl,(V.bM k7 (fun j G=>by have:=(V.cr G).1; simp; omega)).mono ad⟩
structure gW (h:Hp) (p:Xac) (l:Nat) (us:dc):Prop where
 len:l=us.length
 cells:∀ i,(hi:i<us.length)->∃ a,p=some a/\aI h (a.add (i*2)) 0 (df us[i])
def gW.ak {ws:List Nat} {h h':Hp} {p:Xac} {l:Nat} {us:dc} (v:gW h p l us) (k:Ch ws h h') (hw:∀ i,i∈aM p->i∉ws):gW h' p l us :=
 ⟨v.len,fun i hi=>by
  obtain ⟨a,j,hc⟩:=v.cells i hi;exact ⟨a,j,aT k (by rw [ig]; exact hw _ (by rw [j]; simp [aM])) _ _ hc⟩⟩
def SL.RP {h:Hp} {b:Nat} {e:TypeId} {p:Xac} {l c:Nat} {us:dc} (s:SL h b e 2 p l c (us.map df)):gW h p l us:=by
 refine ⟨by rw [s.1,Y0],fun i hi=>?_⟩;obtain ⟨a,j,hc⟩:=s.cells (i:=i) (by simpa using hi);rw [Zb] at hc;exact ⟨a,j,hc⟩
structure ct where
 ai:dc
 num:Nat
def iI (p:Xac) (l c:Nat) (x:ct):Xab:=.agg #[.slice p l c,.int .u32 x.num]
def DW (l:dc):dc:=D5 (l.foldl ja [])
def lZ (x y:ct):ct:=⟨DW (x.ai++y.ai),(x.num+y.num) % 4294967296⟩
def dV (x:Int):IntKind.wrap .u32 x=x % 4294967296:=by
 simp only [IntKind.wrap] <;> rfl
def iH (a:Nat):((a % 4294967296:Nat):Int)=(a:Int) % 4294967296:=Int.natCast_emod a 4294967296
def hZ (a b:Xaa):Prop:=a.data.toList<b.data.toList
instance (a b:Xaa):Decidable (hZ a b):=inferInstanceAs (Decidable (a.data.toList<b.data.toList))
def AD (a:Xaa):¬ hZ a a:=List.lt_irrefl (α:=UInt8) _
def jB {a b c:Xaa} (h:hZ a b) (k:hZ b c):hZ a c:=List.lt_trans (α:=UInt8) h k
def xQ {a b:Xaa} (h:a.data.toList=b.data.toList):a=b:=by
 cases a; cases b;simp only at h;rw [ZK.1 h]
def y7 (a b:Xaa) (h:¬ hZ a b) (k:¬ hZ b a):a=b :=
 xQ (List.le_antisymm (α:=UInt8) (List.not_lt.1 k) (List.not_lt.1 h))
def jD {a b:Xaa} (h:hZ a b):a≠b:=fun e=>by subst e; exact AD _ h
def BW {a b:Xaa} (h:hZ a b):¬ hZ b a:=fun k=>AD _ (jB h k)
structure Nf (l:dc):Prop where
 S5:l.Pairwise fun p q=>hZ p.1 q.1
 Fs:∀ p,p∈l->p.2≠0/\p.2<4294967296
def cf:dc->Xaa->Nat
 | [],_=>0
 | p::l,s=>(if p.1=s then p.2 else 0)+cf l s
def zE (s:Xaa):cf [] s=0:=rfl
def eV (p:Xaa × Nat) (l:dc) (s:Xaa):cf (p::l) s=(if p.1=s then p.2 else 0)+cf l s:=rfl
def Nf.tail {p:Xaa × Nat} {l:dc} (h:Nf (p::l)):Nf l:=⟨(ao9.1 h.1).2,fun q j=>h.2 q (Zd _ j)⟩
def Nf.head {p:Xaa × Nat} {l:dc} (h:Nf (p::l)):∀ q,q∈l->hZ p.1 q.1:=(ao9.1 h.1).1
def Nf.nil:Nf []:=⟨List.Pairwise.nil,aj⟩
def yS {l:dc} {s:Xaa} (h:∀ p,p∈l->p.1≠s):cf l s=0:=by
 induction l with
 | nil=>rfl
 | cons p l j =>
  rw [eV,Y2 (h p (bd9 ..)),j fun q u=>h q (Zd _ u)]
def JU (l m:dc) (s:Xaa):cf (l++m) s=cf l s+cf m s:=by
 induction l with
 | nil=>simp [cf]
 | cons p l j=>simp only [List.cons_append,cf,j]; omega
def Nf.mM {p:Xaa × Nat} {l:dc} (h:Nf (p::l)):cf (p::l) p.1=p.2:=by
 rw [eV,Y8 rfl,yS fun q j=>(jD (h.head q j)).symm] <;> rfl
def Nf.Dj {l:dc} {s:Xaa} (h:∀ p,p∈l->hZ s p.1):cf l s=0:=yS fun p j=>(jD (h p j)).symm
theorem Nf.QK:∀ {l m:dc},Nf l->Nf m->(∀ s,cf l s % 4294967296=cf m s % 4294967296)->l=m
 | [],[],_,_,_=>rfl
 | [],q::m,_,hm,h=>by
  have:=h q.1
  rw [hm.mM] at this;have u:=hm.Fs q (bd9 ..);simp only [cf] at this;omega
 | p::l,[],hl,_,h=>by
  have:=h p.1
  rw [hl.mM] at this;have u:=hl.Fs p (bd9 ..);simp only [cf] at this;omega
 | p::l,q::m,hl,hm,h=>by
  have O:=hl.Fs p (bd9 ..);have u:=hm.Fs q (bd9 ..)
  by_cases h1:hZ p.1 q.1
  ·exfalso
   have:=h p.1
   rw [hl.mM,Nf.Dj (l:=q::m) (s:=p.1) (by
    intro r j;rcases Zo.1 j with rfl | j
    ·exact h1
    ·exact jB h1 (hm.head r j))] at this
   omega
  ·by_cases h2:hZ q.1 p.1
   ·exfalso
    have:=h q.1
    rw [hm.mM,Nf.Dj (l:=p::l) (s:=q.1) (by
     intro r j;rcases Zo.1 j with rfl | j
     ·exact h2
     ·exact jB h2 (hl.head r j))] at this
    omega
   ·have G:=y7 _ _ h1 h2;have h3:=h p.1;rw [hl.mM,G,hm.mM] at h3;have J:p=q:=by
     obtain ⟨a,b⟩:=p;obtain ⟨c,d⟩:=q;simp only at G h3 O u;subst G
     congr 1
     rw [bo9 O.2,bo9 u.2] at h3;exact h3
    subst J
    congr 1
    refine Nf.QK hl.tail hm.tail fun s=>?_
    by_cases hs:p.1=s
    ·subst hs;rw [Nf.Dj hl.head,Nf.Dj hm.head]
    ·have:=h s
     simp only [cf,if_neg hs,Nat.zero_add] at this;exact this
def qD (s:Xaa):dT [] s=0:=rfl
def oA (p:Xaa × Nat) (D:dc) (s:Xaa):dT (p::D) s=if s=p.1 then p.2 else dT D s:=by
 unfold dT;rw [cc9]
 by_cases h:s=p.1
 ·simp [h]
 ·simp [h]
def E2 (D:dc) (s t:Xaa) (v:Nat):dT (D++[(t,v)]) s=if (D.find? fun p=>decide (s=p.1)).isSome then dT D s else if s=t then v else 0:=by
 induction D with
 | nil=>simp [oA,qD]
 | cons p D j =>
  rw [bn9,oA,oA,j,cc9]
  by_cases h:s=p.1
  ·simp [h]
  ·simp only [decide_eq_false h,if_neg h]
def BT {D:dc} {s:Xaa} (h:(D.find? fun p=>decide (s=p.1)).isSome=false):dT D s=0:=by
 unfold dT;cases j:(D.find? fun p=>decide (s=p.1)) with
 | none=>rfl
 | some x=>rw [j] at h; cases h
def Ll (D:dc) (t:Xaa) (v:Nat) (s:Xaa):dT (D.map fun p=>if t=p.1 then (p.1,v) else p) s=if s=t/\(D.find? fun p=>decide (t=p.1)).isSome then v else dT D s:=by
 induction D with
 | nil=>simp [qD]
 | cons p D j =>
  rw [ZF,oA,j,oA,cc9]
  by_cases h:t=p.1
  ·subst h
   by_cases k:s=p.1 <;> simp [k]
  ·rw [Y2 h]
   by_cases k:s=p.1
   ·subst k
    have:¬ p.1=t:=fun e=>h e.symm
    simp [this]
   ·simp only [decide_eq_false h,if_neg k]
def Cc (D:dc) (t:Xaa) (v:Nat) (s:Xaa):dT (uG D t v) s=if s=t then v else dT D s:=by
 unfold uG;split
 ·rename_i j;rw [Ll]
  by_cases k:s=t <;> simp [k,j]
 ·rename_i j;rw [E2]
  by_cases k:s=t
  ·subst k;simp [j]
  ·rw [Y2 k];split
   ·rfl
   ·rename_i h2;rw [BT (Bool.eq_false_iff.2 h2)]
def G4 (l:dc) (s:Xaa):∀ D:dc,dT (l.foldl ja D) s % 4294967296=(dT D s+cf l s) % 4294967296:=by
 induction l with
 | nil=>intro D; simp [cf]
 | cons p l j =>
  intro D;rw [ZH,j];unfold ja;rw [eV,Cc]
  by_cases h:s=p.1
  ·subst h;rw [Y8 rfl,Y8 rfl,Nat.mod_add_mod]
   congr 1; omega
  ·rw [Y2 h,Y2 fun e=>h e.symm]
   congr 1; omega
def Hd {D:dc} (h:(D.map (·.1)).Nodup) (t:Xaa) (v:Nat):((uG D t v).map (·.1)).Nodup:=by
 unfold uG;have h1:(D.find? fun p=>decide (t=p.1)).isSome=true↔t∈D.map (·.1):=by
  rw [List.find?_isSome];simp [eq_comm]
 split
 ·have e:(D.map fun p=>if t=p.1 then (p.1,v) else p).map (·.1)=D.map (·.1):=by
   rw [Zv];refine ZM fun p u=>?_
   simp only [Function.comp];split <;> rfl
  rw [e]; exact h
 ·rename_i hn;rw [Ze,ZX];refine ⟨h,aj,?_⟩;rintro a j b hb rfl;simp only [List.map_cons,List.map_nil,List.mem_singleton] at hb;subst hb;exact hn (h1.2 j)
def zJ (l:dc):∀ D:dc,(D.map (·.1)).Nodup->((l.foldl ja D).map (·.1)).Nodup:=by
 induction l with
 | nil=>intro D h; exact h
 | cons p l j =>
  intro D h;rw [ZH];exact j _ (Hd h _ _)
def IA (l:dc):∀ D:dc,(∀ s,dT D s<4294967296)->∀ s,dT (l.foldl ja D) s<4294967296:=by
 induction l with
 | nil=>intro D h; exact h
 | cons p l j =>
  intro D h;rw [ZH];refine j _ fun s=>?_
  unfold ja;rw [Cc];split
  ·exact ct9 _ bZ
  ·exact h s
def OS {D:dc} {s:Xaa} (h:s∉D.map (·.1)):dT D s=0:=by
 refine BT ?_;cases j:(D.find? fun p=>decide (s=p.1)).isSome with
 | false=>rfl
 | true =>
  rw [List.find?_isSome] at j;obtain ⟨x,hx,hs⟩:=j;exact absurd (Za.2 ⟨x,hx,(Y5 hs).symm⟩) h
def pick (g:Xaa->Nat) (ks:List (List UInt8)):dc:=ks.filterMap fun k=>if g ⟨k.toArray⟩=0 then none else some (⟨k.toArray⟩,g ⟨k.toArray⟩)
def Rx (g:Xaa->Nat) (s:Xaa):∀ ks:List (List UInt8),ks.Nodup->cf (pick g ks) s=if s.data.toList∈ks then g s else 0:=by
 intro ks
 induction ks with
 | nil=>intro _; simp [pick,cf]
 | cons k ks u =>
  intro h;rw [az9] at h;have u:=u h.2;unfold pick at u ⊢;rw [List.filterMap_cons];have e1:(⟨k.toArray⟩:Xaa)=s↔s.data.toList=k:=by
   constructor
   ·rintro rfl; simp
   ·intro e; exact xQ (by simp [e])
  by_cases hk:s.data.toList=k
  ·have hs:=e1.2 hk;rw [hs];split
   ·rename_i j;split at j
    ·rename_i h0;rw [u,h0]
     simp
    ·cases j
   ·rename_i j;split at j
    ·cases j
    ·cases j;rw [eV,u,Y8 rfl,Y2 (by rw [hk]; exact h.1),Y8 (by rw [hk]; simp)] <;> rfl
  ·have hs:¬ (⟨k.toArray⟩:Xaa)=s:=fun e=>hk (e1.1 e)
   split
   ·rw [u];simp [hk]
   ·rename_i j;split at j
    ·cases j
    ·cases j;rw [eV,u,Y2 hs];simp [hk]
def Rm (g:Xaa->Nat) (J:∀ s,g s<4294967296) {ks:List (List UInt8)} (h:ks.Pairwise fun a b=>a<b):Nf (pick g ks):=by
 refine ⟨?_,?_⟩
 ·unfold pick;refine List.Pairwise.filterMap _ ?_ h;intro a b u p j q G;split at j
  ·cases j
  ·split at G
   ·cases G
   ·cases j; cases G;unfold hZ;simpa using u
 ·intro p j;unfold pick at j;rw [av9] at j;obtain ⟨k,_,hk⟩:=j;split at hk
  ·cases hk
  ·rename_i h0;cases hk;exact ⟨h0,J _⟩
def xL (D:dc):(keysOf (vm D)).Perm (D.map fun p=>p.1.data.toList):=by
 unfold keysOf vm;rw [Zv];exact List.mergeSort_perm _ _
def tg {D:dc} (h:(D.map (·.1)).Nodup):(keysOf (vm D)).Pairwise fun a b=>a<b:=by
 have hn:(keysOf (vm D)).Nodup:=by
  refine (xL D).nodup_iff.2 ?_
  have:(D.map fun p=>p.1.data.toList)=(D.map (·.1)).map fun s=>s.data.toList:=by rw [Zv]; rfl
  rw [this];exact Z3.2 (h.imp fun u e=>u (xQ e))
 have hs:(keysOf (vm D)).Pairwise fun a b=>a<=b:=by
  unfold keysOf;refine (List.pairwise_mergeSort ?_ ?_ _).imp ?_
  ·intro a b c h1 h2;exact Y6 (List.le_trans (α:=UInt8) (Y5 h1) (Y5 h2))
  ·intro a b;simp only [Bool.or_eq_true,decide_eq_true_eq];exact List.le_total (α:=UInt8) a b
  ·intro a b G;exact Y5 G
 refine (hs.and hn).imp ?_;rintro a b ⟨h1,h2⟩
 by_cases j:a<b
 ·exact j
 ·exact absurd (List.le_antisymm (α:=UInt8) h1 (List.not_lt.1 j)) h2
def F5 (l:dc):DW l=pick (dT (l.foldl ja [])) (keysOf (vm (l.foldl ja []))):=rfl
def zX (l:dc):Nf (DW l):=by
 rw [F5];exact Rm _ (IA l [] (fun s=>by rw [qD]; decide)) (tg (zJ l [] aj))
def AF (l:dc) (s:Xaa):cf (DW l) s=cf l s % 4294967296:=by
 have h1:=G4 l s [];rw [qD,ZJ,bo9 (IA l [] (fun s=>by rw [qD]; decide) s)] at h1;rw [F5,Rx _ _ _ ((tg (zJ l [] aj)).imp fun h e=>by subst e; exact List.lt_irrefl (α:=UInt8) _ h)];split
 ·exact h1
 ·rename_i hn;rw [<- h1,OS];intro hm;refine hn ((xL _).mem_iff.2 ?_);obtain ⟨p,j,rfl⟩:=Za.1 hm;exact Za.2 ⟨p,j,rfl⟩
def fo (n:Nat) (l:dc):dc:=l.filterMap fun p=>if p.2*n % 4294967296=0 then none else some (p.1,p.2*n % 4294967296)
def fq:Nat->dc->dc->dc
 | 0,_,_=>[]
 | n+1,x,y=>match x,y with
  | [],[]=>[]
  | p::x,[]=>p::fq n x []
  | [],q::y=>q::fq n [] y
  | p::x,q::y=>if hZ p.1 q.1 then p::fq n x (q::y) else if hZ q.1 p.1 then q::fq n (p::x) y else if (p.2+q.2) % 4294967296=0 then fq n x y else (p.1,(p.2+q.2) % 4294967296)::fq n x y
def J5 (x y:dc):dc:=fq (x.length+y.length) x y
def Jq {n:Nat} {l:dc} (h:Nf l):Nf (fo n l):=by
 refine ⟨?_,?_⟩
 ·unfold fo;refine List.Pairwise.filterMap _ ?_ h.1;intro a b u p j q G;split at j
  ·cases j
  ·split at G
   ·cases G
   ·cases j; cases G;exact u
 ·intro p j;unfold fo at j;rw [av9] at j;obtain ⟨k,_,hk⟩:=j;split at hk
  ·cases hk
  ·rename_i h0;cases hk;exact ⟨h0,ct9 _ bZ⟩
def Kv (n:Nat) (l:dc) (s:Xaa):cf (fo n l) s % 4294967296=cf l s*n % 4294967296:=by
 induction l with
 | nil=>simp [fo,cf]
 | cons p l u =>
  have hc:cf (fo n (p::l)) s=(if p.1=s then p.2*n % 4294967296 else 0)+cf (fo n l) s:=by
   unfold fo;rw [List.filterMap_cons];split
   ·rename_i j;split at j
    ·rename_i h0;rw [h0]; simp
    ·cases j
   ·rename_i j;split at j
    ·cases j
    ·cases j;rfl
  rw [hc,be9,u,eV]
  by_cases h:p.1=s
  ·rw [Y8 h,Y8 h,Z9,cy9,<- be9]
  ·rw [Y2 h,Y2 h,ZJ]; simp
def qE {n:Nat} {x y:dc} {r:Xaa × Nat} (h:r∈fq n x y):(∃ p,p∈x/\p.1=r.1)\/(∃ q,q∈y/\q.1=r.1):=by
 induction n generalizing x y with
 | zero=>simp [fq] at h
 | succ n u =>
  rcases x with _ | ⟨p,x⟩ <;> rcases y with _ | ⟨q,y⟩
  ·simp [fq] at h
  ·simp only [fq,List.mem_cons] at h;rcases h with rfl | h
   ·exact .inr ⟨_,aj,rfl⟩
   ·rcases u h with ⟨a,j,e⟩ | ⟨a,j,e⟩
    ·simp at j
    ·exact .inr ⟨a,by simp [j],e⟩
  ·simp only [fq,List.mem_cons] at h;rcases h with rfl | h
   ·exact .inl ⟨_,aj,rfl⟩
   ·rcases u h with ⟨a,j,e⟩ | ⟨a,j,e⟩
    ·exact .inl ⟨a,by simp [j],e⟩
    ·simp at j
  ·simp only [fq] at h;split at h
   ·rcases Zo.1 h with rfl | h
    ·exact .inl ⟨_,aj,rfl⟩
    ·rcases u h with ⟨a,j,e⟩ | ⟨a,j,e⟩
     ·exact .inl ⟨a,by simp [j],e⟩
     ·exact .inr ⟨a,j,e⟩
   ·split at h
    ·rcases Zo.1 h with rfl | h
     ·exact .inr ⟨_,aj,rfl⟩
     ·rcases u h with ⟨a,j,e⟩ | ⟨a,j,e⟩
      ·exact .inl ⟨a,j,e⟩
      ·exact .inr ⟨a,by simp [j],e⟩
    ·split at h
     ·rcases u h with ⟨a,j,e⟩ | ⟨a,j,e⟩
      ·exact .inl ⟨a,by simp [j],e⟩
      ·exact .inr ⟨a,by simp [j],e⟩
     ·rcases Zo.1 h with rfl | h
      ·exact .inl ⟨p,aj,rfl⟩
      ·rcases u h with ⟨a,j,e⟩ | ⟨a,j,e⟩
       ·exact .inl ⟨a,by simp [j],e⟩
       ·exact .inr ⟨a,by simp [j],e⟩
def Nf.cons {p:Xaa × Nat} {l:dc} (h:Nf l) (hc:p.2≠0/\p.2<4294967296) (hl:∀ q,q∈l->hZ p.1 q.1):Nf (p::l) :=
 ⟨ao9.2 ⟨hl,h.1⟩,fun q j=>by rcases Zo.1 j with rfl | j; exact hc; exact h.2 q j⟩
def QQ {n:Nat} {x y:dc} (hx:Nf x) (hy:Nf y):Nf (fq n x y):=by
 induction n generalizing x y with
 | zero=>exact Nf.nil
 | succ n G =>
  rcases x with _ | ⟨p,x⟩ <;> rcases y with _ | ⟨q,y⟩
  ·exact Nf.nil
  ·simp only [fq];refine (G Nf.nil hy.tail).cons (hy.2 q aj) fun r u=>?_
   rcases qE u with ⟨a,j,e⟩ | ⟨a,j,e⟩
   ·simp at j
   ·rw [<- e]; exact hy.head a j
  ·simp only [fq];refine (G hx.tail Nf.nil).cons (hx.2 p aj) fun r u=>?_
   rcases qE u with ⟨a,j,e⟩ | ⟨a,j,e⟩
   ·rw [<- e]; exact hx.head a j
   ·simp at j
  ·simp only [fq];split
   ·rename_i h1;refine (G hx.tail hy).cons (hx.2 p aj) fun r u=>?_
    rcases qE u with ⟨a,j,e⟩ | ⟨a,j,e⟩
    ·rw [<- e]; exact hx.head a j
    ·rw [<- e];rcases Zo.1 j with rfl | j
     ·exact h1
     ·exact jB h1 (hy.head a j)
   ·rename_i h1;split
    ·rename_i h2;refine (G hx hy.tail).cons (hy.2 q aj) fun r u=>?_
     rcases qE u with ⟨a,j,e⟩ | ⟨a,j,e⟩
     ·rw [<- e];rcases Zo.1 j with rfl | j
      ·exact h2
      ·exact jB h2 (hx.head a j)
     ·rw [<- e]; exact hy.head a j
    ·rename_i h2;have J:=y7 _ _ h1 h2;split
     ·exact G hx.tail hy.tail
     ·rename_i h0;refine (G hx.tail hy.tail).cons ⟨h0,ct9 _ bZ⟩ fun r u=>?_
      rcases qE u with ⟨a,j,e⟩ | ⟨a,j,e⟩
      ·rw [<- e]; exact hx.head a j
      ·rw [<- e];show hZ p.1 a.1;rw [J]; exact hy.head a j
def Qh {n:Nat} {x y:dc} (hn:x.length+y.length<=n) (s:Xaa):cf (fq n x y) s % 4294967296=(cf x s+cf y s) % 4294967296:=by
 induction n generalizing x y with
 | zero =>
  have h1:x=[]:=bi9.1 ad;have h2:y=[]:=bi9.1 ad;subst h1 h2;rfl
 | succ n j =>
  rcases x with _ | ⟨p,x⟩ <;> rcases y with _ | ⟨q,y⟩
  ·rfl
  ·simp only [fq,eV,zE]
   have:=j (x:=[]) (y:=y) (by simp at hn ⊢; omega)
   simp only [zE] at this;omega
  ·simp only [fq,eV,zE]
   have:=j (x:=x) (y:=[]) (by simp at hn ⊢; omega)
   simp only [zE] at this;omega
  ·simp only [List.length_cons] at hn;simp only [fq];split
   ·have:=j (x:=x) (y:=q::y) (by simp; omega)
    simp only [eV] at this ⊢;omega
   ·rename_i h1;split
    ·have:=j (x:=p::x) (y:=y) (by simp; omega)
     simp only [eV] at this ⊢;omega
    ·rename_i h2;have u:=y7 _ _ h1 h2
     have:=j (x:=x) (y:=y) ad
     split
     ·rename_i h0;simp only [eV,<- u];split
      ·omega
      ·omega
     ·simp only [eV,<- u];split
      ·omega
      ·omega
def Q9 {x y:dc} (hx:Nf x) (hy:Nf y):Nf (J5 x y):=QQ hx hy
def QZ (x y:dc) (s:Xaa):cf (J5 x y) s % 4294967296=(cf x s+cf y s) % 4294967296:=Qh (Zh _) s
def Dl (n:Nat) (l:dc) (s:Xaa):cf (l.map fun p=>(p.1,p.2*n % 4294967296)) s % 4294967296=cf l s*n % 4294967296:=by
 induction l with
 | nil=>simp [cf]
 | cons p l j =>
  simp only [List.map_cons,cf];rw [be9,j]
  by_cases h:p.1=s
  ·rw [Y8 h,Y8 h,Z9,cy9,<- be9]
  ·rw [Y2 h,Y2 h,ZJ]; simp
def CB (x:ct) (n:Nat):ct:=⟨fo n x.ai,x.num*n % 4294967296⟩
def xx (x y:ct):ct:=⟨J5 x.ai y.ai,(x.num+y.num) % 4294967296⟩
def A7 (n:Nat) (l:dc):(fo n l).length<=l.length:=List.length_filterMap_le _ _
def Vt (r:Option Nat) (p:Xac) (l lv:Nat) (k:T):T :=
 T.loop [aR] [.int .i64 (0:Int)] <| fun (j:Int) =>
 bH j l
  (T.need (fx j l) <|
  T.bG p <| fun (G:Xax) =>
  T.ah (G.add (aP j 2)) [.string,.int .u32] <| fun (J:Xaa) (O:Int) =>
  T.new [bY,aG (0:Int)] 117 <| fun (a24:Xax) =>
  T.aC a24 [.string J,aG O] <|
  T.ah a24 [.string] <| fun (u:Xaa) =>
  bU (Instr.lookup 183 (.map r) (.string u) false) false [(false,[.int .u32])] <| fun (U:Int) =>
  T.ah (a24.add 1) [.int .u32] <| fun (V:Int) =>
  T.et Tryz.prog (Instr.mapUpdate 183 (.map r) (.string u) (aG (IntKind.wrap .u32 (U+V)))) <|
  T.again lv [.int .i64 (bt (j+(1:Int)))]) k
def uS (l:dc):∀ D:dc,(l.foldl ja D).length<=D.length+l.length:=by
 induction l with
 | nil=>intro D; simp
 | cons p l j =>
  intro D;rw [ZH];have h1:=j (ja D p);have h2:=Gf D p.1 ((dT D p.1+p.2) % 4294967296);have h3:(ja D p).length<=D.length+1:=h2;simp only [List.length_cons];omega
def Jb {L:Lp} {K:Xab->Hp->Prop} {h:Hp} {g:Nat} {p:Xac} {l:Nat} {us D:dc} {k:T} {lv:Nat} (X:L.length=lv) (v:gW h p l us) (hl:us.length<=2^40) (hs:∀ t,t∈us->t.1.size<=maxLen) (m:dW h g (vm D)) (hg:g∉aM p)
  (hk:∀ J h',dW h' g (vm (us.foldl ja D))->Ch [g] h h'->k (L++[J]) K h'):Vt (some g) p l lv k L K h:=by
 have hll:=v.len;have hL:∀ J:List Xab->Hp->Prop,(L++[J])[lv]?=some J:=by intro J; subst X; simp
 unfold Vt bH aP bU bt fx aG bY aR;refine aX (cs:=[(false,[.int .i64])]) (fun y w h'=>∃ (i:Nat),y.1=(i:Int)/\i<=us.length/\w=us.length-i/\Ch [g] h h'/\dW h' g (vm ((us.take i).foldl ja D))) ((0:Int),()) us.length rfl
  ⟨0,rfl,ad,ad,Ch.refl _ _,by simpa using m⟩ ?_
 rintro ⟨n8,⟨⟩⟩ w h4 ⟨i,hi,hile,rfl,Y,Z⟩;simp only at hi;subst hi;refine an ?_;refine aQ (fun g1=>?_) (fun g1=>?_)
 ·have u:i<us.length:=ad
  obtain ⟨a,rfl,hc⟩:=(v.ak Y (by intro j hj hm; rw [Zi] at hm; subst hm; exact hg hj)).cells i u;have G:us.take (i+1)=us.take i++[us[i]]:=Y3 u;have O:=hs us[i] (Y9 u);generalize us[i]=t at hc G O;refine ay ⟨ad,ad⟩ (aw rfl ?_);rw [show Int.toNat (i:Int)=i from ad];refine az (t.1,(t.2:Int),()) hc (an ?_);refine bm ?_;intro h5 b5 e5 z5;refine ar b5 rfl aj ?_;intro h6 V k6 z6;have V:bF h6 h4.size 117 (df t):=V;have U:Ext h4 h6:=bR e5 k6;have m6:=Z.ak U aj;refine af V (t.1,()) rfl (an ?_);refine px m6 _ ?_;rw [aE];refine af V ((t.2:Int),()) rfl (an ?_);generalize hDD:(us.take i).foldl ja D=D' at m6;refine G7 (n:=(dT D' t.1+t.2) % 4294967296) m6 O ?_ ?_
  ·rw [dV,iH,cd9]
  ·intro h7 m7 k7 z7;have hw:=iA i;have hf:(us.take (i+1)).foldl ja D=uG D' t.1 ((dT D' t.1+t.2) % 4294967296):=by
    rw [G,ZY,hDD] <;> rfl
   refine aH (cs:=[(false,[.int .i64])]) (((i+1:Nat):Int),()) (us.length-(i+1)) (hL _) ad (Zl (fun z=>[Value.int .i64 z]) hw) ⟨i+1,rfl,ad,rfl,?_,by rw [hf]; exact m7⟩;exact Ch.trans (Ch.trans Y U aj) k7 (fun j hj _=>hj)
 ·have hi:i=us.length:=ad
  subst hi;rw [ZA] at Z;exact hk _ _ Z Y
def gW.UI {h:Hp} {p:Xac} {l:Nat} {us:dc} (v:gW h p l us) (hn:us≠[]):∀ i,i∈aM p->i<h.size:=by
 intro i hi;cases us with
 | nil=>exact absurd rfl hn
 | cons t us =>
  obtain ⟨a,rfl,hc⟩:=v.cells 0 aj;simp only [aM,List.mem_singleton] at hi;subst hi;rw [show a.add (0*2)=a by simp [Addr.add]] at hc;have h1:=hc.1;unfold ij at h1;split at h1
  ·rename_i j
   have:=fj j
   simpa [ig] using this
  ·cases h1
def VN:Tryz.prog.underlying 188=some (.slice 66):=ax
def Wg:(Tryz.prog.info? 66).map (fun i=>(i.zero,i.size,i.bytes))=some (some (.slice none 0 0),1,24):=ax
def Tn {h:Hp} {p q:Xac} {l c m d:Nat} {x y:ct} (v:gW h p l x.ai) (u:gW h q m y.ai) (hp:∀ i,i∈aM p->i<h.size) (hq:∀ i,i∈aM q->i<h.size)
  (hl:x.ai.length+y.ai.length<=2^40) (hx:∀ t,t∈x.ai->t.1.size<=maxLen) (hy:∀ t,t∈y.ai->t.1.size<=maxLen) :
  HC Tryz.prog 67 #[iI p l c x,iI q m d y] h fun w h'=>Ext h h'/\∃ p' l' c',w=iI p' l' c' (lZ x y)/\SL h' h.size 117 2 p' l' c' ((lZ x y).ai.map df):=by
 refine bd (args:=[.agg #[.slice p l c,.int .u32 x.num],.agg #[.slice q m d,.int .u32 y.num]]) mixed Tryz.func67 ax (A0 p l c x.num q m d y.num) ?_;unfold Ag bf bk bH aP bK br bU aG bj bY aR;refine bm ?_;intro h1 b1 e1 z1;refine bm ?_;intro h2 O e2 z2;refine bm ?_;intro h3 U e3 z3;refine jJ _ ?_;intro h4 m4 e4 z4;refine ⟨(some h3.size,()),rfl,an ?_⟩;have b1:=((b1.ak e2 aj).ak e3 aj).ak e4 aj;have O:=(O.ak e3 aj).ak e4 aj;have U:=U.ak e4 aj;have e04:=((e1.trans e2).trans e3).trans e4;refine af b1 ((p,l,c),()) rfl (an ?_);refine af O ((q,m,d),()) rfl (an ?_);refine km (cells:=[.slice p l c,.slice q m d]) VN Wg bZ bZ ax ?_;intro h5 b5 X z5;have m5:dW h5 h3.size (vm []):=m4.ak X aj;have b1:=b1.ak X aj;have O:=O.ak X aj;have U:=U.ak X aj;have e05:=e04.trans X;have hb5:=b5.lt;have hm4:=m4.lt;refine aX (cs:=[(false,[.int .i64])]) (fun z w h'=>∃ (i:Nat),z.1=(i:Int)/\i<=2/\w=2-i/\Ch [h3.size] h5 h'/\dW h' h3.size (vm ((([x.ai,y.ai].take i).flatten).foldl ja []))) ((0:Int),()) 2 rfl
  ⟨0,rfl,ad,ad,Ch.refl _ _,m5⟩ ?_
 rintro ⟨n8,⟨⟩⟩ w h6 ⟨i,hi,hile,rfl,V,Y⟩;simp only at hi;subst hi;refine an ?_;have b6:=b5.ak V (by simp; omega);have G:Ext h h6:=bR e05 V;refine aQ (fun g1=>?_) (fun g1=>?_)
 ·refine ay ⟨ad,ad⟩ (aw rfl ?_);rw [show Int.toNat (i:Int)=i from ad,aE];have hw:=iA i;have hi2:i=0\/i=1:=ad
  rcases hi2 with rfl | rfl
  ·refine af b6 ((p,l,c),()) rfl (an ?_);refine Jb (us:=x.ai) (D:=[]) rfl (v.ak G aj) ad hx Y (fun hh=>by have:=hp _ hh; omega) ?_;intro J h7 m7 k7;refine aH (cs:=[(false,[.int .i64])]) (((0+1:Nat):Int),()) (2-(0+1)) rfl ad (Zl (fun z=>[Value.int .i64 z]) hw) ⟨0+1,rfl,ad,rfl,Ch.trans V k7 (fun j Z _=>Z),?_⟩;simpa using m7
  ·refine af b6 ((q,m,d),()) rfl (an ?_);refine Jb (us:=y.ai) (D:=x.ai.foldl ja []) rfl (u.ak G aj) ad hy (by simpa using Y) (fun hh=>by have:=hq _ hh; omega) ?_;intro J h7 m7 k7;refine aH (cs:=[(false,[.int .i64])]) (((1+1:Nat):Int),()) (2-(1+1)) rfl ad (Zl (fun z=>[Value.int .i64 z]) hw) ⟨1+1,rfl,ad,rfl,Ch.trans V k7 (fun j Z _=>Z),?_⟩;simpa using m7
 ·have hi:i=2:=ad
  subst hi;have Y:dW h6 h3.size (vm ((x.ai++y.ai).foldl ja [])):=by simpa using Y
  have b1:=b1.ak V (by simp; omega);have O:=O.ak V (by simp; omega);have U:=U.ak V (by simp; omega);rw [aE,aE];refine af b1 ((x.num:Int),()) rfl (an ?_);refine af O ((y.num:Int),()) rfl (an ?_);refine aJ (Qo Y (by have:=uS (x.ai++y.ai) []; rw [Y4,List.length_nil] at this; omega) _) ?_;rintro _ h7 ⟨e7,p',l',c',rfl,s7⟩;refine ⟨((p',l',c'),IntKind.wrap .u32 ((x.num:Int)+(y.num:Int)),()),rfl,an ?_⟩;refine ar (U.ak e7 aj) rfl aj ?_;intro h8 b8 k8 z8;have b8:bF h8 h2.size 69 [.slice p' l' c',.int .u32 (IntKind.wrap .u32 ((x.num:Int)+(y.num:Int)))]:=b8;refine af b8 ((p',l',c'),IntKind.wrap .u32 ((x.num:Int)+(y.num:Int)),()) rfl ?_;have hz6:=G.size;have hz2:=(e1.trans e2).size;have hb3:=U.lt;refine ⟨bR (G.trans e7) k8,p',l',c',?_,(s7.bM k8 (fun j Z=>by have:=(s7.cr Z).1; simp; omega)).mono ad⟩;unfold iI lZ;rw [dV];dsimp only;rw [iH,cd9]
def qT (p:UInt8->Bool) (l:List UInt8) (k:Nat) (hk:k<l.length):(l.take (k+1)).all p=((l.take k).all p && p (l.getD k 0)):=by
 rw [Y3 hk,List.all_append];simp [List.getD,List.getElem?_eq_getElem hk]
def r6 (s:Xaa) (h:Hp) (hs:s.size<=9223372036854775807):we Tryz.prog 82 [.string s] h (.bool (cX s.data.toList)):=by
 refine eC mixed Tryz.func82 ax (oF s) ?_;have U:s.data.toList.length=s.size:=aj
 unfold jQ bk aY bK fx iP bI aR cn;unfold cX;rw [U];refine av (fun h1=>?_) (fun h1=>?_)
 ·have h1:=Y5 h1;rw [show decide (0<s.size)=false from Y7 ad];exact ⟨aj,rfl⟩
 have h1:=Zc h1;refine av (fun h2=>?_) (fun h2=>?_)
 ·have h2:=Y5 h2;rw [show decide (s.size<=32)=false from Y7 ad];exact ⟨aj,rfl⟩
 have h2:=Zc h2;rw [show decide (0<s.size)=true from Y6 ad,show decide (s.size<=32)=true from Y6 ad];refine ay ⟨ad,ad⟩ ?_;refine aK (BH (s.data.toList.getD 0 0) h) ?_;refine av (fun h3=>?_) (fun h3=>?_)
 ·have h3:fh (s.data.toList.getD 0 0)=false:=by simpa using h3
  rw [h3];exact ⟨aj,rfl⟩
 have h3:fh (s.data.toList.getD 0 0)=true:=by simpa using h3
 rw [h3];refine aX (cs:=[(false,[.bool]),(false,[.int .i64])]) (fun x n h'=>h'=h/\∃ k:Nat,x.2.1=(k:Int)/\k<=s.size/\n=s.size-k/\(s.data.toList.take k).all (fun c=>fh c || iy c)=true)
  (false,(0:Int),()) s.size rfl ⟨rfl,0,rfl,ad,ad,aj⟩ ?_
 rintro ⟨b,n,⟨⟩⟩ m h' ⟨rfl,k,hk,V,rfl,j⟩;simp only at hk;subst hk;refine av (fun hb=>?_) (fun hb=>?_)
 ·have O:(k:Int)<s.size:=Y5 hb;have u:=qT (fun c=>fh c || iy c) s.data.toList k ad;rw [j,Zt] at u;have J:∀ k':Nat,(fh (s.data.toList.getD k 0) || iy (s.data.toList.getD k 0))=false->s.data.toList.all (fun c=>fh c || iy c)=false:=by
   intro k' X;rw [X] at u;cases hx:s.data.toList.all (fun c=>fh c || iy c) with
   | false=>rfl
   | true =>
    have:(s.data.toList.take (k+1)).all (fun c=>fh c || iy c)=true:=Zx.2 fun c hc=>Zx.1 hx c (Z7 hc)
    rw [this] at u; cases u
  have G:(fh (s.data.toList.getD k 0) || iy (s.data.toList.getD k 0))=true->T.again 0 [.bool b,.int .i64 (IntKind.wrap .i64 ((k:Int)+1))] ([]++[Jl (cs:=[(false,[.bool]),(false,[.int .i64])]) (fun x n h''=>h''=h'/\∃ k:Nat,x.2.1=(k:Int)/\k<=s.size/\n=s.size-k/\(s.data.toList.take k).all (fun c=>fh c || iy c)=true) (s.size-k)]) (fun v' h''=>v'=.bool (true && true && true && s.data.toList.all (fun c=>fh c || iy c) && !(yw s.data.toList).2.2)/\h''=h') h':=by
   intro Y;rw [wrap_i64 ad ad];exact aH (cs:=[(false,[.bool]),(false,[.int .i64])]) (b,(k:Int)+1,()) (s.size-(k+1)) rfl ad rfl ⟨rfl,k+1,(show ((k:Int)+1)=((k+1:Nat):Int) from ad),ad,rfl,by rw [u,Y]⟩
  refine ay ⟨(by show (0:Int)<=(k:Int); omega),O⟩ ?_;refine aK (BH (s.data.toList.getD k 0) h') ?_;refine av (fun h4=>?_) (fun h4=>?_)
  ·have h4:fh (s.data.toList.getD k 0)=false:=by simpa using h4
   refine ay ⟨(by show (0:Int)<=(k:Int); omega),O⟩ ?_;refine aK (N2 (s.data.toList.getD k 0) h') ?_;refine av (fun h5=>?_) (fun h5=>?_)
   ·have h5:iy (s.data.toList.getD k 0)=false:=by simpa using h5
    rw [J 0 (by rw [h4,h5]; rfl)];exact ⟨aj,rfl⟩
   ·have h5:iy (s.data.toList.getD k 0)=true:=by simpa using h5
    exact G (by rw [h5]; simp)
  ·have h4:fh (s.data.toList.getD k 0)=true:=by simpa using h4
   exact G (by rw [h4]; simp)
 ·have Z:¬ (k:Int)<s.size:=Zc hb;have hk:k=s.data.toList.length:=ad
  rw [hk,ZA] at j;rw [j];refine Gh (CZ s h') ?_;exact ⟨aj,rfl⟩
def dv (c:UInt8):Nat:=if c.toNat<58 then c.toNat-48 else c.toNat-87
def Ud (b:Nat) (l:List UInt8):Nat:=l.foldl (fun n c=>n*b+dv c) 0
def Wv (c:UInt8):Bool:=iy c || (97<=c.toNat && c.toNat<=102)
def C2:List UInt8:=[48,49,50,51,52,53,54,55,56,57,97,98,99,100,101,102]
def QY (l:List UInt8):Nat × Nat :=
 if l.take 2=[48,120] then
  (if 8<mv (l.drop 2) C2\/mv (l.drop 2) C2=0 then (0,0) else (2+mv (l.drop 2) C2,Ud 16 ((l.drop 2).take (mv (l.drop 2) C2))))
 else
  (if (1<mv l iS/\l.getD 0 0=48)\/mv l iS=0\/4294967296<=Ud 10 (l.take (mv l iS)) then (0,0) else (mv l iS,Ud 10 (l.take (mv l iS))))
def Tw:List UInt8:=gQ++iS
def yk (P:Program) (t:TypeId):Array Field :=
 match P.underlying t with
 | some (.struct fs)=>fs
 | _=>#[]
def bytes_beq (t:Xaa):(t==t)=true:=by
 cases t with | mk d=>show (d==d)=true; simp
def hv (c:UInt8):Int:=if Wv c=true then (dv c:Int) else -1
def ub (D:List UInt8):Nat × Nat :=
 if D.getD 0 0=39 then
  (if D.length<3\/(D.getD 1 0).toNat<32\/126<(D.getD 1 0).toNat\/D.getD 1 0=39\/D.getD 2 0≠39 then (0,0) else ((D.getD 1 0).toNat,3))
 else if (QY D).1=0\/0<mv (D.drop (QY D).1) Tw then (0,0) else ((QY D).2,(QY D).1)
def CH {s t:Xaa} (h:s.data.toList=t.data.toList):s=t:=by
 cases s; cases t;simp only at h
 congr 1
 exact ZK.1 h
def add_add (a:Xax) (i j:Nat):(a.add i).add j=a.add (i+j):=by
 unfold Addr.add
 by_cases hi:i=0 <;> by_cases u:j=0 <;> simp [hi,u] <;> omega
def tZ:ct:=⟨[],0⟩
structure Good (x:ct):Prop where
 nf:Nf x.ai
 Mw:∀ t,t∈x.ai->cX t.1.data.toList=true
 num:x.num<4294967296
def He {s:Xaa} (h:cX s.data.toList=true):s.size<=32:=by
 unfold cX at h;simp only [Bool.and_eq_true,decide_eq_true_eq] at h
 have:s.data.toList.length=s.size:=aj
 omega
abbrev ptr (a:Nat):Xab:=.pointer (some ⟨a,0,none⟩)
def cT {h:Hp} {b:Xax} {t:Xaa × Nat} (hc:aI h b 0 (df t)):aI h b 0 [.string t.1]/\aI h (b.add 1) 0 [.int .u32 (t.2:Int)]:=by
 obtain ⟨h1,h2,h3⟩:=hc;exact ⟨⟨h1,trivial⟩,⟨by rw [add_add]; exact h2,trivial⟩⟩
def IE (a n:Nat):IntKind.wrap .u32 ((a:Int)*(n:Int))=((a*n % 4294967296:Nat):Int):=by rw [dV,iH,Int.natCast_mul]
def IC (a n:Nat):IntKind.wrap .u32 ((a:Int)+(n:Int))=(((a+n) % 4294967296:Nat):Int):=by rw [dV,iH,cd9]
def Ha {h:Hp} {p:Xac} {l c:Nat} {x:ct} (v:gW h p l x.ai) (hl:x.ai.length<=2^40) (hp:∀ i,i∈aM p->i<h.size) (n:Nat) :
  HC Tryz.prog 102 #[iI p l c x,.int .u32 n] h fun w h'=>Ext h h'/\∃ p' l' c',w=iI p' l' c' (CB x n)/\SL h' h.size 117 2 p' l' c' ((CB x n).ai.map df):=by
 refine bd (args:=[.agg #[.slice p l c,.int .u32 x.num],.int .u32 n]) mixed Tryz.func102 ax (nY p l c x.num n) ?_;unfold j1 bf bk bH aP br aG bj aR;have hll:=v.len;refine bm ?_;intro h1 b1 e1 z1;refine bm ?_;intro h2 b2 e2 z2;have b1:=b1.ak e2 aj;rw [aE];refine af b1 ((x.num:Int),()) rfl (an ?_);refine bm ?_;intro h3 b3 e3 z3;refine ar b3 rfl aj ?_;intro h4 b4 k4 z4;rw [IE] at b4;have b4:bF h4 h2.size 69 [.slice none 0 0,.int .u32 ((x.num*n % 4294967296:Nat):Int)]:=b4;have U:Ext h2 h4:=bR e3 k4;have b1:=b1.ak U aj;have b2:=b2.ak U aj;have V:=(e1.trans e2).trans U;have hb4:=b4.lt;refine aX (cs:=[(false,[.int .i64])]) (fun y w h'=>∃ (i:Nat) (q:Xac) (m d:Nat),y.1=(i:Int)/\i<=x.ai.length/\w=x.ai.length-i/\Ch [h2.size] h4 h'/\bF h' h2.size 69 [.slice q m d,.int .u32 ((x.num*n % 4294967296:Nat):Int)] /\
  SL h' h4.size 117 2 q m d ((fo n (x.ai.take i)).map df)/\m<=i) ((0:Int),()) x.ai.length rfl ⟨0,none,0,0,rfl,ad,ad,Ch.refl _ _,b4,SL.nil _ _ _ _,ad⟩ ?_
 rintro ⟨n8,⟨⟩⟩ w h5 ⟨i,q,m,d,hi,hile,rfl,k5,b5,X,hm⟩;simp only at hi;subst hi;refine an ?_;have u:=b1.ak k5 (by simp; omega);have hz5:=k5.size;have e05:Ext h h5:=bR V k5;have v5:=v.ak e05 aj;refine af u ((p,l,c),()) rfl (an ?_);have hw:=iA i;refine aQ (fun g1=>?_) (fun g1=>?_)
 ·have J:i<x.ai.length:=ad
  have Y:x.ai.take (i+1)=x.ai.take i++[x.ai[i]]:=Y3 J;obtain ⟨a,rfl,hc⟩:=v5.cells i J;generalize x.ai[i]=t at hc Y;obtain ⟨c1,c2⟩:=cT hc;refine af u ((some a,l,c),()) rfl (an ?_);refine ay ⟨ad,ad⟩ (aw rfl ?_);rw [show Int.toNat (i:Int)=i from ad];refine az ((t.2:Int),()) c2 (an ?_);rw [IE];refine av (fun g2=>?_) (fun g2=>?_)
  ·have g2:¬ t.2*n % 4294967296=0:=by
    intro hh;rw [hh] at g2;cases g2
   refine af b5 ((q,m,d),()) rfl (an ?_);refine af u ((some a,l,c),()) rfl (an ?_);refine ay ⟨ad,ad⟩ (aw rfl ?_);refine az (t.1,()) c1 (an ?_);have hab:=hp a.block (by simp [aM]);refine gU (vs:=df (t.1,t.2*n % 4294967296)) zn sZ rfl ad ad ax rfl rfl X hz5 ad ad (fun h' e=>⟨aT e aj _ _ c1,(u.ak e aj).cells _ rfl,(b5.ak e aj).cells _ rfl,trivial⟩) ?_;intro p' c' h7 s7 Z hp7;have G:∀ j,j<h4.size->j∉aM q:=fun j O hm=>by have:=(X.cr hm).1; omega
   refine ⟨⟨aT Z (by rw [ig]; exact G _ (by have:=V.size; omega)) _ _ c1,(u.ak Z (G _ ad)).cells _ rfl,trivial⟩,?_⟩;refine ar (b5.ak Z (G _ ad)) rfl aj ?_;intro h8 b8 k8 z8;refine aH (cs:=[(false,[.int .i64])]) (((i+1:Nat):Int),()) (x.ai.length-(i+1)) rfl ad (Zl (fun z=>[Value.int .i64 z]) hw) ⟨i+1,p',m+1,c',rfl,ad,rfl,?_,b8,?_,ad⟩
   ·exact Ch.trans (Ch.trans k5 Z (fun j O hl=>by have:=(X.cr O).1; omega)) k8 (fun j O _=>O)
   ·have hf:fo n (x.ai.take (i+1))=fo n (x.ai.take i)++[(t.1,t.2*n % 4294967296)]:=by
     unfold fo;rw [Y,bb9]
     congr 1
     simp only [List.filterMap_cons,List.filterMap_nil];rw [Y2 g2]
    rw [hf,Ze];exact s7.bM k8 (fun j O=>by have:=(s7.cr O).1; simp; omega)
  ·have g2:t.2*n % 4294967296=0:=by
    have:((t.2*n % 4294967296:Nat):Int)=0:=by simpa using g2
    omega
   refine aH (cs:=[(false,[.int .i64])]) (((i+1:Nat):Int),()) (x.ai.length-(i+1)) rfl ad (Zl (fun z=>[Value.int .i64 z]) hw) ⟨i+1,q,m,d,rfl,ad,rfl,k5,b5,?_,ad⟩;have hf:fo n (x.ai.take (i+1))=fo n (x.ai.take i):=by
    unfold fo;rw [Y,bb9];simp only [List.filterMap_cons,List.filterMap_nil];rw [Y8 g2,ZQ]
   rw [hf];exact X
 ·have hi:i=x.ai.length:=ad
  subst hi;rw [ZA] at X;refine af b5 ((q,m,d),((x.num*n % 4294967296:Nat):Int),()) rfl (an ?_);refine ar (b2.ak k5 (by simp; omega)) rfl aj ?_;intro h7 b7 Z z7;have b7:bF h7 h1.size 69 [.slice q m d,.int .u32 ((x.num*n % 4294967296:Nat):Int)]:=b7;refine af b7 ((q,m,d),((x.num*n % 4294967296:Nat):Int),()) rfl ?_;have hz4:=V.size;exact ⟨bR e05 Z,q,m,d,rfl,(X.bM Z (fun j O=>by have:=(X.cr O).1; simp; omega)).mono ad⟩
def leB (a b:Xaa):(Op.bytesLess (ByteArray.toList a) (ByteArray.toList b) || (ByteArray.toList a==ByteArray.toList b))=!decide (hZ b a):=by
 rw [ByteArray.toList_eq,ByteArray.toList_eq,Proofs.bytesLess_eq]
 by_cases h:hZ b a
 ·rw [Y6 h];have h1:¬ a.data.toList<b.data.toList:=BW h;have h2:¬ a.data.toList=b.data.toList:=fun e=>jD h (CH e).symm
  have h3:¬ a.data=b.data:=fun e=>h2 (by rw [e])
  simp [h1,h3]
 ·rw [Y7 h]
  by_cases h1:hZ a b
  ·have h1:a.data.toList<b.data.toList:=h1;simp [h1]
  ·have:=y7 a b h1 h
   subst this
   simp
def nz:Option Xaa->dc->Bool
 | _,[]=>true
 | o,t::r=>cX t.1.data.toList && decide (t.2≠0) && (match o with
  | none=>true
  | some s=>decide (hZ s t.1)) && nz (some t.1) r
def IB (l:dc) (i:Nat):Option Xaa:=if i=0 then none else (l[i-1]?).map (·.1)
def HR {o:Option Xaa} {l:dc} (h:nz o l=true):(∀ t,t∈l->cX t.1.data.toList=true/\t.2≠0)/\(l.Pairwise fun p q=>hZ p.1 q.1)/\∀ s,o=some s->∀ t,t∈l->hZ s t.1:=by
 induction l generalizing o with
 | nil=>exact ⟨aj,List.Pairwise.nil,aj⟩
 | cons t r j =>
  unfold nz at h;simp only [Bool.and_eq_true,decide_eq_true_eq] at h;obtain ⟨⟨⟨h1,h2⟩,h3⟩,h4⟩:=h;obtain ⟨G,i2,i3⟩:=j h4;refine ⟨?_,ao9.2 ⟨fun q J=>i3 _ rfl q J,i2⟩,?_⟩
  ·intro u hu;rcases Zo.1 hu with rfl | hu
   ·exact ⟨h1,h2⟩
   ·exact G u hu
  ·rintro s rfl u hu;have h3:hZ s t.1:=by simpa using h3
   rcases Zo.1 hu with rfl | hu
   ·exact h3
   ·exact jB h3 (i3 _ rfl u hu)
def Dw {x:ct} (h:nz none x.ai=true) (hc:∀ t,t∈x.ai->t.2<4294967296) (hn:x.num<4294967296):Good x :=
 ⟨⟨(HR h).2.1,fun p j=>⟨((HR h).1 p j).2,hc p j⟩⟩,fun t u=>((HR h).1 t u).1,hn⟩
def tT {h : Hp} {p : Xac} {l c : Nat} {x : ct} (v : gW h p l x.ai) (hl : x.ai.length <= 9223372036854775807) (hs : ∀ t, t ∈ x.ai -> t.1.size <= maxLen) :
    HC Tryz.prog 61 #[iI p l c x] h fun w h' => w = .bool (nz none x.ai) /\ Ext h h' := by
  refine bd (args := [.agg #[.slice p l c, .int .u32 x.num]]) mixed Tryz.func61 ax (yx p l c x.num) ?_;unfold uF bf bk bH aP aY bt aG bI dP bY aR cn;have hll := v.len;refine bm ?_;intro h1 b1 e1 z1;refine af b1 ((p, l, c), ()) rfl (an ?_)
  refine aX (cs := [(false, [.bool]), (false, [.int .i64])]) (fun y w h' => ∃ (i : Nat), y.2.1 = (i : Int) /\ i <= x.ai.length /\ w = x.ai.length - i /\ Ext h1 h' /\ nz none x.ai = nz (IB x.ai i) (x.ai.drop i)) (false, (0 : Int), ()) x.ai.length rfl
    ⟨0, rfl, ad, ad, Ch.refl _ _, rfl⟩ ?_
  rintro ⟨b8, n8, ⟨⟩⟩ w h2 ⟨i, hi, hile, rfl, e2, G⟩;simp only at hi;subst hi;refine an ?_;have V := e1.trans e2;refine aQ (fun g1 => ?_) (fun g1 => ?_)
  · have j : i < x.ai.length :=ad
    have v2 := v.ak V aj;obtain ⟨a, rfl, hc⟩ := v2.cells i j;have hdr : x.ai.drop i = x.ai[i] :: x.ai.drop (i + 1) := Zg j
    have hpv : IB x.ai (i + 1) = some x.ai[i].1 := by
      unfold IB;rw [Y2 ad, Nat.add_sub_cancel, Y1 j] <;> rfl
    have hsz := hs x.ai[i] (Y9 j);rw [hdr] at G;generalize x.ai[i] = t at hc G hpv hsz;refine ay ⟨ad, ad⟩ (aw rfl ?_);rw [show Int.toNat (i : Int) = i from ad];refine az (t.1, (t.2 : Int), ()) hc (an ?_);refine bm ?_;intro h3 b3 e3 z3;refine ar b3 rfl aj ?_;intro h4 Z k4 z4;have Z : bF h4 h2.size 117 [.string t.1, .int .u32 t.2] := Z;have J : Ext h2 h4 := bR e3 k4;have O := V.trans J;rw [aE];refine af Z ((t.2 : Int), ()) rfl (an ?_);refine av (fun g2 => ?_) (fun g2 => ?_)
    · have g2 : t.2 = 0 := by have : (t.2 : Int) = 0 := by simpa using g2
                              omega
      refine ⟨?_, O⟩;rw [G];unfold nz;rw [Y7 ad]
      simp
    · have g2 : t.2 ≠ 0 := by have : ¬ (t.2 : Int) = 0 := by simpa using g2
                              omega
      refine af Z (t.1, ()) rfl (an ?_);refine aK (uB t.1 h4 (by have : maxLen = 9223372036854775807 := rfl; omega)) ?_;refine ⟨⟨Z.cells _ rfl, trivial⟩, ?_⟩;refine av (fun X => ?_) (fun X => ?_)
      · have X : cX t.1.data.toList = false := by simpa using X
        refine ⟨?_, O⟩;rw [G];unfold nz;rw [X]
        simp
      · have X : cX t.1.data.toList = true := by simpa using X
        have hw := iA i
        have U : (match IB x.ai i with
            | none => true
            | some s => decide (hZ s t.1)) = true -> nz none x.ai = nz (IB x.ai (i + 1)) (x.ai.drop (i + 1)) := by
          intro hm;rw [G, hpv]
          conv => lhs; unfold nz
          rw [X, Y6 g2, hm] <;> rfl
        refine aQ (fun g4 => ?_) (fun g4 => ?_)
        · have hw1 : IntKind.wrap .i64 ((i : Int) - 1) = ((i - 1 : Nat) : Int) := by rw [wrap_i64 ad ad]; omega
          have hi1 : i - 1 < x.ai.length :=ad
          obtain ⟨a', ha', hc'⟩ := (v.ak O aj).cells (i - 1) hi1;cases ha'
          have hpi : IB x.ai i = some x.ai[i - 1].1 := by
            unfold IB;rw [Y2 ad, Y1 hi1] <;> rfl
          rw [hpi] at U G;generalize x.ai[i - 1] = u at hc' hpi U G;refine af Z (t.1, ()) rfl (an ?_);refine af ((b1.ak e2 aj).ak J aj) ((some a, l, c), ()) rfl (an ?_);rw [hw1];refine ay ⟨ad, ad⟩ (aw rfl ?_);rw [show Int.toNat ((i - 1 : Nat) : Int) = i - 1 from ad];refine az (u.1, ()) (cT hc').1 (an ?_);rw [leB];refine av (fun Y => ?_) (fun Y => ?_)
          · have Y : ¬ hZ u.1 t.1 := by simpa using Y
            refine ⟨?_, O⟩;rw [G];unfold nz;dsimp only;rw [Y7 Y]
            simp
          · have Y : hZ u.1 t.1 := by simpa using Y
            exact aH (cs := [(false, [.bool]), (false, [.int .i64])]) (b8, ((i + 1 : Nat) : Int), ()) (x.ai.length - (i + 1)) rfl ad (Zl (fun z => [Value.bool b8, Value.int .i64 z]) hw) ⟨i + 1, rfl, ad, rfl, e2.trans J, U (Y6 Y)⟩
        · have hi0 : i = 0 :=ad
          subst hi0;exact aH (cs := [(false, [.bool]), (false, [.int .i64])]) (b8, ((0 + 1 : Nat) : Int), ()) (x.ai.length - (0 + 1)) rfl ad (Zl (fun z => [Value.bool b8, Value.int .i64 z]) hw) ⟨0 + 1, rfl, ad, rfl, e2.trans J, U rfl⟩
  · have hi : i = x.ai.length :=ad
    subst hi;refine ⟨?_, V⟩;rw [G, al9] <;> rfl
def tG {h : Hp} {p : Xac} {l c : Nat} {x : ct} (v : gW h p l x.ai) (hl : x.ai.length <= 9223372036854775807) (hs : ∀ t, t ∈ x.ai -> t.1.size <= maxLen) :
    HC Tryz.prog 97 #[iI p l c x] h fun w h' => w = .bool (nz none x.ai) /\ Ext h h' := by
  refine bd (args := [.agg #[.slice p l c, .int .u32 x.num]]) mixed Tryz.func97 ax (om p l c x.num) ?_;unfold jZ bf bk bH aP aY bt aG bI dP aR cn;have hll := v.len;refine bm ?_;intro h1 b1 e1 z1;have v := v.ak e1 aj
  refine aX (cs := [(false, [.bool]), (false, [.int .i64])]) (fun y w h' => ∃ (i : Nat), y.2.1 = (i : Int) /\ i <= x.ai.length /\ w = x.ai.length - i /\ h1 = h' /\ nz none x.ai = nz (IB x.ai i) (x.ai.drop i)) (false, (0 : Int), ()) x.ai.length rfl
    ⟨0, rfl, ad, ad, rfl, rfl⟩ ?_
  rintro ⟨b8, n8, ⟨⟩⟩ w h2 ⟨i, hi, hile, rfl, rfl, G⟩;simp only at hi;subst hi;refine an ?_;refine af b1 ((p, l, c), ()) rfl (an ?_);refine aQ (fun g1 => ?_) (fun g1 => ?_)
  · have j : i < x.ai.length :=ad
    obtain ⟨a, rfl, hc⟩ := v.cells i j;have hdr : x.ai.drop i = x.ai[i] :: x.ai.drop (i + 1) := Zg j
    have V : IB x.ai (i + 1) = some x.ai[i].1 := by
      unfold IB;rw [Y2 ad, Nat.add_sub_cancel, Y1 j] <;> rfl
    have hsz := hs x.ai[i] (Y9 j);rw [hdr] at G;generalize x.ai[i] = t at hc G V hsz;refine af b1 ((some a, l, c), ()) rfl (an ?_);refine ay ⟨ad, ad⟩ (aw rfl ?_);rw [show Int.toNat (i : Int) = i from ad];refine az (t.1, ()) (cT hc).1 (an ?_);refine aK (r6 t.1 h1 (by have : maxLen = 9223372036854775807 := rfl; omega)) ?_;refine ⟨⟨b1.cells _ rfl, trivial⟩, ?_⟩;refine av (fun O => ?_) (fun O => ?_)
    · have O : cX t.1.data.toList = false := by simpa using O
      refine ⟨?_, e1⟩;rw [G];unfold nz;rw [O]
      simp
    · have O : cX t.1.data.toList = true := by simpa using O
      refine af b1 ((some a, l, c), ()) rfl (an ?_);refine ay ⟨ad, ad⟩ (aw rfl ?_);refine az ((t.2 : Int), ()) (cT hc).2 (an ?_);refine av (fun g2 => ?_) (fun g2 => ?_)
      · have g2 : t.2 = 0 := by have : (t.2 : Int) = 0 := by simpa using g2
                                omega
        refine ⟨?_, e1⟩;rw [G];unfold nz;rw [Y7 ad]
        simp
      · have g2 : t.2 ≠ 0 := by have : ¬ (t.2 : Int) = 0 := by simpa using g2
                                omega
        have hw := iA i
        have J : (match IB x.ai i with
            | none => true
            | some s => decide (hZ s t.1)) = true -> nz none x.ai = nz (IB x.ai (i + 1)) (x.ai.drop (i + 1)) := by
          intro hm;rw [G, V]
          conv => lhs; unfold nz
          rw [O, Y6 g2, hm] <;> rfl
        refine aQ (fun g4 => ?_) (fun g4 => ?_)
        · have hw1 : IntKind.wrap .i64 ((i : Int) - 1) = ((i - 1 : Nat) : Int) := by rw [wrap_i64 ad ad]; omega
          have X : i - 1 < x.ai.length :=ad
          obtain ⟨a', ha', Y⟩ := v.cells (i - 1) X;cases ha'
          have Z : IB x.ai i = some x.ai[i - 1].1 := by
            unfold IB;rw [Y2 ad, Y1 X] <;> rfl
          rw [Z] at J G;generalize x.ai[i - 1] = u at Y Z J G;refine af b1 ((some a, l, c), ()) rfl (an ?_);refine ay ⟨ad, ad⟩ (aw rfl ?_);refine az (t.1, ()) (cT hc).1 (an ?_);refine af b1 ((some a, l, c), ()) rfl (an ?_);rw [hw1];refine ay ⟨ad, ad⟩ (aw rfl ?_);rw [show Int.toNat ((i - 1 : Nat) : Int) = i - 1 from ad];refine az (u.1, ()) (cT Y).1 (an ?_);rw [leB];refine av (fun U => ?_) (fun U => ?_)
          · have U : ¬ hZ u.1 t.1 := by simpa using U
            refine ⟨?_, e1⟩;rw [G];unfold nz;dsimp only;rw [Y7 U]
            simp
          · have U : hZ u.1 t.1 := by simpa using U
            exact aH (cs := [(false, [.bool]), (false, [.int .i64])]) (b8, ((i + 1 : Nat) : Int), ()) (x.ai.length - (i + 1)) rfl ad (Zl (fun z => [Value.bool b8, Value.int .i64 z]) hw) ⟨i + 1, rfl, ad, rfl, rfl, J (Y6 U)⟩
        · have hi0 : i = 0 :=ad
          subst hi0;exact aH (cs := [(false, [.bool]), (false, [.int .i64])]) (b8, ((0 + 1 : Nat) : Int), ()) (x.ai.length - (0 + 1)) rfl ad (Zl (fun z => [Value.bool b8, Value.int .i64 z]) hw) ⟨0 + 1, rfl, ad, rfl, rfl, J rfl⟩
  · have hi : i = x.ai.length :=ad
    subst hi;refine ⟨?_, e1⟩;rw [G, al9] <;> rfl
end Go.Sx
namespace Go.Sx.Ob
abbrev Bt:=List UInt8
def ua:Nat->Nat->Bt
 | _,0=>[]
 | n,w+1=>UInt8.ofNat n::ua (n / 256) w
def NW:Bt->Nat
 | []=>0
 | b::l=>b.toNat+256*NW l
theorem dy:∀ (w n:Nat),(ua n w).length=w
 | 0,_=>rfl
 | w+1,n=>by rw [ua,ZP,dy w]
theorem BY:∀ (w n:Nat),NW (ua n w)=n % 256^w
 | 0,n=>by simp [ua,NW,Nat.mod_one]
 | w+1,n=>by
  rw [ua,NW,BY w,Nat.pow_succ,cw9 (256^w) 256,Nat.mod_mul]
  congr 1
abbrev Rd (α:Type):=Except (Nat × Nat) (α × Bt)
def kS {α β:Type} (a:Rd α) (f:α->Bt->Rd β):Rd β :=
 match a with
 | .ok p=>f p.1 p.2
 | .error e=>.error e
@[simp] theorem vk {α β:Type} (x:α) (r:Bt) (f:α->Bt->Rd β):kS (.ok (x,r)) f=f x r:=rfl
def ub (w:Nat) (r:Bt):Rd Nat:=if w<=r.length then .ok (NW (r.take w),r.drop w) else .error (0,10)
def Ge (r:Bt):Rd Xaa:=kS (ub 2 r) fun n r=>if n<=r.length then .ok (⟨(r.take n).toArray⟩,r.drop n) else .error (0,10)
def OH:Nat->Bt->Rd dc
 | 0,r=>.ok ([],r)
 | n+1,r=>kS (Ge r) fun s r=>kS (ub 4 r) fun c r=>kS (OH n r) fun ts r=>.ok ((s,c)::ts,r)
def gC (r:Bt):Rd ct:=kS (ub 2 r) fun n r=>kS (OH n r) fun ts r=>kS (ub 4 r) fun c r=>.ok (⟨ts,c⟩,r)
def jh (s:Xaa):Bt:=ua s.size 2++s.data.toList
def FA (t:Xaa × Nat):Bt:=jh t.1++ua t.2 4
def lE (x:ct):Bt:=ua x.ai.length 2++(x.ai.flatMap FA++ua x.num 4)
def Ml (w n:Nat) (t:Bt):ub w (ua n w++t)=.ok (n % 256^w,t):=by
 unfold ub;rw [Y8 (by rw [Y4,dy]; omega),List.take_left' (dy w n),List.drop_left' (dy w n),BY]
def Km {s:Xaa} (h:s.size<65536) (t:Bt):Ge (jh s++t)=.ok (s,t):=by
 unfold Ge jh;rw [Zr,Ml,vk,bo9 ad];have hl:s.data.toList.length=s.size:=aj
 rw [Y8 (by rw [Y4,hl]; omega),List.take_left' hl,List.drop_left' hl]
structure Ins where
 op:Int
 a:Int
 b:Int
 n:Int
 form:Int
deriving DecidableEq
structure cE where
 kind:Int
 name:Xaa
 inst:Ins
 e:ct
 n:Int
def Rs:Ins:=⟨0,0,0,0,0⟩
def E6:ct:=⟨[],0⟩
def dH:Xaa:=⟨#[]⟩
def eS (k:Int):cE:=⟨k,dH,Rs,E6,0⟩
def jS:List Nat:=[1,1,1,2,2,2,2,2,2,2,3,3,4,4,4,4,4,4,4,4,4,4,4,4,4,4,4,4,5,5,5,5,6,6,7,8,9,10,11,12,12,13,13]
def cS (op:Int):Nat:=if op<1 then 0 else jS.getD (op-1).toNat 0
def wg (n m:Int):Bool:=decide (0<=n) && decide (n<m)
def cJ (s:Nat) (a b n:Int):Bool :=
 if s=1\/s=9\/s=12 then decide (a=0) && decide (b=0)
 else if s=2\/s=8\/s=10\/s=11\/s=13 then wg a 8 && decide (b=0)
 else if s=3 then wg a 4 && decide (b=0)
 else if s=4 then wg a 8 && wg b 8
 else if s=5 then wg a 4 && wg b 4
 else if s=6 then wg a 8 && wg b 4
 else wg a 4 && wg b 8 && wg n 8
def me (n form:Int):Bool :=
 if form=1 then decide (-128<=n) && decide (n<=127)
 else if form=2 then decide (-32768<=n) && decide (n<=32767)
 else decide (form=4)
def nR (s:Nat) (n form:Int):Bool :=
 if s=8 then me n 1
 else if s=9 then decide (0<=n) && decide (n<=255)
 else if s=10\/s=7 then true
 else if s=11 then decide (0<=n) && decide (n<=4095)
 else if s=12\/s=13 then me n form
 else decide (n=0)
def oJ (op:Int):Bool:=decide (12<=cS op)
def F' (op:Int):Bool:=decide (10<=cS op)
def gI (i:Ins):Int :=
 if cS i.op=0 then 11
 else if cJ (cS i.op) i.a i.b i.n=false then 12
 else if (!oJ i.op && decide (i.form≠0) || !nR (cS i.op) i.n i.form)=true then 13
 else 0
def O3 (x:ct):Bool:=decide (x.ai=[]) && decide (x.num=0)
def zi (i:Ins) (e:ct):Bool :=
 decide (cS i.op≠0) && decide (i.form=0) && (if F' i.op then decide (i.n=0) && decide (gI { i with form:=if oJ i.op then 1 else 0 }=0) && nz none e.ai
  else decide (gI i=0) && O3 e)
def um (n:Int):Bool:=decide (n=1) || decide (n=2) || decide (n=4) || decide (n=8) || decide (n=16) || decide (n=32) || decide (n=64) || decide (n=128) || decide (n=256)
def z1 (x:cE):Bool:=decide (x.name=dH)
def z2 (x:cE):Bool:=decide (x.inst=Rs)
def z3 (x:cE):Bool:=O3 x.e
def z4 (x:cE):Bool:=decide (x.n=0)
def cB (x:cE) (sec:Nat):Bool :=
 if x.kind=1 then cX x.name.data.toList && z2 x && z3 x && z4 x
 else if x.kind=2 then decide (sec=0) && zi x.inst x.e && z1 x && z4 x
 else if x.kind=3 then um x.n && z1 x && z2 x && z3 x
 else if x.kind=4 then decide (sec=0) && z1 x && z2 x && z3 x && z4 x
 else if x.kind=5 then decide (sec=1) && decide (-128<=x.n) && decide (x.n<=255) && z1 x && z2 x && z3 x
 else if x.kind=6 then decide (sec=1) && nz none x.e.ai && z1 x && z2 x && z4 x
 else if x.kind=7 then decide (sec=1) && decide (0<=x.n) && decide (x.n<=1048576) && z1 x && z2 x && z3 x
 else false
def u32 (n:Int):Nat:=(n % 4294967296).toNat
def SM (n:Nat):Int:=if n<2147483648 then (n:Int) else (n:Int)-4294967296
def YS (n:Nat):Int:=if n<32768 then (n:Int) else (n:Int)-65536
def CL (n:Int) (w:Nat):Bt:=ua (u32 n) w
def HN (x:cE):Bt:=CL x.kind 1 ++
 (if x.kind=1 then jh x.name
 else if x.kind=2 then CL x.inst.op 1++(CL x.inst.a 1++(CL x.inst.b 1++(CL x.inst.n 4++if F' x.inst.op then lE x.e else [])))
 else if x.kind=3\/x.kind=5 then CL x.n 2
 else if x.kind=6 then lE x.e
 else if x.kind=7 then CL x.n 4
 else [])
def X5 (r:Bt):Rd cE:=kS (ub 1 r) fun op r=>kS (ub 1 r) fun a r=>kS (ub 1 r) fun b r=>kS (ub 4 r) fun n r =>
 if F' (op:Int) then kS (gC r) fun e r=>.ok ({ eS 2 with inst:=⟨op,a,b,SM n,0⟩,e:=e },r) else .ok ({ eS 2 with inst:=⟨op,a,b,SM n,0⟩ },r)
def Xp (k:Nat) (r:Bt):Rd cE :=
 if k=1 then kS (Ge r) fun s r=>.ok ({ eS 1 with name:=s },r)
 else if k=2 then X5 r
 else if k=3 then kS (ub 2 r) fun n r=>.ok ({ eS 3 with n:=n },r)
 else if k=5 then kS (ub 2 r) fun n r=>.ok ({ eS 5 with n:=YS n },r)
 else if k=6 then kS (gC r) fun e r=>.ok ({ eS 6 with e:=e },r)
 else if k=7 then kS (ub 4 r) fun n r=>.ok ({ eS 7 with n:=n },r)
 else .ok (eS k,r)
def at_ {α:Type} (r:Bt) (nQ:Nat) (ok:α->Bool) (a:Rd α):Rd α:=kS a fun x r'=>if ok x then .ok (x,r') else .error (r.length,nQ)
def fZ (D:List Xaa) (s:Xaa):Bool:=D.any fun t=>decide (t=s)
def xM (sec:Nat) (D:List Xaa) (x:cE):Bool:=cB x sec && !(decide (x.kind=1) && fZ D x.name)
def tM (D:List Xaa) (x:cE):List Xaa:=if x.kind=1 then x.name::D else D
def Wf (sec:Nat) (D:List Xaa) (r:Bt):Rd cE:=at_ r 31 (xM sec D) (kS (ub 1 r) Xp)
def TE {α:Type} {r r':Bt} {nQ:Nat} {ok:α->Bool} {a:Rd α} {x:α} (h:a=.ok (x,r')) (h2:ok x=true):at_ r nQ ok a=.ok (x,r'):=by
 unfold at_;rw [h,vk,Y8 h2]
def Da (op:Int) (h:cS op≠0):1<=op/\op<=43:=by
 unfold cS at h;split at h
 ·exact absurd rfl h
 ·refine ⟨ad,?_⟩
  by_cases g:op<=43
  ·exact g
  ·exfalso;apply h;rw [ZV,ZI (by simp [jS]; omega)] <;> rfl
def Ef {i:Ins} (h:gI i=0):cS i.op≠0/\cJ (cS i.op) i.a i.b i.n=true:=by
 unfold gI at h;split at h
 ·cases h
 ·split at h
  ·cases h
  ·rename_i h1 h2;exact ⟨h1,by simpa using h2⟩
def ik (op:Int):cS op=0\/(1<=cS op/\cS op<=13):=by
 by_cases h:cS op=0
 ·exact .inl h
 ·right
  have h1:=Da op h;unfold cS;rw [Y2 ad];have h2:(op-1).toNat<43:=ad
  generalize (op-1).toNat=k at h2
  have:∀ k:Fin 43,1<=jS.getD k.1 0/\jS.getD k.1 0<=13:=bZ
  exact this ⟨k,h2⟩
abbrev ry:=Xaa × ct
structure bX where
 text:List cE
 data:List cE
 bh:List ry
 aU:List Xaa
def wK (sec:Nat):Nat->List Xaa->Bt->Rd (List cE)
 | 0,_,r=>.ok ([],r)
 | n+1,D,r=>kS (Wf sec D r) fun x r=>kS (wK sec n (tM D x) r) fun l r=>.ok (x::l,r)
def Cp (D:List Xaa) (p:ry):Bool:=!(fZ D p.1) && cX p.1.data.toList && nz none p.2.ai
def Rg (D:List Xaa) (last g:Xaa):Bool:=fZ D g && decide (hZ last g)
def Si (D:List Xaa) (last:Xaa) (r:Bt):Rd Xaa:=at_ r 31 (Rg D last) (Ge r)
def Hb (D:List Xaa):Nat->Xaa->Bt->Rd (List Xaa)
 | 0,_,r=>.ok ([],r)
 | n+1,last,r=>kS (Si D last r) fun x r=>kS (Hb D n x r) fun l r=>.ok (x::l,r)
def NI:Bt:=[83,80,65,78,1]
def cR (D:List Xaa) (l:List cE):List Xaa:=l.foldl tM D
def aZ (D:List Xaa) (l:List ry):List Xaa:=l.foldl (fun D p=>p.1::D) D
def eW (sec:Nat):List Xaa->List cE->Bool
 | _,[]=>true
 | D,x::l=>xM sec D x && eW sec (tM D x) l
def gy:List Xaa->List ry->Bool
 | _,[]=>true
 | D,x::l=>Cp D x && gy (x.1::D) l
def cV (D:List Xaa):Xaa->List Xaa->Bool
 | _,[]=>true
 | last,x::l=>Rg D last x && cV D x l
def bX.names (u:bX):List Xaa:=aZ (cR (cR [] u.text) u.data) u.bh
def tA (u:bX):Bool:=eW 0 [] u.text && eW 1 (cR [] u.text) u.data && gy (cR (cR [] u.text) u.data) u.bh && cV u.names dH u.aU
def vj (u:bX):Bool:=decide (8192<u.text.length+u.data.length) || decide (8192<u.bh.length)
def dL (u:bX):Nat:=if vj u then 4 else if tA u then 0 else 31
def LJ (p:ry):Bt:=jh p.1++lE p.2
def Cz {α:Type} (w:α->Bt) (l:List α):Bt:=ua l.length 2++l.flatMap w
def Xz (u:bX):Bt:=NI++(Cz HN u.text++(Cz HN u.data++(Cz LJ u.bh++Cz jh u.aU)))
theorem GQ (D:List Xaa) (j:∀ s,s∈D->s.size<65536):∀ (l:List Xaa) (o:Xaa) (t:Bt),cV D o l=true->Hb D l.length o (l.flatMap jh++t)=.ok (l,t)
 | [],o,t,_=>rfl
 | x::l,o,t,h=>by
  unfold cV at h;rw [Zz] at h;obtain ⟨h1,h2⟩:=h;have h3:x.size<65536:=by
   unfold Rg fZ at h1;simp only [Bool.and_eq_true,List.any_eq_true,decide_eq_true_eq] at h1;obtain ⟨⟨y,hy,rfl⟩,_⟩:=h1;exact j y hy
  rw [ZP,ZG,Zr,Hb];have h5:Si D o (jh x++(l.flatMap jh++t))=.ok (x,l.flatMap jh++t):=TE (Km h3 _) h1;rw [h5,vk,GQ D j l _ t h2,vk]
theorem qN (D:List Xaa):∀ (l:List Xaa) (o:Xaa),cV D o l=true->(∀ x,x∈l->x∈D/\hZ o x)/\l.Pairwise hZ
 | [],o,_=>⟨aj,List.Pairwise.nil⟩
 | x::l,o,h=>by
  unfold cV Rg fZ at h;simp only [Bool.and_eq_true,List.any_eq_true,decide_eq_true_eq] at h;obtain ⟨⟨⟨y,hy,rfl⟩,h2⟩,h3⟩:=h;obtain ⟨a,b⟩:=qN D l y h3;refine ⟨?_,ao9.2 ⟨fun z j=>(a z j).2,b⟩⟩;intro z j;rcases Zo.1 j with rfl | j
  ·exact ⟨hy,h2⟩
  ·exact ⟨(a z j).1,jB h2 (a z j).2⟩
def wM {u:bX} (h:dL u=0):vj u=false/\tA u=true:=by
 unfold dL at h;split at h
 ·cases h
 ·rename_i h1;split at h
  ·rename_i h2;exact ⟨by simpa using h1,h2⟩
  ·cases h
end Go.Sx.Ob
namespace Go.Sx
open Go.Proofs
def Wx:Tryz.prog.underlying 117=some (.struct (yk Tryz.prog 117)):=ax
def Un (x y:Operand) (a:Xaa) (b:Int) (a':Xaa) (b':Int) (h:Hp) (K:Xab->Hp->Prop) (hk:K (.bool !(a==a' && b==b')) h) :
  aS Tryz.prog (Sx.jv (BinOp.neq) 117 x y (.agg #[.string a,.int .u32 b]) (.agg #[.string a',.int .u32 b'])) h K:=by
 refine uy Wx ax ax ax K ?_;have j:(yk Tryz.prog 117).all (Gd #[.string a,.int .u32 b] #[.string a',.int .u32 b'])=(a==a' && (b==b' && true)):=by
  rw [<- ad9]
  kernel_rfl
 rw [j,af9];exact hk
def Ti (t u:Xaa × Nat):(!(t.1==u.1 && (t.2:Int)==(u.2:Int)))=decide (t≠u):=by
 obtain ⟨a,b⟩:=t;obtain ⟨a',b'⟩:=u
 by_cases h1:a=a'
 ·subst h1;rw [bytes_beq]
  by_cases h2:b=b'
  ·subst h2
   simp
  ·have h3:¬ ((b:Int)=(b':Int)):=ad
   have h4:((b:Int)==(b':Int))=false:=by simpa using h3
   simp [h2,h4]
 ·have h3:(a==a')=false:=by
   obtain ⟨d⟩:=a;obtain ⟨d'⟩:=a';show (d==d')=false;have h4:¬ d=d':=fun e=>h1 (by rw [e])
   simpa using h4
  simp [h1,h3]
def Hc {α:Type} {l m:List α} {i:Nat} (hi:i<l.length) (j:i<m.length) (h:l[i]≠m[i]):l≠m:=by
 rintro rfl;exact h rfl
def DM {α:Type} {l m:List α} {i:Nat} (hi:i<l.length) (j:i<m.length) (h:l[i]=m[i]):(l.drop i=m.drop i)↔(l.drop (i+1)=m.drop (i+1)):=by
 rw [Zg hi,Zg j,h];exact ⟨fun e=>(List.cons.inj e).2,fun e=>by rw [e]⟩
instance:DecidableEq dc:=inferInstance
def Gr {h:Hp} {p q:Xac} {l m c d:Nat} {us vs:dc} (v:gW h p l us) (w:gW h q m vs) (hl:us.length<=2^60):we Tryz.prog 113 [.slice p l c,.slice q m d] h (.bool (decide (us=vs))):=by
 refine eC mixed Tryz.func113 ax (fS p l c q m d) ?_;unfold ec bf bk bH aP dN aG bI dP aR cn;have h1:=v.len;have h2:=w.len;refine av (fun g1=>?_) (fun g1=>?_)
 ·have g1:¬ (l:Int)=(m:Int):=by simpa using g1
  exact ⟨by rw [Y7 (fun e=>by rw [e] at h1; omega)],rfl⟩
 ·have g1:(l:Int)=(m:Int):=by simpa using g1
  refine aX (cs:=[(false,[.bool]),(false,[.int .i64])]) (fun y n h'=>∃ (i:Nat),y.2.1=(i:Int)/\i<=us.length/\n=us.length-i/\h=h'/\(us=vs↔us.drop i=vs.drop i)) (false,(0:Int),()) us.length rfl
   ⟨0,rfl,ad,ad,rfl,Iff.rfl⟩ ?_
  rintro ⟨X,n8,⟨⟩⟩ n h2 ⟨i,hi,Y,rfl,rfl,Z⟩;simp only at hi;subst hi;refine an ?_;refine aQ (fun g2=>?_) (fun g2=>?_)
  ·have j:i<us.length:=ad
   have G:i<vs.length:=ad
   obtain ⟨a,rfl,hc⟩:=v.cells i j;obtain ⟨a',rfl,U⟩:=w.cells i G;have J:=DM j G;have O:=Hc j G;generalize us[i]=t at hc J O;generalize vs[i]=u at U J O;refine ay ⟨ad,ad⟩ (aw rfl ?_);rw [show Int.toNat (i:Int)=i from ad];refine az (t.1,(t.2:Int),()) hc (an ?_);refine ay ⟨ad,ad⟩ (aw rfl ?_);refine az (u.1,(u.2:Int),()) U (an ?_);refine nX (b:=decide (t≠u)) (fun K' hk=>Un _ _ _ _ _ _ _ _ (by rw [Ti]; exact hk)) ?_;refine av (fun V=>?_) (fun V=>?_)
   ·exact ⟨by rw [Y7 (O (Y5 V))],rfl⟩
   ·have V:t=u:=by simpa using V
    have hw:=iA i;exact aH (cs:=[(false,[.bool]),(false,[.int .i64])]) (X,((i+1:Nat):Int),()) (us.length-(i+1)) rfl ad (Zl (fun z=>[Value.bool X,Value.int .i64 z]) hw) ⟨i+1,rfl,ad,rfl,rfl,Z.trans (J V)⟩
  ·refine ⟨?_,rfl⟩;rw [Y6 (Z.2 (by rw [ZZ ad,ZZ ad]))]
def wI (x y:ct):Bool:=decide (x.num=y.num) && decide (x.ai=y.ai)
def Ju (x:ct):wI x x=true:=by unfold wI; simp
def Bk {h : Hp} {p q : Xac} {l m c d : Nat} {x y : ct} (v : gW h p l x.ai) (w : gW h q m y.ai) (hl : x.ai.length <= 2 ^ 60) :
    HC Tryz.prog 86 #[iI p l c x, iI q m d y] h fun r h' => r = .bool (wI x y) /\ Ext h h' := by
  refine bd (args := [.agg #[.slice p l c, .int .u32 x.num], .agg #[.slice q m d, .int .u32 y.num]]) mixed Tryz.func86 ax (Ab p l c x.num q m d y.num) ?_;unfold xP aY aG bI;refine bm ?_;intro h1 b1 e1 z1;refine bm ?_;intro h2 u e2 z2;have b1 := b1.ak e2 aj;have j := e1.trans e2;rw [aE, aE];refine af b1 ((x.num : Int), ()) rfl (an ?_);refine af u ((y.num : Int), ()) rfl (an ?_);refine av (fun g1 => ?_) (fun g1 => ?_)
  · have g1 : x.num = y.num := by have : (x.num : Int) = y.num := by simpa using g1
                                  omega
    refine af b1 ((p, l, c), ()) rfl (an ?_);refine af u ((q, m, d), ()) rfl (an ?_);refine aK (Gr (v.ak j aj) (w.ak j aj) hl) ?_;refine ⟨?_, j⟩;unfold wI;rw [Y6 g1] <;> rfl
  · have g1 : ¬ x.num = y.num := by have : ¬ (x.num : Int) = y.num := by simpa using g1
                                    omega
    refine ⟨?_, j⟩;unfold wI;rw [Y7 g1] <;> rfl
def Il {P:Program} {L:Lp} {K:Xab->Hp->Prop} {h:Hp} {k:Xac->Nat->Nat->T} {t e:TypeId} {z:Xab} {sz by':Nat} (u:P.underlying t=some (.slice e)) (j:(P.info? e).map (fun i=>(i.zero,i.size,i.bytes))=some (some z,sz,by'))
  (hk:∀ h' ,SL h' h.size e sz (some ⟨h.size,0,none⟩) 0 0 []->Ext h h'->k (some ⟨h.size,0,none⟩) 0 0 L K h'):T.eh P (Instr.buildSlice t 0 #[]) false [(false,[.slice 0])] k L K h:=by
 obtain ⟨i,hi,G,rfl,rfl⟩:=oK j;refine dz ?_;unfold Instr.buildSlice;rw [ao,aF u];simp only;rw [ao,cd hi];simp only [Nat.zero_mul];rw [Y2 ad];have h0:∀ f:Nat->Xab,Array.map f (Array.range 0)=#[]:=fun f=>aj
 simp only [h0];refine ⟨_,_,_,rfl,hk _ ?_ (Ext.push h _)⟩;exact ⟨rfl,aj,h.size,[],[],rfl,Zh _,⟨Zh _,ad⟩,by simpa using bF.new h e [],aj⟩
theorem vz {h:Hp} {a:Xax}:∀ (us:dc) (k:Nat),(∀ i,(hi:i<us.length)->aI h (a.add ((k+i)*2)) 0 (df us[i]))->aI h a (k*2) (us.map df).flatten
 | [],_,_=>trivial
 | t::us,k,hc=>by
  have h0:=hc 0 aj;obtain ⟨h1,h2,_⟩:=h0;rw [add_add] at h1 h2;have j:=vz us (k+1) (fun i hi=>by
   have:=hc (i+1) (by simpa using hi)
   rw [show k+(i+1)=k+1+i from ad] at this;exact this)
  rw [show (k+1)*2=k*2+1+1 from ad] at j;exact ⟨h1,by simpa using h2,j⟩
def gW.flat {h:Hp} {a:Xax} {l:Nat} {us:dc} (v:gW h (some a) l us):aI h a 0 (us.map df).flatten:=by
 have:=vz (h:=h) (a:=a) us 0 (fun i hi=>by
  obtain ⟨a',e,hc⟩:=v.cells i hi;cases e;rw [ZJ];exact hc)
 simpa using this
def GL (us:dc):(us.map df).flatten.all cO=true:=by
 rw [Zx];intro v hv;obtain ⟨x,hx,hv⟩:=by9.1 hv;obtain ⟨t,_,rfl⟩:=Za.1 hx;simp only [df,List.mem_cons,List.not_mem_nil,or_false] at hv;rcases hv with rfl | rfl <;> rfl
end Go.Sx
namespace Go.Sx.Ob
open Go.Proofs
variable {h':Hp} {e2 e1:TypeId} {sec:Nat}
def _root_.Go.Sx.Ch.st {h a b:Hp} {g:Nat} (e:Ext h a) (k:Ch [g] a b) (j:h.size<=g):Ext h b:=bR e k
def jc (nm:Nat->Xaa) (by_:Nat->Int):List Xab:=(List.range 43).flatMap fun k=>[.string (nm k),.int .u8 (by_ k),.int .i64 (jS.getD k 0:Nat)]
def AW (h:Hp):Prop:=∃ nm by_ e f,h[0]?=some (.cells (jc nm by_).toArray e f)
def AW.ak {ws:List Nat} {h:Hp} (t:AW h) (k:Ch ws h h') (hw:0∉ws):AW h':=by
 obtain ⟨nm,by_,e,f,j⟩:=t;exact ⟨nm,by_,e,f,k.get j hw⟩
theorem rz {α β:Type} (f:α->List β) (m:Nat) (u:∀ x,(f x).length=m):∀ (l:List α) (i j:Nat),j<m->(l.flatMap f)[i*m+j]?=(l[i]?).bind fun x=>(f x)[j]?
 | [],i,j,G=>aj
 | x::l,0,j,G=>by
  rw [ZG,ZD (by rw [u]; omega)]
  simp
 | x::l,i+1,j,G=>by
  rw [ZG,ZC (by rw [u,Z9]; omega),u,show (i+1)*m+j-m=i*m+j by rw [Z9]; omega,rz f m u l i j G]
  simp
def AW.cells {h:Hp} (t:AW h) {k:Nat} (hk:k<43):∃ (s:Xaa) (b:Int),aI h ((⟨0,0,none⟩:Xax).add (k*3)) 0 [.string s,.int .u8 b,.int .i64 (jS.getD k 0:Nat)]:=by
 obtain ⟨nm,by_,e,f,u⟩:=t;refine ⟨nm k,by_ k,?_⟩;have G:∀ j,j<3->(jc nm by_)[k*3+j]?=([.string (nm k),.int .u8 (by_ k),.int .i64 (jS.getD k 0:Nat)]:List Xab)[j]?:=by
  intro j J;unfold jc;rw [rz _ 3 aj _ _ _ J];simp [hk]
 rw [aE];refine ⟨?_,?_,?_,trivial⟩
 ·rw [aE,iN u]
  have:=G 0 ad
  simpa using this
 ·rw [aE,iN u]
  have:=G 1 ad
  simpa using this
 ·rw [aE,iN u]
  have:=G 2 ad
  simpa using this
def NJ {h:Hp} (t:AW h) (op:Int) (h1:-9223372036854775808<=op) (h2:op<=9223372036854775807) :
  HC Tryz.prog 44 #[.int .i64 op] h fun w h'=>∃ (s:Xaa) (b:Int),w=.tuple #[.agg #[.string s,.int .u8 b,.int .i64 (cS op:Nat)],.bool (decide (cS op≠0))]/\Ext h h':=by
 refine bd (args:=[.int .i64 op]) mixed Tryz.func44 ax (ye op) ?_;unfold zx bt bn bY;refine bm ?_;intro g1 b1 e1 z1;have G:∀ (J:cS op=0),(∃ (s:Xaa) (b:Int),(Value.tuple #[.agg #[.string ⟨#[]⟩,.int .u8 0,.int .i64 0],.bool false])=.tuple #[.agg #[.string s,.int .u8 b,.int .i64 (cS op:Nat)],.bool (decide (cS op≠0))]) :=
  fun J=>⟨⟨#[]⟩,0,by rw [J]; rfl⟩
 refine av (fun q=>?_) (fun q=>?_)
 ·have q:=Y5 q;refine ar b1 rfl aj ?_;intro g2 j u z2;refine af j ((⟨#[]⟩:Xaa),(0:Int),(0:Int),()) rfl ?_;obtain ⟨s,b,e⟩:=G (by unfold cS; rw [Y8 q]);exact ⟨s,b,e,bR e1 u⟩
 refine av (fun r=>?_) (fun r=>?_)
 ·have r:=Y5 r;refine ar b1 rfl aj ?_;intro g2 j u z2;refine af j ((⟨#[]⟩:Xaa),(0:Int),(0:Int),()) rfl ?_;obtain ⟨s,b,e⟩:=G (by
   by_cases g:cS op=0
   ·exact g
   ·have:=Da op g
    omega)
  exact ⟨s,b,e,bR e1 u⟩
 ·have q:=Zc q;have r:=Zc r;rw [wrap_i64 ad ad];refine ay ⟨ad,ad⟩ ?_;obtain ⟨s,b,hc⟩:=(t.ak e1 aj).cells (k:=(op-1).toNat) ad;refine az (s,b,((jS.getD (op-1).toNat 0:Nat):Int),()) hc (an ?_);refine ar b1 rfl aj ?_;intro g2 j u z2;refine af j (s,b,((jS.getD (op-1).toNat 0:Nat):Int),()) rfl ?_;refine ⟨s,b,?_,bR e1 u⟩;have h3:cS op=jS.getD (op-1).toNat 0:=by unfold cS; rw [Y2 ad]
  have h4:cS op≠0:=by
   rw [h3]
   have:∀ k:Fin 43,jS.getD k.1 0≠0:=bZ
   exact this ⟨(op-1).toNat,ad⟩
  rw [Y6 h4,h3]
def Ae {h:Hp} (t:AW h) (op:Int) (h1:-9223372036854775808<=op) (h2:op<=9223372036854775807) :
  HC Tryz.prog 45 #[.int .i64 op] h fun w h'=>w=.bool (oJ op)/\Ext h h':=by
 refine bd (args:=[.int .i64 op]) mixed Tryz.func45 ax (zB op) ?_;unfold xT bK dP bY cn;refine aJ (NJ t op h1 h2) ?_;rintro _ g1 ⟨s,b,rfl,e1⟩;refine ⟨(s,b,((cS op:Nat):Int),decide (cS op≠0),()),rfl,an ?_⟩;refine bm ?_;intro g2 G e2 z2;refine ar G rfl aj ?_;intro J j O z3;have u:=(e1.trans e2).st O (by have:=e1.size; omega);have j:bF J g1.size 120 [.string s,.int .u8 b,.int .i64 (cS op:Nat)]:=j;rw [aE];refine af j (((cS op:Nat):Int),()) rfl (an ?_);have hc:=ik op;refine av (fun q=>?_) (fun q=>?_)
 ·have q:((cS op:Nat):Int)=12:=by simpa using q
  refine ⟨?_,u⟩;unfold oJ;rw [Y6 ad]
 ·have q:¬ ((cS op:Nat):Int)=12:=by simpa using q
  refine af j (((cS op:Nat):Int),()) rfl ?_;refine ⟨?_,u⟩;unfold oJ
  by_cases r:cS op=13
  ·rw [r]; rfl
  ·rw [Y7 ad]
   congr 1
   simp
   omega
def Hf (n:Int):(n==IntKind.wrap .i32 (IntKind.wrap .i8 n))=(decide (-128<=n) && decide (n<=127)):=by
 have h1:IntKind.wrap .i8 n=if n % 256<128 then n % 256 else n % 256-256:=by
  simp only [IntKind.wrap,IntKind.bits,IntKind.signed,Bool.true_and];split <;> rename_i j
  ·have:=Y5 j
   rw [Y2 ad] <;> rfl
  ·have:¬ _:=fun h=>j (Y6 h)
   rw [Y8 ad] <;> rfl
 have h2:IntKind.wrap .i32 (IntKind.wrap .i8 n)=IntKind.wrap .i8 n:=by
  have:-128<=IntKind.wrap .i8 n/\IntKind.wrap .i8 n<=127:=by rw [h1]; split <;> omega
  generalize IntKind.wrap .i8 n=m at this;simp only [IntKind.wrap,IntKind.bits,IntKind.signed,Bool.true_and];split <;> rename_i j
  ·have:=Y5 j; omega
  ·have:¬ _:=fun h=>j (Y6 h); omega
 rw [h2,h1]
 by_cases g:-128<=n/\n<=127
 ·rw [Y6 g.1,Y6 g.2]
  simp
  split <;> omega
 ·have:(decide (-128<=n) && decide (n<=127))=false:=by
   rw [Bool.and_eq_false_iff]
   simp
   omega
  rw [this]
  simp
  split <;> omega
def Fv (n:Int):(n==IntKind.wrap .i32 (IntKind.wrap .i16 n))=(decide (-32768<=n) && decide (n<=32767)):=by
 have h1:IntKind.wrap .i16 n=if n % 65536<32768 then n % 65536 else n % 65536-65536:=by
  simp only [IntKind.wrap,IntKind.bits,IntKind.signed,Bool.true_and];split <;> rename_i j
  ·have:=Y5 j
   rw [Y2 ad] <;> rfl
  ·have:¬ _:=fun h=>j (Y6 h)
   rw [Y8 ad] <;> rfl
 have h2:IntKind.wrap .i32 (IntKind.wrap .i16 n)=IntKind.wrap .i16 n:=by
  have:-32768<=IntKind.wrap .i16 n/\IntKind.wrap .i16 n<=32767:=by rw [h1]; split <;> omega
  generalize IntKind.wrap .i16 n=m at this;simp only [IntKind.wrap,IntKind.bits,IntKind.signed,Bool.true_and];split <;> rename_i j
  ·have:=Y5 j; omega
  ·have:¬ _:=fun h=>j (Y6 h); omega
 rw [h2,h1]
 by_cases g:-32768<=n/\n<=32767
 ·rw [Y6 g.1,Y6 g.2]
  simp
  split <;> omega
 ·have:(decide (-32768<=n) && decide (n<=32767))=false:=by
   rw [Bool.and_eq_false_iff]
   simp
   omega
  rw [this]
  simp
  split <;> omega
def cm (h:Hp) (n f:Int):we Tryz.prog 152 [.int .i32 n,.int .i64 f] h (.bool (me n f)):=by
 refine eC mixed Tryz.func152 ax (wX n f) ?_;unfold te;rw [Hf,Fv];refine av (fun q=>?_) (fun q=>?_)
 ·have q:f=1:=by simpa using q
  exact ⟨by unfold me; rw [Y8 q],rfl⟩
 have q:¬ f=1:=by simpa using q
 refine av (fun r=>?_) (fun r=>?_)
 ·have r:f=2:=by simpa using r
  exact ⟨by unfold me; rw [Y2 q,Y8 r],rfl⟩
 have r:¬ f=2:=by simpa using r
 exact ⟨by unfold me; rw [Y2 q,Y2 r]; rfl,rfl⟩
def EY (h:Hp) (n:Int):we Tryz.prog 85 [.int .i64 n] h (.bool (um n)):=by
 refine eC mixed Tryz.func85 ax (yz n) ?_;unfold vA bt bI;have j:¬ (1<=n/\n<=256)->um n=false:=by
  intro g;cases u:um n with
  | false=>rfl
  | true =>
   exfalso;unfold um at u;simp only [Bool.or_eq_true,decide_eq_true_eq] at u;omega
 refine aQ (fun q=>?_) (fun q=>?_)
 ·refine aQ (fun r=>?_) (fun r=>?_)
  ·refine ⟨?_,rfl⟩;obtain ⟨k,rfl,hk⟩:∃ k:Nat,n=((k+1:Nat):Int)/\k<256:=⟨(n-1).toNat,ad,ad⟩
   have:∀ k:Fin 256,(IntKind.wrap .i64 (((BitVec.toNat ((BitVec.ofInt 64 ((k.1+1:Nat):Int)) &&& (BitVec.ofInt 64 (IntKind.wrap .i64 (((k.1+1:Nat):Int)-(1:Int)))))):Nat):Int)==(0:Int))=um ((k.1+1:Nat):Int):=by
    decide +kernel
   rw [this ⟨k,hk⟩]
  ·exact ⟨by rw [j ad],rfl⟩
 ·exact ⟨by rw [j ad],rfl⟩
def cG (h:Hp) (n m:Int):we Tryz.prog 151 [.int .i64 n,.int .i64 m] h (.bool (wg n m)):=by
 refine eC mixed Tryz.func151 ax (AH n m) ?_;unfold xA bI;refine aQ (fun q=>?_) (fun q=>?_)
 ·refine ⟨?_,rfl⟩;unfold wg;rw [Y6 (show 0<=n from ad)] <;> rfl
 ·refine ⟨?_,rfl⟩;unfold wg;rw [Y7 (show ¬ 0<=n from ad)] <;> rfl
def db (a b:Int):(a==b)=decide (a=b):=rfl
def dm (op a b n form:Int):Xab:=.agg #[.int .i64 op,.int .i64 a,.int .i64 b,.int .i32 n,.int .i64 form]
def NY (h:Hp) (op a b n form:Int):HC Tryz.prog 135 #[dm op a b n form,.int .i64 1] h fun w h'=>w=.bool (cJ 1 a b n)/\Ext h h':=by
 refine bd (args:=[dm op a b n form,.int .i64 1]) mixed Tryz.func135 ax (qo op a b n form) ?_;unfold lJ bI;refine bm ?_;intro g1 b1 e1 z1
 try simp only [aE]
 repeat' (first
  | (refine af b1 (_,()) rfl ?_; refine an ?_)
  | (refine aK (cG _ _ _) ?_)
  | (refine aK (cm _ _ _) ?_)
  | (refine av (fun q=>?_) (fun q=>?_)))
 all_goals (refine ⟨?_,e1⟩; first | (simp_all [cJ,db]; done) | (simp_all [cJ,db] <;> simp [wg] <;> omega))
def Q4 (h:Hp) (op a b n form:Int):HC Tryz.prog 136 #[dm op a b n form,.int .i64 1] h fun w h'=>w=.bool (nR 1 n form)/\Ext h h':=by
 refine bd (args:=[dm op a b n form,.int .i64 1]) mixed Tryz.func136 ax (tS op a b n form) ?_;unfold pZ;refine bm ?_;intro g1 b1 e1 z1
 try simp only [aE]
 repeat' (first
  | (refine af b1 (_,()) rfl ?_; refine an ?_)
  | (refine aK (cG _ _ _) ?_)
  | (refine aK (cm _ _ _) ?_)
  | (refine av (fun q=>?_) (fun q=>?_)))
 all_goals (refine ⟨?_,e1⟩; first | (simp_all [nR,db]; done) | (simp_all [nR,db] <;> omega))
def N1 (h:Hp) (op a b n form:Int):HC Tryz.prog 135 #[dm op a b n form,.int .i64 2] h fun w h'=>w=.bool (cJ 2 a b n)/\Ext h h':=by
 refine bd (args:=[dm op a b n form,.int .i64 2]) mixed Tryz.func135 ax (qk op a b n form) ?_;unfold lT aY bI;refine bm ?_;intro g1 b1 e1 z1
 try simp only [aE]
 repeat' (first
  | (refine af b1 (_,()) rfl ?_; refine an ?_)
  | (refine aK (cG _ _ _) ?_)
  | (refine aK (cm _ _ _) ?_)
  | (refine av (fun q=>?_) (fun q=>?_)))
 all_goals (refine ⟨?_,e1⟩; first | (simp_all [cJ,db]; done) | (simp_all [cJ,db] <;> simp [wg] <;> omega))
def Q6 (h:Hp) (op a b n form:Int):HC Tryz.prog 136 #[dm op a b n form,.int .i64 2] h fun w h'=>w=.bool (nR 2 n form)/\Ext h h':=by
 refine bd (args:=[dm op a b n form,.int .i64 2]) mixed Tryz.func136 ax (tK op a b n form) ?_;unfold pW;refine bm ?_;intro g1 b1 e1 z1
 try simp only [aE]
 repeat' (first
  | (refine af b1 (_,()) rfl ?_; refine an ?_)
  | (refine aK (cG _ _ _) ?_)
  | (refine aK (cm _ _ _) ?_)
  | (refine av (fun q=>?_) (fun q=>?_)))
 all_goals (refine ⟨?_,e1⟩; first | (simp_all [nR,db]; done) | (simp_all [nR,db] <;> omega))
def Np (h:Hp) (op a b n form:Int):HC Tryz.prog 135 #[dm op a b n form,.int .i64 3] h fun w h'=>w=.bool (cJ 3 a b n)/\Ext h h':=by
 refine bd (args:=[dm op a b n form,.int .i64 3]) mixed Tryz.func135 ax (qw op a b n form) ?_;unfold ly aY bI;refine bm ?_;intro g1 b1 e1 z1
 try simp only [aE]
 repeat' (first
  | (refine af b1 (_,()) rfl ?_; refine an ?_)
  | (refine aK (cG _ _ _) ?_)
  | (refine aK (cm _ _ _) ?_)
  | (refine av (fun q=>?_) (fun q=>?_)))
 all_goals (refine ⟨?_,e1⟩; first | (simp_all [cJ,db]; done) | (simp_all [cJ,db] <;> simp [wg] <;> omega))
def Pg (h:Hp) (op a b n form:Int):HC Tryz.prog 136 #[dm op a b n form,.int .i64 3] h fun w h'=>w=.bool (nR 3 n form)/\Ext h h':=by
 refine bd (args:=[dm op a b n form,.int .i64 3]) mixed Tryz.func136 ax (tH op a b n form) ?_;unfold qa;refine bm ?_;intro g1 b1 e1 z1
 try simp only [aE]
 repeat' (first
  | (refine af b1 (_,()) rfl ?_; refine an ?_)
  | (refine aK (cG _ _ _) ?_)
  | (refine aK (cm _ _ _) ?_)
  | (refine av (fun q=>?_) (fun q=>?_)))
 all_goals (refine ⟨?_,e1⟩; first | (simp_all [nR,db]; done) | (simp_all [nR,db] <;> omega))
def OA (h:Hp) (op a b n form:Int):HC Tryz.prog 135 #[dm op a b n form,.int .i64 4] h fun w h'=>w=.bool (cJ 4 a b n)/\Ext h h':=by
 refine bd (args:=[dm op a b n form,.int .i64 4]) mixed Tryz.func135 ax (qf op a b n form) ?_;unfold lj aY bI;refine bm ?_;intro g1 b1 e1 z1
 try simp only [aE]
 repeat' (first
  | (refine af b1 (_,()) rfl ?_; refine an ?_)
  | (refine aK (cG _ _ _) ?_)
  | (refine aK (cm _ _ _) ?_)
  | (refine av (fun q=>?_) (fun q=>?_)))
 all_goals (refine ⟨?_,e1⟩; first | (simp_all [cJ,db]; done) | (simp_all [cJ,db] <;> simp [wg] <;> omega))
def Qm (h:Hp) (op a b n form:Int):HC Tryz.prog 136 #[dm op a b n form,.int .i64 4] h fun w h'=>w=.bool (nR 4 n form)/\Ext h h':=by
 refine bd (args:=[dm op a b n form,.int .i64 4]) mixed Tryz.func136 ax (tN op a b n form) ?_;unfold pY;refine bm ?_;intro g1 b1 e1 z1
 try simp only [aE]
 repeat' (first
  | (refine af b1 (_,()) rfl ?_; refine an ?_)
  | (refine aK (cG _ _ _) ?_)
  | (refine aK (cm _ _ _) ?_)
  | (refine av (fun q=>?_) (fun q=>?_)))
 all_goals (refine ⟨?_,e1⟩; first | (simp_all [nR,db]; done) | (simp_all [nR,db] <;> omega))
def Nk (h:Hp) (op a b n form:Int):HC Tryz.prog 135 #[dm op a b n form,.int .i64 5] h fun w h'=>w=.bool (cJ 5 a b n)/\Ext h h':=by
 refine bd (args:=[dm op a b n form,.int .i64 5]) mixed Tryz.func135 ax (qu op a b n form) ?_;unfold lN aY bI;refine bm ?_;intro g1 b1 e1 z1
 try simp only [aE]
 repeat' (first
  | (refine af b1 (_,()) rfl ?_; refine an ?_)
  | (refine aK (cG _ _ _) ?_)
  | (refine aK (cm _ _ _) ?_)
  | (refine av (fun q=>?_) (fun q=>?_)))
 all_goals (refine ⟨?_,e1⟩; first | (simp_all [cJ,db]; done) | (simp_all [cJ,db] <;> simp [wg] <;> omega))
def PN (h:Hp) (op a b n form:Int):HC Tryz.prog 136 #[dm op a b n form,.int .i64 5] h fun w h'=>w=.bool (nR 5 n form)/\Ext h h':=by
 refine bd (args:=[dm op a b n form,.int .i64 5]) mixed Tryz.func136 ax (tD op a b n form) ?_;unfold pV;refine bm ?_;intro g1 b1 e1 z1
 try simp only [aE]
 repeat' (first
  | (refine af b1 (_,()) rfl ?_; refine an ?_)
  | (refine aK (cG _ _ _) ?_)
  | (refine aK (cm _ _ _) ?_)
  | (refine av (fun q=>?_) (fun q=>?_)))
 all_goals (refine ⟨?_,e1⟩; first | (simp_all [nR,db]; done) | (simp_all [nR,db] <;> omega))
def M3 (h:Hp) (op a b n form:Int):HC Tryz.prog 135 #[dm op a b n form,.int .i64 6] h fun w h'=>w=.bool (cJ 6 a b n)/\Ext h h':=by
 refine bd (args:=[dm op a b n form,.int .i64 6]) mixed Tryz.func135 ax (qi op a b n form) ?_;unfold lu aY bI;refine bm ?_;intro g1 b1 e1 z1
 try simp only [aE]
 repeat' (first
  | (refine af b1 (_,()) rfl ?_; refine an ?_)
  | (refine aK (cG _ _ _) ?_)
  | (refine aK (cm _ _ _) ?_)
  | (refine av (fun q=>?_) (fun q=>?_)))
 all_goals (refine ⟨?_,e1⟩; first | (simp_all [cJ,db]; done) | (simp_all [cJ,db] <;> simp [wg] <;> omega))
def Qf (h:Hp) (op a b n form:Int):HC Tryz.prog 136 #[dm op a b n form,.int .i64 6] h fun w h'=>w=.bool (nR 6 n form)/\Ext h h':=by
 refine bd (args:=[dm op a b n form,.int .i64 6]) mixed Tryz.func136 ax (ug op a b n form) ?_;unfold qb;refine bm ?_;intro g1 b1 e1 z1
 try simp only [aE]
 repeat' (first
  | (refine af b1 (_,()) rfl ?_; refine an ?_)
  | (refine aK (cG _ _ _) ?_)
  | (refine aK (cm _ _ _) ?_)
  | (refine av (fun q=>?_) (fun q=>?_)))
 all_goals (refine ⟨?_,e1⟩; first | (simp_all [nR,db]; done) | (simp_all [nR,db] <;> omega))
def LX (h:Hp) (op a b n form:Int):HC Tryz.prog 135 #[dm op a b n form,.int .i64 7] h fun w h'=>w=.bool (cJ 7 a b n)/\Ext h h':=by
 refine bd (args:=[dm op a b n form,.int .i64 7]) mixed Tryz.func135 ax (qp op a b n form) ?_;unfold lh aY bI;refine bm ?_;intro g1 b1 e1 z1
 try simp only [aE]
 repeat' (first
  | (refine af b1 (_,()) rfl ?_; refine an ?_)
  | (refine aK (cG _ _ _) ?_)
  | (refine aK (cm _ _ _) ?_)
  | (refine av (fun q=>?_) (fun q=>?_)))
 all_goals (refine ⟨?_,e1⟩; first | (simp_all [cJ,db]; done) | (simp_all [cJ,db] <;> simp [wg] <;> omega))
def RC (h:Hp) (op a b n form:Int):HC Tryz.prog 136 #[dm op a b n form,.int .i64 7] h fun w h'=>w=.bool (nR 7 n form)/\Ext h h':=by
 refine bd (args:=[dm op a b n form,.int .i64 7]) mixed Tryz.func136 ax (uj op a b n form) ?_;unfold qe;refine bm ?_;intro g1 b1 e1 z1
 try simp only [aE]
 repeat' (first
  | (refine af b1 (_,()) rfl ?_; refine an ?_)
  | (refine aK (cG _ _ _) ?_)
  | (refine aK (cm _ _ _) ?_)
  | (refine av (fun q=>?_) (fun q=>?_)))
 all_goals (refine ⟨?_,e1⟩; first | (simp_all [nR,db]; done) | (simp_all [nR,db] <;> omega))
def MJ (h:Hp) (op a b n form:Int):HC Tryz.prog 135 #[dm op a b n form,.int .i64 8] h fun w h'=>w=.bool (cJ 8 a b n)/\Ext h h':=by
 refine bd (args:=[dm op a b n form,.int .i64 8]) mixed Tryz.func135 ax (qx op a b n form) ?_;unfold lp aY bI;refine bm ?_;intro g1 b1 e1 z1
 try simp only [aE]
 repeat' (first
  | (refine af b1 (_,()) rfl ?_; refine an ?_)
  | (refine aK (cG _ _ _) ?_)
  | (refine aK (cm _ _ _) ?_)
  | (refine av (fun q=>?_) (fun q=>?_)))
 all_goals (refine ⟨?_,e1⟩; first | (simp_all [cJ,db]; done) | (simp_all [cJ,db] <;> simp [wg] <;> omega))
def Rk (h:Hp) (op a b n form:Int):HC Tryz.prog 136 #[dm op a b n form,.int .i64 8] h fun w h'=>w=.bool (nR 8 n form)/\Ext h h':=by
 refine bd (args:=[dm op a b n form,.int .i64 8]) mixed Tryz.func136 ax (tX op a b n form) ?_;unfold qc aY;refine bm ?_;intro g1 b1 e1 z1
 try simp only [aE]
 repeat' (first
  | (refine af b1 (_,()) rfl ?_; refine an ?_)
  | (refine aK (cG _ _ _) ?_)
  | (refine aK (cm _ _ _) ?_)
  | (refine av (fun q=>?_) (fun q=>?_)))
 all_goals (refine ⟨?_,e1⟩; first | (simp_all [nR,db]; done) | (simp_all [nR,db] <;> omega))
def OK (h:Hp) (op a b n form:Int):HC Tryz.prog 135 #[dm op a b n form,.int .i64 9] h fun w h'=>w=.bool (cJ 9 a b n)/\Ext h h':=by
 refine bd (args:=[dm op a b n form,.int .i64 9]) mixed Tryz.func135 ax (qh op a b n form) ?_;unfold lC bI;refine bm ?_;intro g1 b1 e1 z1
 try simp only [aE]
 repeat' (first
  | (refine af b1 (_,()) rfl ?_; refine an ?_)
  | (refine aK (cG _ _ _) ?_)
  | (refine aK (cm _ _ _) ?_)
  | (refine av (fun q=>?_) (fun q=>?_)))
 all_goals (refine ⟨?_,e1⟩; first | (simp_all [cJ,db]; done) | (simp_all [cJ,db] <;> simp [wg] <;> omega))
def P3 (h:Hp) (op a b n form:Int):HC Tryz.prog 136 #[dm op a b n form,.int .i64 9] h fun w h'=>w=.bool (nR 9 n form)/\Ext h h':=by
 refine bd (args:=[dm op a b n form,.int .i64 9]) mixed Tryz.func136 ax (tI op a b n form) ?_;unfold pU bI;refine bm ?_;intro g1 b1 e1 z1
 try simp only [aE]
 repeat' (first
  | (refine af b1 (_,()) rfl ?_; refine an ?_)
  | (refine aK (cG _ _ _) ?_)
  | (refine aK (cm _ _ _) ?_)
  | (refine av (fun q=>?_) (fun q=>?_)))
 all_goals (refine ⟨?_,e1⟩; first | (simp_all [nR,db]; done) | (simp_all [nR,db] <;> omega))
def KD (h:Hp) (op a b n form:Int):HC Tryz.prog 135 #[dm op a b n form,.int .i64 10] h fun w h'=>w=.bool (cJ 10 a b n)/\Ext h h':=by
 refine bd (args:=[dm op a b n form,.int .i64 10]) mixed Tryz.func135 ax (pG op a b n form) ?_;unfold kB aY bI;refine bm ?_;intro g1 b1 e1 z1
 try simp only [aE]
 repeat' (first
  | (refine af b1 (_,()) rfl ?_; refine an ?_)
  | (refine aK (cG _ _ _) ?_)
  | (refine aK (cm _ _ _) ?_)
  | (refine av (fun q=>?_) (fun q=>?_)))
 all_goals (refine ⟨?_,e1⟩; first | (simp_all [cJ,db]; done) | (simp_all [cJ,db] <;> simp [wg] <;> omega))
def No (h:Hp) (op a b n form:Int):HC Tryz.prog 136 #[dm op a b n form,.int .i64 10] h fun w h'=>w=.bool (nR 10 n form)/\Ext h h':=by
 refine bd (args:=[dm op a b n form,.int .i64 10]) mixed Tryz.func136 ax (sN op a b n form) ?_;unfold oi;refine bm ?_;intro g1 b1 e1 z1
 try simp only [aE]
 repeat' (first
  | (refine af b1 (_,()) rfl ?_; refine an ?_)
  | (refine aK (cG _ _ _) ?_)
  | (refine aK (cm _ _ _) ?_)
  | (refine av (fun q=>?_) (fun q=>?_)))
 all_goals (refine ⟨?_,e1⟩; first | (simp_all [nR,db]; done) | (simp_all [nR,db] <;> omega))
def Jt (h:Hp) (op a b n form:Int):HC Tryz.prog 135 #[dm op a b n form,.int .i64 11] h fun w h'=>w=.bool (cJ 11 a b n)/\Ext h h':=by
 refine bd (args:=[dm op a b n form,.int .i64 11]) mixed Tryz.func135 ax (oY op a b n form) ?_;unfold kE aY bI;refine bm ?_;intro g1 b1 e1 z1
 try simp only [aE]
 repeat' (first
  | (refine af b1 (_,()) rfl ?_; refine an ?_)
  | (refine aK (cG _ _ _) ?_)
  | (refine aK (cm _ _ _) ?_)
  | (refine av (fun q=>?_) (fun q=>?_)))
 all_goals (refine ⟨?_,e1⟩; first | (simp_all [cJ,db]; done) | (simp_all [cJ,db] <;> simp [wg] <;> omega))
def K8 (h:Hp) (op a b n form:Int):HC Tryz.prog 136 #[dm op a b n form,.int .i64 11] h fun w h'=>w=.bool (nR 11 n form)/\Ext h h':=by
 refine bd (args:=[dm op a b n form,.int .i64 11]) mixed Tryz.func136 ax (sK op a b n form) ?_;unfold ou bI;refine bm ?_;intro g1 b1 e1 z1
 try simp only [aE]
 repeat' (first
  | (refine af b1 (_,()) rfl ?_; refine an ?_)
  | (refine aK (cG _ _ _) ?_)
  | (refine aK (cm _ _ _) ?_)
  | (refine av (fun q=>?_) (fun q=>?_)))
 all_goals (refine ⟨?_,e1⟩; first | (simp_all [nR,db]; done) | (simp_all [nR,db] <;> omega))
def JR (h:Hp) (op a b n form:Int):HC Tryz.prog 135 #[dm op a b n form,.int .i64 12] h fun w h'=>w=.bool (cJ 12 a b n)/\Ext h h':=by
 refine bd (args:=[dm op a b n form,.int .i64 12]) mixed Tryz.func135 ax (oN op a b n form) ?_;unfold kD bI;refine bm ?_;intro g1 b1 e1 z1
 try simp only [aE]
 repeat' (first
  | (refine af b1 (_,()) rfl ?_; refine an ?_)
  | (refine aK (cG _ _ _) ?_)
  | (refine aK (cm _ _ _) ?_)
  | (refine av (fun q=>?_) (fun q=>?_)))
 all_goals (refine ⟨?_,e1⟩; first | (simp_all [cJ,db]; done) | (simp_all [cJ,db] <;> simp [wg] <;> omega))
def OG (h:Hp) (op a b n form:Int):HC Tryz.prog 136 #[dm op a b n form,.int .i64 12] h fun w h'=>w=.bool (nR 12 n form)/\Ext h h':=by
 refine bd (args:=[dm op a b n form,.int .i64 12]) mixed Tryz.func136 ax (sG op a b n form) ?_;unfold nU aY;refine bm ?_;intro g1 b1 e1 z1
 try simp only [aE]
 repeat' (first
  | (refine af b1 (_,()) rfl ?_; refine an ?_)
  | (refine aK (cG _ _ _) ?_)
  | (refine aK (cm _ _ _) ?_)
  | (refine av (fun q=>?_) (fun q=>?_)))
 all_goals (refine ⟨?_,e1⟩; first | (simp_all [nR,db]; done) | (simp_all [nR,db] <;> omega))
def JS (h:Hp) (op a b n form:Int):HC Tryz.prog 135 #[dm op a b n form,.int .i64 13] h fun w h'=>w=.bool (cJ 13 a b n)/\Ext h h':=by
 refine bd (args:=[dm op a b n form,.int .i64 13]) mixed Tryz.func135 ax (pf op a b n form) ?_;unfold kO aY bI;refine bm ?_;intro g1 b1 e1 z1
 try simp only [aE]
 repeat' (first
  | (refine af b1 (_,()) rfl ?_; refine an ?_)
  | (refine aK (cG _ _ _) ?_)
  | (refine aK (cm _ _ _) ?_)
  | (refine av (fun q=>?_) (fun q=>?_)))
 all_goals (refine ⟨?_,e1⟩; first | (simp_all [cJ,db]; done) | (simp_all [cJ,db] <;> simp [wg] <;> omega))
def Nu (h:Hp) (op a b n form:Int):HC Tryz.prog 136 #[dm op a b n form,.int .i64 13] h fun w h'=>w=.bool (nR 13 n form)/\Ext h h':=by
 refine bd (args:=[dm op a b n form,.int .i64 13]) mixed Tryz.func136 ax (sH op a b n form) ?_;unfold nE aY;refine bm ?_;intro g1 b1 e1 z1
 try simp only [aE]
 repeat' (first
  | (refine af b1 (_,()) rfl ?_; refine an ?_)
  | (refine aK (cG _ _ _) ?_)
  | (refine aK (cm _ _ _) ?_)
  | (refine av (fun q=>?_) (fun q=>?_)))
 all_goals (refine ⟨?_,e1⟩; first | (simp_all [nR,db]; done) | (simp_all [nR,db] <;> omega))
def DL (h:Hp) (op a b n form:Int) {s:Nat} (h1:1<=s) (h2:s<=13):HC Tryz.prog 135 #[dm op a b n form,.int .i64 s] h fun w h'=>w=.bool (cJ s a b n)/\Ext h h':=by
 have hs:s=1\/s=2\/s=3\/s=4\/s=5\/s=6\/s=7\/s=8\/s=9\/s=10\/s=11\/s=12\/s=13:=ad
 clear h1 h2;rcases hs with rfl | rfl | rfl | rfl | rfl | rfl | rfl | rfl | rfl | rfl | rfl | rfl | rfl
 ·exact NY h op a b n form
 ·exact N1 h op a b n form
 ·exact Np h op a b n form
 ·exact OA h op a b n form
 ·exact Nk h op a b n form
 ·exact M3 h op a b n form
 ·exact LX h op a b n form
 ·exact MJ h op a b n form
 ·exact OK h op a b n form
 ·exact KD h op a b n form
 ·exact Jt h op a b n form
 ·exact JR h op a b n form
 ·exact JS h op a b n form
def BX (h:Hp) (op a b n form:Int) {s:Nat} (h1:1<=s) (h2:s<=13):HC Tryz.prog 136 #[dm op a b n form,.int .i64 s] h fun w h'=>w=.bool (nR s n form)/\Ext h h':=by
 have hs:s=1\/s=2\/s=3\/s=4\/s=5\/s=6\/s=7\/s=8\/s=9\/s=10\/s=11\/s=12\/s=13:=ad
 clear h1 h2;rcases hs with rfl | rfl | rfl | rfl | rfl | rfl | rfl | rfl | rfl | rfl | rfl | rfl | rfl
 ·exact Q4 h op a b n form
 ·exact Q6 h op a b n form
 ·exact Pg h op a b n form
 ·exact Qm h op a b n form
 ·exact PN h op a b n form
 ·exact Qf h op a b n form
 ·exact RC h op a b n form
 ·exact Rk h op a b n form
 ·exact P3 h op a b n form
 ·exact No h op a b n form
 ·exact K8 h op a b n form
 ·exact OG h op a b n form
 ·exact Nu h op a b n form
def Sm (n:Int):Prop:=-9223372036854775808<=n/\n<=9223372036854775807
def qZ {h:Hp} (t:AW h) (op a b n form:Int) (O:Sm op) :
  HC Tryz.prog 112 #[dm op a b n form] h fun w h'=>w=.int .i64 (gI ⟨op,a,b,n,form⟩)/\Ext h h':=by
 refine bd (args:=[dm op a b n form]) mixed Tryz.func112 ax (zY op a b n form) ?_;unfold xZ aY bK bY cn;refine bm ?_;intro g1 b1 e1 z1;refine af b1 (op,()) rfl (an ?_);refine aJ (NJ (t.ak e1 aj) op O.1 O.2) ?_;rintro _ g2 ⟨s,y,rfl,e2⟩;refine ⟨(s,y,((cS op:Nat):Int),decide (cS op≠0),()),rfl,an ?_⟩;refine bm ?_;intro g3 b3 X z3;refine ar b3 rfl aj ?_;intro Y u Z z4;have u:bF Y g2.size 120 [.string s,.int .u8 y,.int .i64 (cS op:Nat)]:=u;have e4:=((e1.trans e2).trans X).st Z (by have:=e1.size; have:=e2.size; omega);have b1:=b1.ak ((e2.trans X).st Z (by have:=e2.size; omega)) aj;unfold gI;simp only [aE];refine av (fun q=>?_) (fun q=>?_)
 ·have q:cS op=0:=by simpa using q
  exact ⟨by rw [Y8 q],e4⟩
 have q:¬ cS op=0:=by simpa using q
 rw [Y2 q];refine af b1 (op,a,b,n,form,()) rfl (an ?_);refine af u (((cS op:Nat):Int),()) rfl (an ?_);have hs:=ik op;refine aJ (DL Y op a b n form (s:=cS op) ad ad) ?_;rintro _ g5 ⟨rfl,U⟩;refine ⟨(cJ (cS op) a b n,()),rfl,an ?_⟩;have G:=e4.trans U;refine av (fun q=>?_) (fun q=>?_)
 ·have q:cJ (cS op) a b n=false:=by simpa using q
  exact ⟨by rw [Y8 q],G⟩
 have q:cJ (cS op) a b n=true:=by simpa using q
 rw [Y2 (by rw [q]; simp)];have b1:=b1.ak U aj;have u:=u.ak U aj;refine af b1 (op,()) rfl (an ?_);refine aJ (Ae (t.ak G aj) op O.1 O.2) ?_;rintro _ g6 ⟨rfl,V⟩;refine ⟨(oJ op,()),rfl,an ?_⟩;have j:=G.trans V;have b1:=b1.ak V aj;have u:=u.ak V aj;refine av (fun q=>?_) (fun q=>?_)
 ·have q:oJ op=false:=by simpa using q
  refine af b1 (form,()) rfl (an ?_);refine av (fun r=>?_) (fun r=>?_)
  ·have r:¬ form=0:=by simpa using r
   exact ⟨by rw [q]; simp [r],j⟩
  have r:form=0:=by simpa using r
  refine af b1 (op,a,b,n,form,()) rfl (an ?_);refine af u (((cS op:Nat):Int),()) rfl (an ?_);refine aJ (BX g6 op a b n form (s:=cS op) ad ad) ?_;rintro _ g7 ⟨rfl,J⟩;refine ⟨(nR (cS op) n form,()),rfl,an ?_⟩;refine av (fun p=>?_) (fun p=>?_)
  ·exact ⟨by rw [q]; simp_all,j.trans J⟩
  ·exact ⟨by rw [q]; simp_all,j.trans J⟩
 ·have q:oJ op=true:=by simpa using q
  refine af b1 (op,a,b,n,form,()) rfl (an ?_);refine af u (((cS op:Nat):Int),()) rfl (an ?_);refine aJ (BX g6 op a b n form (s:=cS op) ad ad) ?_;rintro _ g7 ⟨rfl,J⟩;refine ⟨(nR (cS op) n form,()),rfl,an ?_⟩;refine av (fun p=>?_) (fun p=>?_)
  ·exact ⟨by rw [q]; simp_all,j.trans J⟩
  ·exact ⟨by rw [q]; simp_all,j.trans J⟩
def encI (p:Xac) (l c:Nat) (x:cE):List Xab:=[.int .i64 x.kind,.string x.name,.int .i64 x.inst.op,.int .i64 x.inst.a,.int .i64 x.inst.b,.int .i32 x.inst.n,.int .i64 x.inst.form,.slice p l c,.int .u32 x.e.num,.int .i64 x.n]
def vB (p:Xac) (l c:Nat) (x:cE):Xab:=.agg (encI p l c x).toArray
structure ru (h:Hp) (p:Xac) (l:Nat) (x:ct):Prop where
 vw:gW h p l x.ai
 many:x.ai.length<=2^60
 names:∀ t,t∈x.ai->t.1.size<=maxLen
def ru.ak {h:Hp} {p:Xac} {l:Nat} {x:ct} (v:ru h p l x) (k:Ext h h'):ru h' p l x:=⟨v.vw.ak k aj,v.many,v.names⟩
def gW.none (h:Hp):gW h none 0 []:=⟨rfl,fun i hi=>absurd hi aj⟩
def rl (x:ct):wI x E6=O3 x:=by
 unfold wI O3 E6;rw [Bool.and_comm]
def Ij (g k:Nat):T :=
 T.ah ⟨g,5,none⟩ [.int .i32] <| fun (j:Int) =>
 cond (j==(0:Int))
  (T.ah ⟨k,0,none⟩ [.int .i64,.int .i64,.int .i64,.int .i32,.int .i64] <| fun (u:Int) (G:Int) (J:Int) (O:Int) (U:Int) =>
  bK 112 [.agg #[.int .i64 u,.int .i64 G,.int .i64 J,.int .i32 O,.int .i64 U]] false [aR] <| fun (V:Int) =>
  cond (V==(0:Int))
  (T.ah ⟨g,7,none⟩ [.slice 117,.int .u32] <| fun (X:Xac) (Y:Nat) (Z:Nat) (n26:Int) =>
  bK 61 [.agg #[.slice X Y Z,aG n26]] false [cn] <| fun (b27:Bool) =>
  T.ret (.bool b27))
  bI)
  bI
def Lz (g k:Nat):T :=
 T.ah ⟨k,0,none⟩ [.int .i64,.int .i64,.int .i64,.int .i32,.int .i64] <| fun (j:Int) (u:Int) (G:Int) (J:Int) (O:Int) =>
 bK 112 [.agg #[.int .i64 j,.int .i64 u,.int .i64 G,.int .i32 J,.int .i64 O]] false [aR] <| fun (U:Int) =>
 cond (U==(0:Int))
  (T.ah ⟨g,7,none⟩ [.slice 117,.int .u32] <| fun (V:Xac) (X:Nat) (Y:Nat) (Z:Int) =>
  bK 86 [.agg #[.slice V X Y,aG Z],.agg #[bj,aG (0:Int)]] false [cn] <| fun (b26:Bool) =>
  T.ret (.bool b26))
  bI
def ot (i:Ins):List Xab:=[.int .i64 i.op,.int .i64 i.a,.int .i64 i.b,.int .i32 i.n,.int .i64 i.form]
def EZ {L:Lp} {h0 h:Hp} (t:AW h) {x:cE} {p:Xac} {l c g k:Nat} {i:Ins} (b1:bF h g e1 (encI p l c x)) (j:bF h k e2 (ot i)) (v:ru h p l x.e) (u:Sm i.op) (e:Ext h0 h) :
  Ij g k L (fun w h'=>w=.bool (decide (x.inst.n=0) && decide (gI i=0) && nz none x.e.ai)/\Ext h0 h') h:=by
 unfold Ij bK aG bI aR cn;refine af b1 (x.inst.n,()) rfl (an ?_);refine av (fun q=>?_) (fun q=>?_)
 ·have q:x.inst.n=0:=by simpa using q
  refine af j (i.op,i.a,i.b,i.n,i.form,()) rfl (an ?_);refine aJ (qZ t i.op i.a i.b i.n i.form u) ?_;rintro _ g2 ⟨rfl,e2⟩;refine ⟨(gI i,()),rfl,an ?_⟩;refine av (fun r=>?_) (fun r=>?_)
  ·have r:gI i=0:=by simpa using r
   refine af (b1.ak e2 aj) ((p,l,c),(x.e.num:Int),()) rfl (an ?_);refine aJ (tT (c:=c) (v.ak e2).vw (by have:=v.many; omega) v.names) ?_;rintro _ J ⟨rfl,G⟩;refine ⟨(nz none x.e.ai,()),rfl,?_⟩;exact ⟨by rw [Y6 q,Y6 r]; rfl,(e.trans e2).trans G⟩
  ·have r:¬ gI i=0:=by simpa using r
   exact ⟨by rw [Y7 r,bz9]; rfl,e.trans e2⟩
 ·have q:¬ x.inst.n=0:=by simpa using q
  exact ⟨by rw [Y7 q]; rfl,e⟩
def LA {L:Lp} {h0 h:Hp} (t:AW h) {x:cE} {p:Xac} {l c g k:Nat} {i:Ins} (b1:bF h g e1 (encI p l c x)) (j:bF h k e2 (ot i)) (v:ru h p l x.e) (u:Sm i.op) (e:Ext h0 h) :
  Lz g k L (fun w h'=>w=.bool (decide (gI i=0) && O3 x.e)/\Ext h0 h') h:=by
 unfold Lz bK aG bI bj aR cn;refine af j (i.op,i.a,i.b,i.n,i.form,()) rfl (an ?_);refine aJ (qZ t i.op i.a i.b i.n i.form u) ?_;rintro _ g2 ⟨rfl,e2⟩;refine ⟨(gI i,()),rfl,an ?_⟩;refine av (fun r=>?_) (fun r=>?_)
 ·have r:gI i=0:=by simpa using r
  refine af (b1.ak e2 aj) ((p,l,c),(x.e.num:Int),()) rfl (an ?_);refine aJ (Bk (c:=c) (d:=0) (y:=E6) (v.ak e2).vw (gW.none g2) v.many) ?_;rintro _ J ⟨rfl,G⟩;refine ⟨(wI x.e E6,()),rfl,?_⟩;exact ⟨by rw [Y6 r,rl]; rfl,(e.trans e2).trans G⟩
 ·have r:¬ gI i=0:=by simpa using r
  exact ⟨by rw [Y7 r]; rfl,e.trans e2⟩
def instruction_hc {h:Hp} (t:AW h) {x:cE} {p:Xac} {l c:Nat} (v:ru h p l x.e) (Y:Sm x.inst.op) :
  HC Tryz.prog 84 #[vB p l c x] h fun w h'=>w=.bool (zi x.inst x.e)/\Ext h h':=by
 refine bd (args:=[vB p l c x]) mixed Tryz.func84 ax (ql x.kind x.name x.inst.op x.inst.a x.inst.b x.inst.n x.inst.form p l c x.e.num x.n) ?_;unfold lP aY cH bK aG bI bj bY cn;refine bm ?_;intro g1 b1 e1 z1;have b1:bF g1 h.size 71 (encI p l c x):=b1;simp only [aE];refine af b1 (x.inst.op,()) rfl (an ?_);refine aJ (NJ (t.ak e1 aj) x.inst.op Y.1 Y.2) ?_;rintro _ g2 ⟨s,y,rfl,e2⟩;refine ⟨(s,y,((cS x.inst.op:Nat):Int),decide (cS x.inst.op≠0),()),rfl,an ?_⟩;refine bm ?_;intro g3 b3 e3 z3;refine ar b3 rfl aj ?_;intro J Z k4 z4;have Z:bF J g2.size 120 [.string s,.int .u8 y,.int .i64 (cS x.inst.op:Nat)]:=Z;have s1:=e1.size;have s2:=e2.size;have e14:=(e2.trans e3).st k4 ad;have e4:=e1.trans e14;have b1:=b1.ak e14 aj;unfold zi;refine av (fun q=>?_) (fun q=>?_)
 ·have q:cS x.inst.op=0:=by simpa using q
  exact ⟨by rw [q]; rfl,e4⟩
 have q:cS x.inst.op≠0:=by simpa using q
 rw [Y6 q,Zt];refine af b1 (x.inst.form,()) rfl (an ?_);refine av (fun r=>?_) (fun r=>?_)
 ·have r:¬ x.inst.form=0:=by simpa using r
  exact ⟨by rw [Y7 r]; rfl,e4⟩
 have r:x.inst.form=0:=by simpa using r
 rw [Y6 r,Zt];refine af b1 (x.inst.op,x.inst.a,x.inst.b,x.inst.n,x.inst.form,()) rfl (an ?_);refine bm ?_;intro g5 b5 e5 z5;refine ar b5 rfl aj ?_;intro g6 b6 k6 z6;have b6:bF g6 J.size 65 (ot x.inst):=b6;have u:=e5.st k6 ad;have U:=e4.trans u;have b1:=b1.ak u aj;have Z:=Z.ak u aj;simp only [aE];have hs:=ik x.inst.op;refine af Z (((cS x.inst.op:Nat):Int),()) rfl (an ?_);generalize O:(if F' x.inst.op=true then decide (x.inst.n=0) && decide (gI { x.inst with form:=if oJ x.inst.op=true then 1 else 0 }=0) && nz none x.e.ai else decide (gI x.inst=0) && O3 x.e)=B;have hF:{ x.inst with form:=0 }=x.inst:=by
  rcases hx:x.inst with ⟨a1,a2,a3,a4,a5⟩
  rw [hx] at r;simp only at r;rw [r]
 have hA:12<=cS x.inst.op->T.aC ⟨J.size,4,none⟩ [.int .i64 1] (Ij h.size J.size) [] (fun w h'=>w=.bool B/\Ext h h') g6:=by
  intro hh;refine ar b6 rfl (by simp [ot]) ?_;intro g7 b7 k7 z7;have b7:bF g7 J.size 65 (ot { x.inst with form:=1 }):=b7;have e67:Ext J g7:=u.st k7 ad;have e7:=e4.trans e67;have hw:F' x.inst.op=true:=Y6 ad;have hp:oJ x.inst.op=true:=Y6 hh;rw [Y8 hw,Y8 hp] at O
  have:=EZ (L:=[]) (h0:=h) (t.ak e7 aj) (b1.ak k7 (by simp; omega)) b7 (v.ak e7) Y e7
  rw [O] at this;exact this
 have hR:cS x.inst.op=10\/cS x.inst.op=11->Ij h.size J.size [] (fun w h'=>w=.bool B/\Ext h h') g6:=by
  intro hh;have hw:F' x.inst.op=true:=Y6 ad;have hp:¬ oJ x.inst.op=true:=by unfold oJ; rw [Y7 ad]; simp
  rw [Y8 hw,Y2 hp,hF] at O
  have:=EZ (L:=[]) (h0:=h) (t.ak U aj) b1 b6 (v.ak U) Y U
  rw [O] at this;exact this
 have hS:cS x.inst.op<10->Lz h.size J.size [] (fun w h'=>w=.bool B/\Ext h h') g6:=by
  intro hh;have hw:¬ F' x.inst.op=true:=by unfold F'; rw [Y7 ad]; simp
  rw [Y2 hw] at O
  have:=LA (L:=[]) (h0:=h) (t.ak U aj) b1 b6 (v.ak U) Y U
  rw [O] at this;exact this
 clear O;refine av (fun V=>?_) (fun V=>?_)
 ·have V:((cS x.inst.op:Nat):Int)=12:=by simpa using V
  refine av (fun j=>hA ad) (fun j=>?_);have j:¬ ((cS x.inst.op:Nat):Int)=12:=by simpa using j
  exact absurd V j
 have V:¬ ((cS x.inst.op:Nat):Int)=12:=by simpa using V
 refine av (fun j=>?_) (fun j=>?_)
 ·have j:((cS x.inst.op:Nat):Int)=13:=by simpa using j
  exact hA ad
 have j:¬ ((cS x.inst.op:Nat):Int)=13:=by simpa using j
 refine av (fun X=>?_) (fun X=>?_)
 ·have X:((cS x.inst.op:Nat):Int)=10:=by simpa using X
  refine av (fun j=>hR ad) (fun G=>?_);have G:¬ ((cS x.inst.op:Nat):Int)=10:=by simpa using G
  exact absurd X G
 have X:¬ ((cS x.inst.op:Nat):Int)=10:=by simpa using X
 refine av (fun G=>?_) (fun G=>?_)
 ·have G:((cS x.inst.op:Nat):Int)=11:=by simpa using G
  exact hR ad
 have G:¬ ((cS x.inst.op:Nat):Int)=11:=by simpa using G
 exact hS ad
structure iT (h:Hp) (p:Xac) (l:Nat) (x:cE):Prop where
 lin:ru h p l x.e
 name:x.name.size<=maxLen
 op:Sm x.inst.op
def iT.ak {h:Hp} {p:Xac} {l:Nat} {x:cE} (v:iT h p l x) (k:Ext h h'):iT h' p l x:=⟨v.lin.ak k,v.name,v.op⟩
def kM (x y:cE):Bool:=decide (x.name=y.name) && decide (x.inst=y.inst) && decide (x.n=y.n) && wI x.e y.e
def Sr:Tryz.prog.underlying 65=some (.struct (yk Tryz.prog 65)):=ax
def Tx (x y:Operand) (i j:Ins) (h:Hp) (K:Xab->Hp->Prop) (hk:K (.bool !(decide (i=j))) h) :
  aS Tryz.prog (Sx.jv (BinOp.neq) 65 x y (.agg (ot i).toArray) (.agg (ot j).toArray)) h K:=by
 refine uy Sr ax ax ax K ?_;have u:(yk Tryz.prog 65).all (Gd (ot i).toArray (ot j).toArray)=(i.op==j.op && (i.a==j.a && (i.b==j.b && (i.n==j.n && (i.form==j.form && true))))):=by
  rw [<- ad9]
  kernel_rfl
 rw [u,af9]
 have:(i.op==j.op && (i.a==j.a && (i.b==j.b && (i.n==j.n && i.form==j.form))))=decide (i=j):=by
  rcases i with ⟨G,a2,a3,a4,a5⟩
  rcases j with ⟨J,O,c3,U,c5⟩
  simp only [db,Ins.mk.injEq]
  by_cases h1:G=J <;> by_cases h2:a2=O <;> by_cases h3:a3=c3 <;> by_cases h4:a4=U <;> by_cases h5:a5=c5 <;> simp [h1,h2,h3,h4,h5]
 rw [this];exact hk
def Yk (g k:Nat):T :=
 T.ah ⟨g,1,none⟩ [.string] <| fun (s8:Xaa) =>
 T.ah ⟨k,1,none⟩ [.string] <| fun (s9:Xaa) =>
 cond (!((ByteArray.toList s8)==(ByteArray.toList s9)))
  (T.ret (.int .i64 (31:Int)))
  (T.ah ⟨g,2,none⟩ [.int .i64,.int .i64,.int .i64,.int .i32,.int .i64] <| fun (j:Int) (u:Int) (G:Int) (J:Int) (O:Int) =>
  T.ah ⟨k,2,none⟩ [.int .i64,.int .i64,.int .i64,.int .i32,.int .i64] <| fun (U:Int) (V:Int) (X:Int) (Y:Int) (Z:Int) =>
  bU (Sx.jv (BinOp.neq) 65 (Operand.tmp 109) (Operand.tmp 111) (.agg #[.int .i64 j,.int .i64 u,.int .i64 G,.int .i32 J,.int .i64 O]) (.agg #[.int .i64 U,.int .i64 V,.int .i64 X,.int .i32 Y,.int .i64 Z])) false [cn] <| fun (b20:Bool) =>
  cond b20
  (T.ret (.int .i64 (31:Int)))
  (T.ah ⟨g,9,none⟩ [.int .i64] <| fun (n21:Int) =>
  T.ah ⟨k,9,none⟩ [.int .i64] <| fun (n22:Int) =>
  cond (n21 != n22)
   (T.ret (.int .i64 (31:Int)))
   (T.ah ⟨g,7,none⟩ [.slice 117,.int .u32] <| fun (p23:Xac) (l24:Nat) (l25:Nat) (n26:Int) =>
   T.ah ⟨k,7,none⟩ [.slice 117,.int .u32] <| fun (p27:Xac) (l28:Nat) (l29:Nat) (n30:Int) =>
   bK 86 [.agg #[.slice p23 l24 l25,aG n26],.agg #[.slice p27 l28 l29,aG n30]] false [cn] <| fun (b31:Bool) =>
   cond (!b31)
   (T.ret (.int .i64 (31:Int)))
   (T.ret (.int .i64 (0:Int))))))
def Dy (b:Bool):Xab:=.int .i64 (if b then 0 else 31)
def oZ {L:Lp} {h0 h:Hp} {x y:cE} {p q:Xac} {l c m d g k:Nat} (b1:bF h g e1 (encI p l c x)) (j:bF h k e2 (encI q m d y)) (v:ru h p l x.e) (w:gW h q m y.e.ai) (e:Ext h0 h) :
  Yk g k L (fun w h'=>w=Dy (kM x y)/\Ext h0 h') h:=by
 unfold Yk kM bK bU aG cn;refine af b1 (x.name,()) rfl (an ?_);refine af j (y.name,()) rfl (an ?_);rw [ByteArray.toList_eq,ByteArray.toList_eq];refine av (fun r=>?_) (fun r=>?_)
 ·have r:¬ x.name=y.name:=fun G=>by rw [G] at r; simp at r
  exact ⟨by rw [Y7 r]; rfl,e⟩
 have r:x.name=y.name:=CH (by simpa using r);rw [Y6 r,Zt];refine af b1 (x.inst.op,x.inst.a,x.inst.b,x.inst.n,x.inst.form,()) rfl (an ?_);refine af j (y.inst.op,y.inst.a,y.inst.b,y.inst.n,y.inst.form,()) rfl (an ?_);refine nX (fun K' J=>Tx _ _ x.inst y.inst h K' J) ?_;refine av (fun r=>?_) (fun r=>?_)
 ·have r:¬ x.inst=y.inst:=by simpa using r
  exact ⟨by rw [Y7 r]; rfl,e⟩
 have r:x.inst=y.inst:=by simpa using r
 rw [Y6 r,Zt];refine af b1 (x.n,()) rfl (an ?_);refine af j (y.n,()) rfl (an ?_);refine av (fun r=>?_) (fun r=>?_)
 ·have r:¬ x.n=y.n:=by simpa using r
  exact ⟨by rw [Y7 r]; rfl,e⟩
 have r:x.n=y.n:=by simpa using r
 rw [Y6 r,Zt];refine af b1 ((p,l,c),(x.e.num:Int),()) rfl (an ?_);refine af j ((q,m,d),(y.e.num:Int),()) rfl (an ?_);refine aJ (Bk (c:=c) (d:=d) v.vw w v.many) ?_;rintro _ O ⟨rfl,u⟩;refine ⟨(wI x.e y.e,()),rfl,an ?_⟩;refine av (fun r=>?_) (fun r=>?_)
 ·have r:wI x.e y.e=false:=by simpa using r
  exact ⟨by rw [r]; rfl,e.trans u⟩
 ·have r:wI x.e y.e=true:=by simpa using r
  exact ⟨by rw [r]; rfl,e.trans u⟩
def ui (x:ct):wI x x=true:=Ju x
def Dh {x:cE} (hk:x.kind=1):cB x sec=(cX x.name.data.toList && kM x { eS x.kind with name:=x.name }):=by
 unfold cB kM;simp only [hk,eS,ui,rl,z1,z2,z3,z4];simp (decide:=true) only [if_true,if_false,cu9,Zt,af9]
 try simp only [Bool.and_assoc,Bool.and_comm,Bool.and_left_comm]
def NP {x:cE} (hk:x.kind=2):cB x sec=(decide (sec=0) && zi x.inst x.e && kM x { eS x.kind with inst:=x.inst,e:=x.e }):=by
 unfold cB kM;simp only [hk,eS,ui,rl,z1,z2,z3,z4];simp (decide:=true) only [if_true,if_false,cu9,Zt,af9]
 try simp only [Bool.and_assoc,Bool.and_comm,Bool.and_left_comm]
def Mr {x:cE} (hk:x.kind=3):cB x sec=(um x.n && kM x { eS x.kind with n:=x.n }):=by
 unfold cB kM;simp only [hk,eS,ui,rl,z1,z2,z3,z4];simp (decide:=true) only [if_true,if_false,cu9,Zt,af9]
 try simp only [Bool.and_assoc,Bool.and_comm,Bool.and_left_comm]
def N0 {x:cE} (hk:x.kind=4):cB x sec=(decide (sec=0) && kM x (eS x.kind)):=by
 unfold cB kM;simp only [hk,eS,ui,rl,z1,z2,z3,z4];simp (decide:=true) only [if_true,if_false,cu9,Zt,af9]
 try simp only [Bool.and_assoc,Bool.and_comm,Bool.and_left_comm]
def MT {x:cE} (hk:x.kind=5):cB x sec=(decide (sec=1) && decide (-128<=x.n) && decide (x.n<=255) && kM x { eS x.kind with n:=x.n }):=by
 unfold cB kM;simp only [hk,eS,ui,rl,z1,z2,z3,z4];simp (decide:=true) only [if_true,if_false,cu9,Zt,af9]
 try simp only [Bool.and_assoc,Bool.and_comm,Bool.and_left_comm]
def KZ {x:cE} (hk:x.kind=6):cB x sec=(decide (sec=1) && nz none x.e.ai && kM x { eS x.kind with e:=x.e }):=by
 unfold cB kM;simp only [hk,eS,ui,rl,z1,z2,z3,z4];simp (decide:=true) only [if_true,if_false,cu9,Zt,af9]
 try simp only [Bool.and_assoc,Bool.and_comm,Bool.and_left_comm]
def NU {x:cE} (hk:x.kind=7):cB x sec=(decide (sec=1) && decide (0<=x.n) && decide (x.n<=1048576) && kM x { eS x.kind with n:=x.n }):=by
 unfold cB kM;simp only [hk,eS,ui,rl,z1,z2,z3,z4];simp (decide:=true) only [if_true,if_false,cu9,Zt,af9]
 try simp only [Bool.and_assoc,Bool.and_comm,Bool.and_left_comm]
def HX {x:cE} (h1:x.kind≠1) (h2:x.kind≠2) (h3:x.kind≠3) (h4:x.kind≠4) (h5:x.kind≠5) (h6:x.kind≠6) (h7:x.kind≠7):cB x sec=false:=by
 unfold cB;rw [Y2 h1,Y2 h2,Y2 h3,Y2 h4,Y2 h5,Y2 h6,Y2 h7]
def Oi {h:Hp} (t:AW h) {x:cE} {p:Xac} {l c:Nat} (v:iT h p l x) :
  HC Tryz.prog 59 #[vB p l c x,.int .i64 0] h fun w h'=>w=Dy (cB x 0)/\Ext h h':=by
 refine bd (args:=[vB p l c x,.int .i64 0]) mixed Tryz.func59 ax (tR x.kind x.name x.inst.op x.inst.a x.inst.b x.inst.n x.inst.form p l c x.e.num x.n) ?_;unfold pX aY dN aG bj bY;refine bm ?_;intro g1 b1 e1 z1;have b1:bF g1 h.size 71 (encI p l c x):=b1;refine af b1 (x.kind,()) rfl (an ?_);refine bm ?_;intro g2 b2 e2 z2;refine ar b2 rfl aj ?_;intro g3 O k3 z3;have O:bF g3 g1.size 71 (encI none 0 0 (eS x.kind)):=O;have s1:=e1.size;have Y:=e2.st k3 (Zh _);have U:=e1.trans Y;have b1:=b1.ak Y aj;simp only [aE];refine af b1 (x.kind,()) rfl (an ?_);refine av (fun q=>?_) (fun q=>?_)
 ·have q:x.kind=1:=by simpa using q
  rw [Dh q];refine af b1 (x.name,()) rfl (an ?_);refine ar O rfl (by simp [encI]) ?_;intro J j u z4;have j:bF J g1.size 71 (encI none 0 0 { eS x.kind with name:=x.name }):=j;have G:=U.st u ad;have b1:=b1.ak u (by simp; omega);refine af b1 (x.name,()) rfl (an ?_);refine aK (uB x.name J (by have:=v.name; have:maxLen=9223372036854775807:=rfl; omega)) ?_;refine av (fun r=>?_) (fun r=>?_)
  ·have r:cX x.name.data.toList=false:=by simpa using r
   exact ⟨by rw [r]; rfl,G⟩
  have r:cX x.name.data.toList=true:=by simpa using r
  rw [r,Zt];have V:=oZ (L:=[]) (h0:=h) (y:={ eS x.kind with name:=x.name }) b1 j (v.lin.ak G) (gW.none J) G;exact V
 have q1:x.kind≠1:=by simpa using q
 refine av (fun q=>?_) (fun q=>?_)
 ·have q:x.kind=2:=by simpa using q
  rw [NP q];refine af b1 (x.inst.op,x.inst.a,x.inst.b,x.inst.n,x.inst.form,()) rfl (an ?_);refine af b1 ((p,l,c),(x.e.num:Int),()) rfl (an ?_);refine ar O rfl (by simp [encI]) ?_;intro J j u z4;have G:=U.st u ad;have b1:=b1.ak u (by simp; omega);refine ⟨⟨b1.cells [.slice p l c,.int .u32 x.e.num] rfl,trivial⟩,?_⟩;refine ar j rfl (by simp [encI,lz]) ?_;intro g5 Z k5 z5;have Z:bF g5 g1.size 71 (encI p l c { eS x.kind with inst:=x.inst,e:=x.e }):=Z;have e5:=G.st k5 ad;have b1:=b1.ak k5 (by simp; omega);refine af b1 (x.kind,x.name,x.inst.op,x.inst.a,x.inst.b,x.inst.n,x.inst.form,(p,l,c),(x.e.num:Int),x.n,()) rfl (an ?_);refine aJ (instruction_hc (c:=c) (t.ak e5 aj) (v.lin.ak e5) v.op) ?_;rintro _ g6 ⟨rfl,X⟩;refine ⟨(zi x.inst x.e,()),rfl,an ?_⟩;have e6:=e5.trans X;refine av (fun r=>?_) (fun r=>?_)
  ·have r:zi x.inst x.e=false:=by simpa using r
   exact ⟨by rw [r]; rfl,e6⟩
  have r:zi x.inst x.e=true:=by simpa using r
  rw [r];have b1:=b1.ak X aj;have Z:=Z.ak X aj;have V:=oZ (L:=[]) (h0:=h) (y:={ eS x.kind with inst:=x.inst,e:=x.e }) b1 Z (v.lin.ak e6) (v.lin.ak e6).vw e6;exact V
 have q2:x.kind≠2:=by simpa using q
 refine av (fun q=>?_) (fun q=>?_)
 ·have q:x.kind=3:=by simpa using q
  rw [Mr q];refine af b1 (x.n,()) rfl (an ?_);refine ar O rfl (by simp [encI]) ?_;intro J j u z4;have j:bF J g1.size 71 (encI none 0 0 { eS x.kind with n:=x.n }):=j;have G:=U.st u ad;have b1:=b1.ak u (by simp; omega);refine af b1 (x.n,()) rfl (an ?_);refine aK (EY J x.n) ?_;refine av (fun r=>?_) (fun r=>?_)
  ·have r:um x.n=false:=by simpa using r
   exact ⟨by rw [r]; rfl,G⟩
  have r:um x.n=true:=by simpa using r
  rw [r,Zt];have V:=oZ (L:=[]) (h0:=h) (y:={ eS x.kind with n:=x.n }) b1 j (v.lin.ak G) (gW.none J) G;exact V
 have q3:x.kind≠3:=by simpa using q
 refine av (fun q=>?_) (fun q=>?_)
 ·have q:x.kind=4:=by simpa using q
  rw [N0 q];have V:=oZ (L:=[]) (h0:=h) (y:=(eS x.kind)) b1 O (v.lin.ak U) (gW.none g3) U;exact V
 have q4:x.kind≠4:=by simpa using q
 refine av (fun q=>?_) (fun q=>?_)
 ·have q:x.kind=5:=by simpa using q
  rw [MT q];refine af b1 (x.n,()) rfl (an ?_);refine ar O rfl (by simp [encI]) ?_;intro J j u z4;have j:bF J g1.size 71 (encI none 0 0 { eS x.kind with n:=x.n }):=j;have G:=U.st u ad;have b1:=b1.ak u (by simp; omega);exact ⟨rfl,G⟩
 have q5:x.kind≠5:=by simpa using q
 refine av (fun q=>?_) (fun q=>?_)
 ·have q:x.kind=6:=by simpa using q
  rw [KZ q];refine af b1 ((p,l,c),(x.e.num:Int),()) rfl (an ?_);refine ar O rfl (by simp [encI]) ?_;intro J j u z4;have j:bF J g1.size 71 (encI p l c { eS x.kind with e:=x.e }):=j;have G:=U.st u ad;have b1:=b1.ak u (by simp; omega);exact ⟨rfl,G⟩
 have q6:x.kind≠6:=by simpa using q
 refine av (fun q=>?_) (fun q=>?_)
 ·have q:x.kind=7:=by simpa using q
  rw [NU q];refine af b1 (x.n,()) rfl (an ?_);refine ar O rfl (by simp [encI]) ?_;intro J j u z4;have j:bF J g1.size 71 (encI none 0 0 { eS x.kind with n:=x.n }):=j;have G:=U.st u ad;have b1:=b1.ak u (by simp; omega);exact ⟨rfl,G⟩
 have q7:x.kind≠7:=by simpa using q
 exact ⟨by rw [HX q1 q2 q3 q4 q5 q6 q7]; rfl,U⟩
def Lc {h:Hp} (t:AW h) {x:cE} {p:Xac} {l c:Nat} (v:iT h p l x) :
  HC Tryz.prog 59 #[vB p l c x,.int .i64 1] h fun w h'=>w=Dy (cB x 1)/\Ext h h':=by
 refine bd (args:=[vB p l c x,.int .i64 1]) mixed Tryz.func59 ax (tU x.kind x.name x.inst.op x.inst.a x.inst.b x.inst.n x.inst.form p l c x.e.num x.n) ?_;unfold pS aY dN aG bj bY;refine bm ?_;intro g1 b1 e1 z1;have b1:bF g1 h.size 71 (encI p l c x):=b1;refine af b1 (x.kind,()) rfl (an ?_);refine bm ?_;intro g2 b2 e2 z2;refine ar b2 rfl aj ?_;intro g3 V k3 z3;have V:bF g3 g1.size 71 (encI none 0 0 (eS x.kind)):=V;have s1:=e1.size;have Z:=e2.st k3 (Zh _);have X:=e1.trans Z;have b1:=b1.ak Z aj;simp only [aE];refine af b1 (x.kind,()) rfl (an ?_);refine av (fun q=>?_) (fun q=>?_)
 ·have q:x.kind=1:=by simpa using q
  rw [Dh q];refine af b1 (x.name,()) rfl (an ?_);refine ar V rfl (by simp [encI]) ?_;intro J j G z4;have j:bF J g1.size 71 (encI none 0 0 { eS x.kind with name:=x.name }):=j;have u:=X.st G ad;have b1:=b1.ak G (by simp; omega);refine af b1 (x.name,()) rfl (an ?_);refine aK (uB x.name J (by have:=v.name; have:maxLen=9223372036854775807:=rfl; omega)) ?_;refine av (fun r=>?_) (fun r=>?_)
  ·have r:cX x.name.data.toList=false:=by simpa using r
   exact ⟨by rw [r]; rfl,u⟩
  have r:cX x.name.data.toList=true:=by simpa using r
  rw [r,Zt];have U:=oZ (L:=[]) (h0:=h) (y:={ eS x.kind with name:=x.name }) b1 j (v.lin.ak u) (gW.none J) u;exact U
 have q1:x.kind≠1:=by simpa using q
 refine av (fun q=>?_) (fun q=>?_)
 ·have q:x.kind=2:=by simpa using q
  rw [NP q];refine af b1 (x.inst.op,x.inst.a,x.inst.b,x.inst.n,x.inst.form,()) rfl (an ?_);refine af b1 ((p,l,c),(x.e.num:Int),()) rfl (an ?_);refine ar V rfl (by simp [encI]) ?_;intro J j G z4;have u:=X.st G ad;have b1:=b1.ak G (by simp; omega);refine ⟨⟨b1.cells [.slice p l c,.int .u32 x.e.num] rfl,trivial⟩,?_⟩;refine ar j rfl (by simp [encI,lz]) ?_;intro g5 b5 k5 z5;have b5:bF g5 g1.size 71 (encI p l c { eS x.kind with inst:=x.inst,e:=x.e }):=b5;have e5:=u.st k5 ad;have b1:=b1.ak k5 (by simp; omega);exact ⟨rfl,e5⟩
 have q2:x.kind≠2:=by simpa using q
 refine av (fun q=>?_) (fun q=>?_)
 ·have q:x.kind=3:=by simpa using q
  rw [Mr q];refine af b1 (x.n,()) rfl (an ?_);refine ar V rfl (by simp [encI]) ?_;intro J j G z4;have j:bF J g1.size 71 (encI none 0 0 { eS x.kind with n:=x.n }):=j;have u:=X.st G ad;have b1:=b1.ak G (by simp; omega);refine af b1 (x.n,()) rfl (an ?_);refine aK (EY J x.n) ?_;refine av (fun r=>?_) (fun r=>?_)
  ·have r:um x.n=false:=by simpa using r
   exact ⟨by rw [r]; rfl,u⟩
  have r:um x.n=true:=by simpa using r
  rw [r,Zt];have U:=oZ (L:=[]) (h0:=h) (y:={ eS x.kind with n:=x.n }) b1 j (v.lin.ak u) (gW.none J) u;exact U
 have q3:x.kind≠3:=by simpa using q
 refine av (fun q=>?_) (fun q=>?_)
 ·have q:x.kind=4:=by simpa using q
  rw [N0 q];exact ⟨rfl,X⟩
 have q4:x.kind≠4:=by simpa using q
 refine av (fun q=>?_) (fun q=>?_)
 ·have q:x.kind=5:=by simpa using q
  rw [MT q];refine af b1 (x.n,()) rfl (an ?_);refine ar V rfl (by simp [encI]) ?_;intro J j G z4;have j:bF J g1.size 71 (encI none 0 0 { eS x.kind with n:=x.n }):=j;have u:=X.st G ad;have b1:=b1.ak G (by simp; omega);refine af b1 (x.n,()) rfl (an ?_);refine aQ (fun r=>?_) (fun r=>?_)
  ·refine af b1 (x.n,()) rfl (an ?_);refine av (fun O=>?_) (fun O=>?_)
   ·have O:¬ x.n<=255:=by simpa using O
    exact ⟨by rw [Y7 O,bz9]; rfl,u⟩
   have O:x.n<=255:=by simpa using O
   rw [Y6 O,Y6 (show -128<=x.n from r)];have U:=oZ (L:=[]) (h0:=h) (y:={ eS x.kind with n:=x.n }) b1 j (v.lin.ak u) (gW.none J) u;exact U
  ·exact ⟨by rw [Y7 (show ¬ -128<=x.n from r),bz9]; rfl,u⟩
 have q5:x.kind≠5:=by simpa using q
 refine av (fun q=>?_) (fun q=>?_)
 ·have q:x.kind=6:=by simpa using q
  rw [KZ q];refine af b1 ((p,l,c),(x.e.num:Int),()) rfl (an ?_);refine ar V rfl (by simp [encI]) ?_;intro J j G z4;have j:bF J g1.size 71 (encI p l c { eS x.kind with e:=x.e }):=j;have u:=X.st G ad;have b1:=b1.ak G (by simp; omega);refine af b1 ((p,l,c),(x.e.num:Int),()) rfl (an ?_);refine aJ (tT (c:=c) (v.lin.ak u).vw (by have:=v.lin.many; omega) v.lin.names) ?_;rintro _ g6 ⟨rfl,Y⟩;refine ⟨(nz none x.e.ai,()),rfl,an ?_⟩;have e6:=u.trans Y;refine av (fun r=>?_) (fun r=>?_)
  ·have r:nz none x.e.ai=false:=by simpa using r
   exact ⟨by rw [r]; rfl,e6⟩
  have r:nz none x.e.ai=true:=by simpa using r
  rw [r];have b1:=b1.ak Y aj;have j:=j.ak Y aj;have U:=oZ (L:=[]) (h0:=h) (y:={ eS x.kind with e:=x.e }) b1 j (v.lin.ak e6) (v.lin.ak e6).vw e6;exact U
 have q6:x.kind≠6:=by simpa using q
 refine av (fun q=>?_) (fun q=>?_)
 ·have q:x.kind=7:=by simpa using q
  rw [NU q];refine af b1 (x.n,()) rfl (an ?_);refine ar V rfl (by simp [encI]) ?_;intro J j G z4;have j:bF J g1.size 71 (encI none 0 0 { eS x.kind with n:=x.n }):=j;have u:=X.st G ad;have b1:=b1.ak G (by simp; omega);refine af b1 (x.n,()) rfl (an ?_);refine aQ (fun r=>?_) (fun r=>?_)
  ·refine af b1 (x.n,()) rfl (an ?_);refine av (fun O=>?_) (fun O=>?_)
   ·have O:¬ x.n<=1048576:=by simpa using O
    exact ⟨by rw [Y7 O,bz9]; rfl,u⟩
   have O:x.n<=1048576:=by simpa using O
   rw [Y6 O,Y6 (show 0<=x.n from r)];have U:=oZ (L:=[]) (h0:=h) (y:={ eS x.kind with n:=x.n }) b1 j (v.lin.ak u) (gW.none J) u;exact U
  ·exact ⟨by rw [Y7 (show ¬ 0<=x.n from r),bz9]; rfl,u⟩
 have q7:x.kind≠7:=by simpa using q
 exact ⟨by rw [HX q1 q2 q3 q4 q5 q6 q7]; rfl,X⟩
section
variable {α:Type}
def vE (en:α->Xab) (D:List (Xaa × α)):List (Xaa × Xab):=D.map fun p=>(p.1,en p.2)
def gE (D:List (Xaa × α)) (s:Xaa):Option α:=(D.find? fun p=>decide (s=p.1)).map (·.2)
def pE (D:List (Xaa × α)) (s:Xaa) (v:α):List (Xaa × α):=if (gE D s).isSome then D.map fun p=>if s=p.1 then (p.1,v) else p else D++[(s,v)]
def mF (en:α->Xab) (D:List (Xaa × α)) (s:Xaa):look (vE en D) s=(gE D s).map en:=by
 unfold look gE vE
 induction D with
 | nil=>rfl
 | cons p D j =>
  by_cases h:s=p.1
  ·simp [h]
  ·simp only [List.map_cons,List.find?_cons,decide_eq_false h];exact j
def G5 (en:α->Xab) (D:List (Xaa × α)) (s:Xaa) (v:α):jn (vE en D) s (en v)=vE en (pE D s v):=by
 unfold jn pE;rw [mF];cases h:gE D s with
 | none=>simp [vE]
 | some q =>
  simp only [Option.map_some,Option.isSome_some,if_true,vE,List.map_map];refine ZM fun p j=>?_
  simp only [Function.comp];split <;> simp_all
def wY (D:List (Xaa × α)) (s:Xaa) (v:α):(pE D s v).length=if (gE D s).isSome then D.length else D.length+1:=by
 unfold pE;split <;> simp
def w7 (D:List (Xaa × α)) (s t:Xaa) (v:α):gE (D++[(s,v)]) t=(gE D t).or (if t=s then some v else none):=by
 unfold gE;rw [bh9];cases h:D.find? (fun p=>decide (t=p.1)) with
 | some q=>simp
 | none =>
  simp only [Option.none_or,Option.map_none,List.find?_cons,List.find?_nil]
  by_cases e:t=s
  ·simp [e]
  ·simp [e]
def Gx (D:List (Xaa × α)) (s t:Xaa) (v:α) (hs:(gE D s).isSome):gE (D.map fun p=>if s=p.1 then (p.1,v) else p) t=if t=s then some v else gE D t:=by
 unfold gE at *
 induction D with
 | nil=>simp at hs
 | cons p D O =>
  by_cases h:s=p.1
  ·by_cases e:t=s
   ·simp [h,e]
   ·have e2:¬ t=p.1:=fun k=>e (k.trans h.symm)
    have U:∀ l:List (Xaa × α),(List.find? (fun p=>decide (t=p.1)) (List.map (fun p=>if s=p.1 then (p.1,v) else p) l)).map (·.2)=(List.find? (fun p=>decide (t=p.1)) l).map (·.2):=by
     intro l
     induction l with
     | nil=>rfl
     | cons q l u =>
      by_cases G:s=q.1
      ·have:¬ t=q.1:=fun k=>e (k.trans G.symm)
       simp only [List.map_cons,List.find?_cons,if_pos G,decide_eq_false this];exact u
      ·simp only [List.map_cons,List.find?_cons,if_neg G]
       by_cases j:t=q.1
       ·simp [j]
       ·simp only [decide_eq_false j];exact u
    simp only [List.map_cons,List.find?_cons,if_pos h,decide_eq_false e2,if_neg e];exact U D
  ·have J:(Option.map (fun x=>x.2) (List.find? (fun p=>decide (s=p.1)) D)).isSome:=by
    simpa [List.find?_cons,decide_eq_false h] using hs
   simp only [List.map_cons,List.find?_cons,if_neg h]
   by_cases j:t=p.1
   ·have:¬ t=s:=fun k=>h (k.symm.trans j)
    simp [j,if_neg (j▸this)]
   ·simp only [decide_eq_false j];exact O J
def N9 (D:List (Xaa × α)) (s:Xaa) (v:α) (t:Xaa):gE (pE D s v) t=if t=s then some v else gE D t:=by
 unfold pE;split
 ·rename_i h;exact Gx D s t v h
 ·rename_i h;rw [w7]
  by_cases e:t=s
  ·subst e
   have:gE D t=none:=by simpa using h
   rw [this]; simp
  ·simp [e]
def dF (f:Xaa->Option α) (s:Xaa) (v:α):Xaa->Option α:=fun t=>if t=s then some v else f t
def dU (en:α->Xab) (h:Hp) (g:Nat) (f:Xaa->Option α) (n:Nat):Prop:=∃ D:List (Xaa × α),dW h g (vE en D)/\(∀ s,gE D s=f s)/\D.length=n
def dU.ak {en:α->Xab} {ws:List Nat} {h h':Hp} {g:Nat} {f:Xaa->Option α} {n:Nat} (m:dU en h g f n) (k:Ch ws h h') (hw:g∉ws):dU en h' g f n:=by
 obtain ⟨D,m,r⟩:=m;exact ⟨D,m.ak k hw,r⟩
def dU.lt {en:α->Xab} {h:Hp} {g:Nat} {f:Xaa->Option α} {n:Nat} (m:dU en h g f n):g<h.size:=by
 obtain ⟨D,m,r⟩:=m;exact m.lt
def dU.new {en:α->Xab} {h:Hp} {g:Nat} (m:dW h g []):dU en h g (fun _=>none) 0:=⟨[],m,fun s=>rfl,rfl⟩
def dU.jn {en:α->Xab} {h':Hp} {g:Nat} {f:Xaa->Option α} {n:Nat} {D:List (Xaa × α)} (j:∀ s,gE D s=f s) (hn:D.length=n) {s:Xaa} {v:α} (m:dW h' g (Sx.jn (vE en D) s (en v))):dU en h' g (dF f s v) (if (f s).isSome then n else n+1):=by
 rw [G5] at m;refine ⟨_,m,fun t=>?_,?_⟩
 ·rw [N9,j t]; rfl
 ·rw [wY,j s,hn]
end
def eB (b:Bool):Xab:=.bool b
def SX:Tryz.prog.underlying 58=some (.map 9 4):=ax
def xg:Tryz.prog.underlying 9=some .string:=ax
def Nv:(Tryz.prog.info? 4).bind (·.zero)=some (.bool false):=ax
def Ba (h:Hp) (g:Nat) (D:List Xaa):Prop:=∃ n,dU eB h g (fun s=>if fZ D s then some true else none) n
def Ba.ak {ws:List Nat} {h h':Hp} {g:Nat} {D:List Xaa} (m:Ba h g D) (k:Ch ws h h') (hw:g∉ws):Ba h' g D:=by
 obtain ⟨n,m⟩:=m;exact ⟨n,m.ak k hw⟩
def Ba.lt {h:Hp} {g:Nat} {D:List Xaa} (m:Ba h g D):g<h.size:=by
 obtain ⟨n,m⟩:=m;exact m.lt
section
variable {L:Lp} {K:Xab->Hp->Prop} {h:Hp} {g:Nat} {D:List Xaa}
def NX (m:Ba h g D) (s:Xaa) {k:Bool->T} (hk:k (fZ D s) L K h):T.eh Tryz.prog (Instr.lookup 58 (.map (some g)) (.string s) false) false [(false,[.bool])] k L K h:=by
 obtain ⟨n,D',m,j,hn⟩:=m;refine iB SX xg Nv m s false _ ?_;refine ⟨(fZ D s,()),?_,hk⟩;simp only [Bool.false_eq_true,if_false];rw [mF,j s];dsimp only
 all_goals (cases fZ D s <;> rfl)
def de (m:Ba h g D) {s:Xaa} (hs:s.size<=maxLen) {k:T} (hk:∀ h',Ba h' g (s::D)->Ch [g] h h'->h'.size=h.size->k L K h') :
  T.et Tryz.prog (Instr.mapUpdate 58 (.map (some g)) (.string s) (.bool true)) k L K h:=by
 obtain ⟨n,D',m,j,hn⟩:=m;refine fp SX xg m hs _ _ ?_;intro h' m' c' u
 have:=dU.jn (en:=eB) j hn (v:=true) m'
 have G:dF (fun t=>if fZ D t then some true else none) s true=fun t=>if fZ (s::D) t then some true else none:=by
  funext t
  unfold dF fZ
  by_cases h1:t=s
  ·rw [Y8 h1,Y8];simp [h1]
  ·rw [Y2 h1]
   have:¬ s=t:=fun e=>h1 e.symm
   rw [List.any_cons,Y7 this,bl9]
 rw [G] at this;exact hk h' ⟨_,this⟩ c' u
def WJ {t:TypeId} {k:Option Nat->T} (hk:∀ h',Ba h' h.size []->Ext h h'->h'.size=h.size+1->k (some h.size) L K h'):T.eh Tryz.prog (Instr.makeMap t none) false [(false,[.map 0 0])] k L K h:=by
 refine jJ _ ?_;intro h' m e z;exact ⟨(some h.size,()),rfl,hk h' ⟨0,dU.new m⟩ e z⟩
end
structure Dr (h:Hp) (p:Xac) (l:Nat) (us:List cE):Prop where
 len:l=us.length
 many:us.length<=2^60
 cells:∀ i,(hi:i<us.length)->∃ a q m c,p=some a/\aI h (a.add (i*10)) 0 (encI q m c us[i])/\iT h q m us[i]
def Dr.ak {h h':Hp} {p:Xac} {l:Nat} {us:List cE} (v:Dr h p l us) (k:Ext h h'):Dr h' p l us :=
 ⟨v.len,v.many,fun i hi=>by
  obtain ⟨a,q,m,c,j,hc,hv⟩:=v.cells i hi;exact ⟨a,q,m,c,j,aT k aj _ _ hc,hv.ak k⟩⟩
def Uy (p:Xac) (l c:Nat) (x:ry):List Xab:=[.string x.1,.slice p l c,.int .u32 x.2.num]
structure tQ (h:Hp) (p:Xac) (l:Nat) (us:List ry):Prop where
 len:l=us.length
 many:us.length<=2^60
 cells:∀ i,(hi:i<us.length)->∃ a q m c,p=some a/\aI h (a.add (i*3)) 0 (Uy q m c us[i])/\ru h q m us[i].2/\us[i].1.size<=maxLen
def tQ.ak {h h':Hp} {p:Xac} {l:Nat} {us:List ry} (v:tQ h p l us) (k:Ext h h'):tQ h' p l us :=
 ⟨v.len,v.many,fun i hi=>by
  obtain ⟨a,q,m,c,j,hc,hv,hs⟩:=v.cells i hi;exact ⟨a,q,m,c,j,aT k aj _ _ hc,hv.ak k,hs⟩⟩
structure W3 (h:Hp) (p:Xac) (l:Nat) (us:List Xaa):Prop where
 len:l=us.length
 many:us.length<=2^60
 cells:∀ i,(hi:i<us.length)->∃ a,p=some a/\aI h (a.add (i*1)) 0 [.string us[i]]/\us[i].size<=maxLen
def W3.ak {h h':Hp} {p:Xac} {l:Nat} {us:List Xaa} (v:W3 h p l us) (k:Ext h h'):W3 h' p l us :=
 ⟨v.len,v.many,fun i hi=>by
  obtain ⟨a,j,hc,hs⟩:=v.cells i hi;exact ⟨a,j,aT k aj _ _ hc,hs⟩⟩
structure cz where
 p:Xac
 l:Nat
 c:Nat
def cz.v (s:cz):Xab:=.slice s.p s.l s.c
structure oB (h:Hp) (a b c d:cz) (u:bX):Prop where
 text:Dr h a.p a.l u.text
 data:Dr h b.p b.l u.data
 bh:tQ h c.p c.l u.bh
 aU:W3 h d.p d.l u.aU
def oB.ak {h h':Hp} {a b c d:cz} {u:bX} (v:oB h a b c d u) (k:Ext h h'):oB h' a b c d u:=⟨v.text.ak k,v.data.ak k,v.bh.ak k,v.aU.ak k⟩
def CP (a b c d:cz):Xab:=.agg #[a.v,b.v,c.v,d.v]
def O2:Tryz.prog.underlying 79=some (.slice 43):=ax
def Xr:(Tryz.prog.info? 43).map (fun i=>(i.zero,i.size,i.bytes))=some (some (.slice none 0 0),1,24):=ax
def Om (p1:Xac) (u G:Nat) (J:Xac) (O U:Nat):Instr.fill (fun j=>some (j*1,1)) ((Array.range (2*1)).map ((Value.slice none 0 0).cells[· % (Value.slice none 0 0).cells.size]!)) [(0,.slice p1 u G),(1,.slice J O U)]=some ([.slice p1 u G,.slice J O U]:List Xab).toArray:=ax
def yM (u:bX) (k:Nat):List cE:=if k=0 then u.text else u.data
def ul (u:bX) (k:Nat):List Xaa:=if k=0 then [] else if k=1 then cR [] u.text else cR (cR [] u.text) u.data
def Af (u:bX) (k:Nat):Bool:=if k=0 then tA u else if k=1 then (eW 1 (cR [] u.text) u.data && (gy (cR (cR [] u.text) u.data) u.bh && cV u.names dH u.aU)) else (gy (cR (cR [] u.text) u.data) u.bh && cV u.names dH u.aU)
def Js (u:bX) {k:Nat} (hk:k<2):Af u k=(eW k (ul u k) (yM u k) && Af u (k+1)):=by
 have:k=0\/k=1:=ad
 rcases this with rfl | rfl
 ·simp [Af,ul,yM,tA,Bool.and_assoc]
 ·simp [Af,ul,yM]
def Kf (u:bX) {k:Nat} (hk:k<2):ul u (k+1)=cR (ul u k) (yM u k):=by
 have:k=0\/k=1:=ad
 rcases this with rfl | rfl <;> rfl
def FG (D:List Xaa) (l:List cE) {i:Nat} (hi:i<l.length):cR D (l.take (i+1))=tM (cR D (l.take i)) l[i]:=by
 unfold cR;rw [Y3 hi,ZY] <;> rfl
def Fa (D:List Xaa) (l:List ry) {i:Nat} (hi:i<l.length):aZ D (l.take (i+1))=l[i].1::aZ D (l.take i):=by
 unfold aZ;rw [Y3 hi,ZY] <;> rfl
def C5 (sec:Nat) (D:List Xaa) (l:List cE) {i:Nat} (hi:i<l.length):eW sec D (l.drop i)=(xM sec D l[i] && eW sec (tM D l[i]) (l.drop (i+1))):=by
 rw [Zg hi,eW]
def Fp (D:List Xaa) (l:List ry) {i:Nat} (hi:i<l.length):gy D (l.drop i)=(Cp D l[i] && gy (l[i].1::D) (l.drop (i+1))):=by
 rw [Zg hi,gy]
def nO (l:List Xaa) (i:Nat):Xaa:=if i=0 then dH else l.getD (i-1) dH
def vv (D:List Xaa) (l:List Xaa) {i:Nat} (hi:i<l.length):cV D (nO l i) (l.drop i)=(Rg D (nO l i) l[i] && cV D (nO l (i+1)) (l.drop (i+1))):=by
 rw [Zg hi,cV]
 congr 2
 unfold nO;rw [Y2 ad,Nat.add_sub_cancel,ZV,Y1 hi] <;> rfl
def FV (h:Hp) (g:Nat) (D:List Xaa):Prop:=Ba h g D/\∀ s,s∈D->cX s.data.toList=true
def FV.ak {ws:List Nat} {h h':Hp} {g:Nat} {D:List Xaa} (m:FV h g D) (k:Ch ws h h') (hw:g∉ws):FV h' g D:=⟨m.1.ak k hw,m.2⟩
def Em {s:Xaa} (h:cX s.data.toList=true):hZ dH s:=by
 unfold cX at h;simp only [Bool.and_eq_true,decide_eq_true_eq] at h;have h2:=h.1.1.1.1;show (dH.data.toList:List UInt8)<s.data.toList
 have:(dH.data.toList:List UInt8)=[]:=rfl
 rw [this];cases hs:s.data.toList with
 | nil=>rw [hs] at h2; simp at h2
 | cons a l=>exact List.Lex.nil
def vp {D:List Xaa} {s:Xaa} (h:fZ D s=true):s∈D:=by
 unfold fZ at h;simp only [List.any_eq_true,decide_eq_true_eq] at h;obtain ⟨y,hy,rfl⟩:=h;exact hy
def P5 {h:Hp} (t:AW h) {x:cE} {p:Xac} {l c k:Nat} (v:iT h p l x) (hk:k<2) :
  HC Tryz.prog 59 #[vB p l c x,.int .i64 (k:Int)] h fun w h'=>w=Dy (cB x k)/\Ext h h':=by
 have:k=0\/k=1:=ad
 rcases this with rfl | rfl
 ·exact Oi t v
 ·exact Lc t v
def vK {h:Hp} (t:AW h) {a b c d:cz} {u:bX} (v:oB h a b c d u):HC Tryz.prog 30 #[CP a b c d] h fun w h'=>w=.int .i64 (dL u:Nat)/\Ext h h':=by
 refine bd (args:=[CP a b c d]) mixed Tryz.func30 ax (yK a.p a.l a.c b.p b.l b.c c.p c.l c.c d.p d.l d.c) ?_;unfold wb bf bk bH aP aY cH dN br bU bt aG bj bY aR;refine bm ?_;intro g1 b1 e1 z1;have b1:bF g1 h.size 47 [a.v,b.v,c.v,d.v]:=b1;have m1:=v.text.many;have m2:=v.data.many;have m3:=v.bh.many;have m4:=v.aU.many;have n1:=v.text.len;have n2:=v.data.len;have n3:=v.bh.len;have n4:=v.aU.len;have s1:=e1.size;simp only [aE];refine af b1 ((a.p,a.l,a.c),()) rfl (an ?_);refine af b1 ((b.p,b.l,b.c),()) rfl (an ?_);rw [wrap_i64 ad ad];unfold dL vj;refine av (fun q=>?_) (fun q=>?_)
 ·have q:=Y5 q;exact ⟨by rw [Y6 (show 8192<u.text.length+u.data.length from ad)]; rfl,e1⟩
 have q:=Zc q;rw [Y7 (show ¬ 8192<u.text.length+u.data.length from ad),bl9];refine af b1 ((c.p,c.l,c.c),()) rfl (an ?_);refine av (fun q=>?_) (fun q=>?_)
 ·have q:=Y5 q;exact ⟨by rw [Y6 (show 8192<u.bh.length from ad)]; rfl,e1⟩
 have q:=Zc q;rw [Y7 (show ¬ 8192<u.bh.length from ad),Y2 aj];refine WJ ?_;intro g2 m e2 z2;have V:=b1.ak e2 aj;refine af V ((a.p,a.l,a.c),()) rfl (an ?_);refine af V ((b.p,b.l,b.c),()) rfl (an ?_);refine km O2 Xr ad ad (Om a.p a.l a.c b.p b.l b.c) ?_;intro g3 b3 e3 z3;have m:=m.ak e3 (by have:=m.lt; simp);have e03:=(e1.trans e2).trans e3;have b3':=V.ak e3 aj;have s2:=e2.size;clear b1 V;have hsec:∀ k,k<2->∃ s:cz,([a.v,b.v]:List Xab).drop k=s.v::([a.v,b.v]:List Xab).drop (k+1)/\Dr h s.p s.l (yM u k):=by
  intro k hk
  have:k=0\/k=1:=ad
  rcases this with rfl | rfl
  ·exact ⟨a,rfl,v.text⟩
  ·exact ⟨b,rfl,v.data⟩
 have s3:=e3.size;have b3:bF g3 g2.size 43 [a.v,b.v]:=b3;generalize hU:tA u=U;refine aX (cs:=[(false,[.int .i64]),(false,[.int .i64])]) (fun y w h'=>∃ k:Nat,y.2.1=(k:Int)/\k<=2/\w=2-k/\Ext h h'/\bF h' h.size 47 [a.v,b.v,c.v,d.v]/\bF h' g2.size 43 [a.v,b.v]/\FV h' g1.size (ul u k)/\U=Af u k) ((0:Int),(0:Int),()) 2 rfl
  ⟨0,rfl,ad,ad,e03,b3',b3,⟨m,by simp [ul]⟩,hU.symm⟩ ?_
 rintro ⟨n21,n22,⟨⟩⟩ w h4 ⟨k,hk,hk2,rfl,e4,b1,V,m,hu⟩;simp only at hk;subst hk;refine an ?_;refine aQ (fun q=>?_) (fun q=>?_)
 ·have hk:k<2:=ad
  obtain ⟨sl,hsl,vs⟩:=hsec k hk;refine ay ⟨ad,ad⟩ (aw rfl ?_);rw [aE];refine af V ((sl.p,sl.l,sl.c),()) (by rw [show 0+(k:Int).toNat*1=k from ad,hsl]; rfl) ?_;refine an ?_;have lk:=vs.len;have mk:=vs.many;generalize hl:yM u k=l at vs lk mk;have J:U=(eW k (cR (ul u k) (l.take 0)) (l.drop 0) && Af u (k+1)):=by
   rw [hu,Js u hk,hl] <;> rfl
  refine aX (cs:=[(false,[.int .i64]),(false,[.int .i64])]) (fun y w h'=>∃ i:Nat,y.2.1=(i:Int)/\i<=l.length/\w=l.length-i/\Ext h h'/\bF h' h.size 47 [a.v,b.v,c.v,d.v]/\bF h' g2.size 43 [a.v,b.v]/\FV h' g1.size (cR (ul u k) (l.take i))/\U=(eW k (cR (ul u k) (l.take i)) (l.drop i) && Af u (k+1))) (n21,(0:Int),()) l.length rfl
   ⟨0,rfl,ad,ad,e4,b1,V,m,J⟩ ?_
  clear hu J m b1 V e4;rintro ⟨Y,n28,⟨⟩⟩ w h5 ⟨i,hi,hile,rfl,e5,b1,V,m,hu⟩;simp only at hi;subst hi;refine an ?_;refine aQ (fun q2=>?_) (fun q2=>?_)
  ·have j:i<l.length:=ad
   obtain ⟨aa,pp,ll,cc,rfl',hc,va⟩:=(vs.ak e5).cells i j;rw [C5 k _ l j] at hu;have G:=FG (ul u k) l j;generalize l[i]=x at hc va hu G;refine ay ⟨ad,ad⟩ (aw rfl' ?_);rw [show Int.toNat (i:Int)=i from ad];refine az (x.kind,x.name,x.inst.op,x.inst.a,x.inst.b,x.inst.n,x.inst.form,(pp,ll,cc),(x.e.num:Int),x.n,()) hc (an ?_);refine bm ?_;intro h6 b6 e6 z6;refine ar b6 rfl aj ?_;intro h7 b7 k7 z7;have b7:bF h7 h5.size 71 (encI pp ll cc x):=b7;have O:Ext h5 h7:=e6.st k7 (Zh _);have e7:=e5.trans O;simp only [aE];refine af b7 (x.kind,x.name,x.inst.op,x.inst.a,x.inst.b,x.inst.n,x.inst.form,(pp,ll,cc),(x.e.num:Int),x.n,()) rfl (an ?_);refine aJ (P5 (c:=cc) (t.ak e7 aj) (va.ak O) hk) ?_;rintro _ h8 ⟨rfl,e8⟩;refine ⟨((if cB x k then 0 else 31:Int),()),rfl,an ?_⟩;have e58:=O.trans e8;have X:=e5.trans e58;have b1:=b1.ak e58 aj;have V:=V.ak e58 aj;have m:=m.ak e58 aj;have b8:=b7.ak e8 aj;refine av (fun r=>?_) (fun r=>?_)
   ·have r:cB x k=false:=by
     cases hr:cB x k with
     | false=>rfl
     | true=>rw [hr] at r; simp at r
    exact ⟨by rw [hu,xM,r]; rfl,X⟩
   have r:cB x k=true:=by
    cases hr:cB x k with
    | true=>rfl
    | false=>rw [hr] at r; simp at r
   have hno:∀ D,xM k D x=!(decide (x.kind=1) && fZ D x.name):=fun D=>by rw [xM,r]; rfl
   rw [hno] at hu;refine af b8 (x.kind,()) rfl (an ?_);refine av (fun Z=>?_) (fun Z=>?_)
   ·have Z:x.kind=1:=by simpa using Z
    rw [Y6 Z,Zt] at hu;have hle:cX x.name.data.toList=true:=by
     rw [Dh Z,Zz] at r;exact r.1
    refine af b8 (x.name,()) rfl (an ?_);refine NX m.1 x.name ?_;refine av (fun r2=>?_) (fun r2=>?_)
    ·exact ⟨by rw [hu,r2]; rfl,X⟩
    rw [r2] at hu;refine af b8 (x.kind,()) rfl (an ?_);refine bC (by simpa using Z) ?_;refine af b8 (x.name,()) rfl (an ?_);refine de m.1 va.name ?_;intro h9 m9 k9 z9;have e09:Ext h h9:=X.st k9 ad;have s5:=e5.size;have hadd:tM (cR (ul u k) (l.take i)) x=x.name::cR (ul u k) (l.take i):=by unfold tM; rw [Y8 Z]
    refine aH (cs:=[(false,[.int .i64]),(false,[.int .i64])]) (Y,((i+1:Nat):Int),()) (l.length-(i+1)) rfl ad (by rw [wrap_i64 ad ad]; rfl) ?_;refine ⟨i+1,rfl,ad,rfl,e09,b1.ak k9 (by simp; omega),V.ak k9 (by simp; omega),by rw [G,hadd]; exact ⟨m9,fun s hs=>(Zo.1 hs).elim (fun e=>by rw [e]; exact hle) (m.2 s)⟩,by rw [hu,G]; rfl⟩
   ·have Z:¬ x.kind=1:=by simpa using Z
    rw [Y7 Z] at hu;refine af b8 (x.kind,()) rfl (an ?_);refine bP (by simpa using Z) ?_;have hadd:tM (cR (ul u k) (l.take i)) x=cR (ul u k) (l.take i):=by unfold tM; rw [Y2 Z]
    refine aH (cs:=[(false,[.int .i64]),(false,[.int .i64])]) (Y,((i+1:Nat):Int),()) (l.length-(i+1)) rfl ad (by rw [wrap_i64 ad ad]; rfl) ?_;refine ⟨i+1,rfl,ad,rfl,X,b1,V,by rw [G,hadd]; exact m,by rw [hu,G]; rfl⟩
  ·have j:i=l.length:=ad
   subst j;rw [ZA] at m hu;rw [al9,eW,Zt] at hu;refine aH (cs:=[(false,[.int .i64]),(false,[.int .i64])]) (Y,((k+1:Nat):Int),()) (2-(k+1)) rfl ad (by rw [wrap_i64 ad ad]; rfl) ?_;refine ⟨k+1,rfl,ad,rfl,e5,b1,V,by rw [Kf u hk,hl]; exact m,hu⟩
 ·have hk:k=2:=ad
  subst hk;have hu:U=(gy (cR (cR [] u.text) u.data) u.bh && cV u.names dH u.aU):=hu;have m:FV h4 g1.size (cR (cR [] u.text) u.data):=m;generalize hD:cR (cR [] u.text) u.data=D at hu m;have hN:u.names=aZ D u.bh:=by rw [<- hD]; rfl
  rw [hN] at hu;refine af b1 ((c.p,c.l,c.c),()) rfl (an ?_);have J:U=(gy (aZ D (u.bh.take 0)) (u.bh.drop 0) && cV (aZ D u.bh) dH u.aU):=hu;refine aX (cs:=[(false,[.int .i64]),(false,[.int .i64])]) (fun y w h'=>∃ i:Nat,y.2.1=(i:Int)/\i<=u.bh.length/\w=u.bh.length-i/\Ext h h'/\bF h' h.size 47 [a.v,b.v,c.v,d.v]/\FV h' g1.size (aZ D (u.bh.take i))/\U=(gy (aZ D (u.bh.take i)) (u.bh.drop i) && cV (aZ D u.bh) dH u.aU)) (n21,(0:Int),()) u.bh.length rfl
   ⟨0,rfl,ad,ad,e4,b1,m,J⟩ ?_
  clear hu J m b1 V e4;rintro ⟨Y,n28,⟨⟩⟩ w h5 ⟨i,hi,hile,rfl,e5,b1,m,hu⟩;simp only at hi;subst hi;refine an ?_;have s5:=e5.size;refine av (fun q2=>?_) (fun q2=>?_)
  ·have q2:=Y5 q2;have j:i<u.bh.length:=ad
   obtain ⟨aa,pp,ll,cc,rfl',hc,va,vn⟩:=(v.bh.ak e5).cells i j;rw [Fp _ _ j] at hu;have G:=Fa D u.bh j;generalize u.bh[i]=x at hc va vn hu G;refine ay ⟨ad,ad⟩ (aw rfl' ?_);rw [show Int.toNat (i:Int)=i from ad];refine az (x.1,(pp,ll,cc),(x.2.num:Int),()) hc (an ?_);refine bm ?_;intro h6 b6 e6 z6;refine ar b6 rfl aj ?_;intro h7 b7 k7 z7;have b7:bF h7 h5.size 100 (Uy pp ll cc x):=b7;have O:Ext h5 h7:=e6.st k7 (Zh _);have e7:=e5.trans O;simp only [aE];have b1:=b1.ak O aj;have m:=m.ak O aj;unfold Cp at hu;refine af b7 (x.1,()) rfl (an ?_);refine NX m.1 x.1 ?_;refine av (fun r=>?_) (fun r=>?_)
   ·exact ⟨by rw [hu,r]; rfl,e7⟩
   rw [r] at hu;refine af b7 (x.1,()) rfl (an ?_);refine aK (uB x.1 h7 (by have:maxLen=9223372036854775807:=rfl; omega)) ?_;refine av (fun r=>?_) (fun r=>?_)
   ·have r:cX x.1.data.toList=false:=by simpa using r
    exact ⟨by rw [hu,r]; rfl,e7⟩
   have hle:cX x.1.data.toList=true:=by simpa using r
   rw [hle] at hu;refine af b7 ((pp,ll,cc),(x.2.num:Int),()) rfl (an ?_);refine aJ (tT (c:=cc) (va.ak O).vw (by have:=va.many; omega) va.names) ?_;rintro _ h8 ⟨rfl,e8⟩;refine ⟨(nz none x.2.ai,()),rfl,an ?_⟩;have X:=e7.trans e8;have b1:=b1.ak e8 aj;have m:=m.ak e8 aj;have b8:=b7.ak e8 aj;refine av (fun r=>?_) (fun r=>?_)
   ·have r:nz none x.2.ai=false:=by simpa using r
    exact ⟨by rw [hu,r]; rfl,X⟩
   have r:nz none x.2.ai=true:=by simpa using r
   rw [r] at hu;refine af b8 (x.1,()) rfl (an ?_);refine de m.1 vn ?_;intro h9 m9 k9 z9;have e09:Ext h h9:=X.st k9 ad;refine aH (cs:=[(false,[.int .i64]),(false,[.int .i64])]) (Y,((i+1:Nat):Int),()) (u.bh.length-(i+1)) rfl ad (by rw [wrap_i64 ad ad]; rfl) ?_;refine ⟨i+1,rfl,ad,rfl,e09,b1.ak k9 (by simp; omega),by rw [G]; exact ⟨m9,fun s hs=>(Zo.1 hs).elim (fun e=>by rw [e]; exact hle) (m.2 s)⟩,by rw [hu,G]; rfl⟩
  have q2:=Zc q2;have j:i=u.bh.length:=ad
  subst j;rw [ZA] at m hu;rw [al9,gy,Zt] at hu;generalize hE:aZ D u.bh=E at m hu;refine af b1 ((d.p,d.l,d.c),()) rfl (an ?_);have J:U=cV E (nO u.aU 0) (u.aU.drop 0):=hu;refine aX (cs:=[(false,[.int .i64]),(false,[.int .i64])]) (fun y w h'=>∃ i:Nat,y.2.1=(i:Int)/\i<=u.aU.length/\w=u.aU.length-i/\Ext h h'/\bF h' h.size 47 [a.v,b.v,c.v,d.v]/\FV h' g1.size E/\U=cV E (nO u.aU i) (u.aU.drop i)) (Y,(0:Int),()) u.aU.length rfl
   ⟨0,rfl,ad,ad,e5,b1,m,J⟩ ?_
  clear hu J m b1 e5 s5;rintro ⟨n31,n32,⟨⟩⟩ w h6 ⟨i,hi,hile,rfl,e6,b1,m,hu⟩;simp only at hi;subst hi;refine an ?_;refine aQ (fun q3=>?_) (fun q3=>?_)
  ·have j:i<u.aU.length:=ad
   obtain ⟨aa,rfl',hc,va⟩:=(v.aU.ak e6).cells i j;rw [vv _ _ j] at hu;unfold Rg at hu;refine ay ⟨ad,ad⟩ (aw rfl' ?_);rw [show Int.toNat (i:Int)=i from ad];refine az (u.aU[i],()) hc (an ?_);refine NX m.1 _ ?_;refine av (fun r=>?_) (fun r=>?_)
   ·have r:fZ E u.aU[i]=false:=by simpa using r
    exact ⟨by rw [hu,r]; rfl,e6⟩
   have r:fZ E u.aU[i]=true:=by simpa using r
   rw [r,Zt] at hu;refine aQ (fun r2=>?_) (fun r2=>?_)
   ·refine af b1 ((d.p,d.l,d.c),()) rfl (an ?_);rw [wrap_i64 ad ad];obtain ⟨ab,rfl'',hc',va'⟩:=(v.aU.ak e6).cells (i-1) ad;refine ay ⟨ad,ad⟩ (aw rfl'' ?_);rw [show Int.toNat ((i:Int)-1)=i-1 from ad];refine az (u.aU[i-1],()) hc' (an ?_);have hla:nO u.aU i=u.aU[i-1]:=by
     unfold nO;rw [Y2 ad,ZV,Y1 ad] <;> rfl
    rw [leB];rw [hla] at hu;refine av (fun r3=>?_) (fun r3=>?_)
    ·have r3:decide (hZ u.aU[i-1] u.aU[i])=false:=by simpa using r3
     exact ⟨by rw [hu,r3]; rfl,e6⟩
    ·have r3:decide (hZ u.aU[i-1] u.aU[i])=true:=by simpa using r3
     rw [r3,Zt] at hu;refine aH (cs:=[(false,[.int .i64]),(false,[.int .i64])]) (n31,((i+1:Nat):Int),()) (u.aU.length-(i+1)) rfl ad (by rw [wrap_i64 ad ad]; rfl) ?_;exact ⟨i+1,rfl,ad,rfl,e6,b1,m,hu⟩
   ·have hi0:i=0:=ad
    subst hi0;have hg:decide (hZ (nO u.aU 0) u.aU[0])=true:=Y6 (Em (m.2 _ (vp r)));rw [hg,Zt] at hu;refine aH (cs:=[(false,[.int .i64]),(false,[.int .i64])]) (n31,((0+1:Nat):Int),()) (u.aU.length-(0+1)) rfl ad (by rw [wrap_i64 ad ad]; rfl) ?_;exact ⟨0+1,rfl,ad,rfl,e6,b1,m,hu⟩
  ·have j:i=u.aU.length:=ad
   subst j;rw [al9] at hu;exact ⟨by rw [hu]; rfl,e6⟩
def NT (l:List UInt8):List (List Xab):=l.map fun b=>[.int .u8 (b.toNat:Int)]
def G1 (l:List UInt8):(NT l).length=l.length:=by simp [NT]
def NF (l:List UInt8):(NT l).flatten=l.map fun b=>.int .u8 (b.toNat:Int):=by
 induction l with
 | nil=>rfl
 | cons a l j =>
  have:NT (a::l)=[.int .u8 (a.toNat:Int)]::NT l:=rfl
  rw [this,bg9,j] <;> rfl
def YP:(Tryz.prog.info? 5).map (fun i=>(i.zero,i.size,i.bytes))=some (some (.int .u8 0),1,1):=ax
def SL.cr {h:Hp} {b:Nat} {e:TypeId} {sz:Nat} {p:Xac} {l c:Nat} {xs:List (List Xab)} (s:SL h b e sz p l c xs):∀ i,i∈aM p->b<=i/\i<h.size:=by
 intro i hi;cases p with
 | none=>simp [aM] at hi
 | some a =>
  obtain ⟨g,u,rest,rfl,hb,_,j,_⟩:=s.2.2;simp [aM] at hi;exact ⟨ad,by rw [hi]; exact j.lt⟩
def JG {P:Program} {h:Hp} (a:Xax) (l:List UInt8) (cap:Nat) (K:Xab->Hp->Prop) (hc:aI h a 0 (l.map NL)) (hk:K (.string ⟨l.toArray⟩) h):aS P (Conv.bytesToString (.slice (some a) l.length cap)) h K:=by
 unfold Conv.bytesToString;simp only;rw [ao];refine dJ aj hc _ ?_;rw [ao,<- Array.forIn_toList]
 have key:∀ (l:List UInt8) (s:Xaa) (K':Xaa->Hp->Prop),K' ⟨s.data++l.toArray⟩ h->aS P (forIn (l.map NL) s fun c r=>match c with
   | .int .u8 n=>(pure (ForInStep.yield (r.push (UInt8.ofNat n.toNat))):Sem (ForInStep Xaa))
   | _ => stuck "bytesToString: byte expected") h K' := by
  intro l
  induction l with
  | nil =>
   intro s K' hk;have e:(⟨s.data++([]:List UInt8).toArray⟩:Xaa)=s:=aj
   rw [e] at hk;exact hk
  | cons c l j =>
   intro s K' hk;rw [ZF,List.forIn_cons];rw [ao];show aS P (forIn (List.map NL l) (s.push (UInt8.ofNat ((c.toNat:Nat):Int).toNat)) _) h K';have e1:UInt8.ofNat ((c.toNat:Nat):Int).toNat=c:=aj
   rw [e1];refine j (s.push c) K' ?_
   have:(⟨(s.push c).data++l.toArray⟩:Xaa)=⟨s.data++(c::l).toArray⟩:=by
    congr 1
    apply ZK.1
    simp
   rw [this]; exact hk
 refine key l ByteArray.empty _ ?_;have e:(⟨ByteArray.empty.data++l.toArray⟩:Xaa)=⟨l.toArray⟩:=by
  congr 1
  apply ZK.1
  simp
 rw [e];exact hk
abbrev St:=Except (Nat × Nat) Bt
def Yt {k c:Nat} (h:k≠c):(((k:Nat):Int)==(c:Int))=false:=by
 simp only [beq_eq_false_iff_ne,ne_eq];omega
def iz:List Xab:=[.int .i64 (0:Int),.string ⟨#[]⟩,.int .i64 (0:Int),.int .i64 (0:Int),.int .i64 (0:Int),.int .i32 (0:Int),.int .i64 (0:Int),.slice none 0 0,.int .u32 (0:Int),.int .i64 (0:Int)]
structure Ls {α:Type} (e:TypeId) (sz:Nat) (enc:cz->α->List Xab) (tm:α->dc) (ok:α->Prop) (h:Hp) (b:Nat) (p:Xac) (l c:Nat) (us:List (cz × α)):Prop where
 sl:SL h b e sz p l c (us.map fun u=>enc u.1 u.2)
 own:∀ u,u∈us->SL h b 117 2 u.1.p u.1.l u.1.c ((tm u.2).map df)
 ok:∀ u,u∈us->ok u.2
section
variable {α:Type} {e:TypeId} {sz:Nat} {enc:cz->α->List Xab} {tm:α->dc} {ok:α->Prop} {h h':Hp} {b b':Nat} {p:Xac} {l c:Nat} {us:List (cz × α)}
end
abbrev ptr (g:Nat):Xab:=.pointer (some ⟨g,0,none⟩)
def SY:Tryz.prog.underlying 43=some (.slice 71):=ax
def WA:Tryz.prog.underlying 44=some (.slice 100):=ax
def H5:Tryz.prog.underlying 45=some (.slice 9):=ax
def Vr:(Tryz.prog.info? 9).map (fun i=>(i.zero,i.size,i.bytes))=some (some (.string ⟨#[]⟩),1,16):=ax
def SL.AZ {h:Hp} {b:Nat} {e:TypeId} {sz:Nat} {p:Xac} {l c:Nat} {xs:List (List Xab)} (s:SL h b e sz p l c xs):∀ i,i∈aM p->∃ xs,bF h i e xs:=by
 intro i hi;cases p with
 | none=>simp [aM] at hi
 | some a =>
  obtain ⟨g,u,rest,rfl,hb,_,j,_⟩:=s.2.2;simp [aM] at hi;subst hi;exact ⟨_,j⟩
def SL.rL {ws:List Nat} {h h':Hp} {b:Nat} {e e':TypeId} {sz:Nat} {p:Xac} {l c:Nat} {xs:List (List Xab)} (s:SL h b e sz p l c xs) (k:Ch ws h h') (hw:∀ i,i∈ws->∃ ys,bF h i e' ys) (u:e≠e'):SL h' b e sz p l c xs:=by
 refine Sx.SL.bM s k (fun i hi hm=>?_);obtain ⟨ys,b1⟩:=SL.AZ s i hi;obtain ⟨zs,j⟩:=hw i hm;unfold bF at b1 j;rw [b1] at j;simp only [Option.some.injEq,Obj.cells.injEq] at j;exact u j.2.1
section
variable {h0 h:Hp} {g gm:Nat} {bp:Xac} {bl bc:Nat} {full:Bt} {st:St} {D:List Xaa}
end
def mj:cz:=⟨none,0,0⟩
abbrev TZ:=Ls 71 10 (fun s x=>encI s.p s.l s.c x) (fun x:cE=>x.e.ai) (fun _=>True)
def AU:Tryz.prog.underlying 43=some (.slice 71):=ax
def Er:(Tryz.prog.info? 71).map (fun i=>(i.zero,i.size,i.bytes))=some (some (.agg iz.toArray),10,104):=ax
def tp (u:cz × cE):List Xab:=encI u.1.p u.1.l u.1.c u.2
def Fh {a b:Nat} (h:(((a:Nat):Int)==((b:Nat):Int))=true):a=b:=by
 have:=eq_of_beq h
 omega
def Fz {a b:Nat} (h:(((a:Nat):Int)==((b:Nat):Int))=false):¬ a=b:=by
 rintro rfl;simp at h
def IW {L:Lp} {K:Xab->Hp->Prop} {h:Hp} {b:Bool} {t u:T} (hu:b=false->u L K h) (j:b=true->t L K h):(cond b t u) L K h:=av j hu
theorem rK {h:Hp} {a:Xax}:∀ (vs:List Xab) (o i:Nat),aI h a (o+i) vs->aI h (a.add o) i vs
 | [],_,_,_=>trivial
 | v::vs,o,i,hc=>⟨by rw [add_add]; exact hc.1,rK vs o (i+1) hc.2⟩
def qv (s t:Xaa):(ByteArray.toList s==ByteArray.toList t)=decide (s=t):=by
 rw [ByteArray.toList_eq,ByteArray.toList_eq]
 by_cases h:s=t
 ·rw [Y6 h,h]; simp
 ·rw [Y7 h]
  have:¬ s.data.toList=t.data.toList:=fun e=>h (CH e)
  simpa using this
def Qd (x y:Operand) (i j:Ins) (h:Hp) (K:Xab->Hp->Prop) (hk:K (.bool (decide (i=j))) h) :
  aS Tryz.prog (Sx.jv (BinOp.eql) 65 x y (.agg (ot i).toArray) (.agg (ot j).toArray)) h K:=by
 refine zL Sr ax ax ax K ?_;have u:(yk Tryz.prog 65).all (Gd (ot i).toArray (ot j).toArray)=(i.op==j.op && (i.a==j.a && (i.b==j.b && (i.n==j.n && (i.form==j.form && true))))):=by
  rw [<- ad9]
  kernel_rfl
 rw [u,af9]
 have:(i.op==j.op && (i.a==j.a && (i.b==j.b && (i.n==j.n && i.form==j.form))))=decide (i=j):=by
  rcases i with ⟨G,a2,a3,a4,a5⟩
  rcases j with ⟨J,O,c3,U,c5⟩
  simp only [db,Ins.mk.injEq]
  by_cases h1:G=J <;> by_cases h2:a2=O <;> by_cases h3:a3=c3 <;> by_cases h4:a4=U <;> by_cases h5:a5=c5 <;> simp [h1,h2,h3,h4,h5]
 rw [this];exact hk
end Go.Sx.Ob
