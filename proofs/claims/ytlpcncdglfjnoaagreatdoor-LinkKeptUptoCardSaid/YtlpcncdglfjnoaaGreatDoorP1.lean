/- Contracts over heaps, part 1. Condition: as each statement says. -/
import Derived.Test.YtlpcncdglfjnoaaGreatDoorBtA
import Derived.Test.YtlpcncdglfjnoaaGreatDoorBShelf
import Derived.Test.YtlpcncdglfjnoaaGreatDoorSxG
import Derived.Test.YtlpcncdglfjnoaaGreatDoorSxE
import Derived.Test.YtlpcncdglfjnoaaGreatDoorBtB
import Derived.Test.YtlpcncdglfjnoaaGreatDoorBtC
set_option linter.all false
set_option maxRecDepth 100000
set_option maxHeartbeats 4000000
namespace Go.Sx
open Go.Proofs
variable {h1 h2:Hp}
def mixed:Tryz.prog.follows .mixedOrders=true:=aw
def T3 : (Tryz.f144.name == "runtime.NumGoroutine") = false :=aw
def Tb:Tryz.f144.body.isNone=true:=aw
def Tt:Extern.findNext Tryz.f144=none:=aw
def TQ:Extern.find Tryz.f144=some Extern.BytealgIndexByte.indexByte:=aw
def Cd (s:Xaa) (c:Int) (h:Hp):xL Xaz 129 [.string s,.int .u8 c] h (vI (Lib.indexByte s.data.toList c.toNat.toUInt8)):=by
 refine fh mixed Tryz.func129 aw (iG s c) ?_;refine GU Tryz.func144 T3 Tb Tt TQ ?_;rw [sA];exact ⟨(_,()),rfl,rfl,rfl⟩
def Fb (s:Xaa) (c:Int) (h:Hp):xL Xaz 120 [.string s,.int .u8 c] h (vI (Lib.indexByte s.data.toList c.toNat.toUInt8)):=by
 refine fh mixed Tryz.func120 aw (qJ s c) ?_;exact nw (Cd s c h) ⟨rfl,rfl⟩
def nW (s set:List UInt8):Nat:=(s.takeWhile fun c=>set.contains c).length
def SM (s set:List UInt8):nW s set<=s.length:=by
 unfold nW;exact (List.takeWhile_prefix _).length_le
theorem tL {p:UInt8->Bool}:∀ (l:List UInt8) (k:Nat),k<=(l.takeWhile p).length->k<l.length->(k<(l.takeWhile p).length↔p (l.getD k 0)=true)
 | [],k,_,h=>by simp at h
 | c::l,0,_,_=>by
  simp only [List.takeWhile_cons,List.getD_cons_zero];cases a:p c <;> simp
 | c::l,k+1,h,hl=>by
  simp only [List.takeWhile_cons] at h ⊢;cases a:p c with
  | false=>rw [a] at h; simp at h
  | true =>
   rw [a] at h;simp at h hl
   have:=tL l k (by simpa using h) hl
   simpa using this
def Dw (s set:List UInt8) (k:Nat) (hk:k<=nW s set) (hl:k<s.length):(k<nW s set↔set.contains (s.getD k 0)=true):=tL s k hk hl
def PF (s:Xaa) (n:Int):(dm s n).toNat.toUInt8=s.data.toList.getD n.toNat 0:=by
 unfold dm; simp
def Ow (s set:Xaa) (h:Hp) (j:s.size<=9223372036854775807):xL Xaz 103 [.string s,.string set] h (vI (nW s.data.toList set.data.toList)):=by
 refine fh mixed Tryz.func103 aw (D5 s set) ?_;have g:s.data.toList.length=s.size:=aj
 have hle:=SM s.data.toList set.data.toList;refine aU (cs:=cn) (fun x n h'=>h'=h/\∃ k:Nat,x.1=(k:Int)/\k<=nW s.data.toList set.data.toList/\n=s.size-k) ((0:Int),()) s.size rfl ⟨rfl,0,rfl,ad,ad⟩ ?_;rintro ⟨n,⟨⟩⟩ m h' ⟨rfl,k,hk,c,rfl⟩;simp only at hk;subst hk;refine ao ?_ ?_<;>intro d
 ·have e:(k:Int)<s.size:=Y3 d;have hst:=Dw s.data.toList set.data.toList k c ad;refine dA ⟨ad,e⟩ ?_;refine nw (Fb _ _ _) ?_;rw [PF];have hc:=Lib.contains_iff_indexByte set.data.toList (s.data.toList.getD k 0);refine ao ?_ ?_<;>intro a
  ·have h2:=Y3 a;rw [wrap_i64 ad ad];have b:set.data.toList.contains (s.data.toList.getD k 0)=true:=by rw [hc]; exact Y4 h2
   exact aG (cs:=cn) ((k:Int)+1,()) (s.size-(k+1)) rfl ad rfl ⟨rfl,k+1,(show ((k:Int)+1)=((k+1:Nat):Int) from ad),hst.2 b,rfl⟩
  ·have h2:=Zf a;have b:¬ set.data.toList.contains (s.data.toList.getD k 0)=true:=by rw [hc]; exact fun f=>h2 (Y3 f)
   have:k=nW s.data.toList set.data.toList:=by
    have:¬ k<nW s.data.toList set.data.toList:=fun f=>b (hst.1 f)
    omega
   exact ⟨by rw [<- this],rfl⟩
 ·have i:¬ (k:Int)<s.size:=Zf d
  have:k=nW s.data.toList set.data.toList:=ad
  exact ⟨by rw [<- this],rfl⟩
def fE (c:UInt8):Bool:=(97<=c.toNat && c.toNat<=122) || (65<=c.toNat && c.toNat<=90) || c.toNat==95
def jd (c:UInt8):Bool:=48<=c.toNat && c.toNat<=57
def iF:List UInt8:=[97,98,99,100,101,102,103,104,105,106,107,108,109,110,111,112,113,114,115,116,117,118,119,120,121,122,65,66,67,68,69,70,71,72,73,74,75,76,77,78,79,80,81,82,83,84,85,86,87,88,89,90,95]
def jy:List UInt8:=[48,49,50,51,52,53,54,55,56,57]
def Dl (p q:UInt8->Bool) (h:(List.range 256).all (fun n=>p (UInt8.ofNat n)==q (UInt8.ofNat n))=true) (c:UInt8):p c=q c:=by
 have:=Zx.1 h c.toNat (ap9.2 (by have:=c.toNat_lt; omega))
 simpa using this
def HZ (c:UInt8):iF.contains c=fE c:=Dl (fun c=>iF.contains c) fE (by decide +kernel) c
def OS (c:UInt8):(iF++jy).contains c=(fE c || jd c):=Dl (fun c=>(iF++jy).contains c) (fun c=>fE c || jd c) (by decide +kernel) c
def cN (c:UInt8):Int:=(c.toNat:Nat)
def Pq (c:UInt8) (h:Hp):xL Xaz 76 [.int .u8 (cN c)] h (.bool (jd c)):=by
 refine fh mixed Tryz.func76 aw (pB _) ?_;unfold kr jd cN bH;refine aP ?_ ?_<;>intro h1
 ·refine ⟨?_,rfl⟩
  congr 1
  rw [show decide (48<=c.toNat)=true from Y4 ad,Zy];exact cr9.2 ad
 ·refine ⟨?_,rfl⟩
  congr 1
  rw [show decide (48<=c.toNat)=false from Y6 ad,Bool.false_and]
def Lu (c:UInt8):fE c=true↔(97<=cN c/\cN c<=122)\/(65<=cN c/\cN c<=90)\/cN c=95:=by
 unfold fE cN;simp only [Bool.or_eq_true,Bool.and_eq_true,decide_eq_true_eq,beq_iff_eq];omega
def CX (c:UInt8) (h:Hp):xL Xaz 75 [.int .u8 (cN c)] h (.bool (fE c)):=by
 refine fh mixed Tryz.func75 aw (oO _) ?_;unfold jH dZ;have hl:=Lu c
 repeat' (refine ao (fun h1=>?_) (fun h1=>?_) <;> first | replace h1:=Y3 h1 | replace h1:=Zf h1)
 all_goals exact ⟨Zg Value.bool (cg9.2 (by simp only [hl,true_iff,beq_iff_eq]; omega)),rfl⟩
def zO (s:List UInt8):Int × Bool × Bool :=
 match s with
 | [a,b]=>if cN a=114/\48<=cN b/\cN b<=55 then (cN b-48,false,true) else if cN a=122/\48<=cN b/\cN b<=51 then (cN b-48,true,true) else (0,false,false)
 | _=>(0,false,false)
variable {c:List UInt8}
def Gf (h:c.length≠2):zO c=(0,false,false):=by
 unfold zO;split
 ·simp at h
 ·rfl
def xw (s:Xaa) (n:Int):dm s n=cN (s.data.toList.getD n.toNat 0):=rfl
variable {O:Xaa}
def two_bytes (h1:(O.size:Int)=2):∃ a b,O.data.toList=[a,b]:=by
 have d:O.data.toList.length=O.size:=aj
 match hl:O.data.toList with
 | [a,b]=>exact ⟨a,b,rfl⟩
 | []=>rw [hl] at d; simp at d; omega
 | [a]=>rw [hl] at d; simp at d; omega
 | a::b::c::l=>rw [hl] at d; simp at d; omega
def Fw (s:Xaa) (h:Hp):xL Xaz 102 [.string s] h (.tuple #[vI (zO s.data.toList).1,.bool (zO s.data.toList).2.1,.bool (zO s.data.toList).2.2]):=by
 refine fh mixed Tryz.func102 aw (wQ s) ?_;have d:s.data.toList.length=s.size:=aj
 unfold r7 bC iW bK;refine ao ?_ ?_<;>intro h1
 ·have h1:(s.size:Int)≠2:=by simpa using h1
  rw [Gf ad];exact ⟨rfl,rfl⟩
 ·have h1:(s.size:Int)=2:=by simpa using h1
  obtain ⟨a,b,c⟩:=two_bytes h1;have e0:dm s 0=cN a:=by rw [xw,c]; rfl
  have e:dm s 1=cN b:=by rw [xw,c]; rfl
  have hb:=b.toNat_lt;have f:IntKind.wrap .i64 (IntKind.wrap .i64 (dm s 1)-48)=cN b-48:=by
   rw [e,wrap_i64 (x:=cN b) (by unfold cN; omega) (by unfold cN; omega),wrap_i64 (by unfold cN; omega) (by unfold cN; omega)]
  rw [f,e0,c];unfold zO
  repeat' (first | refine dO ?_ | (refine ao (fun h1=>?_) (fun h1=>?_) <;> first | replace h1:=Y3 h1 | replace h1:=Zf h1 | replace h1:=eq_of_beq h1 | replace h1:=ne_of_beq_false h1))
  all_goals
   refine ⟨?_,rfl⟩;simp only
   first
    | (exfalso; omega)
    | rw [Y8 ad]
    | rw [Y1 ad,Y8 ad]
    | rw [Y1 ad,Y1 ad]
def Eb (s:Xaa) (h:Hp):xL Xaz 77 [.string s] h (.tuple #[vI (zO s.data.toList).1,.bool (zO s.data.toList).2.1,.bool (zO s.data.toList).2.2]):=by
 refine fh mixed Tryz.func77 aw (nq s) ?_;have d:s.data.toList.length=s.size:=aj
 unfold jf bC iW bK;refine ao ?_ ?_<;>intro h1
 ·have h1:(s.size:Int)≠2:=by simpa using h1
  rw [Gf ad];exact ⟨rfl,rfl⟩
 ·have h1:(s.size:Int)=2:=by simpa using h1
  obtain ⟨a,b,c⟩:=two_bytes h1;have e0:dm s 0=cN a:=by rw [xw,c]; rfl
  have e:dm s 1=cN b:=by rw [xw,c]; rfl
  have hb:=b.toNat_lt;have f:IntKind.wrap .i64 (IntKind.wrap .i64 (dm s 1)-48)=cN b-48:=by
   rw [e,wrap_i64 (x:=cN b) (by unfold cN; omega) (by unfold cN; omega),wrap_i64 (by unfold cN; omega) (by unfold cN; omega)]
  rw [f,e0,c];unfold zO
  repeat' (first | refine dO ?_ | (refine ao (fun h1=>?_) (fun h1=>?_) <;> first | replace h1:=Y3 h1 | replace h1:=Zf h1 | replace h1:=eq_of_beq h1 | replace h1:=ne_of_beq_false h1))
  all_goals
   refine ⟨?_,rfl⟩;simp only
   first
    | (exfalso; omega)
    | rw [Y8 ad]
    | rw [Y1 ad,Y8 ad]
    | rw [Y1 ad,Y1 ad]
def dr (s:List UInt8):Bool:=decide (0<s.length) && decide (s.length<=32) && fE (s.getD 0 0) && s.all (fun c=>fE c || jd c) && !(zO s).2.2
def O4 {set:List UInt8} (h:0<c.length):0<nW c set↔set.contains (c.getD 0 0)=true:=Dw c set 0 (cm9 _) h
def Mv {s set:List UInt8}:nW s set=s.length↔s.all (fun c=>set.contains c)=true:=by
 unfold nW
 induction s with
 | nil=>simp
 | cons c s a =>
  rw [List.takeWhile_cons,ct9];cases hc:set.contains c with
  | true=>simp only [if_true,List.length_cons,Bool.true_and]; rw [<- a]; omega
  | false=>simp
def XO:(⟨#[97,98,99,100,101,102,103,104,105,106,107,108,109,110,111,112,113,114,115,116,117,118,119,120,121,122,65,66,67,68,69,70,71,72,73,74,75,76,77,78,79,80,81,82,83,84,85,86,87,88,89,90,95]⟩:Xaa).data.toList=iF:=rfl
def Yb:(⟨#[97,98,99,100,101,102,103,104,105,106,107,108,109,110,111,112,113,114,115,116,117,118,119,120,121,122,65,66,67,68,69,70,71,72,73,74,75,76,77,78,79,80,81,82,83,84,85,86,87,88,89,90,95,48,49,50,51,52,53,54,55,56,57]⟩:Xaa).data.toList=iF++jy:=rfl
def toList_nil :(O.toList==[])=decide (O.size=0):=by
 have:O.toList=O.data.toList:=ByteArray.toList_eq O
 rw [this];have b:O.data.toList.length=O.size:=aj
 cases hl:O.data.toList with
 | nil=>rw [hl] at b; simp at b; simp [<- b]
 | cons a l=>rw [hl] at b; simp at b; simp [<- b]
def wz (s:Xaa) (h:Hp) (d:s.size<=9223372036854775807):xL Xaz 79 [.string s] h (.bool (dr s.data.toList)):=by
 refine fh mixed Tryz.func79 aw (A3 s) ?_;have a:s.data.toList.length=s.size:=aj
 unfold zz dl bz bH aK cr;refine Hy (Fw s h) ?_;unfold dr;rw [a];refine ao ?_ ?_<;>intro h1
 ·have h1:s.size≠0:=by rw [toList_nil] at h1; simpa using h1
  refine aP ?_ ?_<;>intro h2
  ·refine nw (Ow s _ h d) ?_;rw [XO];have hp:=O4 (set:=iF) (by omega:0<s.data.toList.length);rw [HZ] at hp;refine aP ?_ ?_<;>intro e
   ·refine nw (Ow s _ h d) ?_;rw [Yb];have ha:=Mv (s:=s.data.toList) (set:=iF++jy);have f:(fun c=>(iF++jy).contains c)=(fun c=>fE c || jd c):=funext OS;rw [f] at ha;rw [show decide (0<s.size)=true from Y4 ad,show decide (s.size<=32)=true from Y4 ad,hp.1 ad];refine ao ?_ ?_<;>intro h4
    ·have h4:=eq_of_beq h4;rw [ha.1 ad];exact ⟨rfl,rfl⟩
    ·have h4:=ne_of_beq_false h4
     have:s.data.toList.all (fun c=>fE c || jd c)=false:=by
      cases b:s.data.toList.all (fun c=>fE c || jd c) with
      | false=>rfl
      | true=>exact (h4 (by rw [ha.2 b]; omega)).elim
     rw [this];exact ⟨rfl,rfl⟩
   ·have:fE (s.data.toList.getD 0 0)=false:=by
     cases b:fE (s.data.toList.getD 0 0) with
     | false=>rfl
     | true=>have:=hp.2 b; omega
    rw [this];exact ⟨aj,rfl⟩
  ·rw [show decide (s.size<=32)=false from Y6 ad];exact ⟨aj,rfl⟩
 ·have h1:s.size=0:=by rw [toList_nil] at h1; simpa using h1
  rw [show decide (0<s.size)=false from Y6 ad];exact ⟨aj,rfl⟩
open Go.Proofs Go.MapKept Go.WideAt Go.WideMaps Go.Maps Go.RowKit Go.WideElems Go.WideElems
def LY:Xab->Option (DataW Unit × List MemPlace):=fun _=>some (.nil,[])
def yB:Tryz.prog.underlying 9=some .string:=aw
def S9:Tryz.prog.underlying 170=some (.map 9 58):=aw
def keysOf (D:List (Xaa × Xab)):List (List UInt8):=(D.map fun p=>p.1.data.toList).mergeSort fun x y=>decide (x<=y)
def Od {x:MapEntry} (hk:x.key=.string O) (a:O.size<=maxLen):WideElems.rd Xaz 9 LY x=some (.string O.data.toList,.nil):=by
 unfold WideElems.rd;rw [hk,keyOf_string_mk yB a] <;> rfl
variable {H Y f:Nat}
def fm.owns {W:World} {D:List (Xaa × Xab)} (m:fm W.heap H D) (hl:D.length<=maxLen) :
  ∃ c:DataW Unit,W.ownsMap Xaz 9 LY H D.length c/\(strKeys c).Perm (D.map fun p=>p.1.data.toList)/\Maps.size c=D.length:=by
 obtain ⟨es,clock,j,d,k,f⟩:=m;have h:es.size=D.length:=by
  have:=Zg List.length d
  simpa using this
 have a:es.toList.map (WideElems.rg Xaz 9 LY)=D.map fun p=>(Lit.string p.1.data.toList,DataW.nil):=by
  apply Z9;intro i;have h1:(es.toList.map (fun e=>(e.key,e.val)))[i]?=(D.map (fun p=>(Value.string p.1,p.2)))[i]?:=by rw [d]
  simp only [List.getElem?_map] at h1 ⊢;rcases ZP i D.length with hi | hi
  ·rw [YZ hi,YZ (show i<es.toList.length by simp; omega)] at h1 ⊢;simp only [Option.map_some,Option.some.injEq,Prod.mk.injEq] at h1 ⊢;exact WideElems.rg_of (Od h1.1 (f _ (Y5 hi)))
  ·rw [ZC hi,ZC (show es.toList.length<=i by simp; omega)] <;> rfl
 refine ⟨_,⟨es,clock,j,⟨ad,k,?_⟩,ad,rfl⟩,?_,?_⟩
 ·intro x l;obtain ⟨i,hi,rfl⟩:=Zt l;have b:i<D.length:=by simp at hi; omega
  have h1:(es.toList.map (fun e=>(e.key,e.val)))[i]?=(D.map (fun p=>(Value.string p.1,p.2)))[i]?:=by rw [d]
  simp only [List.getElem?_map,List.getElem?_eq_getElem b,List.getElem?_eq_getElem hi,Option.map_some,Option.some.injEq,Prod.mk.injEq] at h1;exact ⟨_,Od h1.1 (f _ (Y5 b))⟩
 ·show List.Perm (((es.toList.map (WideElems.rg Xaz 9 LY)).foldr DataW.insert []).map fun p=>strOf p.1) _;rw [a];refine ((WideShapes.sorted_perm _).map _).trans ?_;rw [Zs];exact List.Perm.refl _
 ·show ((es.toList.map (WideElems.rg Xaz 9 LY)).foldr DataW.insert []).length=D.length;rw [a,length_sorted,YY]
def World.MI {W:World} {h:Hp} {o:Obj} (a:W.heap=h.push o):({ W with heap:=h }:World).alloc o=W:=by
 cases W;simp only at a;subst a;rfl
def ec.alloc (w:World) (o:Obj):ec w (w.alloc o):=⟨rfl,rfl,rfl⟩
def J6 (r:Option Nat) (h:Hp):HC Xaz 109 #[.map r] h fun v h'=>v=.func (.func 124) #[] #[.pointer (some ⟨h.size,0,none⟩)]/\h'=h.push (.cells #[.map r] 170):=by
 intro W b;subst b;exact (callsIn_wide.1 (Tryz.Cb r W)).mono fun e w' ⟨c,a⟩=>⟨_,c,by rw [a]; exact ec.alloc _ _,rfl,by rw [a]; rfl⟩
variable {d:TypeId}
def SL.Uq {W:World} {v:Xab} {a:List Xab} (r:W.ownsRow H d 1 v a.length a):∃ p l c,v=.slice p l c/\SL W.heap H d 1 p l c (a.map fun x=>[x]):=by
 have f:∀ ys:List Xab,(ys.map fun x=>[x]).flatten=ys:=by
  intro ys
  induction ys with
  | nil=>rfl
  | cons y ys i=>simp [i]
 obtain ⟨h1,h2⟩:=r;rcases h2 with ⟨hv,hn⟩ | ⟨g,cap,jW,hv,j,k,h,hc,m,n⟩
 ·have:a=[]:=Z6 hn
  subst this;exact ⟨none,0,0,hv,SL.nil _ _ _ _⟩
 ·refine ⟨some ⟨g,0,none⟩,a.length,cap,hv,aj,aj,g,[],jW.toList.drop a.length,rfl,j,⟨h,by unfold maxLen at hc; omega⟩,?_,?_⟩
  ·rw [f,Z8]
   have:a=jW.toList.take a.length:=by rw [<- n]; simp
   unfold bF;rw [k]
   congr 2
   conv=>lhs; rw [<- Array.toArray_toList (xs:=jW),<- ZG a.length jW.toList]
   rw [<- this]
  ·rw [ZI,ab9,m]; omega
def ul {h:Hp} {D:List (Xaa × Xab)} (m:fm h H D) (hl:D.length<=2^40) :
  HC Xaz 108 #[.func (.func 124) #[] #[.pointer (some ⟨h.size,0,none⟩)]] (h.push (.cells #[.map (some H)] 170)) fun v h'=>∃ p l c,v=.slice p l c/\SL h' (h.size+1) 9 1 p l c ((keysOf D).map fun k=>[encStr k]) /\
   Ext (h.push (.cells #[.map (some H)] 170)) h':=by
 intro W q;obtain ⟨t,j,d,a⟩:=fm.owns (W:={ W with heap:=h }) m (by unfold maxLen; omega);have hc:=callsIn_wide.1 (Tryz.mR H D.length t LY { W with heap:=h } j (by rw [a]; unfold maxLen; omega) (by rw [a]; omega));rw [World.MI q] at hc;refine hc.mono fun e w' u=>?_
 obtain ⟨v,r,w,z,b,_,n⟩:=u;have s:r.mergeSort (fun x y=>decide (x<=y))=keysOf D:=mergeSort_of_perm (z.trans d);have o:r.length=((r.mergeSort (fun x y=>decide (x<=y))).map encStr).length:=by rw [YY,List.length_mergeSort]
 rw [o,s] at b;obtain ⟨p,l,c,hv,f⟩:=SL.Uq b;refine ⟨v,w,⟨n.os,n.tape,n.output⟩,p,l,c,hv,?_,?_⟩
 ·rw [Zs] at f
  have:W.heap.size=h.size+1:=by rw [q]; simp
  rw [this] at f;exact f
 ·rw [<- q];exact ⟨n.size,fun i hi _=>n.block i hi⟩
abbrev dz:=List (Xaa × Nat)
def dh (p:Xaa × Nat):List Xab:=[.string p.1,.int .u32 p.2]
def vm (D:dz):List (Xaa × Xab):=D.map fun p=>(p.1,Value.int .u32 p.2)
def eu (D:dz) (s:Xaa):Nat:=((D.find? fun p=>decide (s=p.1)).map (·.2)).getD 0
def wG (D:dz) (s:Xaa) (v:Nat):dz:=if (D.find? fun p=>decide (s=p.1)).isSome then D.map fun p=>if s=p.1 then (p.1,v) else p else D++[(s,v)]
def jF (D:dz) (p:Xaa × Nat):dz:=wG D p.1 ((eu D p.1+p.2) % 4294967296)
def Fu (D:dz):dz:=(keysOf (vm D)).filterMap fun k=>if eu D ⟨k.toArray⟩=0 then none else some (⟨k.toArray⟩,eu D ⟨k.toArray⟩)
def SQ (D:dz) (s:Xaa):(vm D).find? (fun p=>decide (s=p.1))=(D.find? fun p=>decide (s=p.1)).map fun p=>(p.1,Value.int .u32 p.2):=by
 unfold vm
 induction D with
 | nil=>rfl
 | cons p D a =>
  by_cases h:s=p.1
  ·simp [h]
  ·simp only [List.map_cons,List.find?_cons,decide_eq_false h];exact a
def Ko (D:dz) (s:Xaa):look (vm D) s=(D.find? fun p=>decide (s=p.1)).map fun p=>Value.int .u32 p.2:=by
 unfold look;rw [SQ,Option.map_map] <;> rfl
def K4 (D:dz) (s:Xaa):(look (vm D) s).getD (.int .u32 0)=.int .u32 (eu D s):=by
 rw [Ko];unfold eu
 all_goals (cases D.find? fun p=>decide (s=p.1) <;> rfl)
def Uv (D:dz) (s:Xaa) (v:Nat):kR (vm D) s (.int .u32 v)=vm (wG D s v):=by
 unfold kR wG;rw [Ko];cases h:(D.find? fun p=>decide (s=p.1)) with
 | none=>simp [vm]
 | some q =>
  simp only [Option.map_some,Option.isSome_some,if_true,vm,List.map_map];refine ZR fun p a=>?_
  simp only [Function.comp];split <;> simp_all
def Hv (D:dz) (s:Xaa) (v:Nat):(wG D s v).length<=D.length+1:=by
 unfold wG;split <;> simp
def Ve:(Tryz.prog.info? 58).bind (·.zero)=some (.int .u32 0):=aw
def uH:Tryz.prog.underlying 57=some (.slice 66):=aw
def rp:(Tryz.prog.info? 66).map (fun i=>(i.zero,i.size,i.bytes))=some (some (.agg #[.string ⟨#[]⟩,.int .u32 0]),2,24):=aw
variable {Z:Lp} {I a:dz}
def qN {K:Xab->Hp->Prop} {h:Hp} (m:fm h H (vm I)) (s:Xaa) {k:Int->T} (hk:k (eu I s) Z K h):T.eN Xaz (Instr.lookup 170 (.map (some H)) (.string s) false) false [(false,[.int .u32])] k Z K h:=by
 refine kb S9 yB Ve m s false _ ?_;refine ⟨((eu I s:Int),()),?_,hk⟩;simp only [Bool.false_eq_true,if_false];rw [K4] <;> rfl
variable {e:T}
def Ip {K:Xab->Hp->Prop} {h:Hp} (m:fm h H (vm I)) (b:O.size<=maxLen) {v:Int} {n:Nat} (hv:v=(n:Int)) (hk:∀ h',fm h' H (vm (wG I O n))->Ch [H] h h'->h'.size=h.size->e Z K h') :
  T.eV Xaz (Instr.mapUpdate 170 (.map (some H)) (.string O) (.int .u32 v)) e Z K h:=by
 subst hv;refine gY S9 yB m b _ _ ?_;intro h' a c' c;rw [Uv] at a;exact hk h' a c' c
def RE {h:Hp} (m:fm h H (vm I)) (hl:I.length<=2^40) (n:Int) :
  HC Xaz 110 #[.map (some H),.int .u32 n] h fun v h'=>Ext h h'/\∃ p l c,v=.agg #[.slice p l c,.int .u32 n]/\SL h' h.size 66 2 p l c ((Fu I).map dh):=by
 refine bi (args:=[.map (some H),.int .u32 n]) mixed Tryz.func110 aw (AJ (some H) n) ?_;unfold zy aY bj bn ay bz aT bX ax aS aK;refine bG ?_;intro h1 b1 Q z1;refine bG ?_;intro h2 b2 F z2;refine bQ b2 ?_;intro h3 u G z3;have u:bF h3 h1.size 60 [.slice none 0 0,.int .u32 n]:=u;have J:Ext h h3:=bZ (Q.trans F) G;have m3:=m.ai J aj;have c3:bF h3 h.size 60 [.slice none 0 0,.int .u32 0]:=(b1.ai F aj).ai G (by simp; omega);refine aJ (J6 (some H) h3) ?_;rintro _ h4 ⟨rfl,rfl⟩;refine ⟨(.func (.func 124) #[] #[.pointer (some ⟨h3.size,0,none⟩)],()),rfl,ak ?_⟩;have R:Ext h3 (h3.push (.cells #[.map (some H)] 170)):=Ext.push _ _;have r:(vm I).length<=2^40:=by unfold vm; rw [YY]; exact hl
 refine aJ (ul m3 r) ?_;rintro _ K ⟨S,L,U,rfl,y,V⟩;refine ⟨((S,L,U),()),rfl,ak ?_⟩;have e35:=R.trans V;have e:(keysOf (vm I)).length<=2^40:=by
  unfold keysOf;rw [List.length_mergeSort,YY];exact r
 have B:L=(keysOf (vm I)).length:=by rw [y.1,YY]
 unfold Fu;generalize keysOf (vm I)=ks at y e B ⊢;have b5:=u.ai e35 aj;have c5:=c3.ai e35 aj;have m5:=m3.ai e35 aj;have e05:=J.trans e35;have hz3:=e35.size;have hb3:=u.lt;have hg:=m.lt;refine aU (cs:=cn) (fun x w h'=>∃ (i:Nat) (p:Xac) (l c:Nat),x.1=(i:Int)/\i<=ks.length/\w=ks.length-i/\Ch [h1.size] K h'/\bF h' h1.size 60 [.slice p l c,.int .u32 n] /\
  SL h' K.size 66 2 p l c (((ks.take i).filterMap fun k=>if eu I ⟨k.toArray⟩=0 then none else some ((⟨k.toArray⟩:Xaa),eu I ⟨k.toArray⟩)).map dh)/\l<=i) ((0:Int),()) ks.length rfl
  ⟨0,none,0,0,rfl,ad,ad,Ch.refl _ _,b5,SL.nil _ _ _ _,ad⟩ ?_
 rintro ⟨n8,⟨⟩⟩ w h6 ⟨i,p,l,c,hi,M,rfl,f,A,o,W⟩;simp only at hi;subst hi;refine ak ?_;have m6:=m5.ai f (by simp; omega);have hz6:=f.size;have C:Ext h h6:=bZ e05 f;refine aP ?_ ?_<;>intro X
 ·have d:i<ks.length:=ad
  have sk6:=y.br f (fun j b=>by have:=(y.cj b).1; simp; omega);obtain ⟨a,rfl,hc⟩:=sk6.cells (i:=i) (by simpa using d);rw [Y7] at hc;have q:ks.take (i+1)=ks.take i++[ks[i]]:=Y2 d;generalize ks[i]=k at hc q;refine bP rfl ?_;rw [cB i];refine av ((⟨k.toArray⟩:Xaa),()) hc (ak ?_);have hw:=iC i;refine qN m6 _ (ao (fun s=>?_) (fun s=>?_))
  ·have s:((eu I ⟨k.toArray⟩:Nat):Int)≠0:=by simpa using s
   refine az A ((p,l,c),()) (ak ?_);refine qN m6 _ ?_;refine kg (vs:=dh (⟨k.toArray⟩,eu I ⟨k.toArray⟩)) uH rp rfl ad ad aw rfl rfl o hz6 ad ad ?_;intro p' c' N O t Y;have b7:=A.ai t (fun Z=>by have:=(o.cj Z).1; omega);refine bQ b7 ?_;intro h8 b8 P z8;refine aG (cs:=cn) (((i+1:Nat):Int),()) (ks.length-(i+1)) rfl ad (Zg (fun z=>[Value.int .i64 z]) hw) ⟨i+1,p',l+1,c',rfl,ad,rfl,?_,b8,?_,ad⟩
   ·exact Ch.trans (Ch.trans f t (fun j b hl=>by have:=(o.cj b).1; omega)) P (fun j b _=>b)
   ·rw [q,bd9,Za];have E:([k].filterMap fun k=>if eu I ⟨k.toArray⟩=0 then none else some ((⟨k.toArray⟩:Xaa),eu I ⟨k.toArray⟩))=[((⟨k.toArray⟩:Xaa),eu I ⟨k.toArray⟩)]:=by
     simp only [List.filterMap_cons,List.filterMap_nil];rw [Y1 ad]
    rw [E];exact O.br P (fun j b=>by have:=(O.cj b).1; simp; omega)
  ·have s:((eu I ⟨k.toArray⟩:Nat):Int)=0:=by simpa using s
   refine aG (cs:=cn) (((i+1:Nat):Int),()) (ks.length-(i+1)) rfl ad (Zg (fun z=>[Value.int .i64 z]) hw) ⟨i+1,p,l,c,rfl,ad,rfl,f,A,?_,ad⟩;rw [q,bd9];have E:([k].filterMap fun k=>if eu I ⟨k.toArray⟩=0 then none else some ((⟨k.toArray⟩:Xaa),eu I ⟨k.toArray⟩))=[]:=by
    simp only [List.filterMap_cons,List.filterMap_nil];rw [Y8 ad]
   rw [E,Z2];exact o
 ·have hi:i=ks.length:=ad
  subst hi;rw [ZA] at o;have c6:=c5.ai f (by simp; omega);refine az A ((p,l,c),n,()) (ak ?_);refine bQ c6 ?_;intro N b7 t z7;have b7:bF N h.size 60 [.slice p l c,.int .u32 n]:=b7;refine az b7 ((p,l,c),n,()) ?_;have hz5:=e05.size;exact ⟨bZ C t,p,l,c,rfl,(o.br t (fun j b=>by have:=(o.cj b).1; simp; omega)).mono ad⟩
structure ik (h:Hp) (p:Xac) (l:Nat) (us:dz):Prop where
 len:l=us.length
 cells:∀ i,(hi:i<us.length)->∃ a,p=some a/\aI h (a.add (i*2)) 0 (dh us[i])
variable {U:Xac}
def ik.ai {ws:List Nat} {h h':Hp} {us:dz} (v:ik h U H us) (k:Ch ws h h') (c:∀ i,i∈aF U->i∉ws):ik h' U H us :=
 ⟨v.len,fun i hi=>by
  obtain ⟨a,b,hc⟩:=v.cells i hi;exact ⟨a,b,aX k (by rw [fv]; exact c _ (by rw [b]; simp [aF])) _ _ hc⟩⟩
def SL.Qk {h:Hp} {us:dz} (s:SL h H d 2 U Y f (us.map dh)):ik h U Y us:=by
 refine ⟨by rw [s.1,YY],fun i hi=>?_⟩;obtain ⟨a,g,hc⟩:=s.cells (i:=i) (by simpa using hi);rw [Y7] at hc;exact ⟨a,g,hc⟩
structure cE where
 ah:dz
 num:Nat
def gF (p:Xac) (l c:Nat) (x:cE):Xab:=.agg #[.slice p l c,.int .u32 x.num]
def Fg (l:dz):dz:=Fu (l.foldl jF [])
def nJ (x y:cE):cE:=⟨Fg (x.ah++y.ah),(x.num+y.num) % 4294967296⟩
def eF (x:Int):IntKind.wrap .u32 x=x % 4294967296:=by
 simp only [IntKind.wrap] <;> rfl
def jn (a:Nat):((a % 4294967296:Nat):Int)=(a:Int) % 4294967296:=Int.natCast_emod a 4294967296
def iP (a b:Xaa):Prop:=a.data.toList<b.data.toList
instance (a b:Xaa):Decidable (iP a b):=inferInstanceAs (Decidable (a.data.toList<b.data.toList))
def BK (a:Xaa):¬ iP a a:=List.lt_irrefl (α:=UInt8) _
def j4 {b c:Xaa} (h:iP O b) (k:iP b c):iP O c:=List.lt_trans (α:=UInt8) h k
def zi {b:Xaa} (h:O.data.toList=b.data.toList):O=b:=by
 cases O; cases b;simp only at h;rw [ZM.1 h]
def Aq (a b:Xaa) (h:¬ iP a b) (k:¬ iP b a):a=b :=
 zi (List.le_antisymm (α:=UInt8) (List.not_lt.1 k) (List.not_lt.1 h))
def kW {b:Xaa} (h:iP O b):O≠b:=fun e=>by subst e; exact BK _ h
def Da {a:Xaa} (h:iP a O):¬ iP O a:=fun k=>BK _ (j4 h k)
structure Nf (l:dz):Prop where
 T9:l.Pairwise fun p q=>iP p.1 q.1
 GF:∀ p,p∈l->p.2≠0/\p.2<4294967296
def cf:dz->Xaa->Nat
 | [],_=>0
 | p::l,s=>(if p.1=s then p.2 else 0)+cf l s
def AQ (s:Xaa):cf [] s=0:=rfl
def fp (p:Xaa × Nat) (l:dz) (s:Xaa):cf (p::l) s=(if p.1=s then p.2 else 0)+cf l s:=rfl
variable {V:Xaa × Nat}
def Nf.tail {l:dz} (h:Nf (V::l)):Nf l:=⟨(aq9.1 h.1).2,fun q a=>h.2 q (Ze _ a)⟩
def Nf.head (h:Nf (V::I)):∀ q,q∈I->iP V.1 q.1:=(aq9.1 h.1).1
def Nf.nil:Nf []:=⟨List.Pairwise.nil,aj⟩
def Ai (h:∀ p,p∈I->p.1≠O):cf I O=0:=by
 induction I with
 | nil=>rfl
 | cons p I a =>
  rw [fp,Y1 (h p (bg9 ..)),a fun q b=>h q (Ze _ b)]
def Ll (l m:dz) (s:Xaa):cf (l++m) s=cf l s+cf m s:=by
 induction l with
 | nil=>simp [cf]
 | cons p l a=>simp only [List.cons_append,cf,a]; omega
def Nf.oi (h:Nf (V::I)):cf (V::I) V.1=V.2:=by
 rw [fp,Y8 rfl,Ai fun q a=>(kW (h.head q a)).symm] <;> rfl
def Nf.EA {l:dz} {s:Xaa} (h:∀ p,p∈l->iP s p.1):cf l s=0:=Ai fun p a=>(kW (h p a)).symm
theorem Nf.RZ:∀ {l m:dz},Nf l->Nf m->(∀ s,cf l s % 4294967296=cf m s % 4294967296)->l=m
 | [],[],_,_,_=>rfl
 | [],q::m,_,e,h=>by
  have:=h q.1
  rw [e.oi] at this;have hq:=e.GF q (bg9 ..);simp only [cf] at this;omega
 | p::l,[],hl,_,h=>by
  have:=h p.1
  rw [hl.oi] at this;have hq:=hl.GF p (bg9 ..);simp only [cf] at this;omega
 | p::l,q::m,hl,e,h=>by
  have hp:=hl.GF p (bg9 ..);have hq:=e.GF q (bg9 ..)
  by_cases h1:iP p.1 q.1
  ·exfalso
   have:=h p.1
   rw [hl.oi,Nf.EA (l:=q::m) (s:=p.1) (by
    intro r f;rcases Zo.1 f with rfl | f
    ·exact h1
    ·exact j4 h1 (e.head r f))] at this
   omega
  ·by_cases h2:iP q.1 p.1
   ·exfalso
    have:=h q.1
    rw [e.oi,Nf.EA (l:=p::l) (s:=q.1) (by
     intro r f;rcases Zo.1 f with rfl | f
     ·exact h2
     ·exact j4 h2 (hl.head r f))] at this
    omega
   ·have he:=Aq _ _ h1 h2;have h3:=h p.1;rw [hl.oi,he,e.oi] at h3;have g:p=q:=by
     obtain ⟨a,b⟩:=p;obtain ⟨c,d⟩:=q;simp only at he h3 hp hq;subst he
     congr 1
     rw [bm9 hp.2,bm9 hq.2] at h3;exact h3
    subst g
    congr 1
    refine Nf.RZ hl.tail e.tail fun s=>?_
    by_cases i:p.1=s
    ·subst i;rw [Nf.EA hl.head,Nf.EA e.head]
    ·have:=h s
     simp only [cf,if_neg i,Nat.zero_add] at this;exact this
def r9 (s:Xaa):eu [] s=0:=rfl
def qd (p:Xaa × Nat) (D:dz) (s:Xaa):eu (p::D) s=if s=p.1 then p.2 else eu D s:=by
 unfold eu;rw [ch9]
 by_cases h:s=p.1
 ·simp [h]
 ·simp [h]
def Gq (D:dz) (s t:Xaa) (v:Nat):eu (D++[(t,v)]) s=if (D.find? fun p=>decide (s=p.1)).isSome then eu D s else if s=t then v else 0:=by
 induction D with
 | nil=>simp [qd,r9]
 | cons p D a =>
  rw [by9,qd,qd,a,ch9]
  by_cases h:s=p.1
  ·simp [h]
  ·simp only [decide_eq_false h,if_neg h]
def C8 (h:(I.find? fun p=>decide (O=p.1)).isSome=false):eu I O=0:=by
 unfold eu;cases a:(I.find? fun p=>decide (O=p.1)) with
 | none=>rfl
 | some x=>rw [a] at h; cases h
def MO (D:dz) (t:Xaa) (v:Nat) (s:Xaa):eu (D.map fun p=>if t=p.1 then (p.1,v) else p) s=if s=t/\(D.find? fun p=>decide (t=p.1)).isSome then v else eu D s:=by
 induction D with
 | nil=>simp [r9]
 | cons p D a =>
  rw [ZF,qd,a,qd,ch9]
  by_cases h:t=p.1
  ·subst h
   by_cases k:s=p.1 <;> simp [k]
  ·rw [Y1 h]
   by_cases k:s=p.1
   ·subst k
    have:¬ p.1=t:=fun e=>h e.symm
    simp [this]
   ·simp only [decide_eq_false h,if_neg k]
def Dp (D:dz) (t:Xaa) (v:Nat) (s:Xaa):eu (wG D t v) s=if s=t then v else eu D s:=by
 unfold wG;split
 ·rename_i a;rw [MO]
  by_cases k:s=t <;> simp [k,a]
 ·rename_i a;rw [Gq]
  by_cases k:s=t
  ·subst k;simp [a]
  ·rw [Y1 k];split
   ·rfl
   ·rename_i h2;rw [C8 (Bool.eq_false_iff.2 h2)]
def Il (l:dz) (s:Xaa):∀ D:dz,eu (l.foldl jF D) s % 4294967296=(eu D s+cf l s) % 4294967296:=by
 induction l with
 | nil=>intro D; simp [cf]
 | cons p l a =>
  intro D;rw [ZD,a];unfold jF;rw [fp,Dp]
  by_cases h:s=p.1
  ·subst h;rw [Y8 rfl,Y8 rfl,Nat.mod_add_mod]
   congr 1; omega
  ·rw [Y1 h,Y1 fun e=>h e.symm]
   congr 1; omega
def Ix (h:(I.map (·.1)).Nodup) (t:Xaa) (v:Nat):((wG I t v).map (·.1)).Nodup:=by
 unfold wG;have h1:(I.find? fun p=>decide (t=p.1)).isSome=true↔t∈I.map (·.1):=by
  rw [List.find?_isSome];simp [eq_comm]
 split
 ·have e:(I.map fun p=>if t=p.1 then (p.1,v) else p).map (·.1)=I.map (·.1):=by
   rw [Zs];refine ZR fun p f=>?_
   simp only [Function.comp];split <;> rfl
  rw [e]; exact h
 ·rename_i hn;rw [Za,ZV];refine ⟨h,aj,?_⟩;rintro a d b c rfl;simp only [List.map_cons,List.map_nil,List.mem_singleton] at c;subst c;exact hn (h1.2 d)
def AW (l:dz):∀ D:dz,(D.map (·.1)).Nodup->((l.foldl jF D).map (·.1)).Nodup:=by
 induction l with
 | nil=>intro D h; exact h
 | cons p l a =>
  intro D h;rw [ZD];exact a _ (Ix h _ _)
def JZ (l:dz):∀ D:dz,(∀ s,eu D s<4294967296)->∀ s,eu (l.foldl jF D) s<4294967296:=by
 induction l with
 | nil=>intro D h; exact h
 | cons p l a =>
  intro D h;rw [ZD];refine a _ fun s=>?_
  unfold jF;rw [Dp];split
  ·exact cu9 _ bY
  ·exact h s
def Qa (h:O∉I.map (·.1)):eu I O=0:=by
 refine C8 ?_;cases a:(I.find? fun p=>decide (O=p.1)).isSome with
 | false=>rfl
 | true =>
  rw [List.find?_isSome] at a;obtain ⟨x,b,c⟩:=a;exact absurd (Y9.2 ⟨x,b,(Y3 c).symm⟩) h
def pick (g:Xaa->Nat) (ks:List (List UInt8)):dz:=ks.filterMap fun k=>if g ⟨k.toArray⟩=0 then none else some (⟨k.toArray⟩,g ⟨k.toArray⟩)
def SI (g:Xaa->Nat) (s:Xaa):∀ ks:List (List UInt8),ks.Nodup->cf (pick g ks) s=if s.data.toList∈ks then g s else 0:=by
 intro ks
 induction ks with
 | nil=>intro _; simp [pick,cf]
 | cons k ks ih =>
  intro h;rw [bc9] at h;have ih:=ih h.2;unfold pick at ih ⊢;rw [List.filterMap_cons];have b:(⟨k.toArray⟩:Xaa)=s↔s.data.toList=k:=by
   constructor
   ·rintro rfl; simp
   ·intro e; exact zi (by simp [e])
  by_cases hk:s.data.toList=k
  ·have hs:=b.2 hk;rw [hs];split
   ·rename_i a;split at a
    ·rename_i h0;rw [ih,h0]
     simp
    ·cases a
   ·rename_i a;split at a
    ·cases a
    ·cases a;rw [fp,ih,Y8 rfl,Y1 (by rw [hk]; exact h.1),Y8 (by rw [hk]; simp)] <;> rfl
  ·have hs:¬ (⟨k.toArray⟩:Xaa)=s:=fun e=>hk (b.1 e)
   split
   ·rw [ih];simp [hk]
   ·rename_i a;split at a
    ·cases a
    ·cases a;rw [fp,ih,Y1 hs];simp [hk]
def Sz (g:Xaa->Nat) (f:∀ s,g s<4294967296) {ks:List (List UInt8)} (h:ks.Pairwise fun a b=>a<b):Nf (pick g ks):=by
 refine ⟨?_,?_⟩
 ·unfold pick;refine List.Pairwise.filterMap _ ?_ h;intro a b d p c q e;split at c
  ·cases c
  ·split at e
   ·cases e
   ·cases c; cases e;unfold iP;simpa using d
 ·intro p c;unfold pick at c;rw [av9] at c;obtain ⟨k,_,hk⟩:=c;split at hk
  ·cases hk
  ·rename_i h0;cases hk;exact ⟨h0,f _⟩
def ze (D:dz):(keysOf (vm D)).Perm (D.map fun p=>p.1.data.toList):=by
 unfold keysOf vm;rw [Zs];exact List.mergeSort_perm _ _
def uR (h:(I.map (·.1)).Nodup):(keysOf (vm I)).Pairwise fun a b=>a<b:=by
 have hn:(keysOf (vm I)).Nodup:=by
  refine (ze I).nodup_iff.2 ?_
  have:(I.map fun p=>p.1.data.toList)=(I.map (·.1)).map fun s=>s.data.toList:=by rw [Zs]; rfl
  rw [this];exact Z3.2 (h.imp fun f e=>f (zi e))
 have i:(keysOf (vm I)).Pairwise fun a b=>a<=b:=by
  unfold keysOf;refine (List.pairwise_mergeSort ?_ ?_ _).imp ?_
  ·intro a b c h1 h2;exact Y4 (List.le_trans (α:=UInt8) (Y3 h1) (Y3 h2))
  ·intro a b;simp only [Bool.or_eq_true,decide_eq_true_eq];exact List.le_total (α:=UInt8) a b
  ·intro a b g;exact Y3 g
 refine (i.and hn).imp ?_;rintro a b ⟨h1,h2⟩
 by_cases d:a<b
 ·exact d
 ·exact absurd (List.le_antisymm (α:=UInt8) h1 (List.not_lt.1 d)) h2
def Hm (l:dz):Fg l=pick (eu (l.foldl jF [])) (keysOf (vm (l.foldl jF []))):=rfl
def Bc (l:dz):Nf (Fg l):=by
 rw [Hm];exact Sz _ (JZ l [] (fun s=>by rw [r9]; decide)) (uR (AW l [] aj))
def BN (l:dz) (s:Xaa):cf (Fg l) s=cf l s % 4294967296:=by
 have h1:=Il l s [];rw [r9,ZH,bm9 (JZ l [] (fun s=>by rw [r9]; decide) s)] at h1;rw [Hm,SI _ _ _ ((uR (AW l [] aj)).imp fun h e=>by subst e; exact List.lt_irrefl (α:=UInt8) _ h)];split
 ·exact h1
 ·rename_i hn;rw [<- h1,Qa];intro a;refine hn ((ze _).mem_iff.2 ?_);obtain ⟨p,b,rfl⟩:=Y9.1 a;exact Y9.2 ⟨p,b,rfl⟩
def fO (n:Nat) (l:dz):dz:=l.filterMap fun p=>if p.2*n % 4294967296=0 then none else some (p.1,p.2*n % 4294967296)
def fP:Nat->dz->dz->dz
 | 0,_,_=>[]
 | n+1,x,y=>match x,y with
  | [],[]=>[]
  | p::x,[]=>p::fP n x []
  | [],q::y=>q::fP n [] y
  | p::x,q::y=>if iP p.1 q.1 then p::fP n x (q::y) else if iP q.1 p.1 then q::fP n (p::x) y else if (p.2+q.2) % 4294967296=0 then fP n x y else (p.1,(p.2+q.2) % 4294967296)::fP n x y
def Lv (x y:dz):dz:=fP (x.length+y.length) x y
def KN (h:Nf I):Nf (fO H I):=by
 refine ⟨?_,?_⟩
 ·unfold fO;refine List.Pairwise.filterMap _ ?_ h.1;intro a b d p c q e;split at c
  ·cases c
  ·split at e
   ·cases e
   ·cases c; cases e;exact d
 ·intro p c;unfold fO at c;rw [av9] at c;obtain ⟨k,_,hk⟩:=c;split at hk
  ·cases hk
  ·rename_i h0;cases hk;exact ⟨h0,cu9 _ bY⟩
def LV (n:Nat) (l:dz) (s:Xaa):cf (fO n l) s % 4294967296=cf l s*n % 4294967296:=by
 induction l with
 | nil=>simp [fO,cf]
 | cons p l b =>
  have hc:cf (fO n (p::l)) s=(if p.1=s then p.2*n % 4294967296 else 0)+cf (fO n l) s:=by
   unfold fO;rw [List.filterMap_cons];split
   ·rename_i a;split at a
    ·rename_i h0;rw [h0]; simp
    ·cases a
   ·rename_i a;split at a
    ·cases a
    ·cases a;rfl
  rw [hc,bi9,b,fp]
  by_cases h:p.1=s
  ·rw [Y8 h,Y8 h,Z5,cz9,<- bi9]
  ·rw [Y1 h,Y1 h,ZH]; simp
def sr (h:V∈fP H I a):(∃ p,p∈I/\p.1=V.1)\/(∃ q,q∈a/\q.1=V.1):=by
 induction H generalizing I a with
 | zero=>simp [fP] at h
 | succ H d =>
  rcases I with _ | ⟨p,I⟩ <;> rcases a with _ | ⟨q,a⟩
  ·simp [fP] at h
  ·simp only [fP,List.mem_cons] at h;rcases h with rfl | h
   ·exact .inr ⟨_,aj,rfl⟩
   ·rcases d h with ⟨b,c,e⟩ | ⟨b,c,e⟩
    ·simp at c
    ·exact .inr ⟨b,by simp [c],e⟩
  ·simp only [fP,List.mem_cons] at h;rcases h with rfl | h
   ·exact .inl ⟨_,aj,rfl⟩
   ·rcases d h with ⟨b,c,e⟩ | ⟨b,c,e⟩
    ·exact .inl ⟨b,by simp [c],e⟩
    ·simp at c
  ·simp only [fP] at h;split at h
   ·rcases Zo.1 h with rfl | h
    ·exact .inl ⟨_,aj,rfl⟩
    ·rcases d h with ⟨b,c,e⟩ | ⟨b,c,e⟩
     ·exact .inl ⟨b,by simp [c],e⟩
     ·exact .inr ⟨b,c,e⟩
   ·split at h
    ·rcases Zo.1 h with rfl | h
     ·exact .inr ⟨_,aj,rfl⟩
     ·rcases d h with ⟨b,c,e⟩ | ⟨b,c,e⟩
      ·exact .inl ⟨b,c,e⟩
      ·exact .inr ⟨b,by simp [c],e⟩
    ·split at h
     ·rcases d h with ⟨b,c,e⟩ | ⟨b,c,e⟩
      ·exact .inl ⟨b,by simp [c],e⟩
      ·exact .inr ⟨b,by simp [c],e⟩
     ·rcases Zo.1 h with rfl | h
      ·exact .inl ⟨p,aj,rfl⟩
      ·rcases d h with ⟨b,c,e⟩ | ⟨b,c,e⟩
       ·exact .inl ⟨b,by simp [c],e⟩
       ·exact .inr ⟨b,by simp [c],e⟩
def Nf.cons {p:Xaa × Nat} {l:dz} (h:Nf l) (hc:p.2≠0/\p.2<4294967296) (hl:∀ q,q∈l->iP p.1 q.1):Nf (p::l) :=
 ⟨aq9.2 ⟨hl,h.1⟩,fun q a=>by rcases Zo.1 a with rfl | a; exact hc; exact h.2 q a⟩
def R4 (d:Nf I) (f:Nf a):Nf (fP H I a):=by
 induction H generalizing I a with
 | zero=>exact Nf.nil
 | succ H h =>
  rcases I with _ | ⟨p,I⟩ <;> rcases a with _ | ⟨q,a⟩
  ·exact Nf.nil
  ·simp only [fP];refine (h Nf.nil f.tail).cons (f.2 q aj) fun r g=>?_
   rcases sr g with ⟨b,c,e⟩ | ⟨b,c,e⟩
   ·simp at c
   ·rw [<- e]; exact f.head b c
  ·simp only [fP];refine (h d.tail Nf.nil).cons (d.2 p aj) fun r g=>?_
   rcases sr g with ⟨b,c,e⟩ | ⟨b,c,e⟩
   ·rw [<- e]; exact d.head b c
   ·simp at c
  ·simp only [fP];split
   ·rename_i h1;refine (h d.tail f).cons (d.2 p aj) fun r g=>?_
    rcases sr g with ⟨b,c,e⟩ | ⟨b,c,e⟩
    ·rw [<- e]; exact d.head b c
    ·rw [<- e];rcases Zo.1 c with rfl | c
     ·exact h1
     ·exact j4 h1 (f.head b c)
   ·rename_i h1;split
    ·rename_i h2;refine (h d f.tail).cons (f.2 q aj) fun r g=>?_
     rcases sr g with ⟨b,c,e⟩ | ⟨b,c,e⟩
     ·rw [<- e];rcases Zo.1 c with rfl | c
      ·exact h2
      ·exact j4 h2 (d.head b c)
     ·rw [<- e]; exact f.head b c
    ·rename_i h2;have he:=Aq _ _ h1 h2;split
     ·exact h d.tail f.tail
     ·rename_i h0;refine (h d.tail f.tail).cons ⟨h0,cu9 _ bY⟩ fun r g=>?_
      rcases sr g with ⟨b,c,e⟩ | ⟨b,c,e⟩
      ·rw [<- e]; exact d.head b c
      ·rw [<- e];show iP p.1 b.1;rw [he]; exact f.head b c
def Rx {x y:dz} (hn:x.length+y.length<=H) (s:Xaa):cf (fP H x y) s % 4294967296=(cf x s+cf y s) % 4294967296:=by
 induction H generalizing x y with
 | zero =>
  have h1:x=[]:=ax9.1 ad;have h2:y=[]:=ax9.1 ad;subst h1 h2;rfl
 | succ H a =>
  rcases x with _ | ⟨p,x⟩ <;> rcases y with _ | ⟨q,y⟩
  ·rfl
  ·simp only [fP,fp,AQ]
   have:=a (x:=[]) (y:=y) (by simp at hn ⊢; omega)
   simp only [AQ] at this;omega
  ·simp only [fP,fp,AQ]
   have:=a (x:=x) (y:=[]) (by simp at hn ⊢; omega)
   simp only [AQ] at this;omega
  ·simp only [List.length_cons] at hn;simp only [fP];split
   ·have:=a (x:=x) (y:=q::y) (by simp; omega)
    simp only [fp] at this ⊢;omega
   ·rename_i h1;split
    ·have:=a (x:=p::x) (y:=y) (by simp; omega)
     simp only [fp] at this ⊢;omega
    ·rename_i h2;have he:=Aq _ _ h1 h2
     have:=a (x:=x) (y:=y) ad
     split
     ·rename_i h0;simp only [fp,<- he];split
      ·omega
      ·omega
     ·simp only [fp,<- he];split
      ·omega
      ·omega
def Sl (b:Nf I) (c:Nf a):Nf (Lv I a):=R4 b c
def Sb (x y:dz) (s:Xaa):cf (Lv x y) s % 4294967296=(cf x s+cf y s) % 4294967296:=Rx (Zc _) s
def EC (n:Nat) (l:dz) (s:Xaa):cf (l.map fun p=>(p.1,p.2*n % 4294967296)) s % 4294967296=cf l s*n % 4294967296:=by
 induction l with
 | nil=>simp [cf]
 | cons p l a =>
  simp only [List.map_cons,cf];rw [bi9,a]
  by_cases h:p.1=s
  ·rw [Y8 h,Y8 h,Z5,cz9,<- bi9]
  ·rw [Y1 h,Y1 h,ZH]; simp
def DM (x:cE) (n:Nat):cE:=⟨fO n x.ah,x.num*n % 4294967296⟩
def yP (x y:cE):cE:=⟨Lv x.ah y.ah,(x.num+y.num) % 4294967296⟩
def Ci (n:Nat) (l:dz):(fO n l).length<=l.length:=List.length_filterMap_le _ _
def Wb (r:Option Nat) (p:Xac) (l i:Nat) (k:T):T :=
 T.loop [aK] [vI (0:Int)] <| fun (a:Int) =>
 bn a l
  (T.need (dF a l) <|
  T.aR p <| fun (d:Xax) =>
  T.af (d.add (ay a 2)) [.string,.int .u32] <| fun (e:Xaa) (f:Int) =>
  T.new [cm,ax (0:Int)] 66 <| fun (b:Xax) =>
  T.ar b [.string e,ax f] <|
  T.af b [.string] <| fun (c:Xaa) =>
  bX (Instr.lookup 170 (.map r) (.string c) false) false [(false,[.int .u32])] <| fun (g:Int) =>
  T.af (b.add 1) [.int .u32] <| fun (h:Int) =>
  T.eV Xaz (Instr.mapUpdate 170 (.map r) (.string c) (ax (IntKind.wrap .u32 (g+h)))) <|
  T.again i [vI (bC (a+(1:Int)))]) k
def wN (l:dz):∀ D:dz,(l.foldl jF D).length<=D.length+l.length:=by
 induction l with
 | nil=>intro D; simp
 | cons p l a =>
  intro D;rw [ZD];have h1:=a (jF D p);have h2:=Hv D p.1 ((eu D p.1+p.2) % 4294967296);have b:(jF D p).length<=D.length+1:=h2;simp only [List.length_cons];omega
def Kw {K:Xab->Hp->Prop} {h:Hp} {us D:dz} (q:Z.length=f) (v:ik h U Y us) (hl:us.length<=2^40) (F:∀ t,t∈us->t.1.size<=maxLen) (m:fm h H (vm D)) (G:H∉aF U)
  (hk:∀ J h',fm h' H (vm (us.foldl jF D))->Ch [H] h h'->e (Z++[J]) K h'):Wb (some H) U Y f e Z K h:=by
 have hll:=v.len;have I:∀ J:List Xab->Hp->Prop,(Z++[J])[f]?=some J:=by intro J; subst q; simp
 unfold Wb bn ay bX bC dF ax cm aK;refine aU (cs:=cn) (fun y w h'=>∃ (i:Nat),y.1=(i:Int)/\i<=us.length/\w=us.length-i/\Ch [H] h h'/\fm h' H (vm ((us.take i).foldl jF D))) ((0:Int),()) us.length rfl
  ⟨0,rfl,ad,ad,Ch.refl _ _,by simpa using m⟩ ?_
 rintro ⟨V,⟨⟩⟩ w B ⟨i,hi,C,rfl,r,s⟩;simp only at hi;subst hi;refine ak ?_;refine aP ?_ ?_<;>intro M
 ·have b:i<us.length:=ad
  obtain ⟨a,rfl,hc⟩:=(v.ai r (by intro j u E; rw [Zh] at E; subst E; exact G u)).cells i b;have c:us.take (i+1)=us.take i++[us[i]]:=Y2 b;have hsz:=F us[i] (Y5 b);generalize us[i]=t at hc c hsz;refine bP rfl ?_;rw [cB i];refine av (t.1,(t.2:Int),()) hc (ak ?_);refine bG ?_;intro W N O X;refine bQ N ?_;intro h6 o P z6;have o:bF h6 B.size 66 (dh t):=o;have d:Ext B h6:=bZ O P;have m6:=s.ai d aj;refine az o (t.1,()) (ak ?_);refine qN m6 _ ?_;rw [aC];refine az o ((t.2:Int),()) (ak ?_);generalize x:(us.take i).foldl jF D=A at m6;refine Ip (n:=(eu A t.1+t.2) % 4294967296) m6 hsz ?_ ?_
  ·rw [eF,jn,ci9]
  ·intro h7 Q R z7;have hw:=iC i;have S:(us.take (i+1)).foldl jF D=wG A t.1 ((eu A t.1+t.2) % 4294967296):=by
    rw [c,ZW,x] <;> rfl
   refine aG (cs:=cn) (((i+1:Nat):Int),()) (us.length-(i+1)) (I _) ad (Zg (fun z=>[Value.int .i64 z]) hw) ⟨i+1,rfl,ad,rfl,?_,by rw [S]; exact Q⟩;exact Ch.trans (Ch.trans r d aj) R (fun j u _=>u)
 ·have hi:i=us.length:=ad
  subst hi;rw [ZA] at s;exact hk _ _ s r
def ik.Vz {h:Hp} {us:dz} (v:ik h U H us) (hn:us≠[]):∀ i,i∈aF U->i<h.size:=by
 intro i hi;cases us with
 | nil=>exact absurd rfl hn
 | cons t us =>
  obtain ⟨a,rfl,hc⟩:=v.cells 0 aj;simp only [aF,List.mem_singleton] at hi;subst hi;rw [show a.add (0*2)=a by simp [Addr.add]] at hc;have h1:=hc.1;unfold jj at h1;split at h1
  ·rename_i b
   have:=fF b
   simpa [fv] using this
  ·cases h1
def Wr:Tryz.prog.underlying 175=some (.slice 57):=aw
def WR:(Tryz.prog.info? 57).map (fun i=>(i.zero,i.size,i.bytes))=some (some (.slice none 0 0),1,24):=aw
def Uo {h:Hp} {p q:Xac} {l c m d:Nat} {x y:cE} (v:ik h p l x.ah) (u:ik h q m y.ah) (P:∀ i,i∈aF p->i<h.size) (Q:∀ i,i∈aF q->i<h.size)
  (hl:x.ah.length+y.ah.length<=2^40) (R:∀ t,t∈x.ah->t.1.size<=maxLen) (S:∀ t,t∈y.ah->t.1.size<=maxLen) :
  HC Xaz 87 #[gF p l c x,gF q m d y] h fun w h'=>Ext h h'/\∃ p' l' c',w=gF p' l' c' (nJ x y)/\SL h' h.size 66 2 p' l' c' ((nJ x y).ah.map dh):=by
 refine bi (args:=[.agg #[.slice p l c,.int .u32 x.num],.agg #[.slice q m d,.int .u32 y.num]]) mixed Tryz.func87 aw (B' p l c x.num q m d y.num) ?_;unfold Bl aY bj bn ay bz aT bX ax aS cm aK;refine bG ?_;intro h1 b1 F z1;refine bG ?_;intro h2 b2 o z2;refine bG ?_;intro e b3 r z3;refine nH _ ?_;intro X G n z4;refine ⟨(some e.size,()),rfl,ak ?_⟩;have b1:=((b1.ai o aj).ai r aj).ai n aj;have b2:=(b2.ai r aj).ai n aj;have b3:=b3.ai n aj;have e04:=((F.trans o).trans r).trans n;refine az b1 ((p,l,c),()) (ak ?_);refine az b2 ((q,m,d),()) (ak ?_);refine mF (cells:=[.slice p l c,.slice q m d]) Wr WR bY bY aw ?_;intro H I f Y;have U:fm H e.size (vm []):=G.ai f aj;have b1:=b1.ai f aj;have b2:=b2.ai f aj;have b3:=b3.ai f aj;have e05:=e04.trans f;have hb5:=I.lt;have hm4:=G.lt;refine aU (cs:=cn) (fun z w h'=>∃ (i:Nat),z.1=(i:Int)/\i<=2/\w=2-i/\Ch [e.size] H h'/\fm h' e.size (vm ((([x.ah,y.ah].take i).flatten).foldl jF []))) ((0:Int),()) 2 rfl
  ⟨0,rfl,ad,ad,Ch.refl _ _,U⟩ ?_
 rintro ⟨Z,⟨⟩⟩ w h6 ⟨i,hi,K,rfl,b,g⟩;simp only at hi;subst hi;refine ak ?_;have b6:=I.ai b (by simp; omega);have a:Ext h h6:=bZ e05 b;refine aP ?_ ?_<;>intro V
 ·refine bP rfl ?_;rw [cB i,aC];have hw:=iC i;have s:i=0\/i=1:=ad
  rcases s with rfl | rfl
  ·refine az b6 ((p,l,c),()) (ak ?_);refine Kw (us:=x.ah) (D:=[]) rfl (v.ai a aj) ad R g (fun A=>by have:=P _ A; omega) ?_;intro J L B C;refine aG (cs:=cn) (((0+1:Nat):Int),()) (2-(0+1)) rfl ad (Zg (fun z=>[Value.int .i64 z]) hw) ⟨0+1,rfl,ad,rfl,Ch.trans b C (fun j k _=>k),?_⟩;simpa using B
  ·refine az b6 ((q,m,d),()) (ak ?_);refine Kw (us:=y.ah) (D:=x.ah.foldl jF []) rfl (u.ai a aj) ad S (by simpa using g) (fun A=>by have:=Q _ A; omega) ?_;intro J L B C;refine aG (cs:=cn) (((1+1:Nat):Int),()) (2-(1+1)) rfl ad (Zg (fun z=>[Value.int .i64 z]) hw) ⟨1+1,rfl,ad,rfl,Ch.trans b C (fun j k _=>k),?_⟩;simpa using B
 ·have hi:i=2:=ad
  subst hi;have g:fm h6 e.size (vm ((x.ah++y.ah).foldl jF [])):=by simpa using g
  have b1:=b1.ai b (by simp; omega);have b2:=b2.ai b (by simp; omega);have b3:=b3.ai b (by simp; omega);rw [aC,aC];refine az b1 ((x.num:Int),()) (ak ?_);refine az b2 ((y.num:Int),()) (ak ?_);refine aJ (RE g (by have:=wN (x.ah++y.ah) []; rw [Y0,List.length_nil] at this; omega) _) ?_;rintro _ L ⟨M,p',l',c',rfl,N⟩;refine ⟨((p',l',c'),IntKind.wrap .u32 ((x.num:Int)+(y.num:Int)),()),rfl,ak ?_⟩;refine bQ (b3.ai M aj) ?_;intro W E O z8;have E:bF W h2.size 60 [.slice p' l' c',.int .u32 (IntKind.wrap .u32 ((x.num:Int)+(y.num:Int)))]:=E;refine az E ((p',l',c'),IntKind.wrap .u32 ((x.num:Int)+(y.num:Int)),()) ?_;have hz6:=a.size;have hz2:=(F.trans o).size;have hb3:=b3.lt;refine ⟨bZ (a.trans M) O,p',l',c',?_,(N.br O (fun j k=>by have:=(N.cj k).1; simp; omega)).mono ad⟩;unfold gF nJ;rw [eF];dsimp only;rw [jn,ci9]
def sP (p:UInt8->Bool) (l:List UInt8) (k:Nat) (hk:k<l.length):(l.take (k+1)).all p=((l.take k).all p && p (l.getD k 0)):=by
 rw [Y2 hk,List.all_append];simp [List.getD,List.getElem?_eq_getElem hk]
def tZ (s:Xaa) (h:Hp) (w:s.size<=9223372036854775807):xL Xaz 35 [.string s] h (.bool (dr s.data.toList)):=by
 refine fh mixed Tryz.func35 aw (qh s) ?_;have l:s.data.toList.length=s.size:=aj
 unfold ko bj bd bz dF iW bH aK cr;unfold dr;rw [l];refine ao ?_ ?_<;>intro h1
 ·have h1:=Y3 h1;rw [show decide (0<s.size)=false from Y6 ad];exact ⟨aj,rfl⟩
 have h1:=Zf h1;refine ao ?_ ?_<;>intro h2
 ·have h2:=Y3 h2;rw [show decide (s.size<=32)=false from Y6 ad];exact ⟨aj,rfl⟩
 have h2:=Zf h2;rw [show decide (0<s.size)=true from Y4 ad,show decide (s.size<=32)=true from Y4 ad];refine dO ?_;refine aM (CX (s.data.toList.getD 0 0) h) ?_;refine ao ?_ ?_<;>intro f
 ·have f:fE (s.data.toList.getD 0 0)=false:=by simpa using f
  rw [f];exact ⟨aj,rfl⟩
 have f:fE (s.data.toList.getD 0 0)=true:=by simpa using f
 rw [f];refine aU (cs:=ic) (fun x n h'=>h'=h/\∃ k:Nat,x.2.1=(k:Int)/\k<=s.size/\n=s.size-k/\(s.data.toList.take k).all (fun c=>fE c || jd c)=true)
  (false,(0:Int),()) s.size rfl ⟨rfl,0,rfl,ad,ad,aj⟩ ?_
 rintro ⟨b,n,⟨⟩⟩ m h' ⟨rfl,k,hk,p,rfl,a⟩;simp only at hk;subst hk;refine ao ?_ ?_<;>intro o
 ·have j:(k:Int)<s.size:=Y3 o;have hst:=sP (fun c=>fE c || jd c) s.data.toList k ad;rw [a,Zy] at hst;have e:∀ k':Nat,(fE (s.data.toList.getD k 0) || jd (s.data.toList.getD k 0))=false->s.data.toList.all (fun c=>fE c || jd c)=false:=by
   intro k' q;rw [q] at hst;cases r:s.data.toList.all (fun c=>fE c || jd c) with
   | false=>rfl
   | true =>
    have:(s.data.toList.take (k+1)).all (fun c=>fE c || jd c)=true:=Zx.2 fun c hc=>Zx.1 r c (Z0 hc)
    rw [this] at hst; cases hst
  have d:(fE (s.data.toList.getD k 0) || jd (s.data.toList.getD k 0))=true->T.again 0 [.bool b,vI (IntKind.wrap .i64 ((k:Int)+1))] ([]++[Jl (cs:=ic) (fun x n h''=>h''=h'/\∃ k:Nat,x.2.1=(k:Int)/\k<=s.size/\n=s.size-k/\(s.data.toList.take k).all (fun c=>fE c || jd c)=true) (s.size-k)]) (fun v' h''=>v'=.bool (true && true && true && s.data.toList.all (fun c=>fE c || jd c) && !(zO s.data.toList).2.2)/\h''=h') h':=by
   intro t;rw [wrap_i64 ad ad];exact aG (cs:=ic) (b,(k:Int)+1,()) (s.size-(k+1)) rfl ad rfl ⟨rfl,k+1,(show ((k:Int)+1)=((k+1:Nat):Int) from ad),ad,rfl,by rw [hst,t]⟩
  refine dA ⟨(by show (0:Int)<=(k:Int); omega),j⟩ ?_;refine aM (CX (s.data.toList.getD k 0) h') ?_;refine ao ?_ ?_<;>intro g
  ·have g:fE (s.data.toList.getD k 0)=false:=by simpa using g
   refine dA ⟨(by show (0:Int)<=(k:Int); omega),j⟩ ?_;refine aM (Pq (s.data.toList.getD k 0) h') ?_;refine ao ?_ ?_<;>intro i
   ·have i:jd (s.data.toList.getD k 0)=false:=by simpa using i
    rw [e 0 (by rw [g,i]; rfl)];exact ⟨aj,rfl⟩
   ·have i:jd (s.data.toList.getD k 0)=true:=by simpa using i
    exact d (by rw [i]; simp)
  ·have g:fE (s.data.toList.getD k 0)=true:=by simpa using g
   exact d (by rw [g]; simp)
 ·have u:¬ (k:Int)<s.size:=Zf o;have hk:k=s.data.toList.length:=ad
  rw [hk,ZA] at a;rw [a];refine Hy (Eb s h') ?_;exact ⟨aj,rfl⟩
def dv (c:UInt8):Nat:=if c.toNat<58 then c.toNat-48 else c.toNat-87
def Va (b:Nat) (l:List UInt8):Nat:=l.foldl (fun n c=>n*b+dv c) 0
def W3 (c:UInt8):Bool:=jd c || (97<=c.toNat && c.toNat<=102)
def Eg:List UInt8:=[48,49,50,51,52,53,54,55,56,57,97,98,99,100,101,102]
def Sa (l:List UInt8):Nat × Nat :=
 if l.take 2=[48,120] then
  (if 8<nW (l.drop 2) Eg\/nW (l.drop 2) Eg=0 then (0,0) else (2+nW (l.drop 2) Eg,Va 16 ((l.drop 2).take (nW (l.drop 2) Eg))))
 else
  (if (1<nW l jy/\l.getD 0 0=48)\/nW l jy=0\/4294967296<=Va 10 (l.take (nW l jy)) then (0,0) else (nW l jy,Va 10 (l.take (nW l jy))))
structure Tok where
 kind:Nat
 text:Xaa
 num:Nat
 at_:Nat
def Uw:List UInt8:=iF++jy
def Ca (P:Program) (t:TypeId):Array Field :=
 match P.underlying t with
 | some (.struct a)=>a
 | _=>#[]
def bytes_beq (t:Xaa):(t==t)=true:=by
 cases t with | mk d=>show (d==d)=true; simp
def hv (c:UInt8):Int:=if W3 c=true then (dv c:Int) else -1
def vS (D:List UInt8):Nat × Nat :=
 if D.getD 0 0=39 then
  (if D.length<3\/(D.getD 1 0).toNat<32\/126<(D.getD 1 0).toNat\/D.getD 1 0=39\/D.getD 2 0≠39 then (0,0) else ((D.getD 1 0).toNat,3))
 else if (Sa D).1=0\/0<nW (D.drop (Sa D).1) Uw then (0,0) else ((Sa D).2,(Sa D).1)
def DV {t:Xaa} (h:O.data.toList=t.data.toList):O=t:=by
 cases O; cases t;simp only at h
 congr 1
 exact ZM.1 h
structure pK where
 p:Xac
 l:Nat
 c:Nat
 q:Xac
 d:Nat
 ts:List Tok
def pK.one (e:pK):List Xab:=[.slice e.p e.l e.c]
def pK.two (e:pK):List Xab:=[.slice e.q e.l e.d]
def pK.vz (e:pK):List Nat:=aF e.p++aF e.q
def eW (p:Xac) (k:Nat):aF (p.map fun a=>a.add k)=aF p:=by
 cases p with
 | none=>rfl
 | some a=>simp [aF,fv]
def K5 {h:Hp} {gb:Nat} {l:List Nat} (a:Ch (gb::l) h h1) (c:Ch [gb] h1 h2):Ch (gb::l) h h2:=a.trans c (fun i hi _=>by simp at hi; simp [hi])
def dY (b:Nat) (h h':Hp):Prop:=h.size<=h'.size/\∀ i,i<b->i<h.size->h'[i]?=h[i]?
def dY.of {ws:List Nat} {h h':Hp} (k:Ch ws h h') (a:∀ i,i∈ws->i<h.size->H<=i):dY H h h' :=
 ⟨k.size,fun i hi hl=>k.same i hl fun c=>by have:=a i c hl; omega⟩
def dY.trans {b:Nat} {h:Hp} (a:dY b h h1) (c:dY b h1 h2):dY b h h2 :=
 ⟨ZK a.1 c.1,fun i hi hl=>(c.2 i hi (aw9 hl a.1)).trans (a.2 i hi hl)⟩
def dY.ext {h:Hp} (a:Ext h h1) (c:dY h.size h1 h2):Ext h h2 :=
 ⟨ZK a.size c.1,fun i hi _=>(c.2 i hi (aw9 hi a.size)).trans (a.same i hi aj)⟩
def VN (k j:Nat):List Xab:=[vI (IntKind.wrap .i64 (-100-(k:Int))),.string ⟨#[]⟩,.int .u32 0,vI (IntKind.wrap .i64 (0-(j:Int)))]
def ym {cells vs:List Xab} (hv:vs.length=Y) (h:H+Y<=cells.length):((gK cells H vs).drop H).take Y=vs:=by
 rw [gZ _ _ _ ad,Zp];rw [ac9 (by rw [Zi]; omega),ar9 (by rw [Zi]; omega),Z8,ad9 ad,Zu ad]
def sf {cells vs:List Xab} {o' n:Nat} (h:H+vs.length<=cells.length) (h':o'+n<=H):((gK cells H vs).drop o').take n=(cells.drop o').take n:=by
 rw [gZ _ _ _ ad,Zp];rw [ac9 (by rw [Zi]; omega),ad9 (by rw [ZI,Zi]; omega)];rw [List.drop_take,List.take_take,ZQ ad]
def add_add (a:Xax) (i j:Nat):(a.add i).add j=a.add (i+j):=by
 unfold Addr.add
 by_cases hi:i=0 <;> by_cases b:j=0 <;> simp [hi,b] <;> omega
def vQ:cE:=⟨[],0⟩
structure Good (x:cE):Prop where
 nf:Nf x.ah
 NW:∀ t,t∈x.ah->dr t.1.data.toList=true
 num:x.num<4294967296
def Iy (h:dr O.data.toList=true):O.size<=32:=by
 unfold dr at h;simp only [Bool.and_eq_true,decide_eq_true_eq] at h
 have:O.data.toList.length=O.size:=aj
 omega
abbrev ptr (a:Nat):Xab:=.pointer (some ⟨a,0,none⟩)
def dk {h:Hp} {b:Xax} (hc:aI h b 0 (dh V)):aI h b 0 [.string V.1]/\aI h (b.add 1) 0 [.int .u32 (V.2:Int)]:=by
 obtain ⟨h1,h2,a⟩:=hc;exact ⟨⟨h1,trivial⟩,⟨by rw [add_add]; exact h2,trivial⟩⟩
def J5 (a n:Nat):IntKind.wrap .u32 ((a:Int)*(n:Int))=((a*n % 4294967296:Nat):Int):=by rw [eF,jn,Int.natCast_mul]
def J3 (a n:Nat):IntKind.wrap .u32 ((a:Int)+(n:Int))=(((a+n) % 4294967296:Nat):Int):=by rw [eF,jn,ci9]
variable {b:cE}
def It {h:Hp} (v:ik h U H b.ah) (hl:b.ah.length<=2^40) (O:∀ i,i∈aF U->i<h.size) (n:Nat) :
  HC Xaz 116 #[gF U H Y b,.int .u32 n] h fun w h'=>Ext h h'/\∃ p' l' c',w=gF p' l' c' (DM b n)/\SL h' h.size 66 2 p' l' c' ((DM b n).ah.map dh):=by
 refine bi (args:=[.agg #[.slice U H Y,.int .u32 b.num],.int .u32 n]) mixed Tryz.func116 aw (pC U H Y b.num n) ?_;unfold kD aY bj bn ay aT ax aS aK;have hll:=v.len;refine bG ?_;intro h1 b1 P z1;refine bG ?_;intro h2 b2 I z2;have b1:=b1.ai I aj;rw [aC];refine az b1 ((b.num:Int),()) (ak ?_);refine bG ?_;intro h3 Q R z3;refine bQ Q ?_;intro h4 C S z4;rw [J5] at C;have C:bF h4 h2.size 60 [.slice none 0 0,.int .u32 ((b.num*n % 4294967296:Nat):Int)]:=C;have r:Ext h2 h4:=bZ R S;have b1:=b1.ai r aj;have b2:=b2.ai r aj;have e04:=(P.trans I).trans r;have hb4:=C.lt;refine aU (cs:=cn) (fun y w h'=>∃ (i:Nat) (q:Xac) (m d:Nat),y.1=(i:Int)/\i<=b.ah.length/\w=b.ah.length-i/\Ch [h2.size] h4 h'/\bF h' h2.size 60 [.slice q m d,.int .u32 ((b.num*n % 4294967296:Nat):Int)] /\
  SL h' h4.size 66 2 q m d ((fO n (b.ah.take i)).map dh)/\m<=i) ((0:Int),()) b.ah.length rfl ⟨0,none,0,0,rfl,ad,ad,Ch.refl _ _,C,SL.nil _ _ _ _,ad⟩ ?_
 rintro ⟨n8,⟨⟩⟩ w h5 ⟨i,q,m,d,hi,J,rfl,B,D,s,K⟩;simp only at hi;subst hi;refine ak ?_;have b15:=b1.ai B (by simp; omega);have hz5:=B.size;have E:Ext h h5:=bZ e04 B;have v5:=v.ai E aj;refine az b15 ((U,H,Y),()) (ak ?_);have hw:=iC i;refine aP ?_ ?_<;>intro V
 ·have g:i<b.ah.length:=ad
  have u:b.ah.take (i+1)=b.ah.take i++[b.ah[i]]:=Y2 g;obtain ⟨a,rfl,hc⟩:=v5.cells i g;generalize b.ah[i]=t at hc u;obtain ⟨c1,W⟩:=dk hc;refine az b15 ((some a,H,Y),()) (ak ?_);refine bP rfl ?_;rw [cB i];refine av ((t.2:Int),()) W (ak ?_);rw [J5];refine ao ?_ ?_<;>intro k
  ·have k:¬ t.2*n % 4294967296=0:=by
    intro X;rw [X] at k;cases k
   refine az D ((q,m,d),()) (ak ?_);refine az b15 ((some a,H,Y),()) (ak ?_);refine bP rfl ?_;refine av (t.1,()) c1 (ak ?_);have hab:=O a.block (by simp [aF]);refine gn (vs:=dh (t.1,t.2*n % 4294967296)) uH rp rfl ad ad aw rfl rfl s hz5 ad ad (fun h' e=>⟨aX e aj _ _ c1,(b15.ai e aj).cells _ rfl,(D.ai e aj).cells _ rfl,trivial⟩) ?_;intro p' c' L M A Z;have f:∀ j,j<h4.size->j∉aF q:=fun j o K=>by have:=(s.cj K).1; omega
   refine ⟨⟨aX A (by rw [fv]; exact f _ (by have:=e04.size; omega)) _ _ c1,(b15.ai A (f _ ad)).cells _ rfl,trivial⟩,?_⟩;refine bQ (D.ai A (f _ ad)) ?_;intro h8 b8 N z8;refine aG (cs:=cn) (((i+1:Nat):Int),()) (b.ah.length-(i+1)) rfl ad (Zg (fun z=>[Value.int .i64 z]) hw) ⟨i+1,p',m+1,c',rfl,ad,rfl,?_,b8,?_,ad⟩
   ·exact Ch.trans (Ch.trans B A (fun j o hl=>by have:=(s.cj o).1; omega)) N (fun j o _=>o)
   ·have F:fO n (b.ah.take (i+1))=fO n (b.ah.take i)++[(t.1,t.2*n % 4294967296)]:=by
     unfold fO;rw [u,bd9]
     congr 1
     simp only [List.filterMap_cons,List.filterMap_nil];rw [Y1 k]
    rw [F,Za];exact M.br N (fun j o=>by have:=(M.cj o).1; simp; omega)
  ·have k:t.2*n % 4294967296=0:=by
    have:((t.2*n % 4294967296:Nat):Int)=0:=by simpa using k
    omega
   refine aG (cs:=cn) (((i+1:Nat):Int),()) (b.ah.length-(i+1)) rfl ad (Zg (fun z=>[Value.int .i64 z]) hw) ⟨i+1,q,m,d,rfl,ad,rfl,B,D,?_,ad⟩;have F:fO n (b.ah.take (i+1))=fO n (b.ah.take i):=by
    unfold fO;rw [u,bd9];simp only [List.filterMap_cons,List.filterMap_nil];rw [Y8 k,Z2]
   rw [F];exact s
 ·have hi:i=b.ah.length:=ad
  subst hi;rw [ZA] at s;refine az D ((q,m,d),((b.num*n % 4294967296:Nat):Int),()) (ak ?_);refine bQ (b2.ai B (by simp; omega)) ?_;intro L G A z7;have G:bF L h1.size 60 [.slice q m d,.int .u32 ((b.num*n % 4294967296:Nat):Int)]:=G;refine az G ((q,m,d),((b.num*n % 4294967296:Nat):Int),()) ?_;have hz4:=e04.size;exact ⟨bZ E A,q,m,d,rfl,(s.br A (fun j o=>by have:=(s.cj o).1; simp; omega)).mono ad⟩
def leB (a b:Xaa):(Op.bytesLess (ByteArray.toList a) (ByteArray.toList b) || (ByteArray.toList a==ByteArray.toList b))=!decide (iP b a):=by
 rw [ByteArray.toList_eq,ByteArray.toList_eq,Proofs.bytesLess_eq]
 by_cases h:iP b a
 ·rw [Y4 h];have h1:¬ a.data.toList<b.data.toList:=Da h;have h2:¬ a.data.toList=b.data.toList:=fun e=>kW h (DV e).symm
  have c:¬ a.data=b.data:=fun e=>h2 (by rw [e])
  simp [h1,c]
 ·rw [Y6 h]
  by_cases h1:iP a b
  ·have h1:a.data.toList<b.data.toList:=h1;simp [h1]
  ·have:=Aq a b h1 h
   subst this
   simp
def oR:Option Xaa->dz->Bool
 | _,[]=>true
 | o,t::r=>dr t.1.data.toList && decide (t.2≠0) && (match o with
  | none=>true
  | some s=>decide (iP s t.1)) && oR (some t.1) r
def J2 (l:dz) (i:Nat):Option Xaa:=if i=0 then none else (l[i-1]?).map (·.1)
def Jf {o:Option Xaa} (h:oR o I=true):(∀ t,t∈I->dr t.1.data.toList=true/\t.2≠0)/\(I.Pairwise fun p q=>iP p.1 q.1)/\∀ s,o=some s->∀ t,t∈I->iP s t.1:=by
 induction I generalizing o with
 | nil=>exact ⟨aj,List.Pairwise.nil,aj⟩
 | cons t r d =>
  unfold oR at h;simp only [Bool.and_eq_true,decide_eq_true_eq] at h;obtain ⟨⟨⟨h1,h2⟩,b⟩,e⟩:=h;obtain ⟨f,g,c⟩:=d e;refine ⟨?_,aq9.2 ⟨fun q i=>c _ rfl q i,g⟩,?_⟩
  ·intro u a;rcases Zo.1 a with rfl | a
   ·exact ⟨h1,h2⟩
   ·exact f u a
  ·rintro s rfl u a;have b:iP s t.1:=by simpa using b
   rcases Zo.1 a with rfl | a
   ·exact b
   ·exact j4 b (c _ rfl u a)
def EL {x:cE} (h:oR none x.ah=true) (hc:∀ t,t∈x.ah->t.2<4294967296) (hn:x.num<4294967296):Good x :=
 ⟨⟨(Jf h).2.1,fun p a=>⟨((Jf h).1 p a).2,hc p a⟩⟩,fun t b=>((Jf h).1 t b).1,hn⟩
def vK {h:Hp} {c:Nat} (v:ik h U H b.ah) (hl:b.ah.length<=9223372036854775807) (J:∀ t,t∈b.ah->t.1.size<=maxLen) :
  HC Xaz 80 #[gF U H c b] h fun w h'=>w=.bool (oR none b.ah)/\Ext h h':=by
 refine bi (args:=[.agg #[.slice U H c,.int .u32 b.num]]) mixed Tryz.func80 aw (zP U H c b.num) ?_;unfold wF aY bj bn ay bd bC ax bH dZ cm aK cr;have hll:=v.len;refine bG ?_;intro h1 b1 K z1;refine az b1 ((U,H,c),()) (ak ?_);refine aU (cs:=ic) (fun y w h'=>∃ (i:Nat),y.2.1=(i:Int)/\i<=b.ah.length/\w=b.ah.length-i/\Ext h1 h'/\oR none b.ah=oR (J2 b.ah i) (b.ah.drop i)) (false,(0:Int),()) b.ah.length rfl
  ⟨0,rfl,ad,ad,Ch.refl _ _,rfl⟩ ?_
 rintro ⟨B,R,⟨⟩⟩ w h2 ⟨i,hi,I,rfl,C,e⟩;simp only at hi;subst hi;refine ak ?_;have e02:=K.trans C;refine aP ?_ ?_<;>intro L
 ·have d:i<b.ah.length:=ad
  have v2:=v.ai e02 aj;obtain ⟨a,rfl,hc⟩:=v2.cells i d;have D:b.ah.drop i=b.ah[i]::b.ah.drop (i+1):=Zj d;have o:J2 b.ah (i+1)=some b.ah[i].1:=by
   unfold J2;rw [Y1 ad,Nat.add_sub_cancel,YZ d] <;> rfl
  have hsz:=J b.ah[i] (Y5 d);rw [D] at e;generalize b.ah[i]=t at hc e o hsz;refine bP rfl ?_;rw [cB i];refine av (t.1,(t.2:Int),()) hc (ak ?_);refine bG ?_;intro S M N z3;refine bQ M ?_;intro h4 m O z4;have m:bF h4 h2.size 66 [.string t.1,.int .u32 t.2]:=m;have f:Ext h2 h4:=bZ N O;have e04:=e02.trans f;rw [aC];refine az m ((t.2:Int),()) (ak ?_);refine ao ?_ ?_<;>intro n
  ·have n:t.2=0:=by have:(t.2:Int)=0:=(by simpa using n); omega
   refine ⟨?_,e04⟩;rw [e];unfold oR;rw [Y6 ad]
   simp
  ·have n:t.2≠0:=by have:¬ (t.2:Int)=0:=(by simpa using n); omega
   refine az m (t.1,()) (ak ?_);refine aM (wz t.1 h4 (by have:maxLen=9223372036854775807:=rfl; omega)) ?_;refine ⟨⟨m.cells _ rfl,trivial⟩,?_⟩;refine ao ?_ ?_<;>intro j
   ·have j:dr t.1.data.toList=false:=by simpa using j
    refine ⟨?_,e04⟩;rw [e];unfold oR;rw [j]
    simp
   ·have j:dr t.1.data.toList=true:=by simpa using j
    have hw:=iC i
    have g:(match J2 b.ah i with
      | none=>true
      | some s=>decide (iP s t.1))=true->oR none b.ah=oR (J2 b.ah (i+1)) (b.ah.drop (i+1)):=by
     intro P;rw [e,o]
     conv=>lhs; unfold oR
     rw [j,Y4 n,P] <;> rfl
    refine aP ?_ ?_<;>intro Q
    ·have E:IntKind.wrap .i64 ((i:Int)-1)=((i-1:Nat):Int):=by rw [wrap_i64 ad ad]; omega
     have q:i-1<b.ah.length:=ad
     obtain ⟨a',F,r⟩:=(v.ai e04 aj).cells (i-1) q;cases F;have A:J2 b.ah i=some b.ah[i-1].1:=by
      unfold J2;rw [Y1 ad,YZ q] <;> rfl
     rw [A] at g e;generalize b.ah[i-1]=u at r A g e;refine az m (t.1,()) (ak ?_);refine az ((b1.ai C aj).ai f aj) ((some a,H,c),()) (ak ?_);rw [E];refine bP rfl ?_;rw [show Int.toNat ((i-1:Nat):Int)=i-1 from ad];refine av (u.1,()) (dk r).1 (ak ?_);rw [leB];refine ao ?_ ?_<;>intro k
     ·have k:¬ iP u.1 t.1:=by simpa using k
      refine ⟨?_,e04⟩;rw [e];unfold oR;dsimp only;rw [Y6 k]
      simp
     ·have k:iP u.1 t.1:=by simpa using k
      exact aG (cs:=ic) (B,((i+1:Nat):Int),()) (b.ah.length-(i+1)) rfl ad (Zg (fun z=>[Value.bool B,Value.int .i64 z]) hw) ⟨i+1,rfl,ad,rfl,C.trans f,g (Y4 k)⟩
    ·have G:i=0:=ad
     subst G;exact aG (cs:=ic) (B,((0+1:Nat):Int),()) (b.ah.length-(0+1)) rfl ad (Zg (fun z=>[Value.bool B,Value.int .i64 z]) hw) ⟨0+1,rfl,ad,rfl,C.trans f,g rfl⟩
 ·have hi:i=b.ah.length:=ad
  subst hi;refine ⟨?_,e02⟩;rw [e,ai9] <;> rfl
def vh {h:Hp} {c:Nat} (v:ik h U H b.ah) (hl:b.ah.length<=9223372036854775807) (G:∀ t,t∈b.ah->t.1.size<=maxLen) :
  HC Xaz 36 #[gF U H c b] h fun w h'=>w=.bool (oR none b.ah)/\Ext h h':=by
 refine bi (args:=[.agg #[.slice U H c,.int .u32 b.num]]) mixed Tryz.func36 aw (pR U H c b.num) ?_;unfold kB aY bj bn ay bd bC ax bH dZ aK cr;have hll:=v.len;refine bG ?_;intro h1 b1 m z1;have v:=v.ai m aj;refine aU (cs:=ic) (fun y w h'=>∃ (i:Nat),y.2.1=(i:Int)/\i<=b.ah.length/\w=b.ah.length-i/\h1=h'/\oR none b.ah=oR (J2 b.ah i) (b.ah.drop i)) (false,(0:Int),()) b.ah.length rfl
  ⟨0,rfl,ad,ad,rfl,rfl⟩ ?_
 rintro ⟨A,L,⟨⟩⟩ w h2 ⟨i,hi,F,rfl,rfl,e⟩;simp only at hi;subst hi;refine ak ?_;refine az b1 ((U,H,c),()) (ak ?_);refine aP ?_ ?_<;>intro I
 ·have d:i<b.ah.length:=ad
  obtain ⟨a,rfl,hc⟩:=v.cells i d;have B:b.ah.drop i=b.ah[i]::b.ah.drop (i+1):=Zj d;have n:J2 b.ah (i+1)=some b.ah[i].1:=by
   unfold J2;rw [Y1 ad,Nat.add_sub_cancel,YZ d] <;> rfl
  have hsz:=G b.ah[i] (Y5 d);rw [B] at e;generalize b.ah[i]=t at hc e n hsz;refine az b1 ((some a,H,c),()) (ak ?_);refine bP rfl ?_;rw [cB i];refine av (t.1,()) (dk hc).1 (ak ?_);refine aM (tZ t.1 h1 (by have:maxLen=9223372036854775807:=rfl; omega)) ?_;refine ⟨⟨b1.cells _ rfl,trivial⟩,?_⟩;refine ao ?_ ?_<;>intro g
  ·have g:dr t.1.data.toList=false:=by simpa using g
   refine ⟨?_,m⟩;rw [e];unfold oR;rw [g]
   simp
  ·have g:dr t.1.data.toList=true:=by simpa using g
   refine az b1 ((some a,H,c),()) (ak ?_);refine bP rfl ?_;refine av ((t.2:Int),()) (dk hc).2 (ak ?_);refine ao ?_ ?_<;>intro k
   ·have k:t.2=0:=by have:(t.2:Int)=0:=(by simpa using k); omega
    refine ⟨?_,m⟩;rw [e];unfold oR;rw [Y6 ad]
    simp
   ·have k:t.2≠0:=by have:¬ (t.2:Int)=0:=(by simpa using k); omega
    have hw:=iC i
    have f:(match J2 b.ah i with
      | none=>true
      | some s=>decide (iP s t.1))=true->oR none b.ah=oR (J2 b.ah (i+1)) (b.ah.drop (i+1)):=by
     intro J;rw [e,n]
     conv=>lhs; unfold oR
     rw [g,Y4 k,J] <;> rfl
    refine aP ?_ ?_<;>intro K
    ·have C:IntKind.wrap .i64 ((i:Int)-1)=((i-1:Nat):Int):=by rw [wrap_i64 ad ad]; omega
     have o:i-1<b.ah.length:=ad
     obtain ⟨a',D,q⟩:=v.cells (i-1) o;cases D;have r:J2 b.ah i=some b.ah[i-1].1:=by
      unfold J2;rw [Y1 ad,YZ o] <;> rfl
     rw [r] at f e;generalize b.ah[i-1]=u at q r f e;refine az b1 ((some a,H,c),()) (ak ?_);refine bP rfl ?_;refine av (t.1,()) (dk hc).1 (ak ?_);refine az b1 ((some a,H,c),()) (ak ?_);rw [C];refine bP rfl ?_;rw [show Int.toNat ((i-1:Nat):Int)=i-1 from ad];refine av (u.1,()) (dk q).1 (ak ?_);rw [leB];refine ao ?_ ?_<;>intro j
     ·have j:¬ iP u.1 t.1:=by simpa using j
      refine ⟨?_,m⟩;rw [e];unfold oR;dsimp only;rw [Y6 j]
      simp
     ·have j:iP u.1 t.1:=by simpa using j
      exact aG (cs:=ic) (A,((i+1:Nat):Int),()) (b.ah.length-(i+1)) rfl ad (Zg (fun z=>[Value.bool A,Value.int .i64 z]) hw) ⟨i+1,rfl,ad,rfl,rfl,f (Y4 j)⟩
    ·have E:i=0:=ad
     subst E;exact aG (cs:=ic) (A,((0+1:Nat):Int),()) (b.ah.length-(0+1)) rfl ad (Zg (fun z=>[Value.bool A,Value.int .i64 z]) hw) ⟨0+1,rfl,ad,rfl,rfl,f rfl⟩
 ·have hi:i=b.ah.length:=ad
  subst hi;refine ⟨?_,m⟩;rw [e,ai9] <;> rfl
end Go.Sx
namespace Go.Sx.Ob
abbrev Bt:=List UInt8
def vR:Nat->Nat->Bt
 | _,0=>[]
 | n,w+1=>UInt8.ofNat n::vR (n / 256) w
def Ph:Bt->Nat
 | []=>0
 | b::l=>b.toNat+256*Ph l
theorem dN:∀ (w n:Nat),(vR n w).length=w
 | 0,_=>rfl
 | w+1,n=>by rw [vR,Z1,dN w]
theorem Dc:∀ (w n:Nat),Ph (vR n w)=n % 256^w
 | 0,n=>by simp [vR,Ph,Nat.mod_one]
 | w+1,n=>by
  rw [vR,Ph,Dc w,Nat.pow_succ,cw9 (256^w) 256,Nat.mod_mul]
  congr 1
abbrev Rd (α:Type):=Except (Nat × Nat) (α × Bt)
def lJ {α β:Type} (a:Rd α) (f:α->Bt->Rd β):Rd β :=
 match a with
 | .ok p=>f p.1 p.2
 | .error e=>.error e
@[simp] theorem w8 {α β:Type} (x:α) (r:Bt) (f:α->Bt->Rd β):lJ (.ok (x,r)) f=f x r:=rfl
def vS (w:Nat) (r:Bt):Rd Nat:=if w<=r.length then .ok (Ph (r.take w),r.drop w) else .error (0,10)
def Hu (r:Bt):Rd Xaa:=lJ (vS 2 r) fun n r=>if n<=r.length then .ok (⟨(r.take n).toArray⟩,r.drop n) else .error (0,10)
def P0:Nat->Bt->Rd dz
 | 0,r=>.ok ([],r)
 | n+1,r=>lJ (Hu r) fun s r=>lJ (vS 4 r) fun c r=>lJ (P0 n r) fun ts r=>.ok ((s,c)::ts,r)
def ji (r:Bt):Rd cE:=lJ (vS 2 r) fun n r=>lJ (P0 n r) fun ts r=>lJ (vS 4 r) fun c r=>.ok (⟨ts,c⟩,r)
def jJ (s:Xaa):Bt:=vR s.size 2++s.data.toList
def GP (t:Xaa × Nat):Bt:=jJ t.1++vR t.2 4
def mK (x:cE):Bt:=vR x.ah.length 2++(x.ah.flatMap GP++vR x.num 4)
def NN (w n:Nat) (t:Bt):vS w (vR n w++t)=.ok (n % 256^w,t):=by
 unfold vS;rw [Y8 (by rw [Y0,dN]; omega),List.take_left' (dN w n),List.drop_left' (dN w n),Dc]
def LK {s:Xaa} (h:s.size<65536) (t:Bt):Hu (jJ s++t)=.ok (s,t):=by
 unfold Hu jJ;rw [Zp,NN,w8,bm9 ad];have hl:s.data.toList.length=s.size:=aj
 rw [Y8 (by rw [Y0,hl]; omega),List.take_left' hl,List.drop_left' hl]
structure Ins where
 op:Int
 a:Int
 b:Int
 n:Int
 form:Int
deriving DecidableEq
structure cH where
 kind:Int
 name:Xaa
 inst:Ins
 e:cE
 n:Int
def SD:Ins:=⟨0,0,0,0,0⟩
def Gs:cE:=⟨[],0⟩
def dV:Xaa:=⟨#[]⟩
def fN (k:Int):cH:=⟨k,dV,SD,Gs,0⟩
def pf:List Nat:=[1,1,1,2,2,2,2,2,2,2,3,3,4,4,4,4,4,4,4,4,4,4,4,4,4,4,4,4,5,5,5,5,6,6,7,8,9,10,11,12,12,13,13]
def dG (op:Int):Nat:=if op<1 then 0 else pf.getD (op-1).toNat 0
def xM (n m:Int):Bool:=decide (0<=n) && decide (n<m)
def cR (s:Nat) (a b n:Int):Bool :=
 if s=1\/s=9\/s=12 then decide (a=0) && decide (b=0)
 else if s=2\/s=8\/s=10\/s=11\/s=13 then xM a 8 && decide (b=0)
 else if s=3 then xM a 4 && decide (b=0)
 else if s=4 then xM a 8 && xM b 8
 else if s=5 then xM a 4 && xM b 4
 else if s=6 then xM a 8 && xM b 4
 else xM a 4 && xM b 8 && xM n 8
def nM (n form:Int):Bool :=
 if form=1 then decide (-128<=n) && decide (n<=127)
 else if form=2 then decide (-32768<=n) && decide (n<=32767)
 else decide (form=4)
def nR (s:Nat) (n form:Int):Bool :=
 if s=8 then nM n 1
 else if s=9 then decide (0<=n) && decide (n<=255)
 else if s=10\/s=7 then true
 else if s=11 then decide (0<=n) && decide (n<=4095)
 else if s=12\/s=13 then nM n form
 else decide (n=0)
def um (op:Int):Bool:=decide (12<=dG op)
def Hq (op:Int):Bool:=decide (10<=dG op)
def ir (i:Ins):Int :=
 if dG i.op=0 then 11
 else if cR (dG i.op) i.a i.b i.n=false then 12
 else if (!um i.op && decide (i.form≠0) || !nR (dG i.op) i.n i.form)=true then 13
 else 0
def Ql (x:cE):Bool:=decide (x.ah=[]) && decide (x.num=0)
def Az (i:Ins) (e:cE):Bool :=
 decide (dG i.op≠0) && decide (i.form=0) && (if Hq i.op then decide (i.n=0) && decide (ir { i with form:=if um i.op then 1 else 0 }=0) && oR none e.ah
  else decide (ir i=0) && Ql e)
def we (n:Int):Bool:=decide (n=1) || decide (n=2) || decide (n=4) || decide (n=8) || decide (n=16) || decide (n=32) || decide (n=64) || decide (n=128) || decide (n=256)
def z1 (x:cH):Bool:=decide (x.name=dV)
def z2 (x:cH):Bool:=decide (x.inst=SD)
def z3 (x:cH):Bool:=Ql x.e
def z4 (x:cH):Bool:=decide (x.n=0)
def cI (x:cH) (sec:Nat):Bool :=
 if x.kind=1 then dr x.name.data.toList && z2 x && z3 x && z4 x
 else if x.kind=2 then decide (sec=0) && Az x.inst x.e && z1 x && z4 x
 else if x.kind=3 then we x.n && z1 x && z2 x && z3 x
 else if x.kind=4 then decide (sec=0) && z1 x && z2 x && z3 x && z4 x
 else if x.kind=5 then decide (sec=1) && decide (-128<=x.n) && decide (x.n<=255) && z1 x && z2 x && z3 x
 else if x.kind=6 then decide (sec=1) && oR none x.e.ah && z1 x && z2 x && z4 x
 else if x.kind=7 then decide (sec=1) && decide (0<=x.n) && decide (x.n<=1048576) && z1 x && z2 x && z3 x
 else false
def u32 (n:Int):Nat:=(n % 4294967296).toNat
def TX (n:Nat):Int:=if n<2147483648 then (n:Int) else (n:Int)-4294967296
def YS (n:Nat):Int:=if n<32768 then (n:Int) else (n:Int)-65536
def DZ (n:Int) (w:Nat):Bt:=vR (u32 n) w
def Jb (x:cH):Bt:=DZ x.kind 1 ++
 (if x.kind=1 then jJ x.name
 else if x.kind=2 then DZ x.inst.op 1++(DZ x.inst.a 1++(DZ x.inst.b 1++(DZ x.inst.n 4++if Hq x.inst.op then mK x.e else [])))
 else if x.kind=3\/x.kind=5 then DZ x.n 2
 else if x.kind=6 then mK x.e
 else if x.kind=7 then DZ x.n 4
 else [])
def X8 (r:Bt):Rd cH:=lJ (vS 1 r) fun op r=>lJ (vS 1 r) fun a r=>lJ (vS 1 r) fun b r=>lJ (vS 4 r) fun n r =>
 if Hq (op:Int) then lJ (ji r) fun e r=>.ok ({ fN 2 with inst:=⟨op,a,b,TX n,0⟩,e:=e },r) else .ok ({ fN 2 with inst:=⟨op,a,b,TX n,0⟩ },r)
def XB (k:Nat) (r:Bt):Rd cH :=
 if k=1 then lJ (Hu r) fun s r=>.ok ({ fN 1 with name:=s },r)
 else if k=2 then X8 r
 else if k=3 then lJ (vS 2 r) fun n r=>.ok ({ fN 3 with n:=n },r)
 else if k=5 then lJ (vS 2 r) fun n r=>.ok ({ fN 5 with n:=YS n },r)
 else if k=6 then lJ (ji r) fun e r=>.ok ({ fN 6 with e:=e },r)
 else if k=7 then lJ (vS 4 r) fun n r=>.ok ({ fN 7 with n:=n },r)
 else .ok (fN k,r)
def at_ {α:Type} (r:Bt) (vD:Nat) (ok:α->Bool) (a:Rd α):Rd α:=lJ a fun x b=>if ok x then .ok (x,b) else .error (r.length,vD)
def gz (D:List Xaa) (s:Xaa):Bool:=D.any fun t=>decide (t=s)
def zf (sec:Nat) (D:List Xaa) (x:cH):Bool:=cI x sec && !(decide (x.kind=1) && gz D x.name)
def vB (D:List Xaa) (x:cH):List Xaa:=if x.kind=1 then x.name::D else D
def WQ (sec:Nat) (D:List Xaa) (r:Bt):Rd cH:=at_ r 31 (zf sec D) (lJ (vS 1 r) XB)
def UF {α:Type} {r b:Bt} {vD:Nat} {ok:α->Bool} {a:Rd α} {x:α} (h:a=.ok (x,b)) (h2:ok x=true):at_ r vD ok a=.ok (x,b):=by
 unfold at_;rw [h,w8,Y8 h2]
def H8 (op:Int) (h:dG op≠0):1<=op/\op<=43:=by
 unfold dG at h;split at h
 ·exact absurd rfl h
 ·refine ⟨ad,?_⟩
  by_cases g:op<=43
  ·exact g
  ·exfalso;apply h;rw [ZS,ZC (by simp [pf]; omega)] <;> rfl
def FD {i:Ins} (h:ir i=0):dG i.op≠0/\cR (dG i.op) i.a i.b i.n=true:=by
 unfold ir at h;split at h
 ·cases h
 ·split at h
  ·cases h
  ·rename_i h1 h2;exact ⟨h1,by simpa using h2⟩
def iT (op:Int):dG op=0\/(1<=dG op/\dG op<=13):=by
 by_cases h:dG op=0
 ·exact .inl h
 ·right
  have h1:=H8 op h;unfold dG;rw [Y1 ad];have h2:(op-1).toNat<43:=ad
  generalize (op-1).toNat=k at h2
  have:∀ k:Fin 43,1<=pf.getD k.1 0/\pf.getD k.1 0<=13:=bY
  exact this ⟨k,h2⟩
abbrev oh:=Xaa × cE
structure bU where
 text:List cH
 data:List cH
 bf:List oh
 aQ:List Xaa
def yd (sec:Nat):Nat->List Xaa->Bt->Rd (List cH)
 | 0,_,r=>.ok ([],r)
 | n+1,D,r=>lJ (WQ sec D r) fun x r=>lJ (yd sec n (vB D x) r) fun l r=>.ok (x::l,r)
def DA (D:List Xaa) (p:oh):Bool:=!(gz D p.1) && dr p.1.data.toList && oR none p.2.ah
def Ss (D:List Xaa) (last g:Xaa):Bool:=gz D g && decide (iP last g)
def Tx (D:List Xaa) (last:Xaa) (r:Bt):Rd Xaa:=at_ r 31 (Ss D last) (Hu r)
def Iu (D:List Xaa):Nat->Xaa->Bt->Rd (List Xaa)
 | 0,_,r=>.ok ([],r)
 | n+1,last,r=>lJ (Tx D last r) fun x r=>lJ (Iu D n x r) fun l r=>.ok (x::l,r)
def O5:Bt:=[83,80,65,78,1]
def de (D:List Xaa) (l:List cH):List Xaa:=l.foldl vB D
def bh (D:List Xaa) (l:List oh):List Xaa:=l.foldl (fun D p=>p.1::D) D
def fq (sec:Nat):List Xaa->List cH->Bool
 | _,[]=>true
 | D,x::l=>zf sec D x && fq sec (vB D x) l
def ig:List Xaa->List oh->Bool
 | _,[]=>true
 | D,x::l=>DA D x && ig (x.1::D) l
def dq (D:List Xaa):Xaa->List Xaa->Bool
 | _,[]=>true
 | last,x::l=>Ss D last x && dq D x l
def bU.names (u:bU):List Xaa:=bh (de (de [] u.text) u.data) u.bf
def xE (u:bU):Bool:=fq 0 [] u.text && fq 1 (de [] u.text) u.data && ig (de (de [] u.text) u.data) u.bf && dq u.names dV u.aQ
def w7 (u:bU):Bool:=decide (8192<u.text.length+u.data.length) || decide (8192<u.bf.length)
def fA (u:bU):Nat:=if w7 u then 4 else if xE u then 0 else 31
def Nh (p:oh):Bt:=jJ p.1++mK p.2
def DK {α:Type} (w:α->Bt) (l:List α):Bt:=vR l.length 2++l.flatMap w
def XI (u:bU):Bt:=O5++(DK Jb u.text++(DK Jb u.data++(DK Nh u.bf++DK jJ u.aQ)))
theorem H7 (D:List Xaa) (a:∀ s,s∈D->s.size<65536):∀ (l:List Xaa) (o:Xaa) (t:Bt),dq D o l=true->Iu D l.length o (l.flatMap jJ++t)=.ok (l,t)
 | [],o,t,_=>rfl
 | x::l,o,t,h=>by
  unfold dq at h;rw [Zz] at h;obtain ⟨h1,h2⟩:=h;have b:x.size<65536:=by
   unfold Ss gz at h1;simp only [Bool.and_eq_true,List.any_eq_true,decide_eq_true_eq] at h1;obtain ⟨⟨y,c,rfl⟩,_⟩:=h1;exact a y c
  rw [Z1,ZN,Zp,Iu];have d:Tx D o (jJ x++(l.flatMap jJ++t))=.ok (x,l.flatMap jJ++t):=UF (LK b _) h1;rw [d,w8,H7 D a l _ t h2,w8]
theorem zc (D:List Xaa):∀ (l:List Xaa) (o:Xaa),dq D o l=true->(∀ x,x∈l->x∈D/\iP o x)/\l.Pairwise iP
 | [],o,_=>⟨aj,List.Pairwise.nil⟩
 | x::l,o,h=>by
  unfold dq Ss gz at h;simp only [Bool.and_eq_true,List.any_eq_true,decide_eq_true_eq] at h;obtain ⟨⟨⟨y,d,rfl⟩,h2⟩,e⟩:=h;obtain ⟨a,b⟩:=zc D l y e;refine ⟨?_,aq9.2 ⟨fun z c=>(a z c).2,b⟩⟩;intro z c;rcases Zo.1 c with rfl | c
  ·exact ⟨d,h2⟩
  ·exact ⟨(a z c).1,j4 h2 (a z c).2⟩
def AY {u:bU} (h:fA u=0):w7 u=false/\xE u=true:=by
 unfold fA at h;split at h
 ·cases h
 ·rename_i h1;split at h
  ·rename_i h2;exact ⟨by simpa using h1,h2⟩
  ·cases h
end Go.Sx.Ob
namespace Go.Sx
open Go.Proofs
def W5:Tryz.prog.underlying 66=some (.struct (Ca Xaz 66)):=aw
def Pr (x y:Operand) (a:Xaa) (b:Int) (a':Xaa) (b':Int) (h:Hp) (K:Xab->Hp->Prop) (hk:K (.bool !(a==a' && b==b')) h) :
  aZ Xaz (Sx.jk (BinOp.neq) 66 x y (.agg #[.string a,.int .u32 b]) (.agg #[.string a',.int .u32 b'])) h K:=by
 refine rZ W5 aw aw aw K ?_;have c:(Ca Xaz 66).all (HB #[.string a,.int .u32 b] #[.string a',.int .u32 b'])=(a==a' && (b==b' && true)):=by
  rw [<- aj9]
  kernel_rfl
 rw [c,au9];exact hk
def MZ (t u:Xaa × Nat):(!(t.1==u.1 && (t.2:Int)==(u.2:Int)))=decide (t≠u):=by
 obtain ⟨a,b⟩:=t;obtain ⟨a',b'⟩:=u
 by_cases h1:a=a'
 ·subst h1;rw [bytes_beq]
  by_cases h2:b=b'
  ·subst h2
   simp
  ·have c:¬ ((b:Int)=(b':Int)):=ad
   have f:((b:Int)==(b':Int))=false:=by simpa using c
   simp [h2,f]
 ·have c:(a==a')=false:=by
   obtain ⟨d⟩:=a;obtain ⟨d'⟩:=a';show (d==d')=false;have f:¬ d=d':=fun e=>h1 (by rw [e])
   simpa using f
  simp [h1,c]
variable {H V:Nat}
def Bi {α:Type} {l m:List α} (hi:H<l.length) (a:H<m.length) (h:l[H]≠m[H]):l≠m:=by
 rintro rfl;exact h rfl
def xD {α:Type} {l m:List α} (hi:H<l.length) (a:H<m.length) (h:l[H]=m[H]):(l.drop H=m.drop H)↔(l.drop (H+1)=m.drop (H+1)):=by
 rw [Zj hi,Zj a,h];exact ⟨fun e=>(List.cons.inj e).2,fun e=>by rw [e]⟩
instance:DecidableEq dz:=inferInstance
variable {I:Hp} {O U:Xac}
def HJ {c d:Nat} {us j:dz} (v:ik I O H us) (w:ik I U V j) (hl:us.length<=2^60):xL Xaz 119 [.slice O H c,.slice U V d] I (.bool (decide (us=j))):=by
 refine fh mixed Tryz.func119 aw (gI O H c U V d) ?_;unfold eK aY bj bn ay ei ax bH dZ aK cr;have h1:=v.len;have h2:=w.len;refine ao ?_ ?_<;>intro k
 ·have k:¬ (H:Int)=(V:Int):=by simpa using k
  exact ⟨by rw [Y6 (fun e=>by rw [e] at h1; omega)],rfl⟩
 ·have k:(H:Int)=(V:Int):=by simpa using k
  refine aU (cs:=ic) (fun y n h'=>∃ (i:Nat),y.2.1=(i:Int)/\i<=us.length/\n=us.length-i/\I=h'/\(us=j↔us.drop i=j.drop i)) (false,(0:Int),()) us.length rfl
   ⟨0,rfl,ad,ad,rfl,Iff.rfl⟩ ?_
  rintro ⟨s,C,⟨⟩⟩ n h2 ⟨i,hi,x,rfl,rfl,A⟩;simp only at hi;subst hi;refine ak ?_;refine aP ?_ ?_<;>intro B
  ·have f:i<us.length:=ad
   have g:i<j.length:=ad
   obtain ⟨a,rfl,hc⟩:=v.cells i f;obtain ⟨a',rfl,o⟩:=w.cells i g;have hst:=xD f g;have hno:=Bi f g;generalize us[i]=t at hc hst hno;generalize j[i]=u at o hst hno;refine bP rfl ?_;rw [cB i];refine av (t.1,(t.2:Int),()) hc (ak ?_);refine bP rfl ?_;refine av (u.1,(u.2:Int),()) o (ak ?_);refine mU (b:=decide (t≠u)) (fun D hk=>Pr _ _ _ _ _ _ _ _ (by rw [MZ]; exact hk)) ?_;refine ao ?_ ?_<;>intro r
   ·exact ⟨by rw [Y6 (hno (Y3 r))],rfl⟩
   ·have r:t=u:=by simpa using r
    have hw:=iC i;exact aG (cs:=ic) (s,((i+1:Nat):Int),()) (us.length-(i+1)) rfl ad (Zg (fun z=>[Value.bool s,Value.int .i64 z]) hw) ⟨i+1,rfl,ad,rfl,rfl,A.trans (hst r)⟩
  ·refine ⟨?_,rfl⟩;rw [Y4 (A.2 (by rw [ZO ad,ZO ad]))]
def mE (x y:cE):Bool:=decide (x.num=y.num) && decide (x.ah=y.ah)
def KR (x:cE):mE x x=true:=by unfold mE; simp
variable {Y:cE}
def CB {c d:Nat} {y:cE} (v:ik I O H Y.ah) (w:ik I U V y.ah) (hl:Y.ah.length<=2^60) :
  HC Xaz 101 #[gF O H c Y,gF U V d y] I fun r h'=>r=.bool (mE Y y)/\Ext I h':=by
 refine bi (args:=[.agg #[.slice O H c,.int .u32 Y.num],.agg #[.slice U V d,.int .u32 y.num]]) mixed Tryz.func101 aw (Bf O H c Y.num U V d y.num) ?_;unfold zh bd ax bH;refine bG ?_;intro h1 b1 e z1;refine bG ?_;intro h2 b2 b z2;have b1:=b1.ai b aj;have e02:=e.trans b;rw [aC,aC];refine az b1 ((Y.num:Int),()) (ak ?_);refine az b2 ((y.num:Int),()) (ak ?_);refine ao ?_ ?_<;>intro a
 ·have a:Y.num=y.num:=by have:(Y.num:Int)=y.num:=(by simpa using a); omega
  refine az b1 ((O,H,c),()) (ak ?_);refine az b2 ((U,V,d),()) (ak ?_);refine aM (HJ (v.ai e02 aj) (w.ai e02 aj) hl) ?_;refine ⟨?_,e02⟩;unfold mE;rw [Y4 a] <;> rfl
 ·have a:¬ Y.num=y.num:=by have:¬ (Y.num:Int)=y.num:=(by simpa using a); omega
  refine ⟨?_,e02⟩;unfold mE;rw [Y6 a] <;> rfl
def CF {c d:Nat} {y:cE} (v:ik I O H Y.ah) (w:ik I U V y.ah) (hl:Y.ah.length<=2^60) :
  HC Xaz 88 #[gF O H c Y,gF U V d y] I fun r h'=>r=.bool (mE Y y)/\Ext I h':=by
 refine bi (args:=[.agg #[.slice O H c,.int .u32 Y.num],.agg #[.slice U V d,.int .u32 y.num]]) mixed Tryz.func88 aw (qx O H c Y.num U V d y.num) ?_;unfold lf aY bj bn ay ei ax bH dZ aK cr;refine bG ?_;intro h1 b1 E z1;refine bG ?_;intro h2 b2 A z2;have b1:=b1.ai A aj;have e02:=E.trans A;have v:=v.ai e02 aj;have w:=w.ai e02 aj;have hv:=v.len;have hw:=w.len;rw [aC,aC];refine az b1 ((Y.num:Int),()) (ak ?_);refine az b2 ((y.num:Int),()) (ak ?_);refine ao ?_ ?_<;>intro f
 ·have f:¬ Y.num=y.num:=by have:¬ (Y.num:Int)=y.num:=(by simpa using f); omega
  refine ⟨?_,e02⟩;unfold mE;rw [Y6 f] <;> rfl
 ·have f:Y.num=y.num:=by have:(Y.num:Int)=y.num:=(by simpa using f); omega
  have F:mE Y y=decide (Y.ah=y.ah):=by
   unfold mE;rw [Y4 f] <;> rfl
  rw [F];refine az b1 ((O,H,c),()) (ak ?_);refine az b2 ((U,V,d),()) (ak ?_);refine ao ?_ ?_<;>intro g
  ·have g:¬ (H:Int)=(V:Int):=by simpa using g
   exact ⟨by rw [Y6 (fun e=>by rw [e] at hv; omega)],e02⟩
  ·have g:(H:Int)=(V:Int):=by simpa using g
   refine aU (cs:=ic) (fun z n h'=>∃ (i:Nat),z.2.1=(i:Int)/\i<=Y.ah.length/\n=Y.ah.length-i/\h2=h'/\(Y.ah=y.ah↔Y.ah.drop i=y.ah.drop i)) (false,(0:Int),()) Y.ah.length rfl
    ⟨0,rfl,ad,ad,rfl,Iff.rfl⟩ ?_
   rintro ⟨B,G,⟨⟩⟩ n J ⟨i,hi,C,rfl,rfl,D⟩;simp only at hi;subst hi;refine ak ?_;refine az b1 ((O,H,c),()) (ak ?_);refine aP ?_ ?_<;>intro g
   ·have j:i<Y.ah.length:=ad
    have k:i<y.ah.length:=ad
    obtain ⟨a,rfl,hc⟩:=v.cells i j;obtain ⟨a',rfl,o⟩:=w.cells i k;have hst:=xD j k;have hno:=Bi j k;generalize Y.ah[i]=t at hc hst hno;generalize y.ah[i]=u at o hst hno;refine az b1 ((some a,H,c),()) (ak ?_);refine bP rfl ?_;rw [cB i];refine av (t.1,(t.2:Int),()) hc (ak ?_);refine az b2 ((some a',V,d),()) (ak ?_);refine bP rfl ?_;refine av (u.1,(u.2:Int),()) o (ak ?_);refine mU (b:=decide (t≠u)) (fun K hk=>Pr _ _ _ _ _ _ _ _ (by rw [MZ]; exact hk)) ?_;refine ⟨⟨b2.cells _ rfl,b1.cells _ rfl,trivial⟩,?_⟩;refine ao ?_ ?_<;>intro s
    ·exact ⟨by rw [Y6 (hno (Y3 s))],e02⟩
    ·have s:t=u:=by simpa using s
     have hw:=iC i;exact aG (cs:=ic) (B,((i+1:Nat):Int),()) (Y.ah.length-(i+1)) rfl ad (Zg (fun z=>[Value.bool B,Value.int .i64 z]) hw) ⟨i+1,rfl,ad,rfl,rfl,D.trans (hst s)⟩
   ·refine ⟨?_,e02⟩;rw [Y4 (D.2 (by rw [ZO ad,ZO ad]))]
def Ef {P:Program} {L:Lp} {K:Xab->Hp->Prop} {h:Hp} {k:Xac->Nat->Nat->T} {t e:TypeId} {z:Xab} {sz by':Nat} (b:P.underlying t=some (.slice e)) (a:(P.info? e).map (fun i=>(i.zero,i.size,i.bytes))=some (some z,sz,by'))
  (hk:∀ h' ,SL h' h.size e sz (some ⟨h.size,0,none⟩) 0 0 []->Ext h h'->k (some ⟨h.size,0,none⟩) 0 0 L K h'):T.eN P (Instr.buildSlice t 0 #[]) false [(false,[.slice 0])] k L K h:=by
 obtain ⟨i,hi,c,rfl,rfl⟩:=jV a;refine df ?_;unfold Instr.buildSlice;rw [an,aE b];simp only;rw [an,bR hi];simp only [Nat.zero_mul];rw [Y1 ad];have h0:∀ f:Nat->Xab,Array.map f (Array.range 0)=#[]:=fun f=>aj
 simp only [h0];refine ⟨_,_,_,rfl,hk _ ?_ (Ext.push h _)⟩;exact ⟨rfl,aj,h.size,[],[],rfl,Zc _,⟨Zc _,ad⟩,by simpa using bF.new h e [],aj⟩
theorem xg {h:Hp} {a:Xax}:∀ (us:dz) (k:Nat),(∀ i,(hi:i<us.length)->aI h (a.add ((k+i)*2)) 0 (dh us[i]))->aI h a (k*2) (us.map dh).flatten
 | [],_,_=>trivial
 | t::us,k,hc=>by
  have h0:=hc 0 aj;obtain ⟨h1,h2,_⟩:=h0;rw [add_add] at h1 h2;have ih:=xg us (k+1) (fun i hi=>by
   have:=hc (i+1) (by simpa using hi)
   rw [show k+(i+1)=k+1+i from ad] at this;exact this)
  rw [show (k+1)*2=k*2+1+1 from ad] at ih;exact ⟨h1,by simpa using h2,ih⟩
def ik.flat {h:Hp} {a:Xax} {us:dz} (v:ik h (some a) H us):aI h a 0 (us.map dh).flatten:=by
 have:=xg (h:=h) (a:=a) us 0 (fun i hi=>by
  obtain ⟨a',e,hc⟩:=v.cells i hi;cases e;rw [ZH];exact hc)
 simpa using this
def AP (us:dz):(us.map dh).flatten.all da=true:=by
 rw [Zx];intro v hv;obtain ⟨x,a,hv⟩:=bn9.1 hv;obtain ⟨t,_,rfl⟩:=Y9.1 a;simp only [dh,List.mem_cons,List.not_mem_nil,or_false] at hv;rcases hv with rfl | rfl <;> rfl
end Go.Sx
namespace Go.Sx.Ob
open Go.Proofs
variable {h':Hp} {e2 e1:TypeId} {sec:Nat}
def _root_.Go.Sx.Ch.st {h a b:Hp} {g:Nat} (e:Ext h a) (k:Ch [g] a b) (c:h.size<=g):Ext h b:=bZ e k
def mf (a:Nat->Xaa) (by_:Nat->Int):List Xab:=(List.range 43).flatMap fun k=>[.string (a k),.int .u8 (by_ k),vI (pf.getD k 0:Nat)]
def Cw (h:Hp):Prop:=∃ a by_ e f,h[0]?=some (.cells (mf a by_).toArray e f)
def Cw.ai {ws:List Nat} {h:Hp} (t:Cw h) (k:Ch ws h h') (a:0∉ws):Cw h':=by
 obtain ⟨b,by_,e,f,c⟩:=t;exact ⟨b,by_,e,f,k.get c a⟩
theorem xt {α β:Type} (f:α->List β) (m:Nat) (a:∀ x,(f x).length=m):∀ (l:List α) (i j:Nat),j<m->(l.flatMap f)[i*m+j]?=(l[i]?).bind fun x=>(f x)[j]?
 | [],i,j,b=>aj
 | x::l,0,j,b=>by
  rw [ZN,ZE (by rw [a]; omega)]
  simp
 | x::l,i+1,j,b=>by
  rw [ZN,ZB (by rw [a,Z5]; omega),a,show (i+1)*m+j-m=i*m+j by rw [Z5]; omega,xt f m a l i j b]
  simp
def Cw.cells {h:Hp} (t:Cw h) {k:Nat} (hk:k<43):∃ (s:Xaa) (b:Int),aI h ((⟨0,0,none⟩:Xax).add (k*3)) 0 [.string s,.int .u8 b,vI (pf.getD k 0:Nat)]:=by
 obtain ⟨a,by_,e,f,c⟩:=t;refine ⟨a k,by_ k,?_⟩;have d:∀ j,j<3->(mf a by_)[k*3+j]?=([.string (a k),.int .u8 (by_ k),vI (pf.getD k 0:Nat)]:List Xab)[j]?:=by
  intro j g;unfold mf;rw [xt _ 3 aj _ _ _ g];simp [hk]
 rw [aC];refine ⟨?_,?_,?_,trivial⟩
 ·rw [aC,sJ c]
  have:=d 0 ad
  simpa using this
 ·rw [aC,sJ c]
  have:=d 1 ad
  simpa using this
 ·rw [aC,sJ c]
  have:=d 2 ad
  simpa using this
def O6 {h:Hp} (t:Cw h) (op:Int) (h1:-9223372036854775808<=op) (h2:op<=9223372036854775807) :
  HC Xaz 105 #[vI op] h fun w h'=>∃ (s:Xaa) (b:Int),w=.tuple #[.agg #[.string s,.int .u8 b,vI (dG op:Nat)],.bool (decide (dG op≠0))]/\Ext h h':=by
 refine bi (args:=[vI op]) mixed Tryz.func105 aw (Hk op) ?_;unfold FR bC bK cm;refine bG ?_;intro l b1 e1 z1;have c:∀ (d:dG op=0),(∃ (s:Xaa) (b:Int),(Value.tuple #[.agg #[.string ⟨#[]⟩,.int .u8 0,vI 0],.bool false])=.tuple #[.agg #[.string s,.int .u8 b,vI (dG op:Nat)],.bool (decide (dG op≠0))]) :=
  fun d=>⟨⟨#[]⟩,0,by rw [d]; rfl⟩
 refine ao ?_ ?_<;>intro q
 ·have q:=Y3 q;refine bQ b1 ?_;intro f b2 a z2;refine az b2 ((⟨#[]⟩:Xaa),(0:Int),(0:Int),()) ?_;obtain ⟨s,b,e⟩:=c (by unfold dG; rw [Y8 q]);exact ⟨s,b,e,bZ e1 a⟩
 refine ao ?_ ?_<;>intro r
 ·have r:=Y3 r;refine bQ b1 ?_;intro f b2 a z2;refine az b2 ((⟨#[]⟩:Xaa),(0:Int),(0:Int),()) ?_;obtain ⟨s,b,e⟩:=c (by
   by_cases g:dG op=0
   ·exact g
   ·have:=H8 op g
    omega)
  exact ⟨s,b,e,bZ e1 a⟩
 ·have q:=Zf q;have r:=Zf r;rw [wrap_i64 ad ad];refine dO ?_;obtain ⟨s,b,hc⟩:=(t.ai e1 aj).cells (k:=(op-1).toNat) ad;refine av (s,b,((pf.getD (op-1).toNat 0:Nat):Int),()) hc (ak ?_);refine bQ b1 ?_;intro f b2 a z2;refine az b2 (s,b,((pf.getD (op-1).toNat 0:Nat):Int),()) ?_;refine ⟨s,b,?_,bZ e1 a⟩;have i:dG op=pf.getD (op-1).toNat 0:=by unfold dG; rw [Y1 ad]
  have j:dG op≠0:=by
   rw [i]
   have:∀ k:Fin 43,pf.getD k.1 0≠0:=bY
   exact this ⟨(op-1).toNat,ad⟩
  rw [Y4 j,i]
def Gz {h:Hp} (t:Cw h) (op:Int) (h1:-9223372036854775808<=op) (h2:op<=9223372036854775807) :
  HC Xaz 82 #[vI op] h fun w h'=>w=.bool (um op)/\Ext h h':=by
 refine bi (args:=[vI op]) mixed Tryz.func82 aw (AL op) ?_;unfold zm bz dZ cm cr;refine aJ (O6 t op h1 h2) ?_;rintro _ c ⟨s,b,rfl,e1⟩;refine ⟨(s,b,((dG op:Nat):Int),decide (dG op≠0),()),rfl,ak ?_⟩;refine bG ?_;intro f b2 e2 z2;refine bQ b2 ?_;intro d a e z3;have e3:=(e1.trans e2).st e (by have:=e1.size; omega);have a:bF d c.size 165 [.string s,.int .u8 b,vI (dG op:Nat)]:=a;rw [aC];refine az a (((dG op:Nat):Int),()) (ak ?_);have hc:=iT op;refine ao ?_ ?_<;>intro q
 ·have q:((dG op:Nat):Int)=12:=by simpa using q
  refine ⟨?_,e3⟩;unfold um;rw [Y4 ad]
 ·have q:¬ ((dG op:Nat):Int)=12:=by simpa using q
  refine az a (((dG op:Nat):Int),()) ?_;refine ⟨?_,e3⟩;unfold um
  by_cases r:dG op=13
  ·rw [r]; rfl
  ·rw [Y6 ad]
   congr 1
   simp
   omega
def Iz (n:Int):(n==IntKind.wrap .i32 (IntKind.wrap .i8 n))=(decide (-128<=n) && decide (n<=127)):=by
 have h1:IntKind.wrap .i8 n=if n % 256<128 then n % 256 else n % 256-256:=by
  simp only [IntKind.wrap,IntKind.bits,IntKind.signed,Bool.true_and];split <;> rename_i a
  ·have:=Y3 a
   rw [Y1 ad] <;> rfl
  ·have:¬ _:=fun h=>a (Y4 h)
   rw [Y8 ad] <;> rfl
 have h2:IntKind.wrap .i32 (IntKind.wrap .i8 n)=IntKind.wrap .i8 n:=by
  have:-128<=IntKind.wrap .i8 n/\IntKind.wrap .i8 n<=127:=by rw [h1]; split <;> omega
  generalize IntKind.wrap .i8 n=m at this;simp only [IntKind.wrap,IntKind.bits,IntKind.signed,Bool.true_and];split <;> rename_i a
  ·have:=Y3 a; omega
  ·have:¬ _:=fun h=>a (Y4 h); omega
 rw [h2,h1]
 by_cases g:-128<=n/\n<=127
 ·rw [Y4 g.1,Y4 g.2]
  simp
  split <;> omega
 ·have:(decide (-128<=n) && decide (n<=127))=false:=by
   rw [Bool.and_eq_false_iff]
   simp
   omega
  rw [this]
  simp
  split <;> omega
def GI (n:Int):(n==IntKind.wrap .i32 (IntKind.wrap .i16 n))=(decide (-32768<=n) && decide (n<=32767)):=by
 have h1:IntKind.wrap .i16 n=if n % 65536<32768 then n % 65536 else n % 65536-65536:=by
  simp only [IntKind.wrap,IntKind.bits,IntKind.signed,Bool.true_and];split <;> rename_i a
  ·have:=Y3 a
   rw [Y1 ad] <;> rfl
  ·have:¬ _:=fun h=>a (Y4 h)
   rw [Y8 ad] <;> rfl
 have h2:IntKind.wrap .i32 (IntKind.wrap .i16 n)=IntKind.wrap .i16 n:=by
  have:-32768<=IntKind.wrap .i16 n/\IntKind.wrap .i16 n<=32767:=by rw [h1]; split <;> omega
  generalize IntKind.wrap .i16 n=m at this;simp only [IntKind.wrap,IntKind.bits,IntKind.signed,Bool.true_and];split <;> rename_i a
  ·have:=Y3 a; omega
  ·have:¬ _:=fun h=>a (Y4 h); omega
 rw [h2,h1]
 by_cases g:-32768<=n/\n<=32767
 ·rw [Y4 g.1,Y4 g.2]
  simp
  split <;> omega
 ·have:(decide (-32768<=n) && decide (n<=32767))=false:=by
   rw [Bool.and_eq_false_iff]
   simp
   omega
  rw [this]
  simp
  split <;> omega
def cz (h:Hp) (n f:Int):xL Xaz 143 [.int .i32 n,vI f] h (.bool (nM n f)):=by
 refine fh mixed Tryz.func143 aw (yn n f) ?_;unfold uO;rw [Iz,GI];refine ao ?_ ?_<;>intro q
 ·have q:f=1:=by simpa using q
  exact ⟨by unfold nM; rw [Y8 q],rfl⟩
 have q:¬ f=1:=by simpa using q
 refine ao ?_ ?_<;>intro r
 ·have r:f=2:=by simpa using r
  exact ⟨by unfold nM; rw [Y1 q,Y8 r],rfl⟩
 have r:¬ f=2:=by simpa using r
 exact ⟨by unfold nM; rw [Y1 q,Y1 r]; rfl,rfl⟩
def Gl (h:Hp) (n:Int):xL Xaz 100 [vI n] h (.bool (we n)):=by
 refine fh mixed Tryz.func100 aw (zQ n) ?_;unfold xh bC bH;have a:¬ (1<=n/\n<=256)->we n=false:=by
  intro g;cases b:we n with
  | false=>rfl
  | true =>
   exfalso;unfold we at b;simp only [Bool.or_eq_true,decide_eq_true_eq] at b;omega
 refine aP ?_ ?_<;>intro q
 ·refine aP ?_ ?_<;>intro r
  ·refine ⟨?_,rfl⟩;obtain ⟨k,rfl,hk⟩:∃ k:Nat,n=((k+1:Nat):Int)/\k<256:=⟨(n-1).toNat,ad,ad⟩
   have:∀ k:Fin 256,(IntKind.wrap .i64 (((BitVec.toNat ((BitVec.ofInt 64 ((k.1+1:Nat):Int)) &&& (BitVec.ofInt 64 (IntKind.wrap .i64 (((k.1+1:Nat):Int)-(1:Int)))))):Nat):Int)==(0:Int))=we ((k.1+1:Nat):Int):=by
    decide +kernel
   rw [this ⟨k,hk⟩]
  ·exact ⟨by rw [a ad],rfl⟩
 ·exact ⟨by rw [a ad],rfl⟩
def cQ (h:Hp) (n m:Int):xL Xaz 142 [vI n,vI m] h (.bool (xM n m)):=by
 refine fh mixed Tryz.func142 aw (BS n m) ?_;unfold yT bH;refine aP ?_ ?_<;>intro q
 ·refine ⟨?_,rfl⟩;unfold xM;rw [Y4 (show 0<=n from ad)] <;> rfl
 ·refine ⟨?_,rfl⟩;unfold xM;rw [Y6 (show ¬ 0<=n from ad)] <;> rfl
def dB (a b:Int):(a==b)=decide (a=b):=rfl
def dI (op a b n form:Int):Xab:=.agg #[vI op,vI a,vI b,.int .i32 n,vI form]
def Pk (h:Hp) (op a b n form:Int):HC Xaz 127 #[dI op a b n form,vI 1] h fun w h'=>w=.bool (cR 1 a b n)/\Ext h h':=by
 refine bi (args:=[dI op a b n form,vI 1]) mixed Tryz.func127 aw (rP op a b n form) ?_;unfold mS bH;refine bG ?_;intro c b1 e1 z1
 try simp only [aC]
 repeat' (first
  | (refine bm b1 (_,()) rfl ?_; refine ak ?_)
  | (refine aM (cQ _ _ _) ?_)
  | (refine aM (cz _ _ _) ?_)
  | (refine ao (fun q=>?_) (fun q=>?_)))
 all_goals (refine ⟨?_,e1⟩; first | (simp_all [cR,dB]; done) | (simp_all [cR,dB] <;> simp [xM] <;> omega))
def Sg (h:Hp) (op a b n form:Int):HC Xaz 128 #[dI op a b n form,vI 1] h fun w h'=>w=.bool (nR 1 n form)/\Ext h h':=by
 refine bi (args:=[dI op a b n form,vI 1]) mixed Tryz.func128 aw (vJ op a b n form) ?_;unfold rz;refine bG ?_;intro c b1 e1 z1
 try simp only [aC]
 repeat' (first
  | (refine bm b1 (_,()) rfl ?_; refine ak ?_)
  | (refine aM (cQ _ _ _) ?_)
  | (refine aM (cz _ _ _) ?_)
  | (refine ao (fun q=>?_) (fun q=>?_)))
 all_goals (refine ⟨?_,e1⟩; first | (simp_all [nR,dB]; done) | (simp_all [nR,dB] <;> omega))
def Pp (h:Hp) (op a b n form:Int):HC Xaz 127 #[dI op a b n form,vI 2] h fun w h'=>w=.bool (cR 2 a b n)/\Ext h h':=by
 refine bi (args:=[dI op a b n form,vI 2]) mixed Tryz.func127 aw (rK op a b n form) ?_;unfold nr bd bH;refine bG ?_;intro c b1 e1 z1
 try simp only [aC]
 repeat' (first
  | (refine bm b1 (_,()) rfl ?_; refine ak ?_)
  | (refine aM (cQ _ _ _) ?_)
  | (refine aM (cz _ _ _) ?_)
  | (refine ao (fun q=>?_) (fun q=>?_)))
 all_goals (refine ⟨?_,e1⟩; first | (simp_all [cR,dB]; done) | (simp_all [cR,dB] <;> simp [xM] <;> omega))
def Si (h:Hp) (op a b n form:Int):HC Xaz 128 #[dI op a b n form,vI 2] h fun w h'=>w=.bool (nR 2 n form)/\Ext h h':=by
 refine bi (args:=[dI op a b n form,vI 2]) mixed Tryz.func128 aw (vv op a b n form) ?_;unfold rm;refine bG ?_;intro c b1 e1 z1
 try simp only [aC]
 repeat' (first
  | (refine bm b1 (_,()) rfl ?_; refine ak ?_)
  | (refine aM (cQ _ _ _) ?_)
  | (refine aM (cz _ _ _) ?_)
  | (refine ao (fun q=>?_) (fun q=>?_)))
 all_goals (refine ⟨?_,e1⟩; first | (simp_all [nR,dB]; done) | (simp_all [nR,dB] <;> omega))
def OL (h:Hp) (op a b n form:Int):HC Xaz 127 #[dI op a b n form,vI 3] h fun w h'=>w=.bool (cR 3 a b n)/\Ext h h':=by
 refine bi (args:=[dI op a b n form,vI 3]) mixed Tryz.func127 aw (rT op a b n form) ?_;unfold mD bd bH;refine bG ?_;intro c b1 e1 z1
 try simp only [aC]
 repeat' (first
  | (refine bm b1 (_,()) rfl ?_; refine ak ?_)
  | (refine aM (cQ _ _ _) ?_)
  | (refine aM (cz _ _ _) ?_)
  | (refine ao (fun q=>?_) (fun q=>?_)))
 all_goals (refine ⟨?_,e1⟩; first | (simp_all [cR,dB]; done) | (simp_all [cR,dB] <;> simp [xM] <;> omega))
def Qu (h:Hp) (op a b n form:Int):HC Xaz 128 #[dI op a b n form,vI 3] h fun w h'=>w=.bool (nR 3 n form)/\Ext h h':=by
 refine bi (args:=[dI op a b n form,vI 3]) mixed Tryz.func128 aw (vj op a b n form) ?_;unfold rA;refine bG ?_;intro c b1 e1 z1
 try simp only [aC]
 repeat' (first
  | (refine bm b1 (_,()) rfl ?_; refine ak ?_)
  | (refine aM (cQ _ _ _) ?_)
  | (refine aM (cz _ _ _) ?_)
  | (refine ao (fun q=>?_) (fun q=>?_)))
 all_goals (refine ⟨?_,e1⟩; first | (simp_all [nR,dB]; done) | (simp_all [nR,dB] <;> omega))
def PU (h:Hp) (op a b n form:Int):HC Xaz 127 #[dI op a b n form,vI 4] h fun w h'=>w=.bool (cR 4 a b n)/\Ext h h':=by
 refine bi (args:=[dI op a b n form,vI 4]) mixed Tryz.func127 aw (rF op a b n form) ?_;unfold ml bd bH;refine bG ?_;intro c b1 e1 z1
 try simp only [aC]
 repeat' (first
  | (refine bm b1 (_,()) rfl ?_; refine ak ?_)
  | (refine aM (cQ _ _ _) ?_)
  | (refine aM (cz _ _ _) ?_)
  | (refine ao (fun q=>?_) (fun q=>?_)))
 all_goals (refine ⟨?_,e1⟩; first | (simp_all [cR,dB]; done) | (simp_all [cR,dB] <;> simp [xM] <;> omega))
def RC (h:Hp) (op a b n form:Int):HC Xaz 128 #[dI op a b n form,vI 4] h fun w h'=>w=.bool (nR 4 n form)/\Ext h h':=by
 refine bi (args:=[dI op a b n form,vI 4]) mixed Tryz.func128 aw (vC op a b n form) ?_;unfold ru;refine bG ?_;intro c b1 e1 z1
 try simp only [aC]
 repeat' (first
  | (refine bm b1 (_,()) rfl ?_; refine ak ?_)
  | (refine aM (cQ _ _ _) ?_)
  | (refine aM (cz _ _ _) ?_)
  | (refine ao (fun q=>?_) (fun q=>?_)))
 all_goals (refine ⟨?_,e1⟩; first | (simp_all [nR,dB]; done) | (simp_all [nR,dB] <;> omega))
def OH (h:Hp) (op a b n form:Int):HC Xaz 127 #[dI op a b n form,vI 5] h fun w h'=>w=.bool (cR 5 a b n)/\Ext h h':=by
 refine bi (args:=[dI op a b n form,vI 5]) mixed Tryz.func127 aw (rS op a b n form) ?_;unfold mX bd bH;refine bG ?_;intro c b1 e1 z1
 try simp only [aC]
 repeat' (first
  | (refine bm b1 (_,()) rfl ?_; refine ak ?_)
  | (refine aM (cQ _ _ _) ?_)
  | (refine aM (cz _ _ _) ?_)
  | (refine ao (fun q=>?_) (fun q=>?_)))
 all_goals (refine ⟨?_,e1⟩; first | (simp_all [cR,dB]; done) | (simp_all [cR,dB] <;> simp [xM] <;> omega))
def Q3 (h:Hp) (op a b n form:Int):HC Xaz 128 #[dI op a b n form,vI 5] h fun w h'=>w=.bool (nR 5 n form)/\Ext h h':=by
 refine bi (args:=[dI op a b n form,vI 5]) mixed Tryz.func128 aw (u7 op a b n form) ?_;unfold rl;refine bG ?_;intro c b1 e1 z1
 try simp only [aC]
 repeat' (first
  | (refine bm b1 (_,()) rfl ?_; refine ak ?_)
  | (refine aM (cQ _ _ _) ?_)
  | (refine aM (cz _ _ _) ?_)
  | (refine ao (fun q=>?_) (fun q=>?_)))
 all_goals (refine ⟨?_,e1⟩; first | (simp_all [nR,dB]; done) | (simp_all [nR,dB] <;> omega))
def Ou (h:Hp) (op a b n form:Int):HC Xaz 127 #[dI op a b n form,vI 6] h fun w h'=>w=.bool (cR 6 a b n)/\Ext h h':=by
 refine bi (args:=[dI op a b n form,vI 6]) mixed Tryz.func127 aw (rI op a b n form) ?_;unfold mz bd bH;refine bG ?_;intro c b1 e1 z1
 try simp only [aC]
 repeat' (first
  | (refine bm b1 (_,()) rfl ?_; refine ak ?_)
  | (refine aM (cQ _ _ _) ?_)
  | (refine aM (cz _ _ _) ?_)
  | (refine ao (fun q=>?_) (fun q=>?_)))
 all_goals (refine ⟨?_,e1⟩; first | (simp_all [cR,dB]; done) | (simp_all [cR,dB] <;> simp [xM] <;> omega))
def Rv (h:Hp) (op a b n form:Int):HC Xaz 128 #[dI op a b n form,vI 6] h fun w h'=>w=.bool (nR 6 n form)/\Ext h h':=by
 refine bi (args:=[dI op a b n form,vI 6]) mixed Tryz.func128 aw (vW op a b n form) ?_;unfold rB;refine bG ?_;intro c b1 e1 z1
 try simp only [aC]
 repeat' (first
  | (refine bm b1 (_,()) rfl ?_; refine ak ?_)
  | (refine aM (cQ _ _ _) ?_)
  | (refine aM (cz _ _ _) ?_)
  | (refine ao (fun q=>?_) (fun q=>?_)))
 all_goals (refine ⟨?_,e1⟩; first | (simp_all [nR,dB]; done) | (simp_all [nR,dB] <;> omega))
def Nq (h:Hp) (op a b n form:Int):HC Xaz 127 #[dI op a b n form,vI 7] h fun w h'=>w=.bool (cR 7 a b n)/\Ext h h':=by
 refine bi (args:=[dI op a b n form,vI 7]) mixed Tryz.func127 aw (rR op a b n form) ?_;unfold mi bd bH;refine bG ?_;intro c b1 e1 z1
 try simp only [aC]
 repeat' (first
  | (refine bm b1 (_,()) rfl ?_; refine ak ?_)
  | (refine aM (cQ _ _ _) ?_)
  | (refine aM (cz _ _ _) ?_)
  | (refine ao (fun q=>?_) (fun q=>?_)))
 all_goals (refine ⟨?_,e1⟩; first | (simp_all [cR,dB]; done) | (simp_all [cR,dB] <;> simp [xM] <;> omega))
def SP (h:Hp) (op a b n form:Int):HC Xaz 128 #[dI op a b n form,vI 7] h fun w h'=>w=.bool (nR 7 n form)/\Ext h h':=by
 refine bi (args:=[dI op a b n form,vI 7]) mixed Tryz.func128 aw (vY op a b n form) ?_;unfold rE;refine bG ?_;intro c b1 e1 z1
 try simp only [aC]
 repeat' (first
  | (refine bm b1 (_,()) rfl ?_; refine ak ?_)
  | (refine aM (cQ _ _ _) ?_)
  | (refine aM (cz _ _ _) ?_)
  | (refine ao (fun q=>?_) (fun q=>?_)))
 all_goals (refine ⟨?_,e1⟩; first | (simp_all [nR,dB]; done) | (simp_all [nR,dB] <;> omega))
def N8 (h:Hp) (op a b n form:Int):HC Xaz 127 #[dI op a b n form,vI 8] h fun w h'=>w=.bool (cR 8 a b n)/\Ext h h':=by
 refine bi (args:=[dI op a b n form,vI 8]) mixed Tryz.func127 aw (rU op a b n form) ?_;unfold mv bd bH;refine bG ?_;intro c b1 e1 z1
 try simp only [aC]
 repeat' (first
  | (refine bm b1 (_,()) rfl ?_; refine ak ?_)
  | (refine aM (cQ _ _ _) ?_)
  | (refine aM (cz _ _ _) ?_)
  | (refine ao (fun q=>?_) (fun q=>?_)))
 all_goals (refine ⟨?_,e1⟩; first | (simp_all [cR,dB]; done) | (simp_all [cR,dB] <;> simp [xM] <;> omega))
def Sy (h:Hp) (op a b n form:Int):HC Xaz 128 #[dI op a b n form,vI 8] h fun w h'=>w=.bool (nR 8 n form)/\Ext h h':=by
 refine bi (args:=[dI op a b n form,vI 8]) mixed Tryz.func128 aw (vO op a b n form) ?_;unfold rC bd;refine bG ?_;intro c b1 e1 z1
 try simp only [aC]
 repeat' (first
  | (refine bm b1 (_,()) rfl ?_; refine ak ?_)
  | (refine aM (cQ _ _ _) ?_)
  | (refine aM (cz _ _ _) ?_)
  | (refine ao (fun q=>?_) (fun q=>?_)))
 all_goals (refine ⟨?_,e1⟩; first | (simp_all [nR,dB]; done) | (simp_all [nR,dB] <;> omega))
def P4 (h:Hp) (op a b n form:Int):HC Xaz 127 #[dI op a b n form,vI 9] h fun w h'=>w=.bool (cR 9 a b n)/\Ext h h':=by
 refine bi (args:=[dI op a b n form,vI 9]) mixed Tryz.func127 aw (rH op a b n form) ?_;unfold mJ bH;refine bG ?_;intro c b1 e1 z1
 try simp only [aC]
 repeat' (first
  | (refine bm b1 (_,()) rfl ?_; refine ak ?_)
  | (refine aM (cQ _ _ _) ?_)
  | (refine aM (cz _ _ _) ?_)
  | (refine ao (fun q=>?_) (fun q=>?_)))
 all_goals (refine ⟨?_,e1⟩; first | (simp_all [cR,dB]; done) | (simp_all [cR,dB] <;> simp [xM] <;> omega))
def Rk (h:Hp) (op a b n form:Int):HC Xaz 128 #[dI op a b n form,vI 9] h fun w h'=>w=.bool (nR 9 n form)/\Ext h h':=by
 refine bi (args:=[dI op a b n form,vI 9]) mixed Tryz.func128 aw (vk op a b n form) ?_;unfold rk bH;refine bG ?_;intro c b1 e1 z1
 try simp only [aC]
 repeat' (first
  | (refine bm b1 (_,()) rfl ?_; refine ak ?_)
  | (refine aM (cQ _ _ _) ?_)
  | (refine aM (cz _ _ _) ?_)
  | (refine ao (fun q=>?_) (fun q=>?_)))
 all_goals (refine ⟨?_,e1⟩; first | (simp_all [nR,dB]; done) | (simp_all [nR,dB] <;> omega))
def L8 (h:Hp) (op a b n form:Int):HC Xaz 127 #[dI op a b n form,vI 10] h fun w h'=>w=.bool (cR 10 a b n)/\Ext h h':=by
 refine bi (args:=[dI op a b n form,vI 10]) mixed Tryz.func127 aw (qW op a b n form) ?_;unfold ld bd bH;refine bG ?_;intro c b1 e1 z1
 try simp only [aC]
 repeat' (first
  | (refine bm b1 (_,()) rfl ?_; refine ak ?_)
  | (refine aM (cQ _ _ _) ?_)
  | (refine aM (cz _ _ _) ?_)
  | (refine ao (fun q=>?_) (fun q=>?_)))
 all_goals (refine ⟨?_,e1⟩; first | (simp_all [cR,dB]; done) | (simp_all [cR,dB] <;> simp [xM] <;> omega))
def OK (h:Hp) (op a b n form:Int):HC Xaz 128 #[dI op a b n form,vI 10] h fun w h'=>w=.bool (nR 10 n form)/\Ext h h':=by
 refine bi (args:=[dI op a b n form,vI 10]) mixed Tryz.func128 aw (uA op a b n form) ?_;unfold pQ;refine bG ?_;intro c b1 e1 z1
 try simp only [aC]
 repeat' (first
  | (refine bm b1 (_,()) rfl ?_; refine ak ?_)
  | (refine aM (cQ _ _ _) ?_)
  | (refine aM (cz _ _ _) ?_)
  | (refine ao (fun q=>?_) (fun q=>?_)))
 all_goals (refine ⟨?_,e1⟩; first | (simp_all [nR,dB]; done) | (simp_all [nR,dB] <;> omega))
def KQ (h:Hp) (op a b n form:Int):HC Xaz 127 #[dI op a b n form,vI 11] h fun w h'=>w=.bool (cR 11 a b n)/\Ext h h':=by
 refine bi (args:=[dI op a b n form,vI 11]) mixed Tryz.func127 aw (qA op a b n form) ?_;unfold ln bd bH;refine bG ?_;intro c b1 e1 z1
 try simp only [aC]
 repeat' (first
  | (refine bm b1 (_,()) rfl ?_; refine ak ?_)
  | (refine aM (cQ _ _ _) ?_)
  | (refine aM (cz _ _ _) ?_)
  | (refine ao (fun q=>?_) (fun q=>?_)))
 all_goals (refine ⟨?_,e1⟩; first | (simp_all [cR,dB]; done) | (simp_all [cR,dB] <;> simp [xM] <;> omega))
def ME (h:Hp) (op a b n form:Int):HC Xaz 128 #[dI op a b n form,vI 11] h fun w h'=>w=.bool (nR 11 n form)/\Ext h h':=by
 refine bi (args:=[dI op a b n form,vI 11]) mixed Tryz.func128 aw (ux op a b n form) ?_;unfold pY bH;refine bG ?_;intro c b1 e1 z1
 try simp only [aC]
 repeat' (first
  | (refine bm b1 (_,()) rfl ?_; refine ak ?_)
  | (refine aM (cQ _ _ _) ?_)
  | (refine aM (cz _ _ _) ?_)
  | (refine ao (fun q=>?_) (fun q=>?_)))
 all_goals (refine ⟨?_,e1⟩; first | (simp_all [nR,dB]; done) | (simp_all [nR,dB] <;> omega))
def Lh (h:Hp) (op a b n form:Int):HC Xaz 127 #[dI op a b n form,vI 12] h fun w h'=>w=.bool (cR 12 a b n)/\Ext h h':=by
 refine bi (args:=[dI op a b n form,vI 12]) mixed Tryz.func127 aw (ql op a b n form) ?_;unfold lj bH;refine bG ?_;intro c b1 e1 z1
 try simp only [aC]
 repeat' (first
  | (refine bm b1 (_,()) rfl ?_; refine ak ?_)
  | (refine aM (cQ _ _ _) ?_)
  | (refine aM (cz _ _ _) ?_)
  | (refine ao (fun q=>?_) (fun q=>?_)))
 all_goals (refine ⟨?_,e1⟩; first | (simp_all [cR,dB]; done) | (simp_all [cR,dB] <;> simp [xM] <;> omega))
def PZ (h:Hp) (op a b n form:Int):HC Xaz 128 #[dI op a b n form,vI 12] h fun w h'=>w=.bool (nR 12 n form)/\Ext h h':=by
 refine bi (args:=[dI op a b n form,vI 12]) mixed Tryz.func128 aw (uq op a b n form) ?_;unfold py bd;refine bG ?_;intro c b1 e1 z1
 try simp only [aC]
 repeat' (first
  | (refine bm b1 (_,()) rfl ?_; refine ak ?_)
  | (refine aM (cQ _ _ _) ?_)
  | (refine aM (cz _ _ _) ?_)
  | (refine ao (fun q=>?_) (fun q=>?_)))
 all_goals (refine ⟨?_,e1⟩; first | (simp_all [nR,dB]; done) | (simp_all [nR,dB] <;> omega))
def Li (h:Hp) (op a b n form:Int):HC Xaz 127 #[dI op a b n form,vI 13] h fun w h'=>w=.bool (cR 13 a b n)/\Ext h h':=by
 refine bi (args:=[dI op a b n form,vI 13]) mixed Tryz.func127 aw (qH op a b n form) ?_;unfold lG bd bH;refine bG ?_;intro c b1 e1 z1
 try simp only [aC]
 repeat' (first
  | (refine bm b1 (_,()) rfl ?_; refine ak ?_)
  | (refine aM (cQ _ _ _) ?_)
  | (refine aM (cz _ _ _) ?_)
  | (refine ao (fun q=>?_) (fun q=>?_)))
 all_goals (refine ⟨?_,e1⟩; first | (simp_all [cR,dB]; done) | (simp_all [cR,dB] <;> simp [xM] <;> omega))
def OQ (h:Hp) (op a b n form:Int):HC Xaz 128 #[dI op a b n form,vI 13] h fun w h'=>w=.bool (nR 13 n form)/\Ext h h':=by
 refine bi (args:=[dI op a b n form,vI 13]) mixed Tryz.func128 aw (ur op a b n form) ?_;unfold oX bd;refine bG ?_;intro c b1 e1 z1
 try simp only [aC]
 repeat' (first
  | (refine bm b1 (_,()) rfl ?_; refine ak ?_)
  | (refine aM (cQ _ _ _) ?_)
  | (refine aM (cz _ _ _) ?_)
  | (refine ao (fun q=>?_) (fun q=>?_)))
 all_goals (refine ⟨?_,e1⟩; first | (simp_all [nR,dB]; done) | (simp_all [nR,dB] <;> omega))
def E1 (h:Hp) (op a b n form:Int) {s:Nat} (h1:1<=s) (h2:s<=13):HC Xaz 127 #[dI op a b n form,vI s] h fun w h'=>w=.bool (cR s a b n)/\Ext h h':=by
 have c:s=1\/s=2\/s=3\/s=4\/s=5\/s=6\/s=7\/s=8\/s=9\/s=10\/s=11\/s=12\/s=13:=ad
 clear h1 h2;rcases c with rfl | rfl | rfl | rfl | rfl | rfl | rfl | rfl | rfl | rfl | rfl | rfl | rfl
 ·exact Pk h op a b n form
 ·exact Pp h op a b n form
 ·exact OL h op a b n form
 ·exact PU h op a b n form
 ·exact OH h op a b n form
 ·exact Ou h op a b n form
 ·exact Nq h op a b n form
 ·exact N8 h op a b n form
 ·exact P4 h op a b n form
 ·exact L8 h op a b n form
 ·exact KQ h op a b n form
 ·exact Lh h op a b n form
 ·exact Li h op a b n form
def Db (h:Hp) (op a b n form:Int) {s:Nat} (h1:1<=s) (h2:s<=13):HC Xaz 128 #[dI op a b n form,vI s] h fun w h'=>w=.bool (nR s n form)/\Ext h h':=by
 have c:s=1\/s=2\/s=3\/s=4\/s=5\/s=6\/s=7\/s=8\/s=9\/s=10\/s=11\/s=12\/s=13:=ad
 clear h1 h2;rcases c with rfl | rfl | rfl | rfl | rfl | rfl | rfl | rfl | rfl | rfl | rfl | rfl | rfl
 ·exact Sg h op a b n form
 ·exact Si h op a b n form
 ·exact Qu h op a b n form
 ·exact RC h op a b n form
 ·exact Q3 h op a b n form
 ·exact Rv h op a b n form
 ·exact SP h op a b n form
 ·exact Sy h op a b n form
 ·exact Rk h op a b n form
 ·exact OK h op a b n form
 ·exact ME h op a b n form
 ·exact PZ h op a b n form
 ·exact OQ h op a b n form
def Sm (n:Int):Prop:=-9223372036854775808<=n/\n<=9223372036854775807
def Gu {h:Hp} (t:Cw h) (op a b n form:Int) (d:Sm op) :
  HC Xaz 118 #[dI op a b n form] h fun w h'=>w=vI (ir ⟨op,a,b,n,form⟩)/\Ext h h':=by
 refine bi (args:=[dI op a b n form]) mixed Tryz.func118 aw (Bd op a b n form) ?_;unfold zu bd bz cm cr;refine bG ?_;intro u b1 e1 z1;refine az b1 (op,()) (ak ?_);refine aJ (O6 (t.ai e1 aj) op d.1 d.2) ?_;rintro _ l ⟨s,y,rfl,e2⟩;refine ⟨(s,y,((dG op:Nat):Int),decide (dG op≠0),()),rfl,ak ?_⟩;refine bG ?_;intro x m g z3;refine bQ m ?_;intro i b4 j z4;have b4:bF i l.size 165 [.string s,.int .u8 y,vI (dG op:Nat)]:=b4;have e4:=((e1.trans e2).trans g).st j (by have:=e1.size; have:=e2.size; omega);have b1:=b1.ai ((e2.trans g).st j (by have:=e2.size; omega)) aj;unfold ir;simp only [aC];refine ao ?_ ?_<;>intro q
 ·have q:dG op=0:=by simpa using q
  exact ⟨by rw [Y8 q],e4⟩
 have q:¬ dG op=0:=by simpa using q
 rw [Y1 q];refine az b1 (op,a,b,n,form,()) (ak ?_);refine az b4 (((dG op:Nat):Int),()) (ak ?_);have hs:=iT op;refine aJ (E1 i op a b n form (s:=dG op) ad ad) ?_;rintro _ z ⟨rfl,e⟩;refine ⟨(cR (dG op) a b n,()),rfl,ak ?_⟩;have e45:=e4.trans e;refine ao ?_ ?_<;>intro q
 ·have q:cR (dG op) a b n=false:=by simpa using q
  exact ⟨by rw [Y8 q],e45⟩
 have q:cR (dG op) a b n=true:=by simpa using q
 rw [Y1 (by rw [q]; simp)];have b1:=b1.ai e aj;have b4:=b4.ai e aj;refine az b1 (op,()) (ak ?_);refine aJ (Gz (t.ai e45 aj) op d.1 d.2) ?_;rintro _ k ⟨rfl,f⟩;refine ⟨(um op,()),rfl,ak ?_⟩;have e46:=e45.trans f;have b1:=b1.ai f aj;have b4:=b4.ai f aj;refine ao ?_ ?_<;>intro q
 ·have q:um op=false:=by simpa using q
  refine az b1 (form,()) (ak ?_);refine ao ?_ ?_<;>intro r
  ·have r:¬ form=0:=by simpa using r
   exact ⟨by rw [q]; simp [r],e46⟩
  have r:form=0:=by simpa using r
  refine az b1 (op,a,b,n,form,()) (ak ?_);refine az b4 (((dG op:Nat):Int),()) (ak ?_);refine aJ (Db k op a b n form (s:=dG op) ad ad) ?_;rintro _ o ⟨rfl,c⟩;refine ⟨(nR (dG op) n form,()),rfl,ak ?_⟩;refine ao ?_ ?_<;>intro p
  ·exact ⟨by rw [q]; simp_all,e46.trans c⟩
  ·exact ⟨by rw [q]; simp_all,e46.trans c⟩
 ·have q:um op=true:=by simpa using q
  refine az b1 (op,a,b,n,form,()) (ak ?_);refine az b4 (((dG op:Nat):Int),()) (ak ?_);refine aJ (Db k op a b n form (s:=dG op) ad ad) ?_;rintro _ o ⟨rfl,c⟩;refine ⟨(nR (dG op) n form,()),rfl,ak ?_⟩;refine ao ?_ ?_<;>intro p
  ·exact ⟨by rw [q]; simp_all,e46.trans c⟩
  ·exact ⟨by rw [q]; simp_all,e46.trans c⟩
def encI (p:Xac) (l c:Nat) (x:cH):List Xab:=[vI x.kind,.string x.name,vI x.inst.op,vI x.inst.a,vI x.inst.b,.int .i32 x.inst.n,vI x.inst.form,.slice p l c,.int .u32 x.e.num,vI x.n]
def rQ (p:Xac) (l c:Nat) (x:cH):Xab:=.agg (encI p l c x).toArray
structure pV (h:Hp) (p:Xac) (l:Nat) (x:cE):Prop where
 vw:ik h p l x.ah
 many:x.ah.length<=2^60
 names:∀ t,t∈x.ah->t.1.size<=maxLen
def pV.ai {h:Hp} {p:Xac} {l:Nat} {x:cE} (v:pV h p l x) (k:Ext h h'):pV h' p l x:=⟨v.vw.ai k aj,v.many,v.names⟩
def ik.none (h:Hp):ik h none 0 []:=⟨rfl,fun i hi=>absurd hi aj⟩
def tn (x:cE):mE x Gs=Ql x:=by
 unfold mE Ql Gs;rw [Bool.and_comm]
def JI (g k:Nat):T :=
 T.af ⟨g,5,none⟩ [.int .i32] <| fun (a:Int) =>
 cond (a==(0:Int))
  (T.af ⟨k,0,none⟩ [.int .i64,.int .i64,.int .i64,.int .i32,.int .i64] <| fun (b c d e f:Int) =>
  bz 118 [.agg #[vI b,vI c,vI d,.int .i32 e,vI f]] false [aK] <| fun (h:Int) =>
  cond (h==(0:Int))
  (T.af ⟨g,7,none⟩ [.slice 66,.int .u32] <| fun (i:Xac) (j l:Nat) (m:Int) =>
  bz 80 [.agg #[.slice i j l,ax m]] false [cr] <| fun (n:Bool) =>
  T.ret (.bool n))
  bH)
  bH
def M5 (g k:Nat):T :=
 T.af ⟨k,0,none⟩ [.int .i64,.int .i64,.int .i64,.int .i32,.int .i64] <| fun (a b c d e:Int) =>
 bz 118 [.agg #[vI a,vI b,vI c,.int .i32 d,vI e]] false [aK] <| fun (f:Int) =>
 cond (f==(0:Int))
  (T.af ⟨g,7,none⟩ [.slice 66,.int .u32] <| fun (h:Xac) (i j:Nat) (l:Int) =>
  bz 101 [.agg #[.slice h i j,ax l],.agg #[aS,ax (0:Int)]] false [cr] <| fun (m:Bool) =>
  T.ret (.bool m))
  bH
def pX (i:Ins):List Xab:=[vI i.op,vI i.a,vI i.b,.int .i32 i.n,vI i.form]
variable {H:cH} {I:Xac} {O:Ins}
def Gm {L:Lp} {h0 h:Hp} (t:Cw h) {l c g k:Nat} (b1:bF h g e1 (encI I l c H)) (b2:bF h k e2 (pX O)) (v:pV h I l H.e) (d:Sm O.op) (e:Ext h0 h) :
  JI g k L (fun w h'=>w=.bool (decide (H.inst.n=0) && decide (ir O=0) && oR none H.e.ah)/\Ext h0 h') h:=by
 unfold JI bz ax bH aK cr;refine az b1 (H.inst.n,()) (ak ?_);refine ao ?_ ?_<;>intro q
 ·have q:H.inst.n=0:=by simpa using q
  refine az b2 (O.op,O.a,O.b,O.n,O.form,()) (ak ?_);refine aJ (Gu t O.op O.a O.b O.n O.form d) ?_;rintro _ j ⟨rfl,e2⟩;refine ⟨(ir O,()),rfl,ak ?_⟩;refine ao ?_ ?_<;>intro r
  ·have r:ir O=0:=by simpa using r
   refine az (b1.ai e2 aj) ((I,l,c),(H.e.num:Int),()) (ak ?_);refine aJ (vK (c:=c) (v.ai e2).vw (by have:=v.many; omega) v.names) ?_;rintro _ m ⟨rfl,f⟩;refine ⟨(oR none H.e.ah,()),rfl,?_⟩;exact ⟨by rw [Y4 q,Y4 r]; rfl,(e.trans e2).trans f⟩
  ·have r:¬ ir O=0:=by simpa using r
   exact ⟨by rw [Y6 r,cn9]; rfl,e.trans e2⟩
 ·have q:¬ H.inst.n=0:=by simpa using q
  exact ⟨by rw [Y6 q]; rfl,e⟩
def M6 {L:Lp} {h0 h:Hp} (t:Cw h) {l c g k:Nat} (b1:bF h g e1 (encI I l c H)) (b2:bF h k e2 (pX O)) (v:pV h I l H.e) (f:Sm O.op) (e:Ext h0 h) :
  M5 g k L (fun w h'=>w=.bool (decide (ir O=0) && Ql H.e)/\Ext h0 h') h:=by
 unfold M5 bz ax bH aS aK cr;refine az b2 (O.op,O.a,O.b,O.n,O.form,()) (ak ?_);refine aJ (Gu t O.op O.a O.b O.n O.form f) ?_;rintro _ j ⟨rfl,e2⟩;refine ⟨(ir O,()),rfl,ak ?_⟩;refine ao ?_ ?_<;>intro r
 ·have r:ir O=0:=by simpa using r
  refine az (b1.ai e2 aj) ((I,l,c),(H.e.num:Int),()) (ak ?_);refine aJ (CB (c:=c) (d:=0) (y:=Gs) (v.ai e2).vw (ik.none j) v.many) ?_;rintro _ o ⟨rfl,m⟩;refine ⟨(mE H.e Gs,()),rfl,?_⟩;exact ⟨by rw [Y4 r,tn]; rfl,(e.trans e2).trans m⟩
 ·have r:¬ ir O=0:=by simpa using r
  exact ⟨by rw [Y6 r]; rfl,e.trans e2⟩
def instruction_hc {h:Hp} (t:Cw h) {l c:Nat} (v:pV h I l H.e) (m:Sm H.inst.op) :
  HC Xaz 99 #[rQ I l c H] h fun w h'=>w=.bool (Az H.inst H.e)/\Ext h h':=by
 refine bi (args:=[rQ I l c H]) mixed Tryz.func99 aw (rL H.kind H.name H.inst.op H.inst.a H.inst.b H.inst.n H.inst.form I l c H.e.num H.n) ?_;unfold ni bd dl bz ax bH aS cm cr;refine bG ?_;intro G b1 e1 z1;have b1:bF G h.size 64 (encI I l c H):=b1;simp only [aC];refine az b1 (H.inst.op,()) (ak ?_);refine aJ (O6 (t.ai e1 aj) H.inst.op m.1 m.2) ?_;rintro _ J ⟨s,y,rfl,e2⟩;refine ⟨(s,y,((dG H.inst.op:Nat):Int),decide (dG H.inst.op≠0),()),rfl,ak ?_⟩;refine bG ?_;intro V K M z3;refine bQ K ?_;intro g b4 N z4;have b4:bF g J.size 165 [.string s,.int .u8 y,vI (dG H.inst.op:Nat)]:=b4;have s1:=e1.size;have s2:=e2.size;have e14:=(e2.trans M).st N ad;have e4:=e1.trans e14;have b1:=b1.ai e14 aj;unfold Az;refine ao ?_ ?_<;>intro q
 ·have q:dG H.inst.op=0:=by simpa using q
  exact ⟨by rw [q]; rfl,e4⟩
 have q:dG H.inst.op≠0:=by simpa using q
 rw [Y4 q,Zy];refine az b1 (H.inst.form,()) (ak ?_);refine ao ?_ ?_<;>intro r
 ·have r:¬ H.inst.form=0:=by simpa using r
  exact ⟨by rw [Y6 r]; rfl,e4⟩
 have r:H.inst.form=0:=by simpa using r
 rw [Y4 r,Zy];refine az b1 (H.inst.op,H.inst.a,H.inst.b,H.inst.n,H.inst.form,()) (ak ?_);refine bG ?_;intro W O P X;refine bQ O ?_;intro g6 o Q Y;have o:bF g6 g.size 62 (pX H.inst):=o;have e46:=P.st Q ad;have e6:=e4.trans e46;have b1:=b1.ai e46 aj;have b4:=b4.ai e46 aj;simp only [aC];have hs:=iT H.inst.op;refine az b4 (((dG H.inst.op:Nat):Int),()) (ak ?_);generalize i:(if Hq H.inst.op=true then decide (H.inst.n=0) && decide (ir { H.inst with form:=if um H.inst.op=true then 1 else 0 }=0) && oR none H.e.ah else decide (ir H.inst=0) && Ql H.e)=B;have R:{ H.inst with form:=0 }=H.inst:=by
  rcases S:H.inst with ⟨Z,a2,a3,a4,a5⟩
  rw [S] at r;simp only at r;rw [r]
 have hA:12<=dG H.inst.op->T.ar ⟨g.size,4,none⟩ [vI 1] (JI h.size g.size) [] (fun w h'=>w=.bool B/\Ext h h') g6:=by
  intro z;refine ct o rfl (by simp [pX]) ?_;intro g7 A E z7;have A:bF g7 g.size 62 (pX { H.inst with form:=1 }):=A;have C:Ext g g7:=e46.st E ad;have e7:=e4.trans C;have u:Hq H.inst.op=true:=Y4 ad;have D:um H.inst.op=true:=Y4 z;rw [Y8 u,Y8 D] at i
  have:=Gm (L:=[]) (h0:=h) (t.ai e7 aj) (b1.ai E (by simp; omega)) A (v.ai e7) m e7
  rw [i] at this;exact this
 have F:dG H.inst.op=10\/dG H.inst.op=11->JI h.size g.size [] (fun w h'=>w=.bool B/\Ext h h') g6:=by
  intro z;have u:Hq H.inst.op=true:=Y4 ad;have D:¬ um H.inst.op=true:=by unfold um; rw [Y6 ad]; simp
  rw [Y8 u,Y1 D,R] at i
  have:=Gm (L:=[]) (h0:=h) (t.ai e6 aj) b1 o (v.ai e6) m e6
  rw [i] at this;exact this
 have U:dG H.inst.op<10->M5 h.size g.size [] (fun w h'=>w=.bool B/\Ext h h') g6:=by
  intro z;have u:¬ Hq H.inst.op=true:=by unfold Hq; rw [Y6 ad]; simp
  rw [Y1 u] at i
  have:=M6 (L:=[]) (h0:=h) (t.ai e6 aj) b1 o (v.ai e6) m e6
  rw [i] at this;exact this
 clear i;refine ao ?_ ?_<;>intro j
 ·have j:((dG H.inst.op:Nat):Int)=12:=by simpa using j
  refine ao (fun d=>hA ad) (fun d=>?_);have d:¬ ((dG H.inst.op:Nat):Int)=12:=by simpa using d
  exact absurd j d
 have j:¬ ((dG H.inst.op:Nat):Int)=12:=by simpa using j
 refine ao ?_ ?_<;>intro d
 ·have d:((dG H.inst.op:Nat):Int)=13:=by simpa using d
  exact hA ad
 have d:¬ ((dG H.inst.op:Nat):Int)=13:=by simpa using d
 refine ao ?_ ?_<;>intro k
 ·have k:((dG H.inst.op:Nat):Int)=10:=by simpa using k
  refine ao (fun d=>F ad) (fun f=>?_);have f:¬ ((dG H.inst.op:Nat):Int)=10:=by simpa using f
  exact absurd k f
 have k:¬ ((dG H.inst.op:Nat):Int)=10:=by simpa using k
 refine ao ?_ ?_<;>intro f
 ·have f:((dG H.inst.op:Nat):Int)=11:=by simpa using f
  exact F ad
 have f:¬ ((dG H.inst.op:Nat):Int)=11:=by simpa using f
 exact U ad
structure nu (h:Hp) (p:Xac) (l:Nat) (x:cH):Prop where
 lin:pV h p l x.e
 name:x.name.size<=maxLen
 op:Sm x.inst.op
def nu.ai {h:Hp} {p:Xac} {l:Nat} {x:cH} (v:nu h p l x) (k:Ext h h'):nu h' p l x:=⟨v.lin.ai k,v.name,v.op⟩
def lC (x y:cH):Bool:=decide (x.name=y.name) && decide (x.inst=y.inst) && decide (x.n=y.n) && mE x.e y.e
def TC:Tryz.prog.underlying 62=some (.struct (Ca Xaz 62)):=aw
def Ux (x y:Operand) (i j:Ins) (h:Hp) (K:Xab->Hp->Prop) (hk:K (.bool !(decide (i=j))) h) :
  aZ Xaz (Sx.jk (BinOp.neq) 62 x y (.agg (pX i).toArray) (.agg (pX j).toArray)) h K:=by
 refine rZ TC aw aw aw K ?_;have c:(Ca Xaz 62).all (HB (pX i).toArray (pX j).toArray)=(i.op==j.op && (i.a==j.a && (i.b==j.b && (i.n==j.n && (i.form==j.form && true))))):=by
  rw [<- aj9]
  kernel_rfl
 rw [c,au9]
 have:(i.op==j.op && (i.a==j.a && (i.b==j.b && (i.n==j.n && i.form==j.form))))=decide (i=j):=by
  rcases i with ⟨d,e,f,g,k⟩
  rcases j with ⟨c1,l,c3,m,c5⟩
  simp only [dB,Ins.mk.injEq]
  by_cases h1:d=c1 <;> by_cases h2:e=l <;> by_cases o:f=c3 <;> by_cases p:g=m <;> by_cases q:k=c5 <;> simp [h1,h2,o,p,q]
 rw [this];exact hk
def Yl (g k:Nat):T :=
 T.af ⟨g,1,none⟩ [.string] <| fun (z:Xaa) =>
 T.af ⟨k,1,none⟩ [.string] <| fun (A:Xaa) =>
 cond (!((ByteArray.toList z)==(ByteArray.toList A)))
  (T.ret (vI (31:Int)))
  (T.af ⟨g,2,none⟩ [.int .i64,.int .i64,.int .i64,.int .i32,.int .i64] <| fun (a b c d e:Int) =>
  T.af ⟨k,2,none⟩ [.int .i64,.int .i64,.int .i64,.int .i32,.int .i64] <| fun (f h i j l:Int) =>
  bX (Sx.jk (BinOp.neq) 62 (Operand.tmp 109) (Operand.tmp 111) (.agg #[vI a,vI b,vI c,.int .i32 d,vI e]) (.agg #[vI f,vI h,vI i,.int .i32 j,vI l])) false [cr] <| fun (m:Bool) =>
  cond m
  (T.ret (vI (31:Int)))
  (T.af ⟨g,9,none⟩ [.int .i64] <| fun (n:Int) =>
  T.af ⟨k,9,none⟩ [.int .i64] <| fun (o:Int) =>
  cond (n != o)
   (T.ret (vI (31:Int)))
   (T.af ⟨g,7,none⟩ [.slice 66,.int .u32] <| fun (p:Xac) (q r:Nat) (s:Int) =>
   T.af ⟨k,7,none⟩ [.slice 66,.int .u32] <| fun (t:Xac) (u w:Nat) (x:Int) =>
   bz 101 [.agg #[.slice p q r,ax s],.agg #[.slice t u w,ax x]] false [cr] <| fun (y:Bool) =>
   cond (!y)
   (T.ret (vI (31:Int)))
   (T.ret (vI (0:Int))))))
def EM (b:Bool):Xab:=vI (if b then 0 else 31)
def qB {L:Lp} {h0 h:Hp} {y:cH} {q:Xac} {l c m d g k:Nat} (b1:bF h g e1 (encI I l c H)) (b2:bF h k e2 (encI q m d y)) (v:pV h I l H.e) (w:ik h q m y.e.ah) (e:Ext h0 h) :
  Yl g k L (fun w h'=>w=EM (lC H y)/\Ext h0 h') h:=by
 unfold Yl lC bz bX ax cr;refine az b1 (H.name,()) (ak ?_);refine az b2 (y.name,()) (ak ?_);rw [ByteArray.toList_eq,ByteArray.toList_eq];refine ao ?_ ?_<;>intro r
 ·have r:¬ H.name=y.name:=fun i=>by rw [i] at r; simp at r
  exact ⟨by rw [Y6 r]; rfl,e⟩
 have r:H.name=y.name:=DV (by simpa using r);rw [Y4 r,Zy];refine az b1 (H.inst.op,H.inst.a,H.inst.b,H.inst.n,H.inst.form,()) (ak ?_);refine az b2 (y.inst.op,y.inst.a,y.inst.b,y.inst.n,y.inst.form,()) (ak ?_);refine mU (fun j o=>Ux _ _ H.inst y.inst h j o) ?_;refine ao ?_ ?_<;>intro r
 ·have r:¬ H.inst=y.inst:=by simpa using r
  exact ⟨by rw [Y6 r]; rfl,e⟩
 have r:H.inst=y.inst:=by simpa using r
 rw [Y4 r,Zy];refine az b1 (H.n,()) (ak ?_);refine az b2 (y.n,()) (ak ?_);refine ao ?_ ?_<;>intro r
 ·have r:¬ H.n=y.n:=by simpa using r
  exact ⟨by rw [Y6 r]; rfl,e⟩
 have r:H.n=y.n:=by simpa using r
 rw [Y4 r,Zy];refine az b1 ((I,l,c),(H.e.num:Int),()) (ak ?_);refine az b2 ((q,m,d),(y.e.num:Int),()) (ak ?_);refine aJ (CB (c:=c) (d:=d) v.vw w v.many) ?_;rintro _ s ⟨rfl,f⟩;refine ⟨(mE H.e y.e,()),rfl,ak ?_⟩;refine ao ?_ ?_<;>intro r
 ·have r:mE H.e y.e=false:=by simpa using r
  exact ⟨by rw [r]; rfl,e.trans f⟩
 ·have r:mE H.e y.e=true:=by simpa using r
  exact ⟨by rw [r]; rfl,e.trans f⟩
def vX (x:cE):mE x x=true:=KR x
def Ew (hk:H.kind=1):cI H sec=(dr H.name.data.toList && lC H { fN H.kind with name:=H.name }):=by
 unfold cI lC;simp only [hk,fN,vX,tn,z1,z2,z3,z4];simp (decide:=true) only [if_true,if_false,cv9,Zy,au9]
 try simp only [Bool.and_assoc,Bool.and_comm,Bool.and_left_comm]
def Pb (hk:H.kind=2):cI H sec=(decide (sec=0) && Az H.inst H.e && lC H { fN H.kind with inst:=H.inst,e:=H.e }):=by
 unfold cI lC;simp only [hk,fN,vX,tn,z1,z2,z3,z4];simp (decide:=true) only [if_true,if_false,cv9,Zy,au9]
 try simp only [Bool.and_assoc,Bool.and_comm,Bool.and_left_comm]
def NT (hk:H.kind=3):cI H sec=(we H.n && lC H { fN H.kind with n:=H.n }):=by
 unfold cI lC;simp only [hk,fN,vX,tn,z1,z2,z3,z4];simp (decide:=true) only [if_true,if_false,cv9,Zy,au9]
 try simp only [Bool.and_assoc,Bool.and_comm,Bool.and_left_comm]
def Pn (hk:H.kind=4):cI H sec=(decide (sec=0) && lC H (fN H.kind)):=by
 unfold cI lC;simp only [hk,fN,vX,tn,z1,z2,z3,z4];simp (decide:=true) only [if_true,if_false,cv9,Zy,au9]
 try simp only [Bool.and_assoc,Bool.and_comm,Bool.and_left_comm]
def Og (hk:H.kind=5):cI H sec=(decide (sec=1) && decide (-128<=H.n) && decide (H.n<=255) && lC H { fN H.kind with n:=H.n }):=by
 unfold cI lC;simp only [hk,fN,vX,tn,z1,z2,z3,z4];simp (decide:=true) only [if_true,if_false,cv9,Zy,au9]
 try simp only [Bool.and_assoc,Bool.and_comm,Bool.and_left_comm]
def Mu (hk:H.kind=6):cI H sec=(decide (sec=1) && oR none H.e.ah && lC H { fN H.kind with e:=H.e }):=by
 unfold cI lC;simp only [hk,fN,vX,tn,z1,z2,z3,z4];simp (decide:=true) only [if_true,if_false,cv9,Zy,au9]
 try simp only [Bool.and_assoc,Bool.and_comm,Bool.and_left_comm]
def Pf (hk:H.kind=7):cI H sec=(decide (sec=1) && decide (0<=H.n) && decide (H.n<=1048576) && lC H { fN H.kind with n:=H.n }):=by
 unfold cI lC;simp only [hk,fN,vX,tn,z1,z2,z3,z4];simp (decide:=true) only [if_true,if_false,cv9,Zy,au9]
 try simp only [Bool.and_assoc,Bool.and_comm,Bool.and_left_comm]
def Jm (h1:H.kind≠1) (h2:H.kind≠2) (a:H.kind≠3) (b:H.kind≠4) (c:H.kind≠5) (d:H.kind≠6) (e:H.kind≠7):cI H sec=false:=by
 unfold cI;rw [Y1 h1,Y1 h2,Y1 a,Y1 b,Y1 c,Y1 d,Y1 e]
def PG {h:Hp} (t:Cw h) {l c:Nat} (v:nu h I l H) :
  HC Xaz 78 #[rQ I l c H,vI 0] h fun w h'=>w=EM (cI H 0)/\Ext h h':=by
 refine bi (args:=[rQ I l c H,vI 0]) mixed Tryz.func78 aw (vH H.kind H.name H.inst.op H.inst.a H.inst.b H.inst.n H.inst.form I l c H.e.num H.n) ?_;unfold rq bd ei ax aS cm;refine bG ?_;intro j b1 e1 z1;have b1:bF j h.size 64 (encI I l c H):=b1;refine az b1 (H.kind,()) (ak ?_);refine bG ?_;intro G b2 e2 z2;refine bQ b2 ?_;intro m i s z3;have i:bF m j.size 64 (encI none 0 0 (fN H.kind)):=i;have s1:=e1.size;have e13:=e2.st s (Zc _);have e3:=e1.trans e13;have b1:=b1.ai e13 aj;simp only [aC];refine az b1 (H.kind,()) (ak ?_);refine ao ?_ ?_<;>intro q
 ·have q:H.kind=1:=by simpa using q
  rw [Ew q];refine az b1 (H.name,()) (ak ?_);refine ct i rfl (by simp [encI]) ?_;intro g d f z4;have d:bF g j.size 64 (encI none 0 0 { fN H.kind with name:=H.name }):=d;have e4:=e3.st f ad;have b1:=b1.ai f (by simp; omega);refine az b1 (H.name,()) (ak ?_);refine aM (wz H.name g (by have:=v.name; have:maxLen=9223372036854775807:=rfl; omega)) ?_;refine ao ?_ ?_<;>intro r
  ·have r:dr H.name.data.toList=false:=by simpa using r
   exact ⟨by rw [r]; rfl,e4⟩
  have r:dr H.name.data.toList=true:=by simpa using r
  rw [r,Zy];have hh:=qB (L:=[]) (h0:=h) (y:={ fN H.kind with name:=H.name }) b1 d (v.lin.ai e4) (ik.none g) e4;exact hh
 have u:H.kind≠1:=by simpa using q
 refine ao ?_ ?_<;>intro q
 ·have q:H.kind=2:=by simpa using q
  rw [Pb q];refine az b1 (H.inst.op,H.inst.a,H.inst.b,H.inst.n,H.inst.form,()) (ak ?_);refine az b1 ((I,l,c),(H.e.num:Int),()) (ak ?_);refine ct i rfl (by simp [encI]) ?_;intro g d f z4;have e4:=e3.st f ad;have b1:=b1.ai f (by simp; omega);refine ⟨⟨b1.cells [.slice I l c,.int .u32 H.e.num] rfl,trivial⟩,?_⟩;refine ct d rfl (by simp [encI,gK]) ?_;intro z b5 o J;have b5:bF z j.size 64 (encI I l c { fN H.kind with inst:=H.inst,e:=H.e }):=b5;have e5:=e4.st o ad;have b1:=b1.ai o (by simp; omega);refine az b1 (H.kind,H.name,H.inst.op,H.inst.a,H.inst.b,H.inst.n,H.inst.form,(I,l,c),(H.e.num:Int),H.n,()) (ak ?_);refine aJ (instruction_hc (c:=c) (t.ai e5 aj) (v.lin.ai e5) v.op) ?_;rintro _ K ⟨rfl,k⟩;refine ⟨(Az H.inst H.e,()),rfl,ak ?_⟩;have e6:=e5.trans k;refine ao ?_ ?_<;>intro r
  ·have r:Az H.inst H.e=false:=by simpa using r
   exact ⟨by rw [r]; rfl,e6⟩
  have r:Az H.inst H.e=true:=by simpa using r
  rw [r];have b1:=b1.ai k aj;have b5:=b5.ai k aj;have hh:=qB (L:=[]) (h0:=h) (y:={ fN H.kind with inst:=H.inst,e:=H.e }) b1 b5 (v.lin.ai e6) (v.lin.ai e6).vw e6;exact hh
 have A:H.kind≠2:=by simpa using q
 refine ao ?_ ?_<;>intro q
 ·have q:H.kind=3:=by simpa using q
  rw [NT q];refine az b1 (H.n,()) (ak ?_);refine ct i rfl (by simp [encI]) ?_;intro g d f z4;have d:bF g j.size 64 (encI none 0 0 { fN H.kind with n:=H.n }):=d;have e4:=e3.st f ad;have b1:=b1.ai f (by simp; omega);refine az b1 (H.n,()) (ak ?_);refine aM (Gl g H.n) ?_;refine ao ?_ ?_<;>intro r
  ·have r:we H.n=false:=by simpa using r
   exact ⟨by rw [r]; rfl,e4⟩
  have r:we H.n=true:=by simpa using r
  rw [r,Zy];have hh:=qB (L:=[]) (h0:=h) (y:={ fN H.kind with n:=H.n }) b1 d (v.lin.ai e4) (ik.none g) e4;exact hh
 have B:H.kind≠3:=by simpa using q
 refine ao ?_ ?_<;>intro q
 ·have q:H.kind=4:=by simpa using q
  rw [Pn q];have hh:=qB (L:=[]) (h0:=h) (y:=(fN H.kind)) b1 i (v.lin.ai e3) (ik.none m) e3;exact hh
 have C:H.kind≠4:=by simpa using q
 refine ao ?_ ?_<;>intro q
 ·have q:H.kind=5:=by simpa using q
  rw [Og q];refine az b1 (H.n,()) (ak ?_);refine ct i rfl (by simp [encI]) ?_;intro g d f z4;have d:bF g j.size 64 (encI none 0 0 { fN H.kind with n:=H.n }):=d;have e4:=e3.st f ad;have b1:=b1.ai f (by simp; omega);exact ⟨rfl,e4⟩
 have D:H.kind≠5:=by simpa using q
 refine ao ?_ ?_<;>intro q
 ·have q:H.kind=6:=by simpa using q
  rw [Mu q];refine az b1 ((I,l,c),(H.e.num:Int),()) (ak ?_);refine ct i rfl (by simp [encI]) ?_;intro g d f z4;have d:bF g j.size 64 (encI I l c { fN H.kind with e:=H.e }):=d;have e4:=e3.st f ad;have b1:=b1.ai f (by simp; omega);exact ⟨rfl,e4⟩
 have E:H.kind≠6:=by simpa using q
 refine ao ?_ ?_<;>intro q
 ·have q:H.kind=7:=by simpa using q
  rw [Pf q];refine az b1 (H.n,()) (ak ?_);refine ct i rfl (by simp [encI]) ?_;intro g d f z4;have d:bF g j.size 64 (encI none 0 0 { fN H.kind with n:=H.n }):=d;have e4:=e3.st f ad;have b1:=b1.ai f (by simp; omega);exact ⟨rfl,e4⟩
 have F:H.kind≠7:=by simpa using q
 exact ⟨by rw [Jm u A B C D E F]; rfl,e3⟩
def MH {h:Hp} (t:Cw h) {l c:Nat} (v:nu h I l H) :
  HC Xaz 78 #[rQ I l c H,vI 1] h fun w h'=>w=EM (cI H 1)/\Ext h h':=by
 refine bi (args:=[rQ I l c H,vI 1]) mixed Tryz.func78 aw (vL H.kind H.name H.inst.op H.inst.a H.inst.b H.inst.n H.inst.form I l c H.e.num H.n) ?_;unfold ri bd ei ax aS cm;refine bG ?_;intro i b1 e1 z1;have b1:bF i h.size 64 (encI I l c H):=b1;refine az b1 (H.kind,()) (ak ?_);refine bG ?_;intro J b2 e2 z2;refine bQ b2 ?_;intro s j u z3;have j:bF s i.size 64 (encI none 0 0 (fN H.kind)):=j;have s1:=e1.size;have e13:=e2.st u (Zc _);have e3:=e1.trans e13;have b1:=b1.ai e13 aj;simp only [aC];refine az b1 (H.kind,()) (ak ?_);refine ao ?_ ?_<;>intro q
 ·have q:H.kind=1:=by simpa using q
  rw [Ew q];refine az b1 (H.name,()) (ak ?_);refine ct j rfl (by simp [encI]) ?_;intro f b4 d z4;have b4:bF f i.size 64 (encI none 0 0 { fN H.kind with name:=H.name }):=b4;have e4:=e3.st d ad;have b1:=b1.ai d (by simp; omega);refine az b1 (H.name,()) (ak ?_);refine aM (wz H.name f (by have:=v.name; have:maxLen=9223372036854775807:=rfl; omega)) ?_;refine ao ?_ ?_<;>intro r
  ·have r:dr H.name.data.toList=false:=by simpa using r
   exact ⟨by rw [r]; rfl,e4⟩
  have r:dr H.name.data.toList=true:=by simpa using r
  rw [r,Zy];have hh:=qB (L:=[]) (h0:=h) (y:={ fN H.kind with name:=H.name }) b1 b4 (v.lin.ai e4) (ik.none f) e4;exact hh
 have z:H.kind≠1:=by simpa using q
 refine ao ?_ ?_<;>intro q
 ·have q:H.kind=2:=by simpa using q
  rw [Pb q];refine az b1 (H.inst.op,H.inst.a,H.inst.b,H.inst.n,H.inst.form,()) (ak ?_);refine az b1 ((I,l,c),(H.e.num:Int),()) (ak ?_);refine ct j rfl (by simp [encI]) ?_;intro f b4 d z4;have e4:=e3.st d ad;have b1:=b1.ai d (by simp; omega);refine ⟨⟨b1.cells [.slice I l c,.int .u32 H.e.num] rfl,trivial⟩,?_⟩;refine ct b4 rfl (by simp [encI,gK]) ?_;intro A m o K;have m:bF A i.size 64 (encI I l c { fN H.kind with inst:=H.inst,e:=H.e }):=m;have e5:=e4.st o ad;have b1:=b1.ai o (by simp; omega);exact ⟨rfl,e5⟩
 have B:H.kind≠2:=by simpa using q
 refine ao ?_ ?_<;>intro q
 ·have q:H.kind=3:=by simpa using q
  rw [NT q];refine az b1 (H.n,()) (ak ?_);refine ct j rfl (by simp [encI]) ?_;intro f b4 d z4;have b4:bF f i.size 64 (encI none 0 0 { fN H.kind with n:=H.n }):=b4;have e4:=e3.st d ad;have b1:=b1.ai d (by simp; omega);refine az b1 (H.n,()) (ak ?_);refine aM (Gl f H.n) ?_;refine ao ?_ ?_<;>intro r
  ·have r:we H.n=false:=by simpa using r
   exact ⟨by rw [r]; rfl,e4⟩
  have r:we H.n=true:=by simpa using r
  rw [r,Zy];have hh:=qB (L:=[]) (h0:=h) (y:={ fN H.kind with n:=H.n }) b1 b4 (v.lin.ai e4) (ik.none f) e4;exact hh
 have C:H.kind≠3:=by simpa using q
 refine ao ?_ ?_<;>intro q
 ·have q:H.kind=4:=by simpa using q
  rw [Pn q];exact ⟨rfl,e3⟩
 have D:H.kind≠4:=by simpa using q
 refine ao ?_ ?_<;>intro q
 ·have q:H.kind=5:=by simpa using q
  rw [Og q];refine az b1 (H.n,()) (ak ?_);refine ct j rfl (by simp [encI]) ?_;intro f b4 d z4;have b4:bF f i.size 64 (encI none 0 0 { fN H.kind with n:=H.n }):=b4;have e4:=e3.st d ad;have b1:=b1.ai d (by simp; omega);refine az b1 (H.n,()) (ak ?_);refine aP ?_ ?_<;>intro r
  ·refine az b1 (H.n,()) (ak ?_);refine ao ?_ ?_<;>intro g
   ·have g:¬ H.n<=255:=by simpa using g
    exact ⟨by rw [Y6 g,cn9]; rfl,e4⟩
   have g:H.n<=255:=by simpa using g
   rw [Y4 g,Y4 (show -128<=H.n from r)];have hh:=qB (L:=[]) (h0:=h) (y:={ fN H.kind with n:=H.n }) b1 b4 (v.lin.ai e4) (ik.none f) e4;exact hh
  ·exact ⟨by rw [Y6 (show ¬ -128<=H.n from r),cn9]; rfl,e4⟩
 have E:H.kind≠5:=by simpa using q
 refine ao ?_ ?_<;>intro q
 ·have q:H.kind=6:=by simpa using q
  rw [Mu q];refine az b1 ((I,l,c),(H.e.num:Int),()) (ak ?_);refine ct j rfl (by simp [encI]) ?_;intro f b4 d z4;have b4:bF f i.size 64 (encI I l c { fN H.kind with e:=H.e }):=b4;have e4:=e3.st d ad;have b1:=b1.ai d (by simp; omega);refine az b1 ((I,l,c),(H.e.num:Int),()) (ak ?_);refine aJ (vK (c:=c) (v.lin.ai e4).vw (by have:=v.lin.many; omega) v.lin.names) ?_;rintro _ M ⟨rfl,k⟩;refine ⟨(oR none H.e.ah,()),rfl,ak ?_⟩;have e6:=e4.trans k;refine ao ?_ ?_<;>intro r
  ·have r:oR none H.e.ah=false:=by simpa using r
   exact ⟨by rw [r]; rfl,e6⟩
  have r:oR none H.e.ah=true:=by simpa using r
  rw [r];have b1:=b1.ai k aj;have b4:=b4.ai k aj;have hh:=qB (L:=[]) (h0:=h) (y:={ fN H.kind with e:=H.e }) b1 b4 (v.lin.ai e6) (v.lin.ai e6).vw e6;exact hh
 have F:H.kind≠6:=by simpa using q
 refine ao ?_ ?_<;>intro q
 ·have q:H.kind=7:=by simpa using q
  rw [Pf q];refine az b1 (H.n,()) (ak ?_);refine ct j rfl (by simp [encI]) ?_;intro f b4 d z4;have b4:bF f i.size 64 (encI none 0 0 { fN H.kind with n:=H.n }):=b4;have e4:=e3.st d ad;have b1:=b1.ai d (by simp; omega);refine az b1 (H.n,()) (ak ?_);refine aP ?_ ?_<;>intro r
  ·refine az b1 (H.n,()) (ak ?_);refine ao ?_ ?_<;>intro g
   ·have g:¬ H.n<=1048576:=by simpa using g
    exact ⟨by rw [Y6 g,cn9]; rfl,e4⟩
   have g:H.n<=1048576:=by simpa using g
   rw [Y4 g,Y4 (show 0<=H.n from r)];have hh:=qB (L:=[]) (h0:=h) (y:={ fN H.kind with n:=H.n }) b1 b4 (v.lin.ai e4) (ik.none f) e4;exact hh
  ·exact ⟨by rw [Y6 (show ¬ 0<=H.n from r),cn9]; rfl,e4⟩
 have G:H.kind≠7:=by simpa using q
 exact ⟨by rw [Jm z B C D E F G]; rfl,e3⟩
section
variable {α:Type}
def vE (a:α->Xab) (D:List (Xaa × α)):List (Xaa × Xab):=D.map fun p=>(p.1,a p.2)
def gE (D:List (Xaa × α)) (s:Xaa):Option α:=(D.find? fun p=>decide (s=p.1)).map (·.2)
def pE (D:List (Xaa × α)) (s:Xaa) (v:α):List (Xaa × α):=if (gE D s).isSome then D.map fun p=>if s=p.1 then (p.1,v) else p else D++[(s,v)]
def n' (en:α->Xab) (D:List (Xaa × α)) (s:Xaa):look (vE en D) s=(gE D s).map en:=by
 unfold look gE vE
 induction D with
 | nil=>rfl
 | cons p D a =>
  by_cases h:s=p.1
  ·simp [h]
  ·simp only [List.map_cons,List.find?_cons,decide_eq_false h];exact a
def Im (a:α->Xab) (D:List (Xaa × α)) (s:Xaa) (v:α):kR (vE a D) s (a v)=vE a (pE D s v):=by
 unfold kR pE;rw [n'];cases h:gE D s with
 | none=>simp [vE]
 | some q =>
  simp only [Option.map_some,Option.isSome_some,if_true,vE,List.map_map];refine ZR fun p b=>?_
  simp only [Function.comp];split <;> simp_all
def yo (D:List (Xaa × α)) (s:Xaa) (v:α):(pE D s v).length=if (gE D s).isSome then D.length else D.length+1:=by
 unfold pE;split <;> simp
def yr (D:List (Xaa × α)) (s t:Xaa) (v:α):gE (D++[(s,v)]) t=(gE D t).or (if t=s then some v else none):=by
 unfold gE;rw [List.find?_append];cases h:D.find? (fun p=>decide (t=p.1)) with
 | some q=>simp
 | none =>
  simp only [Option.none_or,Option.map_none,List.find?_cons,List.find?_nil]
  by_cases e:t=s
  ·simp [e]
  ·simp [e]
def HP (D:List (Xaa × α)) (s t:Xaa) (v:α) (f:(gE D s).isSome):gE (D.map fun p=>if s=p.1 then (p.1,v) else p) t=if t=s then some v else gE D t:=by
 unfold gE at *
 induction D with
 | nil=>simp at f
 | cons p D g =>
  by_cases h:s=p.1
  ·by_cases e:t=s
   ·simp [h,e]
   ·have e2:¬ t=p.1:=fun k=>e (k.trans h.symm)
    have i:∀ l:List (Xaa × α),(List.find? (fun p=>decide (t=p.1)) (List.map (fun p=>if s=p.1 then (p.1,v) else p) l)).map (·.2)=(List.find? (fun p=>decide (t=p.1)) l).map (·.2):=by
     intro l
     induction l with
     | nil=>rfl
     | cons q l b =>
      by_cases c:s=q.1
      ·have:¬ t=q.1:=fun k=>e (k.trans c.symm)
       simp only [List.map_cons,List.find?_cons,if_pos c,decide_eq_false this];exact b
      ·simp only [List.map_cons,List.find?_cons,if_neg c]
       by_cases a:t=q.1
       ·simp [a]
       ·simp only [decide_eq_false a];exact b
    simp only [List.map_cons,List.find?_cons,if_pos h,decide_eq_false e2,if_neg e];exact i D
  ·have d:(Option.map (fun x=>x.2) (List.find? (fun p=>decide (s=p.1)) D)).isSome:=by
    simpa [List.find?_cons,decide_eq_false h] using f
   simp only [List.map_cons,List.find?_cons,if_neg h]
   by_cases a:t=p.1
   ·have:¬ t=s:=fun k=>h (k.symm.trans a)
    simp [a,if_neg (a▸this)]
   ·simp only [decide_eq_false a];exact g d
def Py (D:List (Xaa × α)) (s:Xaa) (v:α) (t:Xaa):gE (pE D s v) t=if t=s then some v else gE D t:=by
 unfold pE;split
 ·rename_i h;exact HP D s t v h
 ·rename_i h;rw [yr]
  by_cases e:t=s
  ·subst e
   have:gE D t=none:=by simpa using h
   rw [this]; simp
  ·simp [e]
def dW (f:Xaa->Option α) (s:Xaa) (v:α):Xaa->Option α:=fun t=>if t=s then some v else f t
def ez (a:α->Xab) (h:Hp) (g:Nat) (f:Xaa->Option α) (n:Nat):Prop:=∃ D:List (Xaa × α),fm h g (vE a D)/\(∀ s,gE D s=f s)/\D.length=n
def ez.ai {a:α->Xab} {ws:List Nat} {h h':Hp} {g:Nat} {f:Xaa->Option α} {n:Nat} (m:ez a h g f n) (k:Ch ws h h') (b:g∉ws):ez a h' g f n:=by
 obtain ⟨D,m,r⟩:=m;exact ⟨D,m.ai k b,r⟩
def ez.lt {a:α->Xab} {h:Hp} {g:Nat} {f:Xaa->Option α} {n:Nat} (m:ez a h g f n):g<h.size:=by
 obtain ⟨D,m,r⟩:=m;exact m.lt
def ez.new {a:α->Xab} {h:Hp} {g:Nat} (m:fm h g []):ez a h g (fun _=>none) 0:=⟨[],m,fun s=>rfl,rfl⟩
def ez.kR {en:α->Xab} {h':Hp} {g:Nat} {f:Xaa->Option α} {n:Nat} {D:List (Xaa × α)} (a:∀ s,gE D s=f s) (hn:D.length=n) {s:Xaa} {v:α} (m:fm h' g (Sx.kR (vE en D) s (en v))):ez en h' g (dW f s v) (if (f s).isSome then n else n+1):=by
 rw [Im] at m;refine ⟨_,m,fun t=>?_,?_⟩
 ·rw [Py,a t]; rfl
 ·rw [yo,a s,hn]
end
def eB (b:Bool):Xab:=.bool b
def T6:Tryz.prog.underlying 142=some (.map 9 4):=aw
def yB:Tryz.prog.underlying 9=some .string:=aw
def OR:(Tryz.prog.info? 4).bind (·.zero)=some (.bool false):=aw
def Cn (h:Hp) (g:Nat) (D:List Xaa):Prop:=∃ n,ez eB h g (fun s=>if gz D s then some true else none) n
def Cn.ai {ws:List Nat} {h h':Hp} {g:Nat} {D:List Xaa} (m:Cn h g D) (k:Ch ws h h') (a:g∉ws):Cn h' g D:=by
 obtain ⟨n,m⟩:=m;exact ⟨n,m.ai k a⟩
def Cn.lt {h:Hp} {g:Nat} {D:List Xaa} (m:Cn h g D):g<h.size:=by
 obtain ⟨n,m⟩:=m;exact m.lt
section
variable {L:Lp} {K:Xab->Hp->Prop} {h:Hp} {g:Nat} {D:List Xaa}
def Pj (m:Cn h g D) (s:Xaa) {k:Bool->T} (hk:k (gz D s) L K h):T.eN Xaz (Instr.lookup 142 (.map (some g)) (.string s) false) false [(false,[.bool])] k L K h:=by
 obtain ⟨n,b,m,a,hn⟩:=m;refine kb T6 yB OR m s false _ ?_;refine ⟨(gz D s,()),?_,hk⟩;simp only [Bool.false_eq_true,if_false];rw [n',a s];dsimp only
 all_goals (cases gz D s <;> rfl)
def dC (m:Cn h g D) {s:Xaa} (a:s.size<=maxLen) {k:T} (hk:∀ h',Cn h' g (s::D)->Ch [g] h h'->h'.size=h.size->k L K h') :
  T.eV Xaz (Instr.mapUpdate 142 (.map (some g)) (.string s) (.bool true)) k L K h:=by
 obtain ⟨n,i,m,b,hn⟩:=m;refine gY T6 yB m a _ _ ?_;intro h' c c' d
 have:=ez.kR (en:=eB) b hn (v:=true) c
 have f:dW (fun t=>if gz D t then some true else none) s true=fun t=>if gz (s::D) t then some true else none:=by
  funext t
  unfold dW gz
  by_cases h1:t=s
  ·rw [Y8 h1,Y8];simp [h1]
  ·rw [Y1 h1]
   have:¬ s=t:=fun e=>h1 e.symm
   rw [List.any_cons,Y6 this,bu9]
 rw [f] at this;exact hk h' ⟨_,this⟩ c' d
def Xc {t:TypeId} {k:Option Nat->T} (hk:∀ h',Cn h' h.size []->Ext h h'->h'.size=h.size+1->k (some h.size) L K h'):T.eN Xaz (Instr.makeMap t none) false [(false,[.map 0 0])] k L K h:=by
 refine nH _ ?_;intro h' m e z;exact ⟨(some h.size,()),rfl,hk h' ⟨0,ez.new m⟩ e z⟩
end
structure zV (h:Hp) (p:Xac) (l:Nat) (us:List cH):Prop where
 len:l=us.length
 many:us.length<=2^60
 cells:∀ i,(hi:i<us.length)->∃ a q m c,p=some a/\aI h (a.add (i*10)) 0 (encI q m c us[i])/\nu h q m us[i]
def zV.ai {h h':Hp} {p:Xac} {l:Nat} {us:List cH} (v:zV h p l us) (k:Ext h h'):zV h' p l us :=
 ⟨v.len,v.many,fun i hi=>by
  obtain ⟨a,q,m,c,b,hc,hv⟩:=v.cells i hi;exact ⟨a,q,m,c,b,aX k aj _ _ hc,hv.ai k⟩⟩
def zX (p:Xac) (l c:Nat) (x:oh):List Xab:=[.string x.1,.slice p l c,.int .u32 x.2.num]
structure rW (h:Hp) (p:Xac) (l:Nat) (us:List oh):Prop where
 len:l=us.length
 many:us.length<=2^60
 cells:∀ i,(hi:i<us.length)->∃ a q m c,p=some a/\aI h (a.add (i*3)) 0 (zX q m c us[i])/\pV h q m us[i].2/\us[i].1.size<=maxLen
def rW.ai {h h':Hp} {p:Xac} {l:Nat} {us:List oh} (v:rW h p l us) (k:Ext h h'):rW h' p l us :=
 ⟨v.len,v.many,fun i hi=>by
  obtain ⟨a,q,m,c,b,hc,hv,d⟩:=v.cells i hi;exact ⟨a,q,m,c,b,aX k aj _ _ hc,hv.ai k,d⟩⟩
structure Mg (h:Hp) (p:Xac) (l:Nat) (us:List Xaa):Prop where
 len:l=us.length
 many:us.length<=2^60
 cells:∀ i,(hi:i<us.length)->∃ a,p=some a/\aI h (a.add (i*1)) 0 [.string us[i]]/\us[i].size<=maxLen
def Mg.ai {h h':Hp} {l:Nat} {us:List Xaa} (v:Mg h I l us) (k:Ext h h'):Mg h' I l us :=
 ⟨v.len,v.many,fun i hi=>by
  obtain ⟨a,b,hc,c⟩:=v.cells i hi;exact ⟨a,b,aX k aj _ _ hc,c⟩⟩
structure cd where
 p:Xac
 l:Nat
 c:Nat
def cd.v (s:cd):Xab:=.slice s.p s.l s.c
structure jU (h:Hp) (a b c d:cd) (u:bU):Prop where
 text:zV h a.p a.l u.text
 data:zV h b.p b.l u.data
 bf:rW h c.p c.l u.bf
 aQ:Mg h d.p d.l u.aQ
def jU.ai {h h':Hp} {a b c d:cd} {u:bU} (v:jU h a b c d u) (k:Ext h h'):jU h' a b c d u:=⟨v.text.ai k,v.data.ai k,v.bf.ai k,v.aQ.ai k⟩
def qp (a b c d:cd):Xab:=.agg #[a.v,b.v,c.v,d.v]
def KH:Tryz.prog.underlying 68=some (.slice 26):=aw
def Xu:(Tryz.prog.info? 26).map (fun i=>(i.zero,i.size,i.bytes))=some (some (.slice none 0 0),1,24):=aw
def Kx (a:Xac) (b c1:Nat) (c:Xac) (d e:Nat):Instr.fill (fun j=>some (j*1,1)) ((Array.range (2*1)).map ((Value.slice none 0 0).cells[· % (Value.slice none 0 0).cells.size]!)) [(0,.slice a b c1),(1,.slice c d e)]=some ([.slice a b c1,.slice c d e]:List Xab).toArray:=aw
def Aa (u:bU) (k:Nat):List cH:=if k=0 then u.text else u.data
def wc (u:bU) (k:Nat):List Xaa:=if k=0 then [] else if k=1 then de [] u.text else de (de [] u.text) u.data
def Bk (u:bU) (k:Nat):Bool:=if k=0 then xE u else if k=1 then (fq 1 (de [] u.text) u.data && (ig (de (de [] u.text) u.data) u.bf && dq u.names dV u.aQ)) else (ig (de (de [] u.text) u.data) u.bf && dq u.names dV u.aQ)
def KP (u:bU) {k:Nat} (hk:k<2):Bk u k=(fq k (wc u k) (Aa u k) && Bk u (k+1)):=by
 have:k=0\/k=1:=ad
 rcases this with rfl | rfl
 ·simp [Bk,wc,Aa,xE,Bool.and_assoc]
 ·simp [Bk,wc,Aa]
def LF (u:bU) {k:Nat} (hk:k<2):wc u (k+1)=de (wc u k) (Aa u k):=by
 have:k=0\/k=1:=ad
 rcases this with rfl | rfl <;> rfl
def GW (D:List Xaa) (l:List cH) {i:Nat} (hi:i<l.length):de D (l.take (i+1))=vB (de D (l.take i)) l[i]:=by
 unfold de;rw [Y2 hi,ZW] <;> rfl
def Gt (D:List Xaa) (l:List oh) {i:Nat} (hi:i<l.length):bh D (l.take (i+1))=l[i].1::bh D (l.take i):=by
 unfold bh;rw [Y2 hi,ZW] <;> rfl
def Ej (sec:Nat) (D:List Xaa) (l:List cH) {i:Nat} (hi:i<l.length):fq sec D (l.drop i)=(zf sec D l[i] && fq sec (vB D l[i]) (l.drop (i+1))):=by
 rw [Zj hi,fq]
def GD (D:List Xaa) (l:List oh) {i:Nat} (hi:i<l.length):ig D (l.drop i)=(DA D l[i] && ig (l[i].1::D) (l.drop (i+1))):=by
 rw [Zj hi,ig]
def pt (l:List Xaa) (i:Nat):Xaa:=if i=0 then dV else l.getD (i-1) dV
def xf (D l:List Xaa) {i:Nat} (hi:i<l.length):dq D (pt l i) (l.drop i)=(Ss D (pt l i) l[i] && dq D (pt l (i+1)) (l.drop (i+1))):=by
 rw [Zj hi,dq]
 congr 2
 unfold pt;rw [Y1 ad,Nat.add_sub_cancel,ZS,YZ hi] <;> rfl
def Ha (h:Hp) (g:Nat) (D:List Xaa):Prop:=Cn h g D/\∀ s,s∈D->dr s.data.toList=true
def Ha.ai {ws:List Nat} {h h':Hp} {g:Nat} {D:List Xaa} (m:Ha h g D) (k:Ch ws h h') (a:g∉ws):Ha h' g D:=⟨m.1.ai k a,m.2⟩
def FH {s:Xaa} (h:dr s.data.toList=true):iP dV s:=by
 unfold dr at h;simp only [Bool.and_eq_true,decide_eq_true_eq] at h;have h2:=h.1.1.1.1;show (dV.data.toList:List UInt8)<s.data.toList
 have:(dV.data.toList:List UInt8)=[]:=rfl
 rw [this];cases b:s.data.toList with
 | nil=>rw [b] at h2; simp at h2
 | cons a l=>exact List.Lex.nil
def xc {D:List Xaa} {s:Xaa} (h:gz D s=true):s∈D:=by
 unfold gz at h;simp only [List.any_eq_true,decide_eq_true_eq] at h;obtain ⟨y,a,rfl⟩:=h;exact a
def Rm {h:Hp} (t:Cw h) {l c k:Nat} (v:nu h I l H) (hk:k<2) :
  HC Xaz 78 #[rQ I l c H,vI (k:Int)] h fun w h'=>w=EM (cI H k)/\Ext h h':=by
 have:k=0\/k=1:=ad
 rcases this with rfl | rfl
 ·exact PG t v
 ·exact MH t v
def xp {h:Hp} (t:Cw h) {a b c d:cd} {u:bU} (v:jU h a b c d u):HC Xaz 42 #[qp a b c d] h fun w h'=>w=vI (fA u:Nat)/\Ext h h':=by
 refine bi (args:=[qp a b c d]) mixed Tryz.func42 aw (zY a.p a.l a.c b.p b.l b.c c.p c.l c.c d.p d.l d.c) ?_;unfold xJ aY bj bn ay bd dl ei aT bX bC ax aS cm aK;refine bG ?_;intro Q b1 e1 z1;have b1:bF Q h.size 30 [a.v,b.v,c.v,d.v]:=b1;have m1:=v.text.many;have m2:=v.data.many;have m3:=v.bf.many;have m4:=v.aQ.many;have n1:=v.text.len;have n2:=v.data.len;have n3:=v.bf.len;have n4:=v.aQ.len;have s1:=e1.size;simp only [aC];refine az b1 ((a.p,a.l,a.c),()) (ak ?_);refine az b1 ((b.p,b.l,b.c),()) (ak ?_);rw [wrap_i64 ad ad];unfold fA w7;refine ao ?_ ?_<;>intro q
 ·have q:=Y3 q;exact ⟨by rw [Y4 (show 8192<u.text.length+u.data.length from ad)]; rfl,e1⟩
 have q:=Zf q;rw [Y6 (show ¬ 8192<u.text.length+u.data.length from ad),bu9];refine az b1 ((c.p,c.l,c.c),()) (ak ?_);refine ao ?_ ?_<;>intro q
 ·have q:=Y3 q;exact ⟨by rw [Y4 (show 8192<u.bf.length from ad)]; rfl,e1⟩
 have q:=Zf q;rw [Y6 (show ¬ 8192<u.bf.length from ad),Y1 aj];refine Xc ?_;intro g2 m e2 z2;have b2:=b1.ai e2 aj;refine az b2 ((a.p,a.l,a.c),()) (ak ?_);refine az b2 ((b.p,b.l,b.c),()) (ak ?_);refine mF KH Xu ad ad (Kx a.p a.l a.c b.p b.l b.c) ?_;intro g3 b3 Z z3;have m:=m.ai Z (by have:=m.lt; simp);have e03:=(e1.trans e2).trans Z;have b3':=b2.ai Z aj;have s2:=e2.size;clear b1 b2;have S:∀ k,k<2->∃ s:cd,([a.v,b.v]:List Xab).drop k=s.v::([a.v,b.v]:List Xab).drop (k+1)/\zV h s.p s.l (Aa u k):=by
  intro k hk
  have:k=0\/k=1:=ad
  rcases this with rfl | rfl
  ·exact ⟨a,rfl,v.text⟩
  ·exact ⟨b,rfl,v.data⟩
 have s3:=Z.size;have b3:bF g3 g2.size 26 [a.v,b.v]:=b3;generalize hU:xE u=U;refine aU (cs:=gk) (fun y w h'=>∃ k:Nat,y.2.1=(k:Int)/\k<=2/\w=2-k/\Ext h h'/\bF h' h.size 30 [a.v,b.v,c.v,d.v]/\bF h' g2.size 26 [a.v,b.v]/\Ha h' Q.size (wc u k)/\U=Bk u k) ((0:Int),(0:Int),()) 2 rfl
  ⟨0,rfl,ad,ad,e03,b3',b3,⟨m,by simp [wc]⟩,hU.symm⟩ ?_
 rintro ⟨V,n22,⟨⟩⟩ w h4 ⟨k,hk,hk2,rfl,e4,b1,b2,m,f⟩;simp only at hk;subst hk;refine ak ?_;refine aP ?_ ?_<;>intro q
 ·have hk:k<2:=ad
  obtain ⟨sl,hsl,vs⟩:=S k hk;refine bP rfl ?_;rw [aC];refine bm b2 ((sl.p,sl.l,sl.c),()) (by rw [show 0+(k:Int).toNat*1=k from ad,hsl]; rfl) ?_;refine ak ?_;have lk:=vs.len;have mk:=vs.many;generalize hl:Aa u k=l at vs lk mk;have j:U=(fq k (de (wc u k) (l.take 0)) (l.drop 0) && Bk u (k+1)):=by
   rw [f,KP u hk,hl] <;> rfl
  refine aU (cs:=gk) (fun y w h'=>∃ i:Nat,y.2.1=(i:Int)/\i<=l.length/\w=l.length-i/\Ext h h'/\bF h' h.size 30 [a.v,b.v,c.v,d.v]/\bF h' g2.size 26 [a.v,b.v]/\Ha h' Q.size (de (wc u k) (l.take i))/\U=(fq k (de (wc u k) (l.take i)) (l.drop i) && Bk u (k+1))) (V,(0:Int),()) l.length rfl
   ⟨0,rfl,ad,ad,e4,b1,b2,m,j⟩ ?_
  clear f j m b1 b2 e4;rintro ⟨z,n28,⟨⟩⟩ w W ⟨i,hi,K,rfl,B,b1,b2,m,f⟩;simp only at hi;subst hi;refine ak ?_;refine aP ?_ ?_<;>intro q2
  ·have g:i<l.length:=ad
   obtain ⟨aa,pp,L,H,rfl',hc,I⟩:=(vs.ai B).cells i g;rw [Ej k _ l g] at f;have hnt:=GW (wc u k) l g;generalize l[i]=x at hc I f hnt;refine dO (aH rfl' ?_);rw [cB i];refine av (x.kind,x.name,x.inst.op,x.inst.a,x.inst.b,x.inst.n,x.inst.form,(pp,L,H),(x.e.num:Int),x.n,()) hc (ak ?_);refine bG ?_;intro h6 b6 C z6;refine bQ b6 ?_;intro h7 F k7 z7;have F:bF h7 W.size 64 (encI pp L H x):=F;have o:Ext W h7:=C.st k7 (Zc _);have e7:=B.trans o;simp only [aC];refine az F (x.kind,x.name,x.inst.op,x.inst.a,x.inst.b,x.inst.n,x.inst.form,(pp,L,H),(x.e.num:Int),x.n,()) (ak ?_);refine aJ (Rm (c:=H) (t.ai e7 aj) (I.ai o) hk) ?_;rintro _ h8 ⟨rfl,M⟩;refine ⟨((if cI x k then 0 else 31:Int),()),rfl,ak ?_⟩;have e58:=o.trans M;have e08:=B.trans e58;have b1:=b1.ai e58 aj;have b2:=b2.ai e58 aj;have m:=m.ai e58 aj;have b8:=F.ai M aj;refine ao ?_ ?_<;>intro r
   ·have r:cI x k=false:=by
     cases hr:cI x k with
     | false=>rfl
     | true=>rw [hr] at r; simp at r
    exact ⟨by rw [f,zf,r]; rfl,e08⟩
   have r:cI x k=true:=by
    cases hr:cI x k with
    | true=>rfl
    | false=>rw [hr] at r; simp at r
   have hno:∀ D,zf k D x=!(decide (x.kind=1) && gz D x.name):=fun D=>by rw [zf,r]; rfl
   rw [hno] at f;refine az b8 (x.kind,()) (ak ?_);refine ao ?_ ?_<;>intro A
   ·have A:x.kind=1:=by simpa using A
    rw [Y4 A,Zy] at f;have J:dr x.name.data.toList=true:=by
     rw [Ew A,Zz] at r;exact r.1
    refine az b8 (x.name,()) (ak ?_);refine Pj m.1 x.name ?_;refine ao ?_ ?_<;>intro X
    ·exact ⟨by rw [f,X]; rfl,e08⟩
    rw [X] at f;refine az b8 (x.kind,()) (ak ?_);refine cL (by simpa using A) ?_;refine az b8 (x.name,()) (ak ?_);refine dC m.1 I.name ?_;intro h9 m9 R z9;have N:Ext h h9:=e08.st R ad;have s5:=B.size;have G:vB (de (wc u k) (l.take i)) x=x.name::de (wc u k) (l.take i):=by unfold vB; rw [Y8 A]
    refine aG (cs:=gk) (z,((i+1:Nat):Int),()) (l.length-(i+1)) rfl ad (by rw [wrap_i64 ad ad]; rfl) ?_;refine ⟨i+1,rfl,ad,rfl,N,b1.ai R (by simp; omega),b2.ai R (by simp; omega),by rw [hnt,G]; exact ⟨m9,fun s hs=>(Zo.1 hs).elim (fun e=>by rw [e]; exact J) (m.2 s)⟩,by rw [f,hnt]; rfl⟩
   ·have A:¬ x.kind=1:=by simpa using A
    rw [Y6 A] at f;refine az b8 (x.kind,()) (ak ?_);refine cC (by simpa using A) ?_;have G:vB (de (wc u k) (l.take i)) x=de (wc u k) (l.take i):=by unfold vB; rw [Y1 A]
    refine aG (cs:=gk) (z,((i+1:Nat):Int),()) (l.length-(i+1)) rfl ad (by rw [wrap_i64 ad ad]; rfl) ?_;refine ⟨i+1,rfl,ad,rfl,e08,b1,b2,by rw [hnt,G]; exact m,by rw [f,hnt]; rfl⟩
  ·have g:i=l.length:=ad
   subst g;rw [ZA] at m f;rw [ai9,fq,Zy] at f;refine aG (cs:=gk) (z,((k+1:Nat):Int),()) (2-(k+1)) rfl ad (by rw [wrap_i64 ad ad]; rfl) ?_;refine ⟨k+1,rfl,ad,rfl,B,b1,b2,by rw [LF u hk,hl]; exact m,f⟩
 ·have hk:k=2:=ad
  subst hk;have f:U=(ig (de (de [] u.text) u.data) u.bf && dq u.names dV u.aQ):=f;have m:Ha h4 Q.size (de (de [] u.text) u.data):=m;generalize hD:de (de [] u.text) u.data=D at f m;have hN:u.names=bh D u.bf:=by rw [<- hD]; rfl
  rw [hN] at f;refine az b1 ((c.p,c.l,c.c),()) (ak ?_);have j:U=(ig (bh D (u.bf.take 0)) (u.bf.drop 0) && dq (bh D u.bf) dV u.aQ):=f;refine aU (cs:=gk) (fun y w h'=>∃ i:Nat,y.2.1=(i:Int)/\i<=u.bf.length/\w=u.bf.length-i/\Ext h h'/\bF h' h.size 30 [a.v,b.v,c.v,d.v]/\Ha h' Q.size (bh D (u.bf.take i))/\U=(ig (bh D (u.bf.take i)) (u.bf.drop i) && dq (bh D u.bf) dV u.aQ)) (V,(0:Int),()) u.bf.length rfl
   ⟨0,rfl,ad,ad,e4,b1,m,j⟩ ?_
  clear f j m b1 b2 e4;rintro ⟨z,n28,⟨⟩⟩ w W ⟨i,hi,K,rfl,B,b1,m,f⟩;simp only at hi;subst hi;refine ak ?_;have s5:=B.size;refine ao ?_ ?_<;>intro q2
  ·have q2:=Y3 q2;have g:i<u.bf.length:=ad
   obtain ⟨aa,pp,L,H,rfl',hc,I,vn⟩:=(v.bf.ai B).cells i g;rw [GD _ _ g] at f;have hnt:=Gt D u.bf g;generalize u.bf[i]=x at hc I vn f hnt;refine dO (aH rfl' ?_);rw [cB i];refine av (x.1,(pp,L,H),(x.2.num:Int),()) hc (ak ?_);refine bG ?_;intro h6 b6 C z6;refine bQ b6 ?_;intro h7 F k7 z7;have F:bF h7 W.size 88 (zX pp L H x):=F;have o:Ext W h7:=C.st k7 (Zc _);have e7:=B.trans o;simp only [aC];have b1:=b1.ai o aj;have m:=m.ai o aj;unfold DA at f;refine az F (x.1,()) (ak ?_);refine Pj m.1 x.1 ?_;refine ao ?_ ?_<;>intro r
   ·exact ⟨by rw [f,r]; rfl,e7⟩
   rw [r] at f;refine az F (x.1,()) (ak ?_);refine aM (wz x.1 h7 (by have:maxLen=9223372036854775807:=rfl; omega)) ?_;refine ao ?_ ?_<;>intro r
   ·have r:dr x.1.data.toList=false:=by simpa using r
    exact ⟨by rw [f,r]; rfl,e7⟩
   have J:dr x.1.data.toList=true:=by simpa using r
   rw [J] at f;refine az F ((pp,L,H),(x.2.num:Int),()) (ak ?_);refine aJ (vK (c:=H) (I.ai o).vw (by have:=I.many; omega) I.names) ?_;rintro _ h8 ⟨rfl,M⟩;refine ⟨(oR none x.2.ah,()),rfl,ak ?_⟩;have e08:=e7.trans M;have b1:=b1.ai M aj;have m:=m.ai M aj;have b8:=F.ai M aj;refine ao ?_ ?_<;>intro r
   ·have r:oR none x.2.ah=false:=by simpa using r
    exact ⟨by rw [f,r]; rfl,e08⟩
   have r:oR none x.2.ah=true:=by simpa using r
   rw [r] at f;refine az b8 (x.1,()) (ak ?_);refine dC m.1 vn ?_;intro h9 m9 R z9;have N:Ext h h9:=e08.st R ad;refine aG (cs:=gk) (z,((i+1:Nat):Int),()) (u.bf.length-(i+1)) rfl ad (by rw [wrap_i64 ad ad]; rfl) ?_;refine ⟨i+1,rfl,ad,rfl,N,b1.ai R (by simp; omega),by rw [hnt]; exact ⟨m9,fun s hs=>(Zo.1 hs).elim (fun e=>by rw [e]; exact J) (m.2 s)⟩,by rw [f,hnt]; rfl⟩
  have q2:=Zf q2;have g:i=u.bf.length:=ad
  subst g;rw [ZA] at m f;rw [ai9,ig,Zy] at f;generalize hE:bh D u.bf=E at m f;refine az b1 ((d.p,d.l,d.c),()) (ak ?_);have j:U=dq E (pt u.aQ 0) (u.aQ.drop 0):=f;refine aU (cs:=gk) (fun y w h'=>∃ i:Nat,y.2.1=(i:Int)/\i<=u.aQ.length/\w=u.aQ.length-i/\Ext h h'/\bF h' h.size 30 [a.v,b.v,c.v,d.v]/\Ha h' Q.size E/\U=dq E (pt u.aQ i) (u.aQ.drop i)) (z,(0:Int),()) u.aQ.length rfl
   ⟨0,rfl,ad,ad,B,b1,m,j⟩ ?_
  clear f j m b1 B s5;rintro ⟨Y,n32,⟨⟩⟩ w h6 ⟨i,hi,K,rfl,C,b1,m,f⟩;simp only at hi;subst hi;refine ak ?_;refine aP ?_ ?_<;>intro q3
  ·have g:i<u.aQ.length:=ad
   obtain ⟨aa,rfl',hc,I⟩:=(v.aQ.ai C).cells i g;rw [xf _ _ g] at f;unfold Ss at f;refine dO (aH rfl' ?_);rw [cB i];refine av (u.aQ[i],()) hc (ak ?_);refine Pj m.1 _ ?_;refine ao ?_ ?_<;>intro r
   ·have r:gz E u.aQ[i]=false:=by simpa using r
    exact ⟨by rw [f,r]; rfl,C⟩
   have r:gz E u.aQ[i]=true:=by simpa using r
   rw [r,Zy] at f;refine aP ?_ ?_<;>intro X
   ·refine az b1 ((d.p,d.l,d.c),()) (ak ?_);rw [wrap_i64 ad ad];obtain ⟨ab,O,hc',va'⟩:=(v.aQ.ai C).cells (i-1) ad;refine dO (aH O ?_);rw [show Int.toNat ((i:Int)-1)=i-1 from ad];refine av (u.aQ[i-1],()) hc' (ak ?_);have hla:pt u.aQ i=u.aQ[i-1]:=by
     unfold pt;rw [Y1 ad,ZS,YZ ad] <;> rfl
    rw [leB];rw [hla] at f;refine ao ?_ ?_<;>intro P
    ·have P:decide (iP u.aQ[i-1] u.aQ[i])=false:=by simpa using P
     exact ⟨by rw [f,P]; rfl,C⟩
    ·have P:decide (iP u.aQ[i-1] u.aQ[i])=true:=by simpa using P
     rw [P,Zy] at f;refine aG (cs:=gk) (Y,((i+1:Nat):Int),()) (u.aQ.length-(i+1)) rfl ad (by rw [wrap_i64 ad ad]; rfl) ?_;exact ⟨i+1,rfl,ad,rfl,C,b1,m,f⟩
   ·have hi0:i=0:=ad
    subst hi0;have hg:decide (iP (pt u.aQ 0) u.aQ[0])=true:=Y4 (FH (m.2 _ (xc r)));rw [hg,Zy] at f;refine aG (cs:=gk) (Y,((0+1:Nat):Int),()) (u.aQ.length-(0+1)) rfl ad (by rw [wrap_i64 ad ad]; rfl) ?_;exact ⟨0+1,rfl,ad,rfl,C,b1,m,f⟩
  ·have g:i=u.aQ.length:=ad
   subst g;rw [ai9] at f;exact ⟨by rw [f]; rfl,C⟩
def Pe (l:List UInt8):List (List Xab):=l.map fun b=>[.int .u8 (b.toNat:Int)]
def Ii (l:List UInt8):(Pe l).length=l.length:=by simp [Pe]
def O2 (l:List UInt8):(Pe l).flatten=l.map fun b=>.int .u8 (b.toNat:Int):=by
 induction l with
 | nil=>rfl
 | cons a l c =>
  have:Pe (a::l)=[.int .u8 (a.toNat:Int)]::Pe l:=rfl
  rw [this,bj9,c] <;> rfl
def YP:(Tryz.prog.info? 5).map (fun i=>(i.zero,i.size,i.bytes))=some (some (.int .u8 0),1,1):=aw
variable {U:List (List Xab)}
def SL.cj {h:Hp} {b:Nat} {e:TypeId} {sz l c:Nat} (s:SL h b e sz I l c U):∀ i,i∈aF I->b<=i/\i<h.size:=by
 intro i hi;cases I with
 | none=>simp [aF] at hi
 | some a =>
  obtain ⟨g,f,rest,rfl,j,_,d,_⟩:=s.2.2;simp [aF] at hi;exact ⟨ad,by rw [hi]; exact d.lt⟩
def K3 {P:Program} {h:Hp} (a:Xax) (l:List UInt8) (cap:Nat) (K:Xab->Hp->Prop) (hc:aI h a 0 (l.map O9)) (hk:K (.string ⟨l.toArray⟩) h):aZ P (Conv.bytesToString (.slice (some a) l.length cap)) h K:=by
 unfold Conv.bytesToString;simp only;rw [an];refine ef aj hc _ ?_;rw [an,<- Array.forIn_toList]
 have b:∀ (l:List UInt8) (s:Xaa) (K':Xaa->Hp->Prop),K' ⟨s.data++l.toArray⟩ h->aZ P (forIn (l.map O9) s fun c r=>match c with
   | .int .u8 n=>(pure (ForInStep.yield (r.push (UInt8.ofNat n.toNat))):Sem (ForInStep Xaa))
   | _ => stuck "bytesToString: byte expected") h K' := by
  intro l
  induction l with
  | nil =>
   intro s K' hk;have e:(⟨s.data++([]:List UInt8).toArray⟩:Xaa)=s:=aj
   rw [e] at hk;exact hk
  | cons c l d =>
   intro s K' hk;rw [ZF,List.forIn_cons];rw [an];show aZ P (forIn (List.map O9 l) (s.push (UInt8.ofNat ((c.toNat:Nat):Int).toNat)) _) h K';have e1:UInt8.ofNat ((c.toNat:Nat):Int).toNat=c:=aj
   rw [e1];refine d (s.push c) K' ?_
   have:(⟨(s.push c).data++l.toArray⟩:Xaa)=⟨s.data++(c::l).toArray⟩:=by
    congr 1
    apply ZM.1
    simp
   rw [this]; exact hk
 refine b l ByteArray.empty _ ?_;have e:(⟨ByteArray.empty.data++l.toArray⟩:Xaa)=⟨l.toArray⟩:=by
  congr 1
  apply ZM.1
  simp
 rw [e];exact hk
abbrev St:=Except (Nat × Nat) Bt
def Yu {k c:Nat} (h:k≠c):(((k:Nat):Int)==(c:Int))=false:=by
 simp only [beq_eq_false_iff_ne,ne_eq];omega
def iz:List Xab:=[vI (0:Int),.string ⟨#[]⟩,vI (0:Int),vI (0:Int),vI (0:Int),.int .i32 (0:Int),vI (0:Int),.slice none 0 0,.int .u32 (0:Int),vI (0:Int)]
structure Ls {α:Type} (e:TypeId) (sz:Nat) (enc:cd->α->List Xab) (tm:α->dz) (ok:α->Prop) (h:Hp) (b:Nat) (p:Xac) (l c:Nat) (us:List (cd × α)):Prop where
 sl:SL h b e sz p l c (us.map fun u=>enc u.1 u.2)
 own:∀ u,u∈us->SL h b 66 2 u.1.p u.1.l u.1.c ((tm u.2).map dh)
 ok:∀ u,u∈us->ok u.2
section
variable {α:Type} {e:TypeId} {sz:Nat} {enc:cd->α->List Xab} {tm:α->dz} {ok:α->Prop} {h h':Hp} {b b':Nat} {p:Xac} {l c:Nat} {us:List (cd × α)}
def Ls.nil (h:Hp) (b:Nat):Ls e sz enc tm ok h b none 0 0 []:=⟨SL.nil _ _ _ _,aj,aj⟩
def SL.tJ {ws:List Nat} {h h':Hp} {b:Nat} {e:TypeId} {sz:Nat} {p:Xac} {l c:Nat} {xs:List (List Xab)} (s:SL h b e sz p l c xs) (k:Ch ws h h') (a:∀ i,i∈ws->i<h.size->i<b):SL h' b e sz p l c xs :=
 Sx.SL.br s k (fun i hi d=>by have:=Sx.SL.cj s hi; have:=a i d this.2; omega)
def Ls.ai {ws:List Nat} (s:Ls e sz enc tm ok h b p l c us) (k:Ch ws h h') (a:∀ i,i∈ws->i<h.size->i<b):Ls e sz enc tm ok h' b p l c us :=
 ⟨SL.tJ s.sl k a,fun u d=>SL.tJ (s.own u d) k a,s.ok⟩
def Ls.mono (s:Ls e sz enc tm ok h b p l c us) (a:b'<=b):Ls e sz enc tm ok h b' p l c us :=
 ⟨Sx.SL.mono s.sl a,fun u d=>Sx.SL.mono (s.own u d) a,s.ok⟩
def Ls.len (s:Ls e sz enc tm ok h b p l c us):l=us.length:=by rw [s.sl.1,YY]
end
abbrev ptr (g:Nat):Xab:=.pointer (some ⟨g,0,none⟩)
def T7:Tryz.prog.underlying 26=some (.slice 64):=aw
def TR:Tryz.prog.underlying 27=some (.slice 88):=aw
def y5:Tryz.prog.underlying 28=some (.slice 9):=aw
def GH:(Tryz.prog.info? 88).map (fun i=>(i.zero,i.size,i.bytes))=some (some (.agg #[.string ⟨#[]⟩,.slice none 0 0,.int .u32 (0:Int)]),3,48):=aw
def QY:(Tryz.prog.info? 9).map (fun i=>(i.zero,i.size,i.bytes))=some (some (.string ⟨#[]⟩),1,16):=aw
def SL.r6 {h:Hp} {b:Nat} {e:TypeId} {sz l c:Nat} {xs:List (List Xab)} (s:SL h b e sz I l c xs):∀ i,i∈aF I->∃ xs,bF h i e xs:=by
 intro i hi;cases I with
 | none=>simp [aF] at hi
 | some a =>
  obtain ⟨g,f,rest,rfl,j,_,d,_⟩:=s.2.2;simp [aF] at hi;subst hi;exact ⟨_,d⟩
def SL.jT {ws:List Nat} {h h':Hp} {b:Nat} {e e':TypeId} {sz l c:Nat} {xs:List (List Xab)} (s:SL h b e sz I l c xs) (k:Ch ws h h') (d:∀ i,i∈ws->∃ a,bF h i e' a) (f:e≠e'):SL h' b e sz I l c xs:=by
 refine Sx.SL.br s k (fun i hi g=>?_);obtain ⟨a,b1⟩:=SL.r6 s i hi;obtain ⟨zs,b2⟩:=d i g;unfold bF at b1 b2;rw [b1] at b2;simp only [Option.some.injEq,Obj.cells.injEq] at b2;exact f b2.2.1
section
variable {h0 h:Hp} {g gm:Nat} {bp:Xac} {bl bc:Nat} {full:Bt} {st:St} {D:List Xaa}
end
def HA (a b:cd):Prop:=∀ i,i∈aF a.p->i∉aF b.p
def lZ:cd:=⟨none,0,0⟩
def SL.at_ {h:Hp} {b:Nat} {e:TypeId} {sz l c:Nat} (s:SL h b e sz I l c U) {i:Nat} (hi:i<U.length):∃ a,I=some a/\aI h (a.add (i*sz)) 0 U[i]:=Sx.SL.cells s hi
def zU:List Xab:=[.slice none 0 0,.slice none 0 0,.slice none 0 0,.slice none 0 0]
end Go.Sx.Ob
