/- Contracts over heaps, part 1. Condition: as each statement says. -/
import Derived.Test.YtmdncdaladplkaaGreatDoorBtA
import Derived.Test.YtmdncdaladplkaaGreatDoorDShelf
import Derived.Test.YtmdncdaladplkaaGreatDoorSxG
import Derived.Test.YtmdncdaladplkaaGreatDoorSxE
import Derived.Test.YtmdncdaladplkaaGreatDoorDShelfB
import Derived.Lib.ItoaMem
set_option linter.all false
set_option maxRecDepth 100000
set_option maxHeartbeats 4000000
namespace Go.Sx
open Go.Proofs
def mixed:Tryz.prog.follows .mixedOrders=true:=av
def Vj : (Tryz.f157.name == "runtime.NumGoroutine") = false :=av
def Ux:Tryz.f157.body.isNone=true:=av
def UM:Extern.findNext Tryz.f157=none:=av
def U9:Extern.find Tryz.f157=some Extern.BytealgIndexByte.indexByte:=av
def Cl (s:Xaa) (c:Int) (h:Hp):uo Xaz 139 [.string s,.int .u8 c] h (vI (Lib.indexByte s.data.toList c.toNat.toUInt8)):=by
 refine eX mixed Tryz.func139 av (ig s c) ?_;refine Hf Tryz.func157 Vj Ux UM U9 ?_;rw [rR];exact ⟨(_,()),rfl,rfl,rfl⟩
def FA (s:Xaa) (c:Int) (h:Hp):uo Xaz 113 [.string s,.int .u8 c] h (vI (Lib.indexByte s.data.toList c.toNat.toUInt8)):=by
 refine eX mixed Tryz.func113 av (qo s c) ?_;exact je (Cl s c h) ⟨rfl,rfl⟩
def cy (s set:List UInt8):Nat:=(s.takeWhile fun c=>set.contains c).length
def nM (s set:List UInt8):cy s set<=s.length:=by
 unfold cy;exact (List.takeWhile_prefix _).length_le
theorem nr {p:UInt8->Bool}:∀ (l:List UInt8) (k:Nat),k<=(l.takeWhile p).length->k<l.length->(k<(l.takeWhile p).length↔p (l.getD k 0)=true)
 | [],k,_,h=>by simp at h
 | c::l,0,_,_=>by
  simp only [List.takeWhile_cons,List.getD_cons_zero];cases a:p c <;> simp
 | c::l,k+1,h,hl=>by
  simp only [List.takeWhile_cons] at h ⊢;cases a:p c with
  | false=>rw [a] at h; simp at h
  | true =>
   rw [a] at h;simp at h hl
   have:=nr l k (by simpa using h) hl
   simpa using this
def tI (s set:List UInt8) (k:Nat) (hk:k<=cy s set) (hl:k<s.length):(k<cy s set↔set.contains (s.getD k 0)=true):=nr s k hk hl
def QW (s:Xaa) (n:Int):(db s n).toNat.toUInt8=s.data.toList.getD n.toNat 0:=by
 unfold db; simp
def Py (s set:Xaa) (h:Hp) (j:s.size<=9223372036854775807):uo Xaz 84 [.string s,.string set] h (vI (cy s.data.toList set.data.toList)):=by
 refine eX mixed Tryz.func84 av (Ef s set) ?_;have g:s.data.toList.length=s.size:=ai
 have hle:=nM s.data.toList set.data.toList;refine aQ (cs:=cF) (fun x n h'=>h'=h/\∃ k:Nat,x.1=(k:Int)/\k<=cy s.data.toList set.data.toList/\n=s.size-k) ((0:Int),()) s.size rfl ⟨rfl,0,rfl,ad,ad⟩ ?_;rintro ⟨n,⟨⟩⟩ m h' ⟨rfl,k,hk,c,rfl⟩;simp only at hk;subst hk;refine ao ?_ ?_<;>intro d
 ·have e:(k:Int)<s.size:=ah9 d;have hst:=tI s.data.toList set.data.toList k c ad;refine dy ⟨ad,e⟩ ?_;refine je (FA _ _ _) ?_;rw [QW];have hc:=Lib.contains_iff_indexByte set.data.toList (s.data.toList.getD k 0);refine ao ?_ ?_<;>intro a
  ·have h2:=ah9 a;rw [wrap_i64 ad ad];have b:set.data.toList.contains (s.data.toList.getD k 0)=true:=by rw [hc]; exact ai9 h2
   exact aD (cs:=cF) ((k:Int)+1,()) (s.size-(k+1)) rfl ad rfl ⟨rfl,k+1,(show ((k:Int)+1)=((k+1:Nat):Int) from ad),hst.2 b,rfl⟩
  ·have h2:=ar9 a;have b:¬ set.data.toList.contains (s.data.toList.getD k 0)=true:=by rw [hc]; exact fun f=>h2 (ah9 f)
   have:k=cy s.data.toList set.data.toList:=by
    have:¬ k<cy s.data.toList set.data.toList:=fun f=>b (hst.1 f)
    omega
   exact ⟨by rw [<- this],rfl⟩
 ·have i:¬ (k:Int)<s.size:=ar9 d
  have:k=cy s.data.toList set.data.toList:=ad
  exact ⟨by rw [<- this],rfl⟩
def dE (c:UInt8):Bool:=(97<=c.toNat && c.toNat<=122) || (65<=c.toNat && c.toNat<=90) || c.toNat==95
def dH (c:UInt8):Bool:=48<=c.toNat && c.toNat<=57
def fR:List UInt8:=[97,98,99,100,101,102,103,104,105,106,107,108,109,110,111,112,113,114,115,116,117,118,119,120,121,122,65,66,67,68,69,70,71,72,73,74,75,76,77,78,79,80,81,82,83,84,85,86,87,88,89,90,95]
def cL:List UInt8:=[48,49,50,51,52,53,54,55,56,57]
def iJ (p q:UInt8->Bool) (h:(List.range 256).all (fun n=>p (UInt8.ofNat n)==q (UInt8.ofNat n))=true) (c:UInt8):p c=q c:=by
 have:=bm9.1 h c.toNat (du9.2 (by have:=c.toNat_lt; omega))
 simpa using this
def Is (c:UInt8):fR.contains c=dE c:=iJ (fun c=>fR.contains c) dE (by decide +kernel) c
def L0 (c:UInt8):cL.contains c=dH c:=iJ (fun c=>cL.contains c) dH (by decide +kernel) c
def Bv (c:UInt8):(fR++cL).contains c=(dE c || dH c):=iJ (fun c=>(fR++cL).contains c) (fun c=>dE c || dH c) (by decide +kernel) c
def cN (c:UInt8):Int:=(c.toNat:Nat)
def Qv (c:UInt8) (h:Hp):uo Xaz 106 [.int .u8 (cN c)] h (.bool (dH c)):=by
 refine eX mixed Tryz.func106 av (oX _) ?_;unfold ko dH cN bH;refine aK ?_ ?_<;>intro h1
 ·refine ⟨?_,rfl⟩
  congr 1
  rw [show decide (48<=c.toNat)=true from ai9 ad,bj9];exact fo9.2 ad
 ·refine ⟨?_,rfl⟩
  congr 1
  rw [show decide (48<=c.toNat)=false from aj9 ad,Bool.false_and]
def Mk (c:UInt8):dE c=true↔(97<=cN c/\cN c<=122)\/(65<=cN c/\cN c<=90)\/cN c=95:=by
 unfold dE cN;simp only [Bool.or_eq_true,Bool.and_eq_true,decide_eq_true_eq,beq_iff_eq];omega
def L6 (c:UInt8):dH c=true↔48<=cN c/\cN c<=57:=by
 unfold dH cN;simp only [Bool.and_eq_true,decide_eq_true_eq];omega
def C5 (c:UInt8) (h:Hp):uo Xaz 105 [.int .u8 (cN c)] h (.bool (dE c)):=by
 refine eX mixed Tryz.func105 av (ow _) ?_;unfold ju dX;have hl:=Mk c
 repeat' (refine ao (fun h1=>?_) (fun h1=>?_) <;> first | replace h1:=ah9 h1 | replace h1:=ar9 h1)
 all_goals exact ⟨aq9 Value.bool (ec9.2 (by simp only [hl,true_iff,beq_iff_eq]; omega)),rfl⟩
def rp (s:List UInt8):Int × Bool × Bool :=
 match s with
 | [a,b]=>if cN a=114/\48<=cN b/\cN b<=55 then (cN b-48,false,true) else if cN a=122/\48<=cN b/\cN b<=51 then (cN b-48,true,true) else (0,false,false)
 | _=>(0,false,false)
variable {U l:List UInt8}
def A9 (h:U.length≠2):rp U=(0,false,false):=by
 unfold rp;split
 ·simp at h
 ·rfl
def w9 (s:Xaa) (n:Int):db s n=cN (s.data.toList.getD n.toNat 0):=rfl
variable {O:Xaa}
def two_bytes (h1:(O.size:Int)=2):∃ a b,O.data.toList=[a,b]:=by
 have d:O.data.toList.length=O.size:=ai
 match hl:O.data.toList with
 | [a,b]=>exact ⟨a,b,rfl⟩
 | []=>rw [hl] at d; simp at d; omega
 | [a]=>rw [hl] at d; simp at d; omega
 | a::b::c::l=>rw [hl] at d; simp at d; omega
def FO (s:Xaa) (h:Hp):uo Xaz 83 [.string s] h (.tuple #[vI (rp s.data.toList).1,.bool (rp s.data.toList).2.1,.bool (rp s.data.toList).2.2]):=by
 refine eX mixed Tryz.func83 av (wq s) ?_;have d:s.data.toList.length=s.size:=ai
 unfold rL bn lr bj;refine ao ?_ ?_<;>intro h1
 ·have h1:(s.size:Int)≠2:=by simpa using h1
  rw [A9 ad];exact ⟨rfl,rfl⟩
 ·have h1:(s.size:Int)=2:=by simpa using h1
  obtain ⟨a,b,c⟩:=two_bytes h1;have e0:db s 0=cN a:=by rw [w9,c]; rfl
  have e:db s 1=cN b:=by rw [w9,c]; rfl
  have hb:=b.toNat_lt;have f:IntKind.wrap .i64 (IntKind.wrap .i64 (db s 1)-48)=cN b-48:=by
   rw [e,wrap_i64 (x:=cN b) (by unfold cN; omega) (by unfold cN; omega),wrap_i64 (by unfold cN; omega) (by unfold cN; omega)]
  rw [f,e0,c];unfold rp
  repeat' (first | refine gR ?_ | (refine ao (fun h1=>?_) (fun h1=>?_) <;> first | replace h1:=ah9 h1 | replace h1:=ar9 h1 | replace h1:=eq_of_beq h1 | replace h1:=ex9 h1))
  all_goals
   refine ⟨?_,rfl⟩;simp only
   first
    | (exfalso; omega)
    | rw [af9 ad]
    | rw [ac9 ad,af9 ad]
    | rw [ac9 ad,ac9 ad]
def En (s:Xaa) (h:Hp):uo Xaz 107 [.string s] h (.tuple #[vI (rp s.data.toList).1,.bool (rp s.data.toList).2.1,.bool (rp s.data.toList).2.2]):=by
 refine eX mixed Tryz.func107 av (mW s) ?_;have d:s.data.toList.length=s.size:=ai
 unfold iO bn lr bj;refine ao ?_ ?_<;>intro h1
 ·have h1:(s.size:Int)≠2:=by simpa using h1
  rw [A9 ad];exact ⟨rfl,rfl⟩
 ·have h1:(s.size:Int)=2:=by simpa using h1
  obtain ⟨a,b,c⟩:=two_bytes h1;have e0:db s 0=cN a:=by rw [w9,c]; rfl
  have e:db s 1=cN b:=by rw [w9,c]; rfl
  have hb:=b.toNat_lt;have f:IntKind.wrap .i64 (IntKind.wrap .i64 (db s 1)-48)=cN b-48:=by
   rw [e,wrap_i64 (x:=cN b) (by unfold cN; omega) (by unfold cN; omega),wrap_i64 (by unfold cN; omega) (by unfold cN; omega)]
  rw [f,e0,c];unfold rp
  repeat' (first | refine gR ?_ | (refine ao (fun h1=>?_) (fun h1=>?_) <;> first | replace h1:=ah9 h1 | replace h1:=ar9 h1 | replace h1:=eq_of_beq h1 | replace h1:=ex9 h1))
  all_goals
   refine ⟨?_,rfl⟩;simp only
   first
    | (exfalso; omega)
    | rw [af9 ad]
    | rw [ac9 ad,af9 ad]
    | rw [ac9 ad,ac9 ad]
def cB (s:List UInt8):Bool:=decide (0<s.length) && decide (s.length<=32) && dE (s.getD 0 0) && s.all (fun c=>dE c || dH c) && !(rp s).2.2
def Qb {set:List UInt8} (h:0<U.length):0<cy U set↔set.contains (U.getD 0 0)=true:=tI U set 0 (ek9 _) h
def Aq {s set:List UInt8}:cy s set=s.length↔s.all (fun c=>set.contains c)=true:=by
 unfold cy
 induction s with
 | nil=>simp
 | cons c s a =>
  rw [List.takeWhile_cons,fg9];cases hc:set.contains c with
  | true=>simp only [if_true,List.length_cons,Bool.true_and]; rw [<- a]; omega
  | false=>simp
def Zz:(⟨#[97,98,99,100,101,102,103,104,105,106,107,108,109,110,111,112,113,114,115,116,117,118,119,120,121,122,65,66,67,68,69,70,71,72,73,74,75,76,77,78,79,80,81,82,83,84,85,86,87,88,89,90,95]⟩:Xaa).data.toList=fR:=rfl
def ZX:(⟨#[97,98,99,100,101,102,103,104,105,106,107,108,109,110,111,112,113,114,115,116,117,118,119,120,121,122,65,66,67,68,69,70,71,72,73,74,75,76,77,78,79,80,81,82,83,84,85,86,87,88,89,90,95,48,49,50,51,52,53,54,55,56,57]⟩:Xaa).data.toList=fR++cL:=rfl
def toList_nil :(O.toList==[])=decide (O.size=0):=by
 have:O.toList=O.data.toList:=ByteArray.toList_eq O
 rw [this];have b:O.data.toList.length=O.size:=ai
 cases hl:O.data.toList with
 | nil=>rw [hl] at b; simp at b; simp [<- b]
 | cons a l=>rw [hl] at b; simp at b; simp [<- b]
def vO (s:Xaa) (h:Hp) (d:s.size<=9223372036854775807):uo Xaz 55 [.string s] h (.bool (cB s.data.toList)):=by
 refine eX mixed Tryz.func55 av (A7 s) ?_;have a:s.data.toList.length=s.size:=ai
 unfold zf cE bM bH aM ct;refine H0 (FO s h) ?_;unfold cB;rw [a];refine ao ?_ ?_<;>intro h1
 ·have h1:s.size≠0:=by rw [toList_nil] at h1; simpa using h1
  refine aK ?_ ?_<;>intro h2
  ·refine je (Py s _ h d) ?_;rw [Zz];have hp:=Qb (set:=fR) (by omega:0<s.data.toList.length);rw [Is] at hp;refine aK ?_ ?_<;>intro e
   ·refine je (Py s _ h d) ?_;rw [ZX];have ha:=Aq (s:=s.data.toList) (set:=fR++cL);have f:(fun c=>(fR++cL).contains c)=(fun c=>dE c || dH c):=funext Bv;rw [f] at ha;rw [show decide (0<s.size)=true from ai9 ad,show decide (s.size<=32)=true from ai9 ad,hp.1 ad];refine ao ?_ ?_<;>intro h4
    ·have h4:=eq_of_beq h4;rw [ha.1 ad];exact ⟨rfl,rfl⟩
    ·have h4:=ex9 h4
     have:s.data.toList.all (fun c=>dE c || dH c)=false:=by
      cases b:s.data.toList.all (fun c=>dE c || dH c) with
      | false=>rfl
      | true=>exact (h4 (by rw [ha.2 b]; omega)).elim
     rw [this];exact ⟨rfl,rfl⟩
   ·have:dE (s.data.toList.getD 0 0)=false:=by
     cases b:dE (s.data.toList.getD 0 0) with
     | false=>rfl
     | true=>have:=hp.2 b; omega
    rw [this];exact ⟨ai,rfl⟩
  ·rw [show decide (s.size<=32)=false from aj9 ad];exact ⟨ai,rfl⟩
 ·have h1:s.size=0:=by rw [toList_nil] at h1; simpa using h1
  rw [show decide (0<s.size)=false from aj9 ad];exact ⟨ai,rfl⟩
open Go.Proofs Go.MapKept Go.WideAt Go.WideMaps Go.Maps Go.RowKit Go.WideElems Go.WideElems
def MK:Xab->Option (DataW Unit × List MemPlace):=fun _=>some (.nil,[])
def wT:Tryz.prog.underlying 9=some .string:=av
def Uu:Tryz.prog.underlying 196=some (.map 9 51):=av
def keysOf (D:List (Xaa × Xab)):List (List UInt8):=(D.map fun p=>p.1.data.toList).mergeSort fun x y=>decide (x<=y)
def Pf {x:MapEntry} (hk:x.key=.string O) (a:O.size<=maxLen):WideElems.rd Xaz 9 MK x=some (.string O.data.toList,.nil):=by
 unfold WideElems.rd;rw [hk,keyOf_string_mk wT a] <;> rfl
variable {H Z b:Nat}
def ff.owns {W:World} {D:List (Xaa × Xab)} (m:ff W.heap H D) (hl:D.length<=maxLen) :
  ∃ c:DataW Unit,W.ownsMap Xaz 9 MK H D.length c/\(strKeys c).Perm (D.map fun p=>p.1.data.toList)/\Maps.size c=D.length:=by
 obtain ⟨es,clock,j,d,k,f⟩:=m;have h:es.size=D.length:=by
  have:=aq9 List.length d
  simpa using this
 have a:es.toList.map (WideElems.rg Xaz 9 MK)=D.map fun p=>(Lit.string p.1.data.toList,DataW.nil):=by
  apply df9;intro i;have h1:(es.toList.map (fun e=>(e.key,e.val)))[i]?=(D.map (fun p=>(Value.string p.1,p.2)))[i]?:=by rw [d]
  simp only [List.getElem?_map] at h1 ⊢;rcases cj9 i D.length with hi | hi
  ·rw [ad9 hi,ad9 (show i<es.toList.length by simp; omega)] at h1 ⊢;simp only [Option.map_some,Option.some.injEq,Prod.mk.injEq] at h1 ⊢;exact WideElems.rg_of (Pf h1.1 (f _ (al9 hi)))
  ·rw [bq9 hi,bq9 (show es.toList.length<=i by simp; omega)] <;> rfl
 refine ⟨_,⟨es,clock,j,⟨ad,k,?_⟩,ad,rfl⟩,?_,?_⟩
 ·intro x l;obtain ⟨i,hi,rfl⟩:=bg9 l;have b:i<D.length:=by simp at hi; omega
  have h1:(es.toList.map (fun e=>(e.key,e.val)))[i]?=(D.map (fun p=>(Value.string p.1,p.2)))[i]?:=by rw [d]
  simp only [List.getElem?_map,List.getElem?_eq_getElem b,List.getElem?_eq_getElem hi,Option.map_some,Option.some.injEq,Prod.mk.injEq] at h1;exact ⟨_,Pf h1.1 (f _ (al9 b))⟩
 ·show List.Perm (((es.toList.map (WideElems.rg Xaz 9 MK)).foldr DataW.insert []).map fun p=>strOf p.1) _;rw [a];refine ((WideShapes.sorted_perm _).map _).trans ?_;rw [bf9];exact List.Perm.refl _
 ·show ((es.toList.map (WideElems.rg Xaz 9 MK)).foldr DataW.insert []).length=D.length;rw [a,length_sorted,ab9]
variable {Y:Hp}
def World.Nx {W:World} {o:Obj} (a:W.heap=Y.push o):({ W with heap:=Y }:World).alloc o=W:=by
 cases W;simp only at a;subst a;rfl
def dI.alloc (w:World) (o:Obj):dI w (w.alloc o):=⟨rfl,rfl,rfl⟩
def KH (r:Option Nat) (h:Hp):HC Xaz 90 #[.map r] h fun v h'=>v=.func (.func 117) #[] #[.pointer (some ⟨h.size,0,none⟩)]/\h'=h.push (.cells #[.map r] 196):=by
 intro W b;subst b;exact (callsIn_wide.1 (Tryz.Ck r W)).mono fun e w' ⟨c,a⟩=>⟨_,c,by rw [a]; exact dI.alloc _ _,rfl,by rw [a]; rfl⟩
variable {j:World} {d:TypeId}
def SL.VM {v:Xab} {xs:List Xab} (r:j.ownsRow H d 1 v xs.length xs):∃ p l c,v=.slice p l c/\SL j.heap H d 1 p l c (xs.map fun x=>[x]):=by
 have a:∀ ys:List Xab,(ys.map fun x=>[x]).flatten=ys:=by
  intro ys
  induction ys with
  | nil=>rfl
  | cons y ys h=>simp [h]
 obtain ⟨h1,h2⟩:=r;rcases h2 with ⟨hv,hn⟩ | ⟨g,cap,jJ,hv,i,k,f,hc,m,ht⟩
 ·have:xs=[]:=bs9 hn
  subst this;exact ⟨none,0,0,hv,SL.nil _ _ _ _⟩
 ·refine ⟨some ⟨g,0,none⟩,xs.length,cap,hv,ai,ai,g,[],jJ.toList.drop xs.length,rfl,i,⟨f,by unfold maxLen at hc; omega⟩,?_,?_⟩
  ·rw [a,dc9]
   have:xs=jJ.toList.take xs.length:=by rw [<- ht]; simp
   unfold br;rw [k]
   congr 2
   conv=>lhs; rw [<- Array.toArray_toList (xs:=jJ),<- ce9 xs.length jJ.toList]
   rw [<- this]
  ·rw [cb9,da9,m]; omega
def tM {D:List (Xaa × Xab)} (m:ff Y H D) (hl:D.length<=2^40) :
  HC Xaz 89 #[.func (.func 117) #[] #[.pointer (some ⟨Y.size,0,none⟩)]] (Y.push (.cells #[.map (some H)] 196)) fun v h'=>∃ p l c,v=.slice p l c/\SL h' (Y.size+1) 9 1 p l c ((keysOf D).map fun k=>[encStr k]) /\
   Ext (Y.push (.cells #[.map (some H)] 196)) h':=by
 intro W q;obtain ⟨t,j,d,a⟩:=ff.owns (W:={ W with heap:=Y }) m (by unfold maxLen; omega);have hc:=callsIn_wide.1 (Tryz.mH H D.length t MK { W with heap:=Y } j (by rw [a]; unfold maxLen; omega) (by rw [a]; omega));rw [World.Nx q] at hc;refine hc.mono fun e w' u=>?_
 obtain ⟨v,r,w,z,b,_,n⟩:=u;have s:r.mergeSort (fun x y=>decide (x<=y))=keysOf D:=mergeSort_of_perm (z.trans d);have o:r.length=((r.mergeSort (fun x y=>decide (x<=y))).map encStr).length:=by rw [ab9,List.length_mergeSort]
 rw [o,s] at b;obtain ⟨p,l,c,hv,f⟩:=SL.VM b;refine ⟨v,w,⟨n.os,n.tape,n.output⟩,p,l,c,hv,?_,?_⟩
 ·rw [bf9] at f
  have:W.heap.size=Y.size+1:=by rw [q]; simp
  rw [this] at f;exact f
 ·rw [<- q];exact ⟨n.size,fun i hi _=>n.block i hi⟩
abbrev dm:=List (Xaa × Nat)
def df (p:Xaa × Nat):List Xab:=[.string p.1,.int .u32 p.2]
def vm (D:dm):List (Xaa × Xab):=D.map fun p=>(p.1,Value.int .u32 p.2)
def ec (D:dm) (s:Xaa):Nat:=((D.find? fun p=>decide (s=p.1)).map (·.2)).getD 0
def vV (D:dm) (s:Xaa) (v:Nat):dm:=if (D.find? fun p=>decide (s=p.1)).isSome then D.map fun p=>if s=p.1 then (p.1,v) else p else D++[(s,v)]
def jr (D:dm) (p:Xaa × Nat):dm:=vV D p.1 ((ec D p.1+p.2) % 4294967296)
def FM (D:dm):dm:=(keysOf (vm D)).filterMap fun k=>if ec D ⟨k.toArray⟩=0 then none else some (⟨k.toArray⟩,ec D ⟨k.toArray⟩)
def Ui (D:dm) (s:Xaa):(vm D).find? (fun p=>decide (s=p.1))=(D.find? fun p=>decide (s=p.1)).map fun p=>(p.1,Value.int .u32 p.2):=by
 unfold vm
 induction D with
 | nil=>rfl
 | cons p D a =>
  by_cases h:s=p.1
  ·simp [h]
  ·simp only [List.map_cons,List.find?_cons,decide_eq_false h];exact a
def K2 (D:dm) (s:Xaa):look (vm D) s=(D.find? fun p=>decide (s=p.1)).map fun p=>Value.int .u32 p.2:=by
 unfold look;rw [Ui,Option.map_map] <;> rfl
def LR (D:dm) (s:Xaa):(look (vm D) s).getD (.int .u32 0)=.int .u32 (ec D s):=by
 rw [K2];unfold ec
 all_goals (cases D.find? fun p=>decide (s=p.1) <;> rfl)
def VV (D:dm) (s:Xaa) (v:Nat):kR (vm D) s (.int .u32 v)=vm (vV D s v):=by
 unfold kR vV;rw [K2];cases h:(D.find? fun p=>decide (s=p.1)) with
 | none=>simp [vm]
 | some q =>
  simp only [Option.map_some,Option.isSome_some,if_true,vm,List.map_map];refine ci9 fun p a=>?_
  simp only [Function.comp];split <;> simp_all
def HY (D:dm) (s:Xaa) (v:Nat):(vV D s v).length<=D.length+1:=by
 unfold vV;split <;> simp
def WN:(Tryz.prog.info? 51).bind (·.zero)=some (.int .u32 0):=av
def AD:Tryz.prog.underlying 50=some (.slice 64):=av
def ul:(Tryz.prog.info? 64).map (fun i=>(i.zero,i.size,i.bytes))=some (some (.agg #[.string ⟨#[]⟩,.int .u32 0]),2,24):=av
variable {e:Lp} {f:Xab->Hp->Prop} {V g:dm}
def qv {h:Hp} (m:ff h H (vm V)) (s:Xaa) {k:Int->T} (hk:k (ec V s) e f h):T.ef Xaz (Instr.lookup 196 (.map (some H)) (.string s) false) false [(false,[.int .u32])] k e f h:=by
 refine j3 Uu wT WN m s false _ ?_;refine ⟨((ec V s:Int),()),?_,hk⟩;simp only [Bool.false_eq_true,if_false];rw [LR] <;> rfl
variable {k:T}
def I2 {h:Hp} (m:ff h H (vm V)) (b:O.size<=maxLen) {v:Int} {n:Nat} (hv:v=(n:Int)) (hk:∀ h',ff h' H (vm (vV V O n))->Ch [H] h h'->h'.size=h.size->k e f h') :
  T.dZ Xaz (Instr.mapUpdate 196 (.map (some H)) (.string O) (.int .u32 v)) k e f h:=by
 subst hv;refine gF Uu wT m b _ _ ?_;intro h' a c' c;rw [VV] at a;exact hk h' a c' c
def Ta (m:ff Y H (vm V)) (hl:V.length<=2^40) (n:Int) :
  HC Xaz 91 #[.map (some H),.int .u32 n] Y fun v h'=>Ext Y h'/\∃ p l c,v=.agg #[.slice p l c,.int .u32 n]/\SL h' Y.size 64 2 p l c ((FM V).map df):=by
 refine aX (args:=[.map (some H),.int .u32 n]) mixed Tryz.func91 av (AN (some H) n) ?_;unfold zd aR aY bq aH bM bd bR aC aZ aM;refine bm ?_;intro h1 P Q z1;refine bm ?_;intro h2 R F z2;refine bP R ?_;intro h3 u G z3;have u:br h3 h1.size 53 [.slice none 0 0,.int .u32 n]:=u;have I:Ext Y h3:=bU (Q.trans F) G;have m3:=m.aj I ai;have c3:br h3 Y.size 53 [.slice none 0 0,.int .u32 0]:=(P.aj F ai).aj G (by simp; omega);refine aE (KH (some H) h3) ?_;rintro _ h4 ⟨rfl,rfl⟩;refine ⟨(.func (.func 117) #[] #[.pointer (some ⟨h3.size,0,none⟩)],()),rfl,ak ?_⟩;have S:Ext h3 (h3.push (.cells #[.map (some H)] 196)):=Ext.push _ _;have r:(vm V).length<=2^40:=by unfold vm; rw [ab9]; exact hl
 refine aE (tM m3 r) ?_;rintro _ J ⟨U,K,W,rfl,y,X⟩;refine ⟨((U,K,W),()),rfl,ak ?_⟩;have e35:=S.trans X;have e:(keysOf (vm V)).length<=2^40:=by
  unfold keysOf;rw [List.length_mergeSort,ab9];exact r
 have B:K=(keysOf (vm V)).length:=by rw [y.1,ab9]
 unfold FM;generalize keysOf (vm V)=ks at y e B ⊢;have b5:=u.aj e35 ai;have c5:=c3.aj e35 ai;have m5:=m3.aj e35 ai;have e05:=I.trans e35;have hz3:=e35.size;have hb3:=u.lt;have hg:=m.lt;refine aQ (cs:=cF) (fun x w h'=>∃ (i:Nat) (p:Xac) (l c:Nat),x.1=(i:Int)/\i<=ks.length/\w=ks.length-i/\Ch [h1.size] J h'/\br h' h1.size 53 [.slice p l c,.int .u32 n] /\
  SL h' J.size 64 2 p l c (((ks.take i).filterMap fun k=>if ec V ⟨k.toArray⟩=0 then none else some ((⟨k.toArray⟩:Xaa),ec V ⟨k.toArray⟩)).map df)/\l<=i) ((0:Int),()) ks.length rfl
  ⟨0,none,0,0,rfl,ad,ad,Ch.refl _ _,b5,SL.nil _ _ _ _,ad⟩ ?_
 rintro ⟨n8,⟨⟩⟩ w h6 ⟨i,p,l,c,hi,L,rfl,f,A,o,Z⟩;simp only at hi;subst hi;refine ak ?_;have m6:=m5.aj f (by simp; omega);have hz6:=f.size;have C:Ext Y h6:=bU e05 f;refine aK ?_ ?_<;>intro g1
 ·have d:i<ks.length:=ad
  have sk6:=y.bF f (fun j b=>by have:=(y.cw b).1; simp; omega);obtain ⟨a,rfl,hc⟩:=sk6.cells (i:=i) (by simpa using d);rw [am9] at hc;have q:ks.take (i+1)=ks.take i++[ks[i]]:=ag9 d;generalize ks[i]=k at hc q;refine bK rfl ?_;rw [cr i];refine ar ((⟨k.toArray⟩:Xaa),()) hc (ak ?_);have hw:=hY i;refine qv m6 _ (ao (fun s=>?_) (fun s=>?_))
  ·have s:((ec V ⟨k.toArray⟩:Nat):Int)≠0:=by simpa using s
   refine aw A ((p,l,c),()) (ak ?_);refine qv m6 _ ?_;refine fg (vs:=df (⟨k.toArray⟩,ec V ⟨k.toArray⟩)) AD ul rfl ad ad av rfl rfl o hz6 ad ad ?_;intro p' c' M N t hp7;have b7:=A.aj t (fun hh=>by have:=(o.cw hh).1; omega);refine bP b7 ?_;intro h8 b8 O z8;refine aD (cs:=cF) (((i+1:Nat):Int),()) (ks.length-(i+1)) rfl ad (aq9 (fun z=>[Value.int .i64 z]) hw) ⟨i+1,p',l+1,c',rfl,ad,rfl,?_,b8,?_,ad⟩
   ·exact Ch.trans (Ch.trans f t (fun j b hl=>by have:=(o.cw b).1; omega)) O (fun j b _=>b)
   ·rw [q,ee9,ao9];have E:([k].filterMap fun k=>if ec V ⟨k.toArray⟩=0 then none else some ((⟨k.toArray⟩:Xaa),ec V ⟨k.toArray⟩))=[((⟨k.toArray⟩:Xaa),ec V ⟨k.toArray⟩)]:=by
     simp only [List.filterMap_cons,List.filterMap_nil];rw [ac9 ad]
    rw [E];exact N.bF O (fun j b=>by have:=(N.cw b).1; simp; omega)
  ·have s:((ec V ⟨k.toArray⟩:Nat):Int)=0:=by simpa using s
   refine aD (cs:=cF) (((i+1:Nat):Int),()) (ks.length-(i+1)) rfl ad (aq9 (fun z=>[Value.int .i64 z]) hw) ⟨i+1,p,l,c,rfl,ad,rfl,f,A,?_,ad⟩;rw [q,ee9];have E:([k].filterMap fun k=>if ec V ⟨k.toArray⟩=0 then none else some ((⟨k.toArray⟩:Xaa),ec V ⟨k.toArray⟩))=[]:=by
    simp only [List.filterMap_cons,List.filterMap_nil];rw [af9 ad]
   rw [E,bz9];exact o
 ·have hi:i=ks.length:=ad
  subst hi;rw [bl9] at o;have c6:=c5.aj f (by simp; omega);refine aw A ((p,l,c),n,()) (ak ?_);refine bP c6 ?_;intro M b7 t z7;have b7:br M Y.size 53 [.slice p l c,.int .u32 n]:=b7;refine aw b7 ((p,l,c),n,()) ?_;have hz5:=e05.size;exact ⟨bU C t,p,l,c,rfl,(o.bF t (fun j b=>by have:=(o.cw b).1; simp; omega)).mono ad⟩
structure ik (h:Hp) (p:Xac) (l:Nat) (us:dm):Prop where
 len:l=us.length
 cells:∀ i,(hi:i<us.length)->∃ a,p=some a/\aF h (a.add (i*2)) 0 (df us[i])
variable {c:Xac}
def ik.aj {ws:List Nat} {h':Hp} {us:dm} (v:ik Y c H us) (k:Ch ws Y h') (d:∀ i,i∈aG c->i∉ws):ik h' c H us :=
 ⟨v.len,fun i hi=>by
  obtain ⟨a,b,hc⟩:=v.cells i hi;exact ⟨a,b,aI k (by rw [iF]; exact d _ (by rw [b]; simp [aG])) _ _ hc⟩⟩
def SL.Nt {us:dm} (s:SL Y H d 2 c Z b (us.map df)):ik Y c Z us:=by
 refine ⟨by rw [s.1,ab9],fun i hi=>?_⟩;obtain ⟨a,f,hc⟩:=s.cells (i:=i) (by simpa using hi);rw [am9] at hc;exact ⟨a,f,hc⟩
structure bJ where
 ah:dm
 num:Nat
def gU (p:Xac) (l c:Nat) (x:bJ):Xab:=.agg #[.slice p l c,.int .u32 x.num]
def FE (l:dm):dm:=FM (l.foldl jr [])
def nl (x y:bJ):bJ:=⟨FE (x.ah++y.ah),(x.num+y.num) % 4294967296⟩
def eu (x:Int):IntKind.wrap .u32 x=x % 4294967296:=by
 simp only [IntKind.wrap] <;> rfl
def iU (a:Nat):((a % 4294967296:Nat):Int)=(a:Int) % 4294967296:=Int.natCast_emod a 4294967296
def iB (a b:Xaa):Prop:=a.data.toList<b.data.toList
instance (a b:Xaa):Decidable (iB a b):=inferInstanceAs (Decidable (a.data.toList<b.data.toList))
def BV (a:Xaa):¬ iB a a:=List.lt_irrefl (α:=UInt8) _
def jR {b c:Xaa} (h:iB O b) (k:iB b c):iB O c:=List.lt_trans (α:=UInt8) h k
def yR {b:Xaa} (h:O.data.toList=b.data.toList):O=b:=by
 cases O; cases b;simp only at h;rw [by9.1 h]
def An (a b:Xaa) (h:¬ iB a b) (k:¬ iB b a):a=b :=
 yR (List.le_antisymm (α:=UInt8) (List.not_lt.1 k) (List.not_lt.1 h))
def jT {b:Xaa} (h:iB O b):O≠b:=fun e=>by subst e; exact BV _ h
def Dk {a:Xaa} (h:iB a O):¬ iB O a:=fun k=>BV _ (jR h k)
structure Nf (l:dm):Prop where
 Vq:l.Pairwise fun p q=>iB p.1 q.1
 G6:∀ p,p∈l->p.2≠0/\p.2<4294967296
def cf:dm->Xaa->Nat
 | [],_=>0
 | p::l,s=>(if p.1=s then p.2 else 0)+cf l s
def AT (s:Xaa):cf [] s=0:=rfl
def fh (p:Xaa × Nat) (l:dm) (s:Xaa):cf (p::l) s=(if p.1=s then p.2 else 0)+cf l s:=rfl
variable {a:Xaa × Nat}
def Nf.tail {l:dm} (h:Nf (a::l)):Nf l:=⟨(dp9.1 h.1).2,fun q b=>h.2 q (ap9 _ b)⟩
def Nf.head (h:Nf (a::V)):∀ q,q∈V->iB a.1 q.1:=(dp9.1 h.1).1
def Nf.nil:Nf []:=⟨List.Pairwise.nil,ai⟩
def Ad (h:∀ p,p∈V->p.1≠O):cf V O=0:=by
 induction V with
 | nil=>rfl
 | cons p V a =>
  rw [fh,ac9 (h p (cv9 ..)),a fun q b=>h q (ap9 _ b)]
def C2 (l m:dm) (s:Xaa):cf (l++m) s=cf l s+cf m s:=by
 induction l with
 | nil=>simp [cf]
 | cons p l a=>simp only [List.cons_append,cf,a]; omega
def Nf.nK (h:Nf (a::V)):cf (a::V) a.1=a.2:=by
 rw [fh,af9 rfl,Ad fun q b=>(jT (h.head q b)).symm] <;> rfl
def Nf.EH {l:dm} {s:Xaa} (h:∀ p,p∈l->iB s p.1):cf l s=0:=Ad fun p a=>(jT (h p a)).symm
theorem Nf.Mz:∀ {l m:dm},Nf l->Nf m->(∀ s,cf l s % 4294967296=cf m s % 4294967296)->l=m
 | [],[],_,_,_=>rfl
 | [],q::m,_,e,h=>by
  have:=h q.1
  rw [e.nK] at this;have hq:=e.G6 q (cv9 ..);simp only [cf] at this;omega
 | p::l,[],hl,_,h=>by
  have:=h p.1
  rw [hl.nK] at this;have hq:=hl.G6 p (cv9 ..);simp only [cf] at this;omega
 | p::l,q::m,hl,e,h=>by
  have hp:=hl.G6 p (cv9 ..);have hq:=e.G6 q (cv9 ..)
  by_cases h1:iB p.1 q.1
  ·exfalso
   have:=h p.1
   rw [hl.nK,Nf.EH (l:=q::m) (s:=p.1) (by
    intro r f;rcases bd9.1 f with rfl | f
    ·exact h1
    ·exact jR h1 (e.head r f))] at this
   omega
  ·by_cases h2:iB q.1 p.1
   ·exfalso
    have:=h q.1
    rw [e.nK,Nf.EH (l:=p::l) (s:=q.1) (by
     intro r f;rcases bd9.1 f with rfl | f
     ·exact h2
     ·exact jR h2 (hl.head r f))] at this
    omega
   ·have he:=An _ _ h1 h2;have h3:=h p.1;rw [hl.nK,he,e.nK] at h3;have g:p=q:=by
     obtain ⟨a,b⟩:=p;obtain ⟨c,d⟩:=q;simp only at he h3 hp hq;subst he
     congr 1
     rw [dw9 hp.2,dw9 hq.2] at h3;exact h3
    subst g
    congr 1
    refine Nf.Mz hl.tail e.tail fun s=>?_
    by_cases i:p.1=s
    ·subst i;rw [Nf.EH hl.head,Nf.EH e.head]
    ·have:=h s
     simp only [cf,if_neg i,Nat.zero_add] at this;exact this
def rN (s:Xaa):ec [] s=0:=rfl
def pJ (p:Xaa × Nat) (D:dm) (s:Xaa):ec (p::D) s=if s=p.1 then p.2 else ec D s:=by
 unfold ec;rw [fe9]
 by_cases h:s=p.1
 ·simp [h]
 ·simp [h]
def GP (D:dm) (s t:Xaa) (v:Nat):ec (D++[(t,v)]) s=if (D.find? fun p=>decide (s=p.1)).isSome then ec D s else if s=t then v else 0:=by
 induction D with
 | nil=>simp [pJ,rN]
 | cons p D a =>
  rw [ez9,pJ,pJ,a,fe9]
  by_cases h:s=p.1
  ·simp [h]
  ·simp only [decide_eq_false h,if_neg h]
def Dh (h:(V.find? fun p=>decide (O=p.1)).isSome=false):ec V O=0:=by
 unfold ec;cases a:(V.find? fun p=>decide (O=p.1)) with
 | none=>rfl
 | some x=>rw [a] at h; cases h
def ND (D:dm) (t:Xaa) (v:Nat) (s:Xaa):ec (D.map fun p=>if t=p.1 then (p.1,v) else p) s=if s=t/\(D.find? fun p=>decide (t=p.1)).isSome then v else ec D s:=by
 induction D with
 | nil=>simp [rN]
 | cons p D a =>
  rw [bo9,pJ,a,pJ,fe9]
  by_cases h:t=p.1
  ·subst h
   by_cases k:s=p.1 <;> simp [k]
  ·rw [ac9 h]
   by_cases k:s=p.1
   ·subst k
    have:¬ p.1=t:=fun e=>h e.symm
    simp [this]
   ·simp only [decide_eq_false h,if_neg k]
def Dz (D:dm) (t:Xaa) (v:Nat) (s:Xaa):ec (vV D t v) s=if s=t then v else ec D s:=by
 unfold vV;split
 ·rename_i a;rw [ND]
  by_cases k:s=t <;> simp [k,a]
 ·rename_i a;rw [GP]
  by_cases k:s=t
  ·subst k;simp [a]
  ·rw [ac9 k];split
   ·rfl
   ·rename_i h2;rw [Dh (Bool.eq_false_iff.2 h2)]
def IY (l:dm) (s:Xaa):∀ D:dm,ec (l.foldl jr D) s % 4294967296=(ec D s+cf l s) % 4294967296:=by
 induction l with
 | nil=>intro D; simp [cf]
 | cons p l a =>
  intro D;rw [br9,a];unfold jr;rw [fh,Dz]
  by_cases h:s=p.1
  ·subst h;rw [af9 rfl,af9 rfl,Nat.mod_add_mod]
   congr 1; omega
  ·rw [ac9 h,ac9 fun e=>h e.symm]
   congr 1; omega
def Jc (h:(V.map (·.1)).Nodup) (t:Xaa) (v:Nat):((vV V t v).map (·.1)).Nodup:=by
 unfold vV;have h1:(V.find? fun p=>decide (t=p.1)).isSome=true↔t∈V.map (·.1):=by
  rw [List.find?_isSome];simp [eq_comm]
 split
 ·have e:(V.map fun p=>if t=p.1 then (p.1,v) else p).map (·.1)=V.map (·.1):=by
   rw [bf9];refine ci9 fun p f=>?_
   simp only [Function.comp];split <;> rfl
  rw [e]; exact h
 ·rename_i hn;rw [ao9,cq9];refine ⟨h,ai,?_⟩;rintro a d b c rfl;simp only [List.map_cons,List.map_nil,List.mem_singleton] at c;subst c;exact hn (h1.2 d)
def AY (l:dm):∀ D:dm,(D.map (·.1)).Nodup->((l.foldl jr D).map (·.1)).Nodup:=by
 induction l with
 | nil=>intro D h; exact h
 | cons p l a =>
  intro D h;rw [br9];exact a _ (Jc h _ _)
def KC (l:dm):∀ D:dm,(∀ s,ec D s<4294967296)->∀ s,ec (l.foldl jr D) s<4294967296:=by
 induction l with
 | nil=>intro D h; exact h
 | cons p l a =>
  intro D h;rw [br9];refine a _ fun s=>?_
  unfold jr;rw [Dz];split
  ·exact fs9 _ bQ
  ·exact h s
def Rs (h:O∉V.map (·.1)):ec V O=0:=by
 refine Dh ?_;cases a:(V.find? fun p=>decide (O=p.1)).isSome with
 | false=>rfl
 | true =>
  rw [List.find?_isSome] at a;obtain ⟨x,b,c⟩:=a;exact absurd (an9.2 ⟨x,b,(ah9 c).symm⟩) h
def pick (g:Xaa->Nat) (ks:List (List UInt8)):dm:=ks.filterMap fun k=>if g ⟨k.toArray⟩=0 then none else some (⟨k.toArray⟩,g ⟨k.toArray⟩)
def Uc (g:Xaa->Nat) (s:Xaa):∀ ks:List (List UInt8),ks.Nodup->cf (pick g ks) s=if s.data.toList∈ks then g s else 0:=by
 intro ks
 induction ks with
 | nil=>intro _; simp [pick,cf]
 | cons k ks ih =>
  intro h;rw [ed9] at h;have ih:=ih h.2;unfold pick at ih ⊢;rw [List.filterMap_cons];have b:(⟨k.toArray⟩:Xaa)=s↔s.data.toList=k:=by
   constructor
   ·rintro rfl; simp
   ·intro e; exact yR (by simp [e])
  by_cases hk:s.data.toList=k
  ·have hs:=b.2 hk;rw [hs];split
   ·rename_i a;split at a
    ·rename_i h0;rw [ih,h0]
     simp
    ·cases a
   ·rename_i a;split at a
    ·cases a
    ·cases a;rw [fh,ih,af9 rfl,ac9 (by rw [hk]; exact h.1),af9 (by rw [hk]; simp)] <;> rfl
  ·have hs:¬ (⟨k.toArray⟩:Xaa)=s:=fun e=>hk (b.1 e)
   split
   ·rw [ih];simp [hk]
   ·rename_i a;split at a
    ·cases a
    ·cases a;rw [fh,ih,ac9 hs];simp [hk]
def T4 (g:Xaa->Nat) (f:∀ s,g s<4294967296) {ks:List (List UInt8)} (h:ks.Pairwise fun a b=>a<b):Nf (pick g ks):=by
 refine ⟨?_,?_⟩
 ·unfold pick;refine List.Pairwise.filterMap _ ?_ h;intro a b d p c q e;split at c
  ·cases c
  ·split at e
   ·cases e
   ·cases c; cases e;unfold iB;simpa using d
 ·intro p c;unfold pick at c;rw [dv9] at c;obtain ⟨k,_,hk⟩:=c;split at hk
  ·cases hk
  ·rename_i h0;cases hk;exact ⟨h0,f _⟩
def yN (D:dm):(keysOf (vm D)).Perm (D.map fun p=>p.1.data.toList):=by
 unfold keysOf vm;rw [bf9];exact List.mergeSort_perm _ _
def ur (h:(V.map (·.1)).Nodup):(keysOf (vm V)).Pairwise fun a b=>a<b:=by
 have hn:(keysOf (vm V)).Nodup:=by
  refine (yN V).nodup_iff.2 ?_
  have:(V.map fun p=>p.1.data.toList)=(V.map (·.1)).map fun s=>s.data.toList:=by rw [bf9]; rfl
  rw [this];exact cp9.2 (h.imp fun f e=>f (yR e))
 have i:(keysOf (vm V)).Pairwise fun a b=>a<=b:=by
  unfold keysOf;refine (List.pairwise_mergeSort ?_ ?_ _).imp ?_
  ·intro a b c h1 h2;exact ai9 (List.le_trans (α:=UInt8) (ah9 h1) (ah9 h2))
  ·intro a b;simp only [Bool.or_eq_true,decide_eq_true_eq];exact List.le_total (α:=UInt8) a b
  ·intro a b g;exact ah9 g
 refine (i.and hn).imp ?_;rintro a b ⟨h1,h2⟩
 by_cases d:a<b
 ·exact d
 ·exact absurd (List.le_antisymm (α:=UInt8) h1 (List.not_lt.1 d)) h2
def HK (l:dm):FE l=pick (ec (l.foldl jr [])) (keysOf (vm (l.foldl jr []))):=rfl
def Bh (l:dm):Nf (FE l):=by
 rw [HK];exact T4 _ (KC l [] (fun s=>by rw [rN]; decide)) (ur (AY l [] ai))
def BX (l:dm) (s:Xaa):cf (FE l) s=cf l s % 4294967296:=by
 have h1:=IY l s [];rw [rN,bv9,dw9 (KC l [] (fun s=>by rw [rN]; decide) s)] at h1;rw [HK,Uc _ _ _ ((ur (AY l [] ai)).imp fun h e=>by subst e; exact List.lt_irrefl (α:=UInt8) _ h)];split
 ·exact h1
 ·rename_i hn;rw [<- h1,Rs];intro a;refine hn ((yN _).mem_iff.2 ?_);obtain ⟨p,b,rfl⟩:=an9.1 a;exact an9.2 ⟨p,b,rfl⟩
def fo (n:Nat) (l:dm):dm:=l.filterMap fun p=>if p.2*n % 4294967296=0 then none else some (p.1,p.2*n % 4294967296)
def fF:Nat->dm->dm->dm
 | 0,_,_=>[]
 | n+1,x,y=>match x,y with
  | [],[]=>[]
  | p::x,[]=>p::fF n x []
  | [],q::y=>q::fF n [] y
  | p::x,q::y=>if iB p.1 q.1 then p::fF n x (q::y) else if iB q.1 p.1 then q::fF n (p::x) y else if (p.2+q.2) % 4294967296=0 then fF n x y else (p.1,(p.2+q.2) % 4294967296)::fF n x y
def GB (x y:dm):dm:=fF (x.length+y.length) x y
def Ly (h:Nf V):Nf (fo H V):=by
 refine ⟨?_,?_⟩
 ·unfold fo;refine List.Pairwise.filterMap _ ?_ h.1;intro a b d p c q e;split at c
  ·cases c
  ·split at e
   ·cases e
   ·cases c; cases e;exact d
 ·intro p c;unfold fo at c;rw [dv9] at c;obtain ⟨k,_,hk⟩:=c;split at hk
  ·cases hk
  ·rename_i h0;cases hk;exact ⟨h0,fs9 _ bQ⟩
def MG (n:Nat) (l:dm) (s:Xaa):cf (fo n l) s % 4294967296=cf l s*n % 4294967296:=by
 induction l with
 | nil=>simp [fo,cf]
 | cons p l b =>
  have hc:cf (fo n (p::l)) s=(if p.1=s then p.2*n % 4294967296 else 0)+cf (fo n l) s:=by
   unfold fo;rw [List.filterMap_cons];split
   ·rename_i a;split at a
    ·rename_i h0;rw [h0]; simp
    ·cases a
   ·rename_i a;split at a
    ·cases a
    ·cases a;rfl
  rw [hc,el9,b,fh]
  by_cases h:p.1=s
  ·rw [af9 h,af9 h,cz9,fv9,<- el9]
  ·rw [ac9 h,ac9 h,bv9]; simp
def rO (h:a∈fF H V g):(∃ p,p∈V/\p.1=a.1)\/(∃ q,q∈g/\q.1=a.1):=by
 induction H generalizing V g with
 | zero=>simp [fF] at h
 | succ H d =>
  rcases V with _ | ⟨p,V⟩ <;> rcases g with _ | ⟨q,g⟩
  ·simp [fF] at h
  ·simp only [fF,List.mem_cons] at h;rcases h with rfl | h
   ·exact .inr ⟨_,ai,rfl⟩
   ·rcases d h with ⟨b,c,e⟩ | ⟨b,c,e⟩
    ·simp at c
    ·exact .inr ⟨b,by simp [c],e⟩
  ·simp only [fF,List.mem_cons] at h;rcases h with rfl | h
   ·exact .inl ⟨_,ai,rfl⟩
   ·rcases d h with ⟨b,c,e⟩ | ⟨b,c,e⟩
    ·exact .inl ⟨b,by simp [c],e⟩
    ·simp at c
  ·simp only [fF] at h;split at h
   ·rcases bd9.1 h with rfl | h
    ·exact .inl ⟨_,ai,rfl⟩
    ·rcases d h with ⟨b,c,e⟩ | ⟨b,c,e⟩
     ·exact .inl ⟨b,by simp [c],e⟩
     ·exact .inr ⟨b,c,e⟩
   ·split at h
    ·rcases bd9.1 h with rfl | h
     ·exact .inr ⟨_,ai,rfl⟩
     ·rcases d h with ⟨b,c,e⟩ | ⟨b,c,e⟩
      ·exact .inl ⟨b,c,e⟩
      ·exact .inr ⟨b,by simp [c],e⟩
    ·split at h
     ·rcases d h with ⟨b,c,e⟩ | ⟨b,c,e⟩
      ·exact .inl ⟨b,by simp [c],e⟩
      ·exact .inr ⟨b,by simp [c],e⟩
     ·rcases bd9.1 h with rfl | h
      ·exact .inl ⟨p,ai,rfl⟩
      ·rcases d h with ⟨b,c,e⟩ | ⟨b,c,e⟩
       ·exact .inl ⟨b,by simp [c],e⟩
       ·exact .inr ⟨b,by simp [c],e⟩
def Nf.cons {p:Xaa × Nat} {l:dm} (h:Nf l) (hc:p.2≠0/\p.2<4294967296) (hl:∀ q,q∈l->iB p.1 q.1):Nf (p::l) :=
 ⟨dp9.2 ⟨hl,h.1⟩,fun q a=>by rcases bd9.1 a with rfl | a; exact hc; exact h.2 q a⟩
def TB (c:Nf V) (d:Nf g):Nf (fF H V g):=by
 induction H generalizing V g with
 | zero=>exact Nf.nil
 | succ H h =>
  rcases V with _ | ⟨p,V⟩ <;> rcases g with _ | ⟨q,g⟩
  ·exact Nf.nil
  ·simp only [fF];refine (h Nf.nil d.tail).cons (d.2 q ai) fun r f=>?_
   rcases rO f with ⟨a,b,e⟩ | ⟨a,b,e⟩
   ·simp at b
   ·rw [<- e]; exact d.head a b
  ·simp only [fF];refine (h c.tail Nf.nil).cons (c.2 p ai) fun r f=>?_
   rcases rO f with ⟨a,b,e⟩ | ⟨a,b,e⟩
   ·rw [<- e]; exact c.head a b
   ·simp at b
  ·simp only [fF];split
   ·rename_i h1;refine (h c.tail d).cons (c.2 p ai) fun r f=>?_
    rcases rO f with ⟨a,b,e⟩ | ⟨a,b,e⟩
    ·rw [<- e]; exact c.head a b
    ·rw [<- e];rcases bd9.1 b with rfl | b
     ·exact h1
     ·exact jR h1 (d.head a b)
   ·rename_i h1;split
    ·rename_i h2;refine (h c d.tail).cons (d.2 q ai) fun r f=>?_
     rcases rO f with ⟨a,b,e⟩ | ⟨a,b,e⟩
     ·rw [<- e];rcases bd9.1 b with rfl | b
      ·exact h2
      ·exact jR h2 (c.head a b)
     ·rw [<- e]; exact d.head a b
    ·rename_i h2;have he:=An _ _ h1 h2;split
     ·exact h c.tail d.tail
     ·rename_i h0;refine (h c.tail d.tail).cons ⟨h0,fs9 _ bQ⟩ fun r f=>?_
      rcases rO f with ⟨a,b,e⟩ | ⟨a,b,e⟩
      ·rw [<- e]; exact c.head a b
      ·rw [<- e];show iB p.1 a.1;rw [he]; exact d.head a b
def S4 {x y:dm} (hn:x.length+y.length<=H) (s:Xaa):cf (fF H x y) s % 4294967296=(cf x s+cf y s) % 4294967296:=by
 induction H generalizing x y with
 | zero =>
  have h1:x=[]:=dx9.1 ad;have h2:y=[]:=dx9.1 ad;subst h1 h2;rfl
 | succ H a =>
  rcases x with _ | ⟨p,x⟩ <;> rcases y with _ | ⟨q,y⟩
  ·rfl
  ·simp only [fF,fh,AT]
   have:=a (x:=[]) (y:=y) (by simp at hn ⊢; omega)
   simp only [AT] at this;omega
  ·simp only [fF,fh,AT]
   have:=a (x:=x) (y:=[]) (by simp at hn ⊢; omega)
   simp only [AT] at this;omega
  ·simp only [List.length_cons] at hn;simp only [fF];split
   ·have:=a (x:=x) (y:=q::y) (by simp; omega)
    simp only [fh] at this ⊢;omega
   ·rename_i h1;split
    ·have:=a (x:=p::x) (y:=y) (by simp; omega)
     simp only [fh] at this ⊢;omega
    ·rename_i h2;have he:=An _ _ h1 h2
     have:=a (x:=x) (y:=y) ad
     split
     ·rename_i h0;simp only [fh,<- he];split
      ·omega
      ·omega
     ·simp only [fh,<- he];split
      ·omega
      ·omega
def E4 (a:Nf V) (b:Nf g):Nf (GB V g):=TB a b
def EZ (x y:dm) (s:Xaa):cf (GB x y) s % 4294967296=(cf x s+cf y s) % 4294967296:=S4 (au9 _) s
def EK (n:Nat) (l:dm) (s:Xaa):cf (l.map fun p=>(p.1,p.2*n % 4294967296)) s % 4294967296=cf l s*n % 4294967296:=by
 induction l with
 | nil=>simp [cf]
 | cons p l a =>
  simp only [List.map_cons,cf];rw [el9,a]
  by_cases h:p.1=s
  ·rw [af9 h,af9 h,cz9,fv9,<- el9]
  ·rw [ac9 h,ac9 h,bv9]; simp
def vG (x:bJ) (n:Nat):bJ:=⟨fo n x.ah,x.num*n % 4294967296⟩
def j1 (x y:bJ):bJ:=⟨GB x.ah y.ah,(x.num+y.num) % 4294967296⟩
def Cp (n:Nat) (l:dm):(fo n l).length<=l.length:=List.length_filterMap_le _ _
def XR (r:Option Nat) (p:Xac) (l i:Nat) (k:T):T :=
 T.loop [aM] [vI (0:Int)] <| fun (a:Int) =>
 bq a l
  (T.need (fI a l) <|
  T.bi p <| fun (d:Xax) =>
  T.af (d.add (aH a 2)) [.string,.int .u32] <| fun (e:Xaa) (f:Int) =>
  T.new [bZ,aC (0:Int)] 64 <| fun (b:Xax) =>
  T.ax b [.string e,aC f] <|
  T.af b [.string] <| fun (c:Xaa) =>
  bR (Instr.lookup 196 (.map r) (.string c) false) false [(false,[.int .u32])] <| fun (g:Int) =>
  T.af (b.add 1) [.int .u32] <| fun (h:Int) =>
  T.dZ Xaz (Instr.mapUpdate 196 (.map r) (.string c) (aC (IntKind.wrap .u32 (g+h)))) <|
  T.again i [vI (bn (a+(1:Int)))]) k
def wg (l:dm):∀ D:dm,(l.foldl jr D).length<=D.length+l.length:=by
 induction l with
 | nil=>intro D; simp
 | cons p l a =>
  intro D;rw [br9];have h1:=a (jr D p);have h2:=HY D p.1 ((ec D p.1+p.2) % 4294967296);have b:(jr D p).length<=D.length+1:=h2;simp only [List.length_cons];omega
def K9 {h:Hp} {us D:dm} (s:e.length=b) (v:ik h c Z us) (hl:us.length<=2^40) (I:∀ t,t∈us->t.1.size<=maxLen) (m:ff h H (vm D)) (M:H∉aG c)
  (hk:∀ J h',ff h' H (vm (us.foldl jr D))->Ch [H] h h'->k (e++[J]) f h'):XR (some H) c Z b k e f h:=by
 have hll:=v.len;have N:∀ J:List Xab->Hp->Prop,(e++[J])[b]?=some J:=by intro J; subst s; simp
 unfold XR bq aH bR bn fI aC bZ aM;refine aQ (cs:=cF) (fun y w h'=>∃ (i:Nat),y.1=(i:Int)/\i<=us.length/\w=us.length-i/\Ch [H] h h'/\ff h' H (vm ((us.take i).foldl jr D))) ((0:Int),()) us.length rfl
  ⟨0,rfl,ad,ad,Ch.refl _ _,by simpa using m⟩ ?_
 rintro ⟨n8,⟨⟩⟩ w E ⟨i,hi,F,rfl,u,x⟩;simp only at hi;subst hi;refine ak ?_;refine aK ?_ ?_<;>intro O
 ·have d:i<us.length:=ad
  obtain ⟨a,rfl,hc⟩:=(v.aj u (by intro j A G; rw [ak9] at G; subst G; exact M A)).cells i d;have o:us.take (i+1)=us.take i++[us[i]]:=ag9 d;have hsz:=I us[i] (al9 d);generalize us[i]=t at hc o hsz;refine bK rfl ?_;rw [cr i];refine ar (t.1,(t.2:Int),()) hc (ak ?_);refine bm ?_;intro W P Q X;refine bP P ?_;intro h6 r R Y;have r:br h6 E.size 64 (df t):=r;have q:Ext E h6:=bU Q R;have m6:=x.aj q ai;refine aw r (t.1,()) (ak ?_);refine qv m6 _ ?_;rw [ay];refine aw r ((t.2:Int),()) (ak ?_);generalize B:(us.take i).foldl jr D=C at m6;refine I2 (n:=(ec C t.1+t.2) % 4294967296) m6 hsz ?_ ?_
  ·rw [eu,iU,ff9]
  ·intro h7 S U z7;have hw:=hY i;have V:(us.take (i+1)).foldl jr D=vV C t.1 ((ec C t.1+t.2) % 4294967296):=by
    rw [o,cg9,B] <;> rfl
   refine aD (cs:=cF) (((i+1:Nat):Int),()) (us.length-(i+1)) (N _) ad (aq9 (fun z=>[Value.int .i64 z]) hw) ⟨i+1,rfl,ad,rfl,?_,by rw [V]; exact S⟩;exact Ch.trans (Ch.trans u q ai) U (fun j A _=>A)
 ·have hi:i=us.length:=ad
  subst hi;rw [bl9] at x;exact hk _ _ x u
def ik.Xd {us:dm} (v:ik Y c H us) (hn:us≠[]):∀ i,i∈aG c->i<Y.size:=by
 intro i hi;cases us with
 | nil=>exact absurd rfl hn
 | cons t us =>
  obtain ⟨a,rfl,hc⟩:=v.cells 0 ai;simp only [aG,List.mem_singleton] at hi;subst hi;rw [show a.add (0*2)=a by simp [Addr.add]] at hc;have h1:=hc.1;unfold gS at h1;split at h1
  ·rename_i b
   have:=eP b
   simpa [iF] using this
  ·cases h1
def Ya:Tryz.prog.underlying 59=some (.slice 50):=av
def Yz:(Tryz.prog.info? 50).map (fun i=>(i.zero,i.size,i.bytes))=some (some (.slice none 0 0),1,24):=av
def VK {h:Hp} {p q:Xac} {l c m d:Nat} {x y:bJ} (v:ik h p l x.ah) (u:ik h q m y.ah) (P:∀ i,i∈aG p->i<h.size) (Q:∀ i,i∈aG q->i<h.size)
  (hl:x.ah.length+y.ah.length<=2^40) (R:∀ t,t∈x.ah->t.1.size<=maxLen) (S:∀ t,t∈y.ah->t.1.size<=maxLen) :
  HC Xaz 66 #[gU p l c x,gU q m d y] h fun w h'=>Ext h h'/\∃ p' l' c',w=gU p' l' c' (nl x y)/\SL h' h.size 64 2 p' l' c' ((nl x y).ah.map df):=by
 refine aX (args:=[.agg #[.slice p l c,.int .u32 x.num],.agg #[.slice q m d,.int .u32 y.num]]) mixed Tryz.func66 av (Cj p l c x.num q m d y.num) ?_;unfold Br aR aY bq aH bM bd bR aC aZ bZ aM;refine bm ?_;intro h1 b1 F z1;refine bm ?_;intro h2 b2 o z2;refine bm ?_;intro e b3 r z3;refine nj _ ?_;intro X G n z4;refine ⟨(some e.size,()),rfl,ak ?_⟩;have b1:=((b1.aj o ai).aj r ai).aj n ai;have b2:=(b2.aj r ai).aj n ai;have b3:=b3.aj n ai;have e04:=((F.trans o).trans r).trans n;refine aw b1 ((p,l,c),()) (ak ?_);refine aw b2 ((q,m,d),()) (ak ?_);refine nS (cells:=[.slice p l c,.slice q m d]) Ya Yz bQ bQ av ?_;intro H I f Y;have U:ff H e.size (vm []):=G.aj f ai;have b1:=b1.aj f ai;have b2:=b2.aj f ai;have b3:=b3.aj f ai;have e05:=e04.trans f;have hb5:=I.lt;have hm4:=G.lt;refine aQ (cs:=cF) (fun z w h'=>∃ (i:Nat),z.1=(i:Int)/\i<=2/\w=2-i/\Ch [e.size] H h'/\ff h' e.size (vm ((([x.ah,y.ah].take i).flatten).foldl jr []))) ((0:Int),()) 2 rfl
  ⟨0,rfl,ad,ad,Ch.refl _ _,U⟩ ?_
 rintro ⟨n8,⟨⟩⟩ w h6 ⟨i,hi,K,rfl,b,g⟩;simp only at hi;subst hi;refine ak ?_;have b6:=I.aj b (by simp; omega);have a:Ext h h6:=bU e05 b;refine aK ?_ ?_<;>intro V
 ·refine bK rfl ?_;rw [cr i,ay];have hw:=hY i;have s:i=0\/i=1:=ad
  rcases s with rfl | rfl
  ·refine aw b6 ((p,l,c),()) (ak ?_);refine K9 (us:=x.ah) (D:=[]) rfl (v.aj a ai) ad R g (fun A=>by have:=P _ A; omega) ?_;intro J L B C;refine aD (cs:=cF) (((0+1:Nat):Int),()) (2-(0+1)) rfl ad (aq9 (fun z=>[Value.int .i64 z]) hw) ⟨0+1,rfl,ad,rfl,Ch.trans b C (fun j k _=>k),?_⟩;simpa using B
  ·refine aw b6 ((q,m,d),()) (ak ?_);refine K9 (us:=y.ah) (D:=x.ah.foldl jr []) rfl (u.aj a ai) ad S (by simpa using g) (fun A=>by have:=Q _ A; omega) ?_;intro J L B C;refine aD (cs:=cF) (((1+1:Nat):Int),()) (2-(1+1)) rfl ad (aq9 (fun z=>[Value.int .i64 z]) hw) ⟨1+1,rfl,ad,rfl,Ch.trans b C (fun j k _=>k),?_⟩;simpa using B
 ·have hi:i=2:=ad
  subst hi;have g:ff h6 e.size (vm ((x.ah++y.ah).foldl jr [])):=by simpa using g
  have b1:=b1.aj b (by simp; omega);have b2:=b2.aj b (by simp; omega);have b3:=b3.aj b (by simp; omega);rw [ay,ay];refine aw b1 ((x.num:Int),()) (ak ?_);refine aw b2 ((y.num:Int),()) (ak ?_);refine aE (Ta g (by have:=wg (x.ah++y.ah) []; rw [ae9,List.length_nil] at this; omega) _) ?_;rintro _ L ⟨M,p',l',c',rfl,N⟩;refine ⟨((p',l',c'),IntKind.wrap .u32 ((x.num:Int)+(y.num:Int)),()),rfl,ak ?_⟩;refine bP (b3.aj M ai) ?_;intro W E O Z;have E:br W h2.size 53 [.slice p' l' c',.int .u32 (IntKind.wrap .u32 ((x.num:Int)+(y.num:Int)))]:=E;refine aw E ((p',l',c'),IntKind.wrap .u32 ((x.num:Int)+(y.num:Int)),()) ?_;have hz6:=a.size;have hz2:=(F.trans o).size;have hb3:=b3.lt;refine ⟨bU (a.trans M) O,p',l',c',?_,(N.bF O (fun j k=>by have:=(N.cw k).1; simp; omega)).mono ad⟩;unfold gU nl;rw [eu];dsimp only;rw [iU,ff9]
def r9 (p:UInt8->Bool) (l:List UInt8) (k:Nat) (hk:k<l.length):(l.take (k+1)).all p=((l.take k).all p && p (l.getD k 0)):=by
 rw [ag9 hk,List.all_append];simp [List.getD,List.getElem?_eq_getElem hk]
def tz (s:Xaa) (h:Hp) (u:s.size<=9223372036854775807):uo Xaz 78 [.string s] h (.bool (cB s.data.toList)):=by
 refine eX mixed Tryz.func78 av (pN s) ?_;have l:s.data.toList.length=s.size:=ai
 unfold kh aY aT bM fI lr bH aM ct;unfold cB;rw [l];refine ao ?_ ?_<;>intro h1
 ·have h1:=ah9 h1;rw [show decide (0<s.size)=false from aj9 ad];exact ⟨ai,rfl⟩
 have h1:=ar9 h1;refine ao ?_ ?_<;>intro h2
 ·have h2:=ah9 h2;rw [show decide (s.size<=32)=false from aj9 ad];exact ⟨ai,rfl⟩
 have h2:=ar9 h2;rw [show decide (0<s.size)=true from ai9 ad,show decide (s.size<=32)=true from ai9 ad];refine gR ?_;refine aJ (C5 (s.data.toList.getD 0 0) h) ?_;refine ao ?_ ?_<;>intro f
 ·have f:dE (s.data.toList.getD 0 0)=false:=by simpa using f
  rw [f];exact ⟨ai,rfl⟩
 have f:dE (s.data.toList.getD 0 0)=true:=by simpa using f
 rw [f];refine aQ (cs:=jP) (fun x n h'=>h'=h/\∃ k:Nat,x.2.1=(k:Int)/\k<=s.size/\n=s.size-k/\(s.data.toList.take k).all (fun c=>dE c || dH c)=true)
  (false,(0:Int),()) s.size rfl ⟨rfl,0,rfl,ad,ad,ai⟩ ?_
 rintro ⟨b,n,⟨⟩⟩ m h' ⟨rfl,k,hk,p,rfl,a⟩;simp only at hk;subst hk;refine ao ?_ ?_<;>intro o
 ·have j:(k:Int)<s.size:=ah9 o;have hst:=r9 (fun c=>dE c || dH c) s.data.toList k ad;rw [a,bj9] at hst;have e:∀ k':Nat,(dE (s.data.toList.getD k 0) || dH (s.data.toList.getD k 0))=false->s.data.toList.all (fun c=>dE c || dH c)=false:=by
   intro k' q;rw [q] at hst;cases r:s.data.toList.all (fun c=>dE c || dH c) with
   | false=>rfl
   | true =>
    have:(s.data.toList.take (k+1)).all (fun c=>dE c || dH c)=true:=bm9.2 fun c hc=>bm9.1 r c (cy9 hc)
    rw [this] at hst; cases hst
  have d:(dE (s.data.toList.getD k 0) || dH (s.data.toList.getD k 0))=true->T.again 0 [.bool b,vI (IntKind.wrap .i64 ((k:Int)+1))] ([]++[Jl (cs:=jP) (fun x n h''=>h''=h'/\∃ k:Nat,x.2.1=(k:Int)/\k<=s.size/\n=s.size-k/\(s.data.toList.take k).all (fun c=>dE c || dH c)=true) (s.size-k)]) (fun v' h''=>v'=.bool (true && true && true && s.data.toList.all (fun c=>dE c || dH c) && !(rp s.data.toList).2.2)/\h''=h') h':=by
   intro ht;rw [wrap_i64 ad ad];exact aD (cs:=jP) (b,(k:Int)+1,()) (s.size-(k+1)) rfl ad rfl ⟨rfl,k+1,(show ((k:Int)+1)=((k+1:Nat):Int) from ad),ad,rfl,by rw [hst,ht]⟩
  refine dy ⟨(by show (0:Int)<=(k:Int); omega),j⟩ ?_;refine aJ (C5 (s.data.toList.getD k 0) h') ?_;refine ao ?_ ?_<;>intro g
  ·have g:dE (s.data.toList.getD k 0)=false:=by simpa using g
   refine dy ⟨(by show (0:Int)<=(k:Int); omega),j⟩ ?_;refine aJ (Qv (s.data.toList.getD k 0) h') ?_;refine ao ?_ ?_<;>intro i
   ·have i:dH (s.data.toList.getD k 0)=false:=by simpa using i
    rw [e 0 (by rw [g,i]; rfl)];exact ⟨ai,rfl⟩
   ·have i:dH (s.data.toList.getD k 0)=true:=by simpa using i
    exact d (by rw [i]; simp)
  ·have g:dE (s.data.toList.getD k 0)=true:=by simpa using g
   exact d (by rw [g]; simp)
 ·have t:¬ (k:Int)<s.size:=ar9 o;have hk:k=s.data.toList.length:=ad
  rw [hk,bl9] at a;rw [a];refine H0 (En s h') ?_;exact ⟨ai,rfl⟩
def dv (c:UInt8):Nat:=if c.toNat<58 then c.toNat-48 else c.toNat-87
def wP (b:Nat) (l:List UInt8):Nat:=l.foldl (fun n c=>n*b+dv c) 0
def BO (c:UInt8):Bool:=dH c || (97<=c.toNat && c.toNat<=102)
def MZ (c:UInt8):BO c=true↔(48<=cN c/\cN c<=57)\/(97<=cN c/\cN c<=102):=by
 unfold BO;rw [Bool.or_eq_true,L6];unfold cN;simp only [Bool.and_eq_true,decide_eq_true_eq];omega
def Vp (c:UInt8) (h:BO c=true):(cN c<=57->(dv c:Int)=cN c-48)/\(57<cN c->(dv c:Int)=cN c-87)/\dv c<16:=by
 have:=(MZ c).1 h
 unfold dv cN at *;split <;> omega
theorem wZ:∀ (l:List UInt8) (n:Nat),(∀ c∈l,dv c<16)->l.foldl (fun n c=>n*16+dv c) n<(n+1)*16^l.length
 | [],n,_=>ai
 | c::l,n,a=>by
  rw [br9,ck9,Nat.pow_succ];have h1:=wZ l (n*16+dv c) (fun x b=>a x (by simp [b]));have h2:=a c ai;have d:(n*16+dv c+1)*16^l.length<=((n+1)*16)*16^l.length:=cu9 _ ad;have e:((n+1)*16)*16^l.length=(n+1)*(16^l.length*16):=by rw [Nat.mul_assoc,fn9 16]
  omega
def RG (s:Xaa) (i j:Nat):(s.extract i j).data.toList=(s.data.toList.drop i).take (j-i):=by
 rw [ByteArray.data_extract,Array.toList_extract,List.extract_eq_take_drop]
def PV (hl:U.length<=8) (a:∀ i,i<U.length->BO (U.getD i 0)=true):wP 16 U<4294967296:=by
 have h1:=wZ U 0 (fun c hc=>by
  obtain ⟨i,hi,rfl⟩:=bg9 hc
  have:=a i hi
  simp only [List.getD,List.getElem?_eq_getElem hi,Option.getD_some] at this;exact (Vp _ this).2.2)
 have h2:16^U.length<=16^8:=Nat.pow_le_pow_right ad ad;have b:(16:Nat)^8=4294967296:=rfl;unfold wP;omega
def getD_take (hi:Z<H):(U.take H).getD Z 0=U.getD Z 0:=by
 rw [cf9,eg9,af9 hi,<- cf9]
def fE:List UInt8:=[48,49,50,51,52,53,54,55,56,57,97,98,99,100,101,102]
def NL (c:UInt8):fE.contains c=BO c:=iJ (fun c=>fE.contains c) BO (by decide +kernel) c
def gk (l:List UInt8):Nat × Nat :=
 if l.take 2=[48,120] then
  (if 8<cy (l.drop 2) fE\/cy (l.drop 2) fE=0 then (0,0) else (2+cy (l.drop 2) fE,wP 16 ((l.drop 2).take (cy (l.drop 2) fE))))
 else
  (if (1<cy l cL/\l.getD 0 0=48)\/cy l cL=0\/4294967296<=wP 10 (l.take (cy l cL)) then (0,0) else (cy l cL,wP 10 (l.take (cy l cL))))
def O' {set:List UInt8} (hi:H<cy U set):set.contains (U.getD H 0)=true:=by
 have hle:=nM U set;exact (tI U set H ad ad).1 hi
structure Tok where
 kind:Nat
 text:Xaa
 num:Nat
 at_:Nat
def dN:List UInt8:=[9,13,32]
def cI:List UInt8:=fR++cL
def Bu:List UInt8:=[58,44,40,41,43,45,42,61]
inductive Step where
 | stop
 | gY (at_:Nat)
 | tok (t:Tok) (next:Nat)
def QM (s:Xaa) (a:Nat):Step :=
 if a=s.size then .stop
 else if s.data.toList.getD a 0=59 then .stop
 else if dE (s.data.toList.getD a 0)=true then
  if 32<cy (s.data.toList.drop a) cI then .gY a else .tok ⟨1,s.extract a (a+cy (s.data.toList.drop a) cI),0,a⟩ (a+cy (s.data.toList.drop a) cI)
 else if dH (s.data.toList.getD a 0)=true then
  if (gk (s.data.toList.drop a)).1=0\/0<cy (s.data.toList.drop (a+(gk (s.data.toList.drop a)).1)) cI then .gY a
  else .tok ⟨2,s.extract a (a+(gk (s.data.toList.drop a)).1),(gk (s.data.toList.drop a)).2,a⟩ (a+(gk (s.data.toList.drop a)).1)
 else if s.data.toList.getD a 0=39 then
  if s.size<a+3\/(s.data.toList.getD (a+1) 0).toNat<32\/126<(s.data.toList.getD (a+1) 0).toNat\/s.data.toList.getD (a+1) 0=39\/s.data.toList.getD (a+2) 0≠39 then .gY a
  else .tok ⟨2,s.extract a (a+3),(s.data.toList.getD (a+1) 0).toNat,a⟩ (a+3)
 else if Bu.contains (s.data.toList.getD a 0)=true then .tok ⟨3,s.extract a (a+1),0,a⟩ (a+1)
 else .gY a
def lL (s:Xaa) (k:Nat):Step:=QM s (k+cy (s.data.toList.drop k) dN)
def zF (s:Xaa):Nat->Nat->List Tok->List Tok × Nat × Nat
 | 0,_,b=>(b,0,0)
 | f+1,k,b =>
  match lL s k with
  | .stop=>(b,0,0)
  | .gY a=>([],a,20)
  | .tok t k'=>zF s f k' (b++[t])
def Fy (s:Xaa):List Tok × Nat × Nat:=zF s (s.size+1) 0 []
def Tv (l:List UInt8):(gk l).1<=l.length/\(gk l).2<4294967296:=by
 unfold gk;split
 ·rename_i h;have h2:=aq9 List.length h;rw [az9] at h2;simp only [List.length_cons,List.length_nil] at h2;have h3:=nM (l.drop 2) fE;rw [cb9] at h3;split
  ·simp
  ·rename_i a;refine ⟨by simp only; omega,?_⟩;refine PV (by rw [az9]; omega) (fun i hi=>?_);rw [az9] at hi;rw [getD_take ad,<- NL];exact O' ad
 ·have h3:=nM l cL;split
  ·simp
  ·rename_i a;exact ⟨h3,by simp only; omega⟩
variable {h:List Tok} {i:Tok}
def AF {k':Nat} (b:lL O Z=.tok i k'):zF O (H+1) Z h=zF O H k' (h++[i]):=by
 show (match lL O Z with
  | .stop=>(h,0,0)
  | .gY a=>([],a,20)
  | .tok i k'=>zF O H k' (h++[i]))=_
 rw [b]
def CY (b:lL O Z=.stop):zF O (H+1) Z h=(h,0,0):=by
 show (match lL O Z with
  | .stop=>(h,0,0)
  | .gY a=>([],a,20)
  | .tok t k'=>zF O H k' (h++[t]))=_
 rw [b]
def Il (c:lL O Z=.gY b):zF O (H+1) Z h=([],b,20):=by
 show (match lL O Z with
  | .stop=>(h,0,0)
  | .gY b=>([],b,20)
  | .tok t k'=>zF O H k' (h++[t]))=_
 rw [c]
inductive XC where
 | stop
 | gY
 | tok (kind len num:Nat)
def mE (D:List UInt8):XC :=
 if D=[] then .stop
 else if D.getD 0 0=59 then .stop
 else if dE (D.getD 0 0)=true then
  if 32<cy D cI then .gY else .tok 1 (cy D cI) 0
 else if dH (D.getD 0 0)=true then
  if (gk D).1=0\/0<cy (D.drop (gk D).1) cI then .gY else .tok 2 (gk D).1 (gk D).2
 else if D.getD 0 0=39 then
  if D.length<3\/(D.getD 1 0).toNat<32\/126<(D.getD 1 0).toNat\/D.getD 1 0=39\/D.getD 2 0≠39 then .gY
  else .tok 2 3 (D.getD 1 0).toNat
 else if Bu.contains (D.getD 0 0)=true then .tok 3 1 0
 else .gY
def Nu (s:Xaa) (a:Nat):XC->Step
 | .stop=>.stop
 | .gY=>.gY a
 | .tok k n m=>.tok ⟨k,s.extract a (a+n),m,a⟩ (a+n)
def Cg (l:List UInt8) (a j:Nat):(l.drop a).getD j 0=l.getD (a+j) 0:=by
 simp [List.getD_eq_getElem?_getD,List.getElem?_drop]
def JC (s:Xaa) (a:Nat) (j:a<=s.size):QM s a=Nu s a (mE (s.data.toList.drop a)):=by
 unfold QM mE;have g:s.data.toList.length=s.size:=ai
 simp only [Cg,Nat.add_zero,List.drop_drop,List.length_drop,g]
 by_cases h1:a=s.size
 ·rw [af9 h1,af9 (cc9 ad)]; rfl
 have h:¬ s.data.toList.drop a=[]:=fun b=>h1 (by have:=fk9.1 b; omega)
 rw [ac9 h1,ac9 h]
 by_cases h2:s.data.toList.getD a 0=59
 ·rw [af9 h2,af9 h2]; rfl
 rw [ac9 h2,ac9 h2]
 by_cases c:dE (s.data.toList.getD a 0)=true
 ·rw [af9 c,af9 c];split <;> rfl
 rw [ac9 c,ac9 c]
 by_cases d:dH (s.data.toList.getD a 0)=true
 ·rw [af9 d,af9 d];split <;> rfl
 rw [ac9 d,ac9 d]
 by_cases e:s.data.toList.getD a 0=39
 ·rw [af9 e,af9 e]
  by_cases i:s.size<a+3
  ·rw [af9 (.inl i),af9 (.inl ad)]; rfl
  ·by_cases f:(s.data.toList.getD (a+1) 0).toNat<32\/126<(s.data.toList.getD (a+1) 0).toNat\/s.data.toList.getD (a+1) 0=39\/s.data.toList.getD (a+2) 0≠39
   ·rw [af9 (.inr f),af9 (.inr f)]; rfl
   ·rw [ac9 (by intro b; rcases b with b | b; exact i b; exact f b),ac9 (by intro b; rcases b with b | b; omega; exact f b)]; rfl
 rw [ac9 e,ac9 e];split <;> rfl
theorem ux {p:UInt8->Bool}:∀ (l:List UInt8) {c:UInt8},c∈l.takeWhile p->p c=true
 | [],c,h=>by simp at h
 | d::l,c,h=>by
  rw [List.takeWhile_cons] at h;cases a:p d with
  | false=>rw [a] at h; simp at h
  | true =>
   rw [a] at h;simp only [if_true,List.mem_cons] at h;rcases h with rfl | h
   ·exact a
   ·exact ux l h
def j0 {set D:List UInt8} (a:cy U set=0):cy (D.take (cy D set)++U) set=cy D set:=by
 unfold cy at a ⊢;have h1:U.takeWhile (fun c=>set.contains c)=[]:=bs9 a;have h2:D.take (D.takeWhile fun c=>set.contains c).length=D.takeWhile fun c=>set.contains c:=(List.prefix_iff_eq_take.1 (List.takeWhile_prefix _)).symm
 rw [h2,List.takeWhile_append_of_pos,h1,bz9];exact fun c hc=>ux D hc
def fV {set:List UInt8}:cy U set=0↔∀ c r,U=c::r->set.contains c=false:=by
 unfold cy;cases U with
 | nil=>simp
 | cons c r =>
  simp only [List.takeWhile_cons,List.cons.injEq,and_imp];cases h:set.contains c with
  | false=>simp only [Bool.false_eq_true,if_false,List.length_nil,true_iff]; rintro _ _ rfl rfl; exact h
  | true=>simp only [if_true,List.length_cons,Nat.add_one_ne_zero,false_iff]; intro a; have:=a c r rfl rfl; rw [h] at this; cases this
def EN (c:UInt8) (h:cI.contains c=false):cL.contains c=false:=by
 have:=iJ (fun c=>cI.contains c || !cL.contains c) (fun _=>true) (by decide +kernel) c
 simp only [h,Bool.false_or,Bool.not_eq_true'] at this;exact this
def HG (c:UInt8) (h:cI.contains c=false):fE.contains c=false:=by
 have:=iJ (fun c=>cI.contains c || !fE.contains c) (fun _=>true) (by decide +kernel) c
 simp only [h,Bool.false_or,Bool.not_eq_true'] at this;exact this
def wm (h:cy U cI=0):cy U cL=0:=fV.2 fun c r a=>EN c (fV.1 h c r a)
def Gj (h:cy U cI=0):cy U fE=0:=fV.2 fun c r a=>HG c (fV.1 h c r a)
def Iw {D E:List UInt8} (h0:(gk D).1≠0) (e:cy E cI=0):gk (D.take (gk D).1++E)=gk D:=by
 by_cases h1:D.take 2=[48,120]
 ·have a:gk D=if 8<cy (D.drop 2) fE\/cy (D.drop 2) fE=0 then (0,0) else (2+cy (D.drop 2) fE,wP 16 ((D.drop 2).take (cy (D.drop 2) fE))):=by
   unfold gk; rw [af9 h1]
  have i:2<=D.length:=by
   have:=aq9 List.length h1
   rw [az9] at this;simp at this; omega
  by_cases h2:8<cy (D.drop 2) fE\/cy (D.drop 2) fE=0
  ·rw [af9 h2] at a;rw [a] at h0;exact (h0 rfl).elim
  ·rw [ac9 h2] at a;rw [a];have hr:=nM (D.drop 2) fE;have hloc:=j0 (set:=fE) (D:=D.drop 2) (Gj e);generalize cy (D.drop 2) fE=r at *;simp only;have j:D.take (2+r)=[48,120]++(D.drop 2).take r:=by
    rw [<- h1,List.take_add]
   rw [j,bb9];unfold gk;rw [af9 (by rfl)];have k:([48,120]++((D.drop 2).take r++E)).drop 2=(D.drop 2).take r++E:=rfl;rw [k,hloc,ac9 h2];have f:((D.drop 2).take r++E).take r=(D.drop 2).take r:=by
    rw [List.take_append_of_le_length (by rw [az9]; omega),List.take_take,Nat.min_self]
   rw [f]
 ·have a:gk D=if (1<cy D cL/\D.getD 0 0=48)\/cy D cL=0\/4294967296<=wP 10 (D.take (cy D cL)) then (0,0) else (cy D cL,wP 10 (D.take (cy D cL))):=by
   unfold gk; rw [ac9 h1]
  by_cases h2:(1<cy D cL/\D.getD 0 0=48)\/cy D cL=0\/4294967296<=wP 10 (D.take (cy D cL))
  ·rw [af9 h2] at a;rw [a] at h0;exact (h0 rfl).elim
  ·rw [ac9 h2] at a;rw [a];have hr:=nM D cL;have hloc:=j0 (set:=cL) (D:=D) (wm e);generalize cy D cL=r at *;simp only;have l:0<r:=by
    rcases Nat.eq_zero_or_pos r with h | h
    ·exact (h2 (.inr (.inl h))).elim
    ·exact h
   have f:(D.take r++E).take r=D.take r:=by
    rw [List.take_append_of_le_length (by rw [az9]; omega),List.take_take,Nat.min_self]
   have m:(D.take r++E).getD 0 0=D.getD 0 0:=by
    cases D with
    | nil=>simp at hr; omega
    | cons d D=>obtain ⟨r,rfl⟩:∃ n,r=n+1:=⟨r-1,ad⟩; simp
   have o:¬ (D.take r++E).take 2=[48,120]:=by
    intro b
    by_cases p:2<=r
    ·rw [List.take_append_of_le_length (by rw [az9]; omega),List.take_take,db9 p] at b;exact h1 b
    ·have g:r=1:=ad
     subst g;cases D with
     | nil=>simp at hr
     | cons d D =>
      cases E with
      | nil=>simp at b
      | cons c E =>
       simp at b
       have:=fV.1 e c E rfl
       rw [b.2] at this;revert this; decide +kernel
   unfold gk;rw [ac9 o,hloc,f,m,ac9 h2]
def JB {E:List UInt8} (h:mE U=.tok H Z b) (f:cy E cI=0\/cy (U.drop Z) cI≠0):mE (U.take Z++E)=.tok H Z b/\0<Z/\Z<=U.length:=by
 cases U with
 | nil=>simp [mE] at h
 | cons d U =>
  unfold mE at h;rw [ac9 ai] at h;rw [List.getD_cons_zero] at h;have g:0<Z->mE ((d::U).take Z++E)=(if d=59 then .stop
   else if dE d=true then
    if 32<cy ((d::U).take Z++E) cI then .gY else .tok 1 (cy ((d::U).take Z++E) cI) 0
   else if dH d=true then
    if (gk ((d::U).take Z++E)).1=0\/0<cy (((d::U).take Z++E).drop (gk ((d::U).take Z++E)).1) cI then .gY else .tok 2 (gk ((d::U).take Z++E)).1 (gk ((d::U).take Z++E)).2
   else if d=39 then
    if ((d::U).take Z++E).length<3\/(((d::U).take Z++E).getD 1 0).toNat<32\/126<(((d::U).take Z++E).getD 1 0).toNat\/((d::U).take Z++E).getD 1 0=39\/((d::U).take Z++E).getD 2 0≠39 then .gY
    else .tok 2 3 (((d::U).take Z++E).getD 1 0).toNat
   else if Bu.contains d=true then .tok 3 1 0
   else .gY):=by
   intro hn;have e0:((d::U).take Z++E).getD 0 0=d:=by
    obtain ⟨Z,rfl⟩:∃ x,Z=x+1:=⟨Z-1,ad⟩
    simp
   conv=>lhs; unfold mE
   rw [ac9 (by obtain ⟨Z,rfl⟩:∃ x,Z=x+1:=⟨Z-1,ad⟩; simp),e0]
  by_cases h2:d=59
  ·rw [af9 h2] at h; cases h
  rw [ac9 h2] at h
  by_cases o:dE d=true
  ·rw [af9 o] at h;have hpos:=tI (d::U) cI 0 ad ai;rw [List.getD_cons_zero,show cI=fR++cL from rfl,Bv,o] at hpos;have hpos:=hpos.2 rfl;rw [<- show cI=fR++cL from rfl] at hpos
   by_cases i:32<cy (d::U) cI
   ·rw [af9 i] at h; cases h
   rw [ac9 i] at h;injection h with q s t
   subst q s t;have hr:=nM (d::U) cI;have u:cy E cI=0:=by
    rcases f with f | f
    ·exact f
    ·refine (f ?_).elim;refine fV.2 fun c r y=>?_
     have:=nr (p:=fun c=>cI.contains c) (d::U) (cy (d::U) cI) (au9 _) (by
      have:=aq9 List.length y
      rw [cb9] at this; simp at this ⊢; omega)
     have a:¬ cy (d::U) cI<((d::U).takeWhile fun c=>cI.contains c).length:=Nat.lt_irrefl _;rw [this] at a;have e:(d::U).getD (cy (d::U) cI) 0=c:=by
      have:=aq9 (fun l=>l.getD 0 0) y
      simp only [Cg,Nat.add_zero,List.getD_cons_zero] at this;exact this
     rw [e] at a;simpa using a
   refine ⟨?_,hpos,hr⟩;rw [g hpos,ac9 h2,af9 o,j0 u,ac9 i]
  rw [ac9 o] at h
  by_cases i:dH d=true
  ·rw [af9 i] at h
   by_cases a:(gk (d::U)).1=0\/0<cy ((d::U).drop (gk (d::U)).1) cI
   ·rw [af9 a] at h; cases h
   rw [ac9 a] at h;injection h with q s t
   subst q s t;have u:cy E cI=0:=by
    rcases f with f | f
    ·exact f
    ·omega
   have hl:=(Tv (d::U)).1;have z:(gk (d::U)).1≠0:=fun w=>a (.inl w)
   have hloc:=Iw z u;refine ⟨?_,ad,hl⟩;rw [g ad,ac9 h2,ac9 o,af9 i,hloc];rw [List.drop_append_of_le_length (by rw [az9]; omega),List.drop_take,fc9,List.take_zero,dc9,ac9 ad]
  rw [ac9 i] at h
  by_cases a:d=39
  ·rw [af9 a] at h
   by_cases e:(d::U).length<3\/((d::U).getD 1 0).toNat<32\/126<((d::U).getD 1 0).toNat\/(d::U).getD 1 0=39\/(d::U).getD 2 0≠39
   ·rw [af9 e] at h; cases h
   rw [ac9 e] at h;injection h with q s t
   subst q s t;have j:3<=(d::U).length:=ad
   refine ⟨?_,ad,j⟩
   match U,j with
   | A::B::U,_ =>
    rw [g ad,ac9 h2,ac9 o,ac9 i,af9 a];simp only [List.take_succ_cons,List.take_zero,List.cons_append,List.nil_append,List.getD_cons_succ,List.getD_cons_zero,List.length_cons] at e ⊢;rw [ac9 (by intro w; apply e; rcases w with w | w; omega; exact .inr w)]
  rw [ac9 a] at h
  by_cases e:Bu.contains d=true
  ·rw [af9 e] at h;injection h with q s t
   subst q s t;refine ⟨?_,ad,ai⟩;rw [g ad,ac9 h2,ac9 o,ac9 i,ac9 a,af9 e]
  ·rw [ac9 e] at h; cases h
def vP (P:Program) (t:TypeId):Array Field :=
 match P.underlying t with
 | some (.struct a)=>a
 | _=>#[]
def bytes_beq (t:Xaa):(t==t)=true:=by
 cases t with | mk d=>show (d==d)=true; simp
def hv (c:UInt8):Int:=if BO c=true then (dv c:Int) else -1
def vj (D:List UInt8):Nat × Nat :=
 if D.getD 0 0=39 then
  (if D.length<3\/(D.getD 1 0).toNat<32\/126<(D.getD 1 0).toNat\/D.getD 1 0=39\/D.getD 2 0≠39 then (0,0) else ((D.getD 1 0).toNat,3))
 else if (gk D).1=0\/0<cy (D.drop (gk D).1) cI then (0,0) else ((gk D).2,(gk D).1)
inductive vS (s:Xaa):Nat->List Tok->Prop where
 | stop (k:Nat):k<=s.size->mE (s.data.toList.drop (k+cy (s.data.toList.drop k) dN))=.stop->vS s k []
 | tok (k kind n m:Nat) (ts:List Tok):k<=s.size->mE (s.data.toList.drop (k+cy (s.data.toList.drop k) dN))=.tok kind n m->vS s (k+cy (s.data.toList.drop k) dN+n) ts ->
   vS s k (⟨kind,s.extract (k+cy (s.data.toList.drop k) dN) (k+cy (s.data.toList.drop k) dN+n),m,k+cy (s.data.toList.drop k) dN⟩::ts)
def BT (hk:H<=O.size):H+cy (O.data.toList.drop H) dN<=O.size:=by
 have h1:=nM (O.data.toList.drop H) dN;rw [cb9] at h1;have a:O.data.toList.length=O.size:=ai
 omega
def qj (hk:H<=O.size):lL O H=Nu O (H+cy (O.data.toList.drop H) dN) (mE (O.data.toList.drop (H+cy (O.data.toList.drop H) dN))):=by
 unfold lL;exact JC O _ (BT hk)
def Bc (h:mE U=.tok H Z b):0<Z/\Z<=U.length:=(JB (E:=[]) h (.inl rfl)).2
def Rw:mE []=.stop:=rfl
theorem BC {s:Xaa}:∀ (f k:Nat) (b:List Tok),k<=s.size->s.size-k<f ->
  (∃ ts,vS s k ts/\zF s f k b=(b++ts,0,0))\/(∃ a,a<s.size/\zF s f k b=([],a,20))
 | 0,k,b,hk,g=>ad
 | f+1,k,b,hk,g=>by
  have hst:=qj hk;have ha:=BT hk;have i:s.data.toList.length=s.size:=ai
  cases c:mE (s.data.toList.drop (k+cy (s.data.toList.drop k) dN)) with
  | stop =>
   rw [c] at hst;exact .inl ⟨[],.stop k hk c,by rw [CY hst,bz9]⟩
  | gY =>
   rw [c] at hst;refine .inr ⟨_,?_,Il hst⟩;rcases cj9 (k+cy (s.data.toList.drop k) dN) s.size with h | h
   ·exact h
   ·rw [cc9 ad,Rw] at c; cases c
  | tok kind n m =>
   rw [c] at hst;obtain ⟨h1,h2⟩:=Bc c;rw [cb9] at h2;rcases BC (s:=s) f (k+cy (s.data.toList.drop k) dN+n) (b++[⟨kind,s.extract (k+cy (s.data.toList.drop k) dN) (k+cy (s.data.toList.drop k) dN+n),m,k+cy (s.data.toList.drop k) dN⟩]) ad ad with ⟨ts,hc,d⟩ | ⟨a,e,d⟩
   ·refine .inl ⟨_,.tok k kind n m ts hk c hc,?_⟩;rw [AF hst,d,bb9,List.singleton_append]
   ·exact .inr ⟨a,e,by rw [AF hst,d]⟩
def ID {ts:List Tok} (h:vS O H ts):∀ (f:Nat) (a:List Tok),O.size-H<f->zF O f H a=(a++ts,0,0):=by
 induction h with
 | stop H hk b =>
  intro f a d;obtain ⟨f,rfl⟩:∃ c,f=c+1:=⟨f-1,ad⟩
  have hst:=qj hk;rw [b] at hst;rw [CY hst,bz9]
 | tok H kind n m ts hk b hc e =>
  intro f a d;obtain ⟨f,rfl⟩:∃ c,f=c+1:=⟨f-1,ad⟩
  have hst:=qj hk;rw [b] at hst;obtain ⟨h1,h2⟩:=Bc b;have ha:=BT hk;have g:O.data.toList.length=O.size:=ai
  rw [cb9] at h2;rw [AF hst,e f _ ad,bb9,List.singleton_append]
def V4 (s:Xaa):(vS s 0 (Fy s).1/\(Fy s).2=(0,0))\/(∃ a,a<s.size/\Fy s=([],a,20)):=by
 rcases BC (s:=s) (s.size+1) 0 [] ad ad with ⟨ts,hc,b⟩ | ⟨a,c,b⟩
 ·refine .inl ?_;unfold Fy;rw [b];exact ⟨hc,rfl⟩
 ·exact .inr ⟨a,c,b⟩
def Iy {ts:List Tok} (h:vS O 0 ts):Fy O=(ts,0,0):=by
 unfold Fy;rw [ID h _ _ ad]; rfl
def Ay {t:Xaa} (h:O.data.toList=t.data.toList):O=t:=by
 cases O; cases t;simp only at h
 congr 1
 exact by9.1 h
def re {set:List UInt8} (h:cy U set=U.length):cy (U++l) set=U.length+cy l set:=by
 unfold cy at h ⊢
 induction U with
 | nil=>simp
 | cons d U b =>
  simp only [List.cons_append,List.takeWhile_cons] at h ⊢;cases a:set.contains d with
  | false=>rw [a] at h; simp at h
  | true =>
   rw [a] at h;simp only [if_true,List.length_cons] at h ⊢;rw [b ad];omega
def Io (h:mE U=.tok H Z b):cy U dN=0:=by
 refine fV.2 fun c r a=>?_
 subst a;cases d:dN.contains c with
 | false=>rfl
 | true =>
  exfalso;have hall:=iJ (fun c=>!dN.contains c || (!decide (c=59) && !dE c && !dH c && !decide (c=39) && !Bu.contains c)) (fun _=>true) (by decide +kernel) c;simp only [d,Bool.not_true,Bool.false_or,Bool.and_eq_true,Bool.not_eq_true',decide_eq_false_iff_not] at hall;obtain ⟨⟨⟨⟨h1,h2⟩,e⟩,f⟩,g⟩:=hall;unfold mE at h;simp only [List.getD_cons_zero] at h;rw [ac9 ai,ac9 h1,ac9 (by rw [h2]; simp),ac9 (by rw [e]; simp),ac9 f,ac9 (by rw [g]; simp)] at h;cases h
def Na (t:Tok) (c:UInt8):Bool:=t.kind==3 && t.text.data.toList==[c]
def add_add (a:Xax) (i j:Nat):(a.add i).add j=a.add (i+j):=by
 unfold Addr.add
 by_cases hi:i=0 <;> by_cases b:j=0 <;> simp [hi,b] <;> omega
abbrev kg:=Except Nat (bJ × List Tok)
def Zk (b:Bool) (x:bJ):bJ:=if b=true then vG x 4294967295 else x
def vf:bJ:=⟨[],0⟩
def Vv (o:Option (List Tok->kg)) (ts:List Tok):kg :=
 match ts with
 | []=>.error 20
 | t::r =>
  if t.kind=1 then if (rp t.text.data.toList).2.2=true then .error 20 else .ok (⟨[(t.text,1)],0⟩,r)
  else if t.kind=2 then .ok (⟨[],t.num⟩,r)
  else if Na t 40=true then match o with
   | none=>.error 21
   | some f=>match f r with
    | .error e=>.error e
    | .ok (x,b)=>match b with
     | []=>.error 20
     | c::a=>if Na c 41=true then .ok (x,a) else .error 20
  else .error 20
def SP (o:Option (List Tok->kg)) (b:Bool) (ts:List Tok):kg :=
 match Vv o ts with
 | .error e=>.error e
 | .ok (x,r)=>.ok (Zk b x,r)
def TW (o:Option (List Tok->kg)):Bool->List Tok->kg
 | b,[]=>SP o b []
 | b,t::r=>if Na t 45=true then TW o (!b) r else SP o b (t::r)
def tW (o:Option (List Tok->kg)) (ts:List Tok):kg:=TW o false ts
def oQ (a:List Tok->kg):Nat->bJ->List Tok->kg
 | 0,x,r=>.ok (x,r)
 | n+1,x,r=>match r with
  | []=>.ok (x,[])
  | t::c=>if Na t 42=true then match a c with
    | .error e=>.error e
    | .ok (y,b)=>if x.ah≠[]/\y.ah≠[] then .error 21 else if y.ah≠[] then oQ a n (vG y x.num) b else oQ a n (vG x y.num) b
   else .ok (x,t::c)
def mQ (a:List Tok->kg) (ts:List Tok):kg :=
 match a ts with
 | .error e=>.error e
 | .ok (x,r)=>oQ a r.length x r
def MJ (part:List Tok->kg):Nat->bJ->List Tok->kg
 | 0,x,r=>.ok (x,r)
 | n+1,x,r=>match r with
  | []=>.ok (x,[])
  | t::b=>if Na t 43=true then match part b with
    | .error e=>.error e
    | .ok (y,a)=>MJ part n (j1 x y) a
   else if Na t 45=true then match part b with
    | .error e=>.error e
    | .ok (y,a)=>MJ part n (j1 x (vG y 4294967295)) a
   else .ok (x,t::b)
def Lv (part:List Tok->kg) (ts:List Tok):kg :=
 match part ts with
 | .error e=>.error e
 | .ok (x,r)=>MJ part r.length x r
def Uj:Nat->List Tok->kg
 | 0=>Lv (mQ (tW none))
 | k+1=>Lv (mQ (tW (some (Uj k))))
def VU:Nat->Option (List Tok->kg)
 | 0=>none
 | k+1=>some (Uj k)
def R2 (k:Nat):Uj k=Lv (mQ (tW (VU k))):=by cases k <;> rfl
def PP (ts:List Tok):Except Nat bJ :=
 match Uj 32 ts with
 | .error e=>.error e
 | .ok (x,r)=>if r=[] then .ok x else .error 20
structure Good (x:bJ):Prop where
 nf:Nf x.ah
 Kr:∀ t,t∈x.ah->cB t.1.data.toList=true
 num:x.num<4294967296
def Bs (h:cB O.data.toList=true):O.size<=32:=by
 unfold cB at h;simp only [Bool.and_eq_true,decide_eq_true_eq] at h
 have:O.data.toList.length=O.size:=ai
 omega
abbrev ptr (a:Nat):Xab:=.pointer (some ⟨a,0,none⟩)
def U7 (e:Nat) (ts:List Tok) (c:UInt8):Bool:=decide (e=0) && match ts with
 | []=>false
 | t::_=>Na t c
def uQ {a:List Tok->kg} {x:bJ} {ts:List Tok} (h:U7 0 ts 42=false):oQ a H x ts=.ok (x,ts):=by
 cases H with
 | zero=>rfl
 | succ H =>
  cases ts with
  | nil=>rfl
  | cons t r =>
   have h:Na t 42=false:=h;unfold oQ;simp only;rw [ac9 (by rw [h]; simp)]
section any
variable {P:Program} {h:Hp}
def xE (a:Xax) (l:List UInt8) (cap:Nat) (K:Xab->Hp->Prop) (hc:aF h a 0 (l.map BD)) (hk:K (.string ⟨l.toArray⟩) h):aP P (Conv.bytesToString (.slice (some a) l.length cap)) h K:=by
 unfold Conv.bytesToString;simp only;rw [an];refine dF ai hc _ ?_;rw [an,<- Array.forIn_toList]
 have b:∀ (l:List UInt8) (s:Xaa) (K':Xaa->Hp->Prop),K' ⟨s.data++l.toArray⟩ h->aP P (forIn (l.map BD) s fun c r=>match c with
   | .int .u8 n=>(pure (ForInStep.yield (r.push (UInt8.ofNat n.toNat))):Sem (ForInStep Xaa))
   | _ => stuck "bytesToString: byte expected") h K' := by
  intro l
  induction l with
  | nil =>
   intro s K' hk;have e:(⟨s.data++([]:List UInt8).toArray⟩:Xaa)=s:=ai
   rw [e] at hk;exact hk
  | cons c l d =>
   intro s K' hk;rw [bo9,List.forIn_cons];rw [an];show aP P (forIn (List.map BD l) (s.push (UInt8.ofNat ((c.toNat:Nat):Int).toNat)) _) h K';have f:UInt8.ofNat ((c.toNat:Nat):Int).toNat=c:=ai
   rw [f];refine d (s.push c) K' ?_
   have:(⟨(s.push c).data++l.toArray⟩:Xaa)=⟨s.data++(c::l).toArray⟩:=by
    congr 1
    apply by9.1
    simp
   rw [this]; exact hk
 refine b l ByteArray.empty _ ?_;have e:(⟨ByteArray.empty.data++l.toArray⟩:Xaa)=⟨l.toArray⟩:=by
  congr 1
  apply by9.1
  simp
 rw [e];exact hk
def zo {t e:TypeId} {n:Nat} {i:TypeInfo} (ht:P.underlying t=some (.array n e)) (hi:P.info? e=some i) (a:Xax) {k:IntKind} {m:Int} (h0:0<=m) (h1:m<=n) (K:Xab->Hp->Prop) (hk:K (.slice (some a) m.toNat n) h) :
  aP P (Instr.sliceAt t (.pointer (some a)) none (some (.int k m)) none) h K:=by
 unfold Instr.sliceAt;rw [an,az ht];show aP P (Instr.sliceBounds false n n none (some (.int k m)) none >>= fun x=>(do let size <- sizeOf e; pure (.slice (some (if x.2.2=x.1 then a else a.add (x.1*size))) (x.2.1-x.1) (x.2.2-x.1)):Sem Xab)) h K;rw [an,jK (lo:=none) (hi:=some (.int k m)) false n n rfl rfl (Int.le_refl _) h0 h1];rw [an,bY hi];show K (.slice (some (if n=0 then a else a.add (0*P.cellsOf e))) (m.toNat-0) (n-0)) h;have b:(if n=0 then a else a.add (0*P.cellsOf e))=a:=by simp [Addr.add]
 rw [b];exact hk
end any
def eH (h:Hp):Prop:=∃ e f,h[1]?=some (.cells (Lib.pow10Tab.map fun z=>Value.int .u64 z).toArray e f)
def eH.aj {ws:List Nat} {h':Hp} (p:eH Y) (k:Ch ws Y h') (a:∀ i,i∈ws->1<i):eH h':=by
 obtain ⟨e,f,b⟩:=p;exact ⟨e,f,k.get b (fun c=>by have:=a _ c; omega)⟩
def eH.lt (p:eH Y):1<Y.size:=by
 obtain ⟨e,f,a⟩:=p;exact eP a
def JO {name:String} (a:Tryz.prog.globalNamed name=some 1) (p:eH j.heap):Lib.TabIs Xaz j name .u64 Lib.pow10Tab:=by
 obtain ⟨e,f,b⟩:=p;unfold Lib.TabIs World.var?;rw [a];show (match j.heap[1]? with | some (.cells cs _ _)=>some cs | _=>none)=_;rw [b]
def tH (p:eH Y) (u:Nat) (h1:1<=u) (h2:u<18446744073709551616):uo Xaz 119 [.int .u64 u] Y (vI (Lib.nDigits u)):=by
 intro W a;refine ((Any.internal_strconv_numDigits Tryz.PB u h1 h2 W (JO av (by rw [a]; exact p))).mono ?_);rintro e w' ⟨c,b⟩;exact ⟨_,c,by rw [b]; exact dI.refl W,rfl,by rw [b]; exact a⟩
def Og (i:Nat) (hi:i<100) (h:Hp):uo Xaz 118 [vI i] h (.string ⟨(Lib.decDigits i).toArray⟩) :=
 MC fun w=>Tryz.internal_strconv_small i hi w
def LC {xs:List Xab} (b:br Y H d xs) (u cap n:Nat) (hn:n<=xs.length) (p:∀ j,j<n->xs[j]?=some (.int .u8 0)) (q:u<10^n) (h2:u<18446744073709551616) (f:n<4611686018427387904) :
  HC Xaz 120 #[.slice (some ⟨H,0,none⟩) n cap,.int .u64 u] Y fun v h'=>v=.tuple #[]/\Ch [H] Y h'/\h'.size=Y.size/\∃ (v':Nat) (a:Array UInt8),Lib.FmtInv n u 0 v' a/\∀ j,j<n->gS h' ⟨H,j,none⟩=some (BD a[j]!):=by
 intro W r;subst r;have o:Sort.Holds (fun (b:UInt8)=>Value.int .u8 (b.toNat:Int)) W H 0 (Array.replicate n (0:UInt8)):=by
  intro j c;have l:j<n:=by simpa using c
  refine ⟨?_,?_⟩
  ·rw [DA,b.cell,bv9,p j l,getElem!_pos _ j c]
   simp
  ·exact b.frozen
 have hc:=Tryz.internal_strconv_formatBase10 H 0 cap u (Array.replicate n 0) W o (by rw [fl9]; exact q) h2 (by rw [fl9]; exact f);rw [fl9] at hc;refine hc.mono ?_;rintro t w' ⟨rfl,k,v',a,rfl,m⟩;refine ⟨_,rfl,⟨rfl,rfl,rfl⟩,rfl,⟨?_,?_⟩,?_,v',a,m,?_⟩
 ·show W.heap.size<=(W.heap.modify H _).size
  simp
 ·intro i hi s;show (W.heap.modify H _)[i]?=_;rw [Array.getElem?_modify,ac9 (by simp at s; omega)]
 ·show (W.heap.modify H _).size=W.heap.size
  simp
 ·intro j c
  have:=Sort.cell?_putRow (fun (b:UInt8)=>Value.int .u8 (b.toNat:Int)) W H 0 _ a o (by rw [m.size,fl9]) j (by rw [m.size]; exact c)
  rw [bv9] at this;exact this
def PO:Tryz.prog.underlying 234=some (.array 24 5):=av
def Wc:Tryz.prog.underlying 204=some (.slice 5):=av
def ZB:Tryz.prog.underlying 5=some (.int .u8):=av
def Yq:(Tryz.prog.info? 5).isSome=true:=av
def eK (n:Nat):Xaa:=⟨(Lib.decDigits n).toArray⟩
def gP (t:Xaa × Nat):Xaa:=if t.2=1 then t.1 else (eK t.2++⟨#[42]⟩)++t.1
def mU (x:bJ):List Xaa:=if x.num≠0\/x.ah=[] then [eK x.num] else []
def fA (x:bJ):Xaa:=⟨(Lib.join ((x.ah.map gP++mU x).map (·.data.toList)) [43]).toArray⟩
def Ax {n:Nat} (h:n<4294967296):(eK n).size<=20:=by
 have e:(eK n).size=Lib.nDigits n:=by
  show (Lib.decDigits n).toArray.size=_;rw [List.size_toArray,Lib.decDigits_length]
 rw [e]
 by_cases h0:n=0
 ·subst h0; rw [Lib.nDigits_small ad]; omega
 ·have:=Lib.numDigits_eq n ad ad
  split at this <;> omega
def mj (a b:Xaa):(a++b).size=a.size+b.size:=ai
def IG (h:a.1.size<=32) (k:a.2<4294967296):(gP a).size<=53:=by
 unfold gP;split
 ·omega
 ·have:=Ax k
  rw [mj,mj]
  have:(⟨#[42]⟩:Xaa).size=1:=rfl
  omega
theorem join_length:∀ (xs:List (List UInt8)) (m:Nat),(∀ x,x∈xs->x.length<=m)->(Lib.join xs [43]).length<=xs.length*(m+1)
 | [],m,_=>by rw [Lib.join_nil]; simp
 | [x],m,h=>by rw [Lib.join_one]; have:=h x ai; simp; omega
 | x::y::r,m,h=>by
  have ih:=join_length (y::r) m (fun z a=>h z (ap9 _ a));have hx:=h x ai;have e:Lib.join (x::y::r) [43]=x++[43]++Lib.join (y::r) [43]:=by
   unfold Lib.join;simp [List.intercalate,List.intersperse]
  rw [e,ae9,ae9];simp only [List.length_cons,List.length_nil] at ih ⊢;rw [Nat.succ_mul (r.length+1)];omega
def OU:Tryz.prog.underlying 68=some (.slice 9):=av
def Nq:(Tryz.prog.info? 9).map (fun i=>(i.zero,i.size,i.bytes))=some (some (.string ⟨#[]⟩),1,16):=av
def gI (f:Xaa->Nat):dm->Nat
 | []=>0
 | p::l=>p.2*f p.1+gI f l
def fm (f:Xaa->Nat) (p:Xaa × Nat) (l:dm):gI f (p::l)=p.2*f p.1+gI f l:=rfl
def PT (a b:Nat):a % 4294967296*b % 4294967296=a*b % 4294967296:=by rw [fm9,fv9,<- fm9]
structure Wd where
 w:List UInt8
 k:Nat
 n:Nat
def cat:List Wd->List UInt8
 | []=>[]
 | x::r=>x.w++cat r
def A4 (a b:List Wd):cat (a++b)=cat a++cat b:=by
 induction a with
 | nil=>rfl
 | cons x a c=>simp only [List.cons_append,cat,c,List.append_assoc]
def fW:Nat->List Wd->List Tok
 | _,[]=>[]
 | k,x::r=>⟨x.k,⟨x.w.toArray⟩,x.n,k⟩::fW (k+x.w.length) r
def ue (a b:List Wd):∀ k,fW k (a++b)=fW k a++fW (k+(cat a).length) b:=by
 induction a with
 | nil=>intro k; rfl
 | cons x a c =>
  intro k;simp only [List.cons_append,fW,cat,c,List.length_append];rw [Nat.add_assoc]
def Co (a:List Wd):∀ k,(fW k a).length=a.length:=by
 induction a with
 | nil=>intro k; rfl
 | cons x a b=>intro k; simp only [fW,List.length_cons,b]
def A2:List Wd->Prop
 | []=>True
 | x::r=>mE (x.w++cat r)=.tok x.k x.w.length x.n/\A2 r
theorem zi {s:Xaa}:∀ (ws:List Wd) (k:Nat),A2 ws->k<=s.size->s.data.toList.drop k=cat ws->vS s k (fW k ws)
 | [],k,_,hk,a=>by
  refine .stop k hk ?_;rw [<- fj9,a] <;> rfl
 | x::r,k,h,hk,a=>by
  obtain ⟨h1,h2⟩:=h;have d:s.data.toList.length=s.size:=ai
  have b:cy (s.data.toList.drop k) dN=0:=by rw [a]; exact Io h1
  have a:s.data.toList.drop k=x.w++cat r:=a;have hlen:=aq9 List.length a;rw [cb9,ae9] at hlen;have c:s.data.toList.drop (k+x.w.length)=cat r:=by
   rw [<- fj9,a,ea9]
  have hpos:=(Bc h1).1;have hc:=zi (s:=s) r (k+x.w.length) h2 ad c
  have:=vS.tok k x.k x.w.length x.n (fW (k+x.w.length) r) hk (by rw [b,eo9,a]; exact h1) (by rw [b,eo9]; exact hc)
  rw [b,eo9] at this;have e:s.extract k (k+x.w.length)=⟨x.w.toArray⟩:=by
   refine Go.Sx.Ay ?_;rw [RG,show k+x.w.length-k=x.w.length from ad,a,ej9]
  rw [e] at this;exact this
def OG (c:UInt8):cI.contains c=(dE c || dH c):=Bv c
def Uf (c:UInt8) (h:dH c=true):dE c=false:=by
 have:=iJ (fun c=>dE c && dH c) (fun _=>false) (by decide +kernel) c
 simp only [h,Bool.and_true] at this;exact this
def F' (c:UInt8) (h:cI.contains c=true):c≠59:=by rintro rfl; revert h; decide
def oZ (a b:List UInt8) (h:a≠[]):(a++b).getD 0 0=a.getD 0 0:=by
 cases a with
 | nil=>exact absurd rfl h
 | cons c a=>rfl
def CI (h:cB U=true) (e:cy l cI=0):mE (U++l)=.tok 1 U.length 0:=by
 unfold cB at h;simp only [Bool.and_eq_true,decide_eq_true_eq] at h;obtain ⟨⟨⟨⟨h1,h2⟩,d⟩,f⟩,_⟩:=h;have a:U≠[]:=fun g=>by rw [g] at h1; simp at h1
 have b:cy U cI=U.length:=Aq.2 (by simpa only [OG] using f);have c:cy (U++l) cI=U.length:=by rw [re b,e]; rfl
 unfold mE;rw [ac9 (by simp [a]),oZ _ _ a,ac9,af9 d,c,ac9 ad];exact F' _ (by rw [OG,d]; rfl)
def yS (l:List UInt8) (c:UInt8):wP 10 (l++[c])=wP 10 l*10+dv c:=by
 unfold wP;rw [cg9] <;> rfl
def DJ {u:Nat} (h:u<10):dH (UInt8.ofNat (48+u))=true/\dv (UInt8.ofNat (48+u))=u/\(UInt8.ofNat (48+u)=48->u=0):=by
 have:∀ u,u<10->(dH (UInt8.ofNat (48+u))=true/\dv (UInt8.ofNat (48+u))=u/\(UInt8.ofNat (48+u)=48->u=0)):=bQ
 exact this u h
def CE (n:Nat):(∀ c,c∈Lib.decDigits n->dH c=true)/\wP 10 (Lib.decDigits n)=n/\Lib.decDigits n≠[]/\((Lib.decDigits n).getD 0 0=48->n=0)/\(n=0->(Lib.decDigits n).length=1):=by
 induction n using Nat.strongRecOn with
 | ind n j =>
  rw [Lib.decDigits]
  by_cases f:n<10
  ·rw [dif_pos f];obtain ⟨a,b,c⟩:=DJ f;refine ⟨?_,?_,ai,?_,fun _=>rfl⟩
   ·intro d i;rw [ak9] at i;subst i;exact a
   ·show wP 10 ([]++[_])=n;rw [yS,b];show 0*10+n=n;omega
   ·exact c
  ·rw [dif_neg f];obtain ⟨a,b,c,d,e⟩:=j (n / 10) ad;obtain ⟨a',b',_⟩:=DJ (u:=n % 10) ad;refine ⟨?_,?_,ai,?_,fun h=>ad⟩
   ·intro x g;rcases as9.1 g with g | g
    ·exact a x g
    ·rw [ak9] at g;subst g;exact a'
   ·rw [yS,b,b'];omega
   ·rw [oZ _ _ c];intro h0
    have:=d h0
    omega
def GI {n:Nat} {E:List UInt8} (hn:n<4294967296) (j:cy E cI=0):mE (Lib.decDigits n++E)=.tok 2 (Lib.decDigits n).length n:=by
 obtain ⟨h1,h2,a,o,p⟩:=CE n;have b:cy (Lib.decDigits n) cL=(Lib.decDigits n).length:=Aq.2 (bm9.2 fun c hc=>by rw [L0]; exact h1 c hc);have d:cy (Lib.decDigits n++E) cL=(Lib.decDigits n).length:=by rw [re b,wm j]; rfl
 have k:dH ((Lib.decDigits n).getD 0 0)=true:=by
  cases hl:Lib.decDigits n with
  | nil=>exact absurd hl a
  | cons c r=>exact h1 c (by rw [hl]; exact cv9 ..)
 have q:0<(Lib.decDigits n).length:=List.length_pos_iff.2 a;have m:(Lib.decDigits n++E).take 2≠[48,120]:=by
  intro h;have h0:(Lib.decDigits n).getD 0 0=48:=by
   rw [<- oZ _ E a]
   have:=aq9 (fun l=>l.getD 0 0) h
   simpa using this
  have hn0:=o h0;have hl1:=p hn0;have f:(Lib.decDigits n++E).getD 1 0=120:=by
   have:=aq9 (fun l=>l.getD 1 0) h
   simpa using this
  match s:Lib.decDigits n,hl1 with
  | [c],_ =>
   rw [s] at f h;cases E with
   | nil=>simp at h
   | cons e E =>
    have t:e=120:=by simpa using f
    subst t
    have:=fV.1 j 120 E rfl
    revert this;decide
 have g:gk (Lib.decDigits n++E)=((Lib.decDigits n).length,n):=by
  unfold gk;rw [ac9 m,d,ej9,h2,ac9];rintro (⟨u,i⟩ | i | i)
  ·rw [oZ _ _ a] at i
   have:=p (o i)
   omega
  ·omega
  ·omega
 unfold mE;rw [ac9 (by simp [a]),oZ _ _ a,ac9 (F' _ (by rw [OG,k,Bool.or_true])),ac9 (by rw [Uf _ k]; simp),af9 k,g,ea9,j,ac9];simp only [Nat.lt_irrefl,or_false];omega
def Dn {c:UInt8} (hc:c=43\/c=42) (E:List UInt8):mE (c::E)=.tok 3 1 0:=by
 have a:(c::E).getD 0 0=c:=rfl;unfold mE;rw [a];rcases hc with rfl | rfl
 ·rw [ac9 ai,ac9 bQ,ac9 bQ,ac9 bQ,ac9 bQ,af9 bQ]
 ·rw [ac9 ai,ac9 bQ,ac9 bQ,ac9 bQ,ac9 bQ,af9 bQ]
def KY:Wd:=⟨[43],3,0⟩
def NI:Wd:=⟨[42],3,0⟩
def HN (s:Xaa):Wd:=⟨s.data.toList,1,0⟩
def Em (n:Nat):Wd:=⟨Lib.decDigits n,2,n⟩
def qO (t:Xaa × Nat):List Wd:=if t.2=1 then [HN t.1] else [Em t.2,NI,HN t.1]
def Jf (t:Xaa × Nat):cat (qO t)=(gP t).data.toList:=by
 unfold qO gP;split
 ·simp [cat,HN]
 ·simp [cat,HN,Em,NI,eK]
structure It where
 ws:List Wd
 x:bJ
def iE (l:dm):List It:=l.map fun t=>⟨qO t,⟨[t],0⟩⟩
def jd (x:bJ):List It:=if x.num≠0\/x.ah=[] then [⟨[Em x.num],⟨[],x.num⟩⟩] else []
def gM (l:List It):List Wd:=l.flatMap fun i=>KY::i.ws
def EU:List It->List Wd
 | []=>[]
 | i::r=>i.ws++gM r
theorem FZ:∀ (i:It) (l:List It),cat i.ws++cat (gM l)=Lib.join ((i::l).map fun i=>cat i.ws) [43]
 | i,[]=>by
  rw [bo9,List.map_nil,Lib.join_one];simp [gM,cat]
 | i,j::l=>by
  have ih:=FZ j l;have e:Lib.join ((i::j::l).map fun i=>cat i.ws) [43]=cat i.ws++[43]++Lib.join ((j::l).map fun i=>cat i.ws) [43]:=by
   unfold Lib.join;simp [List.intercalate,List.intersperse]
  rw [e,<- ih];have a:gM (j::l)=KY::(j.ws++gM l):=by simp [gM]
  rw [a];show cat i.ws++([43]++cat (j.ws++gM l))=_;rw [A4];simp only [List.append_assoc]
def TZ (x:bJ):cat (EU (iE x.ah++jd x))=(fA x).data.toList:=by
 have h1:(iE x.ah++jd x).map (fun i=>cat i.ws)=(x.ah.map gP++mU x).map (·.data.toList):=by
  rw [ao9,ao9]
  congr 1
  ·unfold iE;rw [bf9,bf9];refine ci9 fun t _=>?_
   exact Jf t
  ·unfold jd mU;split
   ·simp [cat,Em,eK]
   ·rfl
 unfold fA;rw [<- h1];cases hl:iE x.ah++jd x with
 | nil=>rfl
 | cons i l =>
  show cat (i.ws++gM l)=_;rw [A4,FZ]
def BI (i:It):Prop:=∀ r:List Wd,cy (cat r) cI=0->A2 r->A2 (i.ws++r)
def NB (h:cB a.1.data.toList=true) (h2:a.2<4294967296):BI ⟨qO a,⟨[a],0⟩⟩:=by
 intro r b d;show A2 (qO a++r);unfold qO;split
 ·exact ⟨CI h b,d⟩
 ·refine ⟨GI h2 (E:=cat ([NI,HN a.1]++r)) ?_,Dn (.inr rfl) _,CI h b,d⟩;exact fV.2 (by rintro c e ⟨⟩; decide)
def Pw (h:H<4294967296) (x:bJ):BI ⟨[Em H],x⟩:=fun r a b=>⟨GI h a,b⟩
def B' (l:List It):cy (cat (gM l)) cI=0:=by
 cases l with
 | nil=>rfl
 | cons i l=>exact fV.2 (by rintro c e ⟨⟩; decide)
theorem AE:∀ l:List It,(∀ i,i∈l->BI i)->A2 (gM l)
 | [],_=>trivial
 | i::l,h=>by
  have ih:=AE l fun j a=>h j (ap9 _ a)
  have b:gM (i::l)=KY::(i.ws++gM l):=by simp [gM]
  rw [b];exact ⟨Dn (.inl rfl) _,h i (cv9 ..) _ (B' l) ih⟩
def L7 (l:List It) (h:∀ i,i∈l->BI i):A2 (EU l):=by
 cases l with
 | nil=>trivial
 | cons i l=>exact h i (cv9 ..) _ (B' l) (AE l fun j a=>h j (ap9 _ a))
def Iv (r:List Tok):Prop:=U7 0 r 42=false
def GL (o:Option (List Tok->kg)) (hk:i.kind=2) (r:List Tok):tW o (i::r)=.ok (⟨[],i.num⟩,r):=by
 have h1:Na i 45=false:=by unfold Na; rw [hk]; rfl
 unfold tW TW;rw [ac9 (by rw [h1]; simp)];unfold SP Vv;simp only [hk] <;> rfl
def CL (o:Option (List Tok->kg)) (hk:i.kind=1) (a:(rp i.text.data.toList).2.2=false) (r:List Tok):tW o (i::r)=.ok (⟨[(i.text,1)],0⟩,r):=by
 have h1:Na i 45=false:=by unfold Na; rw [hk]; rfl
 unfold tW TW;rw [ac9 (by rw [h1]; simp)];unfold SP Vv;simp only [hk,a] <;> rfl
def Mc (h:cB U=true):(rp U).2.2=false:=by
 unfold cB at h;simp only [Bool.and_eq_true] at h;simpa using h.2
def BS (o:Option (List Tok->kg)) (i:It):Prop:=∀ (k:Nat) (r:List Tok),Iv r->mQ (tW o) (fW k i.ws++r)=.ok (i.x,r)
def IK (o:Option (List Tok->kg)) (n:Nat):BS o ⟨[Em n],⟨[],n⟩⟩:=by
 intro k r a;show mQ (tW o) (⟨2,_,n,k⟩::r)=_;unfold mQ;rw [GL o rfl];simp only;exact uQ a
def I8 (o:Option (List Tok->kg)) (h:cB a.1.data.toList=true) (h0:a.2≠0) (h2:a.2<4294967296):BS o ⟨qO a,⟨[a],0⟩⟩:=by
 intro k r b;show mQ (tW o) (fW k (qO a)++r)=_;have hreg:=Mc h;unfold qO;split
 ·rename_i h1;show mQ (tW o) (⟨1,⟨a.1.data.toList.toArray⟩,0,k⟩::r)=_;unfold mQ;rw [CL o rfl (by simpa using hreg)];simp only;rw [uQ b];have e:a=(⟨a.1.data.toList.toArray⟩,1):=by rw [<- h1]
  rw [<- e]
 ·show mQ (tW o) (⟨2,_,a.2,k⟩::⟨3,⟨#[42]⟩,0,k+(Em a.2).w.length⟩::⟨1,⟨a.1.data.toList.toArray⟩,0,k+(Em a.2).w.length+1⟩::r)=_;unfold mQ;rw [GL o rfl];simp only [List.length_cons];unfold oQ;simp only;rw [af9 (by rfl),CL o rfl (by simpa using hreg)];simp only;rw [ac9 ai,af9 ai,uQ b];have c:a.2 % 4294967296=a.2:=dw9 h2;unfold vG fo;simp only [List.filterMap_cons,Nat.one_mul,c,if_neg h0,List.filterMap_nil,Nat.zero_mul]
theorem F9 (o:Option (List Tok->kg)):∀ (l:List It),(∀ i,i∈l->BS o i)->∀ (n k:Nat) (x:bJ),l.length<=n->MJ (mQ (tW o)) n x (fW k (gM l))=.ok (l.foldl (fun a i=>j1 a i.x) x,[])
 | [],_,n,k,x,_=>by cases n <;> rfl
 | i::l,h,n,k,x,hn=>by
  simp only [List.length_cons] at hn;obtain ⟨n,rfl⟩:∃ m,n=m+1:=⟨n-1,ad⟩
  have c:gM (i::l)=KY::(i.ws++gM l):=by simp [gM]
  rw [c];have b:Iv (fW (k+1+(cat i.ws).length) (gM l)):=by
   cases l with
   | nil=>rfl
   | cons j l=>rfl
  have hp:=h i (cv9 ..) (k+1) _ b;show MJ (mQ (tW o)) (n+1) x (⟨3,⟨#[43]⟩,0,k⟩::fW (k+1) (i.ws++gM l))=_;rw [ue];unfold MJ;simp only;rw [af9 (by rfl),hp];simp only;rw [F9 o l (fun j d=>h j (ap9 _ d)) n _ _ ad] <;> rfl
def Th (o:Option (List Tok->kg)) {i:It} {l:List It} (h:∀ j,j∈i::l->BS o j) (k:Nat):Lv (mQ (tW o)) (fW k (EU (i::l)))=.ok (l.foldl (fun a i=>j1 a i.x) i.x,[]):=by
 have b:Iv (fW (k+(cat i.ws).length) (gM l)):=by
  cases l with
  | nil=>rfl
  | cons j l=>rfl
 show Lv (mQ (tW o)) (fW k (i.ws++gM l))=_;rw [ue];unfold Lv;rw [h i (cv9 ..) k _ b];simp only;refine F9 o l (fun j c=>h j (ap9 _ c)) _ _ _ ?_;rw [Co];unfold gM;clear h b
 induction l with
 | nil=>simp
 | cons j l d =>
  simp only [List.flatMap_cons,List.length_append,List.length_cons];omega
def Md {l:dm} (h:Nf (l++[a])):GB l [a]=l++[a]:=by
 have hl:Nf l:=⟨(List.pairwise_append.1 h.1).1,fun p b=>h.2 p (bh9 _ b)⟩
 have ht:Nf [a]:=⟨List.pairwise_singleton _ _,fun p b=>h.2 p (bp9 _ b)⟩
 refine Nf.Mz (E4 hl ht) h fun s=>?_
 rw [EZ,C2]
def QP {l:dm} (h:Nf l):GB l []=l:=Nf.Mz (E4 h Nf.nil) h fun s=>by rw [EZ]; simp [cf]
theorem Az:∀ (r a:dm),Nf (a++r)->(iE r).foldl (fun a i=>j1 a i.x) ⟨a,0⟩=⟨a++r,0⟩
 | [],a,_=>by simp [iE]
 | t::r,a,h=>by
  have h':Nf ((a++[t])++r):=by simpa using h
  have h1:Nf (a++[t]):=⟨(List.pairwise_append.1 h'.1).1,fun p b=>h'.2 p (bh9 _ b)⟩
  have ih:=Az r (a++[t]) h';show (iE r).foldl (fun a i=>j1 a i.x) (j1 ⟨a,0⟩ ⟨[t],0⟩)=_;have e:j1 ⟨a,0⟩ ⟨[t],0⟩=⟨a++[t],0⟩:=by
   unfold j1;rw [Md h1] <;> rfl
  rw [e,ih]
  simp
def OM {x:bJ} (c:Good x) (i:It) (l:List It) (h:iE x.ah++jd x=i::l):l.foldl (fun a i=>j1 a i.x) i.x=x:=by
 have hn:=c.num;cases ht:x.ah with
 | nil =>
  rw [ht] at h;have d:jd x=[⟨[Em x.num],⟨[],x.num⟩⟩]:=by unfold jd; rw [af9 (.inr ht)]
  rw [d] at h;simp only [iE,List.map_nil,List.nil_append,List.cons.injEq] at h;obtain ⟨rfl,rfl⟩:=h;cases x;simp only at ht;subst ht;rfl
 | cons t r =>
  rw [ht] at h;simp only [iE,List.map_cons,List.cons_append,List.cons.injEq] at h;obtain ⟨rfl,rfl⟩:=h;have b:Nf ([t]++r):=by rw [List.singleton_append,<- ht]; exact c.nf
  rw [cg9];have h1:=Az r [t] b;show (jd x).foldl (fun a i=>j1 a i.x) ((iE r).foldl (fun a i=>j1 a i.x) ⟨[t],0⟩)=x;rw [h1];unfold jd;cases x with
  | mk ah num =>
   simp only at ht hn b ⊢;subst ht;split
   ·show j1 ⟨t::r,0⟩ ⟨[],num⟩=_;unfold j1;rw [QP c.nf,bv9,dw9 hn]
   ·rename_i h0
    have:num=0:=by
     rcases Nat.eq_zero_or_pos num with h | h
     ·exact h
     ·exact absurd (.inl ad) h0
    subst this;rfl
def CJ {x:bJ} (b:Good x):(Fy (fA x)).2=(0,0)/\PP (Fy (fA x)).1=.ok x:=by
 have a:∀ i,i∈iE x.ah++jd x->BI i/\BS (VU 32) i:=by
  intro i hi;rcases as9.1 hi with hi | hi
  ·obtain ⟨t,ht,rfl⟩:=an9.1 hi;have h1:=b.Kr t ht;have h2:=b.nf.2 t ht;exact ⟨NB h1 h2.2,I8 _ h1 h2.1 h2.2⟩
  ·unfold jd at hi;split at hi
   ·rw [ak9] at hi;subst hi;exact ⟨Pw b.num _,IK _ _⟩
   ·cases hi
 have c:Fy (fA x)=(fW 0 (EU (iE x.ah++jd x)),0,0) :=
  Iy (zi _ 0 (L7 _ fun i hi=>(a i hi).1) (ek9 _) (by rw [TZ]; rfl))
 rw [c];refine ⟨rfl,?_⟩;cases hl:iE x.ah++jd x with
 | nil =>
  exfalso;unfold jd at hl;split at hl
  ·simp at hl
  ·rename_i h0
   have:x.ah=[]:=by simpa [iE] using hl
   exact h0 (.inr this)
 | cons i l =>
  unfold PP;rw [R2,Th (VU 32) (fun j d=>(a j (by rw [hl]; exact d)).2),OM b i l hl] <;> rfl
end Go.Sx
