/- Contracts over heaps, part 1. Condition: as each statement says. -/
import Derived.Test.YtmdncdaladplkaaGreatDoorBtA
import Derived.Test.YtmdncdaladplkaaGreatDoorDShelf
import Derived.Test.YtmdncdaladplkaaGreatDoorSxG
import Derived.Test.YtmdncdaladplkaaGreatDoorSxE
import Derived.Test.YtmdncdaladplkaaGreatDoorDShelfB
import Derived.Lib.ItoaMem
set_option linter.all false
set_option maxRecDepth 100000
set_option maxHeartbeats 4000000
namespace Go.Sx
open Go.Proofs
variable {h1 h2:Hp}
def mixed:Tryz.prog.follows .mixedOrders=true:=av
def Wn : (Tryz.f157.name == "runtime.NumGoroutine") = false :=av
def VB:Tryz.f157.body.isNone=true:=av
def VQ:Extern.findNext Tryz.f157=none:=av
def Wb:Extern.find Tryz.f157=some Extern.BytealgIndexByte.indexByte:=av
def CW (s:Xaa) (c:Int) (h:Hp):ug Xaz 139 [.string s,.int .u8 c] h (vI (Lib.indexByte s.data.toList c.toNat.toUInt8)):=by
 refine eW mixed Tryz.func139 av (iM s c) ?_;refine HV Tryz.func157 Wn VB VQ Wb ?_;rw [sK];exact ⟨(_,()),rfl,rfl,rfl⟩
def Gb (s:Xaa) (c:Int) (h:Hp):ug Xaz 113 [.string s,.int .u8 c] h (vI (Lib.indexByte s.data.toList c.toNat.toUInt8)):=by
 refine eW mixed Tryz.func113 av (qT s c) ?_;exact jD (CW s c h) ⟨rfl,rfl⟩
def cy (s set:List UInt8):Nat:=(s.takeWhile λc=>set.contains c).length
def ov (s set:List UInt8):cy s set<=s.length:=by
 unfold cy;exact (List.takeWhile_prefix _).length_le
theorem nV {p:UInt8->Bool}:∀ (l:List UInt8) (k:Nat),k<=(l.takeWhile p).length->k<l.length->(k<(l.takeWhile p).length↔p (l.getD k 0)=true)
 | [],k,_,h=>by simp at h
 | c::l,0,_,_=>by
  simp only [List.takeWhile_cons,List.getD_cons_zero];cases a:p c <;> simp
 | c::l,k+1,h,hl=>by
  simp only [List.takeWhile_cons] at h ⊢;cases a:p c with
  | false=>rw [a] at h; simp at h
  | true =>
   rw [a] at h;simp at h hl
   have:=nV l k (by simpa using h) hl
   simpa using this
def uv (s set:List UInt8) (k:Nat) (hk:k<=cy s set) (hl:k<s.length):(k<cy s set↔set.contains (s.getD k 0)=true):=nV s k hk hl
def RQ (s:Xaa) (n:Int):(dh s n).toNat.toUInt8=s.data.toList.getD n.toNat 0:=by
 unfold dh; simp
def Qs (s set:Xaa) (h:Hp) (j:s.size<=9223372036854775807):ug Xaz 84 [.string s,.string set] h (vI (cy s.data.toList set.data.toList)):=by
 refine eW mixed Tryz.func84 av (ET s set) ?_;have g:s.data.toList.length=s.size:=ai
 have hle:=ov s.data.toList set.data.toList;refine aM (cs:=cz) (λx n h'=>h'=h/\∃ k:Nat,x.1=(k:Int)/\k<=cy s.data.toList set.data.toList/\n=s.size-k) ((0:Int),()) s.size rfl ⟨rfl,0,rfl,ad,ad⟩ ?_;rintro ⟨n,⟨⟩⟩ m h' ⟨rfl,k,hk,c,rfl⟩;simp only at hk;subst hk;refine ao ?_ ?_<;>intro d
 ·have e:(k:Int)<s.size:=ai9 d;have hst:=uv s.data.toList set.data.toList k c ad;refine cX ⟨ad,e⟩ ?_;refine jD (Gb _ _ _) ?_;rw [RQ];have hc:=Lib.contains_iff_indexByte set.data.toList (s.data.toList.getD k 0);refine ao ?_ ?_<;>intro a
  ·have h2:=ai9 a;rw [wrap_i64 ad ad];have b:set.data.toList.contains (s.data.toList.getD k 0)=true:=by rw [hc]; exact ak9 h2
   exact aC (cs:=cz) ((k:Int)+1,()) (s.size-(k+1)) rfl ad rfl ⟨rfl,k+1,(show ((k:Int)+1)=((k+1:Nat):Int) from ad),hst.2 b,rfl⟩
  ·have h2:=aw9 a;have b:¬ set.data.toList.contains (s.data.toList.getD k 0)=true:=by rw [hc]; exact λf=>h2 (ai9 f)
   have:k=cy s.data.toList set.data.toList:=by
    have:¬ k<cy s.data.toList set.data.toList:=λf=>b (hst.1 f)
    omega
   exact ⟨by rw [<- this],rfl⟩
 ·have i:¬ (k:Int)<s.size:=aw9 d
  have:k=cy s.data.toList set.data.toList:=ad
  exact ⟨by rw [<- this],rfl⟩
def dJ (c:UInt8):Bool:=(97<=c.toNat && c.toNat<=122) || (65<=c.toNat && c.toNat<=90) || c.toNat==95
def dM (c:UInt8):Bool:=48<=c.toNat && c.toNat<=57
def gk:List UInt8:=[97,98,99,100,101,102,103,104,105,106,107,108,109,110,111,112,113,114,115,116,117,118,119,120,121,122,65,66,67,68,69,70,71,72,73,74,75,76,77,78,79,80,81,82,83,84,85,86,87,88,89,90,95]
def cP:List UInt8:=[48,49,50,51,52,53,54,55,56,57]
def jf (p q:UInt8->Bool) (h:(List.range 256).all (λn=>p (UInt8.ofNat n)==q (UInt8.ofNat n))=true) (c:UInt8):p c=q c:=by
 have:=bn9.1 h c.toNat (ef9.2 (by have:=c.toNat_lt; omega))
 simpa using this
def Jd (c:UInt8):gk.contains c=dJ c:=jf (λc=>gk.contains c) dJ (by decide +kernel) c
def MQ (c:UInt8):cP.contains c=dM c:=jf (λc=>cP.contains c) dM (by decide +kernel) c
def BX (c:UInt8):(gk++cP).contains c=(dJ c || dM c):=jf (λc=>(gk++cP).contains c) (λc=>dJ c || dM c) (by decide +kernel) c
def cN (c:UInt8):Int:=(c.toNat:Nat)
def Rw (c:UInt8) (h:Hp):ug Xaz 106 [.int .u8 (cN c)] h (.bool (dM c)):=by
 refine eW mixed Tryz.func106 av (pK _) ?_;unfold kP dM cN cC;refine aI ?_ ?_<;>intro h1
 ·refine ⟨?_,rfl⟩
  congr 1
  rw [show decide (48<=c.toNat)=true from ak9 ad,bl9];exact fw9.2 ad
 ·refine ⟨?_,rfl⟩
  congr 1
  rw [show decide (48<=c.toNat)=false from al9 ad,Bool.false_and]
def M' (c:UInt8):dJ c=true↔(97<=cN c/\cN c<=122)\/(65<=cN c/\cN c<=90)\/cN c=95:=by
 unfold dJ cN;simp only [Bool.or_eq_true,Bool.and_eq_true,decide_eq_true_eq,beq_iff_eq];omega
def MU (c:UInt8):dM c=true↔48<=cN c/\cN c<=57:=by
 unfold dM cN;simp only [Bool.and_eq_true,decide_eq_true_eq];omega
def DG (c:UInt8) (h:Hp):ug Xaz 105 [.int .u8 (cN c)] h (.bool (dJ c)):=by
 refine eW mixed Tryz.func105 av (oT _) ?_;unfold jS fR;have hl:=M' c
 repeat' (refine ao (λh1=>?_) (λh1=>?_) <;> first | replace h1:=ai9 h1 | replace h1:=aw9 h1)
 all_goals exact ⟨as9 Value.bool (ek9.2 (by simp only [hl,true_iff,beq_iff_eq]; omega)),rfl⟩
def rW (s:List UInt8):Int × Bool × Bool :=
 match s with
 | [a,b]=>if cN a=114/\48<=cN b/\cN b<=55 then (cN b-48,false,true) else if cN a=122/\48<=cN b/\cN b<=51 then (cN b-48,true,true) else (0,false,false)
 | _=>(0,false,false)
variable {U j:List UInt8}
def Bz (h:U.length≠2):rW U=(0,false,false):=by
 unfold rW;split
 ·simp at h
 ·rfl
def xK (s:Xaa) (n:Int):dh s n=cN (s.data.toList.getD n.toNat 0):=rfl
variable {O:Xaa}
def two_bytes (h1:(O.size:Int)=2):∃ a b,O.data.toList=[a,b]:=by
 have d:O.data.toList.length=O.size:=ai
 match hl:O.data.toList with
 | [a,b]=>exact ⟨a,b,rfl⟩
 | []=>rw [hl] at d; simp at d; omega
 | [a]=>rw [hl] at d; simp at d; omega
 | a::b::c::l=>rw [hl] at d; simp at d; omega
def Gq (s:Xaa) (h:Hp):ug Xaz 83 [.string s] h (.tuple #[vI (rW s.data.toList).1,.bool (rW s.data.toList).2.1,.bool (rW s.data.toList).2.2]):=by
 refine eW mixed Tryz.func83 av (xd s) ?_;have d:s.data.toList.length=s.size:=ai
 unfold sD bY jc bR;refine ao ?_ ?_<;>intro h1
 ·have h1:(s.size:Int)≠2:=by simpa using h1
  rw [Bz ad];exact ⟨rfl,rfl⟩
 ·have h1:(s.size:Int)=2:=by simpa using h1
  obtain ⟨a,b,c⟩:=two_bytes h1;have e0:dh s 0=cN a:=by rw [xK,c]; rfl
  have e:dh s 1=cN b:=by rw [xK,c]; rfl
  have hb:=b.toNat_lt;have f:IntKind.wrap .i64 (IntKind.wrap .i64 (dh s 1)-48)=cN b-48:=by
   rw [e,wrap_i64 (x:=cN b) (by unfold cN; omega) (by unfold cN; omega),wrap_i64 (by unfold cN; omega) (by unfold cN; omega)]
  rw [f,e0,c];unfold rW
  repeat' (first | refine eS ?_ | (refine ao (λh1=>?_) (λh1=>?_) <;> first | replace h1:=ai9 h1 | replace h1:=aw9 h1 | replace h1:=eq_of_beq h1 | replace h1:=fi9 h1))
  all_goals
   refine ⟨?_,rfl⟩;simp only
   first
    | (exfalso; omega)
    | rw [ag9 ad]
    | rw [ac9 ad,ag9 ad]
    | rw [ac9 ad,ac9 ad]
def E0 (s:Xaa) (h:Hp):ug Xaz 107 [.string s] h (.tuple #[vI (rW s.data.toList).1,.bool (rW s.data.toList).2.1,.bool (rW s.data.toList).2.2]):=by
 refine eW mixed Tryz.func107 av (nJ s) ?_;have d:s.data.toList.length=s.size:=ai
 unfold jl bY jc bR;refine ao ?_ ?_<;>intro h1
 ·have h1:(s.size:Int)≠2:=by simpa using h1
  rw [Bz ad];exact ⟨rfl,rfl⟩
 ·have h1:(s.size:Int)=2:=by simpa using h1
  obtain ⟨a,b,c⟩:=two_bytes h1;have e0:dh s 0=cN a:=by rw [xK,c]; rfl
  have e:dh s 1=cN b:=by rw [xK,c]; rfl
  have hb:=b.toNat_lt;have f:IntKind.wrap .i64 (IntKind.wrap .i64 (dh s 1)-48)=cN b-48:=by
   rw [e,wrap_i64 (x:=cN b) (by unfold cN; omega) (by unfold cN; omega),wrap_i64 (by unfold cN; omega) (by unfold cN; omega)]
  rw [f,e0,c];unfold rW
  repeat' (first | refine eS ?_ | (refine ao (λh1=>?_) (λh1=>?_) <;> first | replace h1:=ai9 h1 | replace h1:=aw9 h1 | replace h1:=eq_of_beq h1 | replace h1:=fi9 h1))
  all_goals
   refine ⟨?_,rfl⟩;simp only
   first
    | (exfalso; omega)
    | rw [ag9 ad]
    | rw [ac9 ad,ag9 ad]
    | rw [ac9 ad,ac9 ad]
def cD (s:List UInt8):Bool:=decide (0<s.length) && decide (s.length<=32) && dJ (s.getD 0 0) && s.all (λc=>dJ c || dM c) && !(rW s).2.2
def Ra {set:List UInt8} (h:0<U.length):0<cy U set↔set.contains (U.getD 0 0)=true:=uv U set 0 (dw9 _) h
def AP {s set:List UInt8}:cy s set=s.length↔s.all (λc=>set.contains c)=true:=by
 unfold cy
 induction s with
 | nil=>simp
 | cons c s a =>
  rw [List.takeWhile_cons,fl9];cases hc:set.contains c with
  | true=>simp only [if_true,List.length_cons,Bool.true_and]; rw [<- a]; omega
  | false=>simp
def aaE:(⟨#[97,98,99,100,101,102,103,104,105,106,107,108,109,110,111,112,113,114,115,116,117,118,119,120,121,122,65,66,67,68,69,70,71,72,73,74,75,76,77,78,79,80,81,82,83,84,85,86,87,88,89,90,95]⟩:Xaa).data.toList=gk:=rfl
def aa2:(⟨#[97,98,99,100,101,102,103,104,105,106,107,108,109,110,111,112,113,114,115,116,117,118,119,120,121,122,65,66,67,68,69,70,71,72,73,74,75,76,77,78,79,80,81,82,83,84,85,86,87,88,89,90,95,48,49,50,51,52,53,54,55,56,57]⟩:Xaa).data.toList=gk++cP:=rfl
def toList_nil :(O.toList==[])=decide (O.size=0):=by
 have:O.toList=O.data.toList:=ByteArray.toList_eq O
 rw [this];have b:O.data.toList.length=O.size:=ai
 cases hl:O.data.toList with
 | nil=>rw [hl] at b; simp at b; simp [<- b]
 | cons a l=>rw [hl] at b; simp at b; simp [<- b]
def wI (s:Xaa) (h:Hp) (d:s.size<=9223372036854775807):ug Xaz 55 [.string s] h (.bool (cD s.data.toList)):=by
 refine eW mixed Tryz.func55 av (Bx s) ?_;have a:s.data.toList.length=s.size:=ai
 unfold zP cY cv cC aS cH;refine IF (Gq s h) ?_;unfold cD;rw [a];refine ao ?_ ?_<;>intro h1
 ·have h1:s.size≠0:=by rw [toList_nil] at h1; simpa using h1
  refine aI ?_ ?_<;>intro h2
  ·refine jD (Qs s _ h d) ?_;rw [aaE];have hp:=Ra (set:=gk) (by omega:0<s.data.toList.length);rw [Jd] at hp;refine aI ?_ ?_<;>intro e
   ·refine jD (Qs s _ h d) ?_;rw [aa2];have ha:=AP (s:=s.data.toList) (set:=gk++cP);have f:(λc=>(gk++cP).contains c)=(λc=>dJ c || dM c):=funext BX;rw [f] at ha;rw [show decide (0<s.size)=true from ak9 ad,show decide (s.size<=32)=true from ak9 ad,hp.1 ad];refine ao ?_ ?_<;>intro h4
    ·have h4:=eq_of_beq h4;rw [ha.1 ad];exact ⟨rfl,rfl⟩
    ·have h4:=fi9 h4
     have:s.data.toList.all (λc=>dJ c || dM c)=false:=by
      cases b:s.data.toList.all (λc=>dJ c || dM c) with
      | false=>rfl
      | true=>exact (h4 (by rw [ha.2 b]; omega)).elim
     rw [this];exact ⟨rfl,rfl⟩
   ·have:dJ (s.data.toList.getD 0 0)=false:=by
     cases b:dJ (s.data.toList.getD 0 0) with
     | false=>rfl
     | true=>have:=hp.2 b; omega
    rw [this];exact ⟨ai,rfl⟩
  ·rw [show decide (s.size<=32)=false from al9 ad];exact ⟨ai,rfl⟩
 ·have h1:s.size=0:=by rw [toList_nil] at h1; simpa using h1
  rw [show decide (0<s.size)=false from al9 ad];exact ⟨ai,rfl⟩
open Go.Proofs Go.MapKept Go.WideAt Go.WideMaps Go.Maps Go.RowKit Go.WideElems Go.WideElems
def NF:Xab->Option (DataW Unit × List MemPlace):=λ_=>some (.nil,[])
def xB:Tryz.prog.underlying 9=some .string:=av
def Vx:Tryz.prog.underlying 196=some (.map 9 51):=av
def keysOf (D:List (Xaa × Xab)):List (List UInt8):=(D.map λp=>p.1.data.toList).mergeSort λx y=>decide (x<=y)
def Qa {x:MapEntry} (hk:x.key=.string O) (a:O.size<=maxLen):WideElems.rd Xaz 9 NF x=some (.string O.data.toList,.nil):=by
 unfold WideElems.rd;rw [hk,keyOf_string_mk xB a] <;> rfl
variable {H Y a:Nat}
def fq.owns {W:World} {D:List (Xaa × Xab)} (m:fq W.heap H D) (hl:D.length<=maxLen) :
  ∃ c:DataW Unit,W.ownsMap Xaz 9 NF H D.length c/\(strKeys c).Perm (D.map λp=>p.1.data.toList)/\Maps.size c=D.length:=by
 obtain ⟨es,clock,j,d,k,f⟩:=m;have h:es.size=D.length:=by
  have:=as9 List.length d
  simpa using this
 have a:es.toList.map (WideElems.rg Xaz 9 NF)=D.map λp=>(Lit.string p.1.data.toList,DataW.nil):=by
  apply dh9;intro i;have h1:(es.toList.map (λe=>(e.key,e.val)))[i]?=(D.map (λp=>(Value.string p.1,p.2)))[i]?:=by rw [d]
  simp only [List.getElem?_map] at h1 ⊢;rcases cj9 i D.length with hi | hi
  ·rw [ad9 hi,ad9 (show i<es.toList.length by simp; omega)] at h1 ⊢;simp only [Option.map_some,Option.some.injEq,Prod.mk.injEq] at h1 ⊢;exact WideElems.rg_of (Qa h1.1 (f _ (ah9 hi)))
  ·rw [bv9 hi,bv9 (show es.toList.length<=i by simp; omega)] <;> rfl
 refine ⟨_,⟨es,clock,j,⟨ad,k,?_⟩,ad,rfl⟩,?_,?_⟩
 ·intro x l;obtain ⟨i,hi,rfl⟩:=bh9 l;have b:i<D.length:=by simp at hi; omega
  have h1:(es.toList.map (λe=>(e.key,e.val)))[i]?=(D.map (λp=>(Value.string p.1,p.2)))[i]?:=by rw [d]
  simp only [List.getElem?_map,List.getElem?_eq_getElem b,List.getElem?_eq_getElem hi,Option.map_some,Option.some.injEq,Prod.mk.injEq] at h1;exact ⟨_,Qa h1.1 (f _ (ah9 b))⟩
 ·show List.Perm (((es.toList.map (WideElems.rg Xaz 9 NF)).foldr DataW.insert []).map λp=>strOf p.1) _;rw [a];refine ((WideShapes.sorted_perm _).map _).trans ?_;rw [bg9];exact List.Perm.refl _
 ·show ((es.toList.map (WideElems.rg Xaz 9 NF)).foldr DataW.insert []).length=D.length;rw [a,length_sorted,ab9]
def World.Oq {W:World} {h:Hp} {o:Obj} (a:W.heap=h.push o):({ W with heap:=h }:World).alloc o=W:=by
 cases W;simp only at a;subst a;rfl
def dO.alloc (w:World) (o:Obj):dO w (w.alloc o):=⟨rfl,rfl,rfl⟩
def Lu (r:Option Nat) (h:Hp):HC Xaz 90 #[.map r] h λv h'=>v=.func (.func 117) #[] #[.pointer (some ⟨h.size,0,none⟩)]/\h'=h.push (.cells #[.map r] 196):=by
 intro W b;subst b;exact (callsIn_wide.1 (Tryz.CV r W)).mono λe w' ⟨c,a⟩=>⟨_,c,by rw [a]; exact dO.alloc _ _,rfl,by rw [a]; rfl⟩
variable {h:World} {c:TypeId}
def SL.WS {v:Xab} {xs:List Xab} (r:h.ownsRow H c 1 v xs.length xs):∃ p l a,v=.slice p l a/\SL h.heap H c 1 p l a (xs.map λx=>[x]):=by
 have d:∀ ys:List Xab,(ys.map λx=>[x]).flatten=ys:=by
  intro ys
  induction ys with
  | nil=>rfl
  | cons y ys i=>simp [i]
 obtain ⟨h1,h2⟩:=r;rcases h2 with ⟨hv,hn⟩ | ⟨g,cap,j7,hv,j,k,f,hc,m,ht⟩
 ·have:xs=[]:=bu9 hn
  subst this;exact ⟨none,0,0,hv,SL.nil _ _ _ _⟩
 ·refine ⟨some ⟨g,0,none⟩,xs.length,cap,hv,ai,ai,g,[],j7.toList.drop xs.length,rfl,j,⟨f,by unfold maxLen at hc; omega⟩,?_,?_⟩
  ·rw [d,cw9]
   have:xs=j7.toList.take xs.length:=by rw [<- ht]; simp
   unfold br;rw [k]
   congr 2
   conv=>lhs; rw [<- Array.toArray_toList (xs:=j7),<- cc9 xs.length j7.toList]
   rw [<- this]
  ·rw [bs9,de9,m]; omega
def uA {h:Hp} {D:List (Xaa × Xab)} (m:fq h H D) (hl:D.length<=2^40) :
  HC Xaz 89 #[.func (.func 117) #[] #[.pointer (some ⟨h.size,0,none⟩)]] (h.push (.cells #[.map (some H)] 196)) λv h'=>∃ p l c,v=.slice p l c/\SL h' (h.size+1) 9 1 p l c ((keysOf D).map λk=>[encStr k]) /\
   Ext (h.push (.cells #[.map (some H)] 196)) h':=by
 intro W q;obtain ⟨t,j,d,a⟩:=fq.owns (W:={ W with heap:=h }) m (by unfold maxLen; omega);have hc:=callsIn_wide.1 (Tryz.nt H D.length t NF { W with heap:=h } j (by rw [a]; unfold maxLen; omega) (by rw [a]; omega));rw [World.Oq q] at hc;refine hc.mono λe w' u=>?_
 obtain ⟨v,r,w,z,b,_,n⟩:=u;have s:r.mergeSort (λx y=>decide (x<=y))=keysOf D:=mergeSort_of_perm (z.trans d);have o:r.length=((r.mergeSort (λx y=>decide (x<=y))).map encStr).length:=by rw [ab9,List.length_mergeSort]
 rw [o,s] at b;obtain ⟨p,l,c,hv,f⟩:=SL.WS b;refine ⟨v,w,⟨n.os,n.tape,n.output⟩,p,l,c,hv,?_,?_⟩
 ·rw [bg9] at f
  have:W.heap.size=h.size+1:=by rw [q]; simp
  rw [this] at f;exact f
 ·rw [<- q];exact ⟨n.size,λi hi _=>n.block i hi⟩
abbrev dr:=List (Xaa × Nat)
def cT (p:Xaa × Nat):List Xab:=[.string p.1,.int .u32 p.2]
def vm (D:dr):List (Xaa × Xab):=D.map λp=>(p.1,Value.int .u32 p.2)
def ej (D:dr) (s:Xaa):Nat:=((D.find? λp=>decide (s=p.1)).map (·.2)).getD 0
def wP (D:dr) (s:Xaa) (v:Nat):dr:=if (D.find? λp=>decide (s=p.1)).isSome then D.map λp=>if s=p.1 then (p.1,v) else p else D++[(s,v)]
def jP (D:dr) (p:Xaa × Nat):dr:=wP D p.1 ((ej D p.1+p.2) % 4294967296)
def Gn (D:dr):dr:=(keysOf (vm D)).filterMap λk=>if ej D ⟨k.toArray⟩=0 then none else some (⟨k.toArray⟩,ej D ⟨k.toArray⟩)
def Vk (D:dr) (s:Xaa):(vm D).find? (λp=>decide (s=p.1))=(D.find? λp=>decide (s=p.1)).map λp=>(p.1,Value.int .u32 p.2):=by
 unfold vm
 induction D with
 | nil=>rfl
 | cons p D a =>
  by_cases h:s=p.1
  ·simp [h]
  ·simp only [List.map_cons,List.find?_cons,decide_eq_false h];exact a
def LX (D:dr) (s:Xaa):look (vm D) s=(D.find? λp=>decide (s=p.1)).map λp=>Value.int .u32 p.2:=by
 unfold look;rw [Vk,Option.map_map] <;> rfl
def MI (D:dr) (s:Xaa):(look (vm D) s).getD (.int .u32 0)=.int .u32 (ej D s):=by
 rw [LX];unfold ej
 all_goals (cases D.find? λp=>decide (s=p.1) <;> rfl)
def WZ (D:dr) (s:Xaa) (v:Nat):lG (vm D) s (.int .u32 v)=vm (wP D s v):=by
 unfold lG wP;rw [LX];cases h:(D.find? λp=>decide (s=p.1)) with
 | none=>simp [vm]
 | some q =>
  simp only [Option.map_some,Option.isSome_some,if_true,vm,List.map_map];refine cm9 λp a=>?_
  simp only [Function.comp];split <;> simp_all
def ID (D:dr) (s:Xaa) (v:Nat):(wP D s v).length<=D.length+1:=by
 unfold wP;split <;> simp
def XP:(Tryz.prog.info? 51).bind (·.zero)=some (.int .u32 0):=av
def A2:Tryz.prog.underlying 50=some (.slice 64):=av
def uY:(Tryz.prog.info? 64).map (λi=>(i.zero,i.size,i.bytes))=some (some (.agg #[.string ⟨#[]⟩,.int .u32 0]),2,24):=av
variable {d:Lp} {V e:dr}
def qX {K:Xab->Hp->Prop} {h:Hp} (m:fq h H (vm V)) (s:Xaa) {k:Int->T} (hk:k (ej V s) d K h):T.dP Xaz (Instr.lookup 196 (.map (some H)) (.string s) false) false [(false,[.int .u32])] k d K h:=by
 refine kD Vx xB XP m s false _ ?_;refine ⟨((ej V s:Int),()),?_,hk⟩;simp only [Bool.false_eq_true,if_false];rw [MI] <;> rfl
variable {i:T}
def JN {K:Xab->Hp->Prop} {h:Hp} (m:fq h H (vm V)) (b:O.size<=maxLen) {v:Int} {n:Nat} (hv:v=(n:Int)) (hk:∀ h',fq h' H (vm (wP V O n))->Ch [H] h h'->h'.size=h.size->i d K h') :
  T.fI Xaz (Instr.mapUpdate 196 (.map (some H)) (.string O) (.int .u32 v)) i d K h:=by
 subst hv;refine ic Vx xB m b _ _ ?_;intro h' a c' c;rw [WZ] at a;exact hk h' a c' c
def Ue {h:Hp} (m:fq h H (vm V)) (hl:V.length<=2^40) (n:Int) :
  HC Xaz 91 #[.map (some H),.int .u32 n] h λv h'=>Ext h h'/\∃ p l c,v=.agg #[.slice p l c,.int .u32 n]/\SL h' h.size 64 2 p l c ((Gn V).map cT):=by
 refine aX (args:=[.map (some H),.int .u32 n]) mixed Tryz.func91 av (Bc (some H) n) ?_;unfold zN LH aE bm aR aY bz aK cv bg dp aS;refine bn ?_;intro h1 P Q z1;refine bn ?_;intro h2 R F z2;refine bJ R ?_;intro h3 u G z3;have u:br h3 h1.size 53 [.slice none 0 0,.int .u32 n]:=u;have I:Ext h h3:=bS (Q.trans F) G;have m3:=m.aj I ai;have c3:br h3 h.size 53 [.slice none 0 0,.int .u32 0]:=(P.aj F ai).aj G (by simp; omega);refine aG (Lu (some H) h3) ?_;rintro _ h4 ⟨rfl,rfl⟩;refine ⟨(.func (.func 117) #[] #[.pointer (some ⟨h3.size,0,none⟩)],()),rfl,ak ?_⟩;have S:Ext h3 (h3.push (.cells #[.map (some H)] 196)):=Ext.push _ _;have r:(vm V).length<=2^40:=by unfold vm; rw [ab9]; exact hl
 refine aG (uA m3 r) ?_;rintro _ J ⟨U,K,W,rfl,y,X⟩;refine ⟨((U,K,W),()),rfl,ak ?_⟩;have e35:=S.trans X;have e:(keysOf (vm V)).length<=2^40:=by
  unfold keysOf;rw [List.length_mergeSort,ab9];exact r
 have B:K=(keysOf (vm V)).length:=by rw [y.1,ab9]
 unfold Gn;generalize keysOf (vm V)=ks at y e B ⊢;have b5:=u.aj e35 ai;have c5:=c3.aj e35 ai;have m5:=m3.aj e35 ai;have e05:=I.trans e35;have hz3:=e35.size;have hb3:=u.lt;have hg:=m.lt;refine aM (cs:=cz) (λx w h'=>∃ (i:Nat) (p:Xac) (l c:Nat),x.1=(i:Int)/\i<=ks.length/\w=ks.length-i/\Ch [h1.size] J h'/\br h' h1.size 53 [.slice p l c,.int .u32 n] /\
  SL h' J.size 64 2 p l c (((ks.take i).filterMap λk=>if ej V ⟨k.toArray⟩=0 then none else some ((⟨k.toArray⟩:Xaa),ej V ⟨k.toArray⟩)).map cT)/\l<=i) ((0:Int),()) ks.length rfl
  ⟨0,none,0,0,rfl,ad,ad,Ch.refl _ _,b5,SL.nil _ _ _ _,ad⟩ ?_
 rintro ⟨n8,⟨⟩⟩ w h6 ⟨i,p,l,c,hi,L,rfl,f,A,o,Y⟩;simp only at hi;subst hi;refine ak ?_;have m6:=m5.aj f (by simp; omega);have hz6:=f.size;have C:Ext h h6:=bS e05 f;refine aI ?_ ?_<;>intro Z
 ·have d:i<ks.length:=ad
  have sk6:=y.bf f (λj b=>by have:=(y.cj b).1; simp; omega);obtain ⟨a,rfl,hc⟩:=sk6.cells (i:=i) (by simpa using d);rw [aj9] at hc;have q:ks.take (i+1)=ks.take i++[ks[i]]:=af9 d;generalize ks[i]=k at hc q;refine bM rfl ?_;rw [cg i];refine ar ((⟨k.toArray⟩:Xaa),()) hc (ak ?_);have hw:=gK i;refine qX m6 _ (ao (λs=>?_) (λs=>?_))
  ·have s:((ej V ⟨k.toArray⟩:Nat):Int)≠0:=by simpa using s
   refine ay A ((p,l,c),()) (ak ?_);refine qX m6 _ ?_;refine eZ (vs:=cT (⟨k.toArray⟩,ej V ⟨k.toArray⟩)) A2 uY rfl ad ad av rfl rfl o hz6 ad ad ?_;intro p' c' M N t hp7;have b7:=A.aj t (λhh=>by have:=(o.cj hh).1; omega);refine bJ b7 ?_;intro h8 b8 O z8;refine aC (cs:=cz) (((i+1:Nat):Int),()) (ks.length-(i+1)) rfl ad (as9 (λz=>[Value.int .i64 z]) hw) ⟨i+1,p',l+1,c',rfl,ad,rfl,?_,b8,?_,ad⟩
   ·exact Ch.trans (Ch.trans f t (λj b hl=>by have:=(o.cj b).1; omega)) O (λj b _=>b)
   ·rw [q,em9,ao9];have E:([k].filterMap λk=>if ej V ⟨k.toArray⟩=0 then none else some ((⟨k.toArray⟩:Xaa),ej V ⟨k.toArray⟩))=[((⟨k.toArray⟩:Xaa),ej V ⟨k.toArray⟩)]:=by
     simp only [List.filterMap_cons,List.filterMap_nil];rw [ac9 ad]
    rw [E];exact N.bf O (λj b=>by have:=(N.cj b).1; simp; omega)
  ·have s:((ej V ⟨k.toArray⟩:Nat):Int)=0:=by simpa using s
   refine aC (cs:=cz) (((i+1:Nat):Int),()) (ks.length-(i+1)) rfl ad (as9 (λz=>[Value.int .i64 z]) hw) ⟨i+1,p,l,c,rfl,ad,rfl,f,A,?_,ad⟩;rw [q,em9];have E:([k].filterMap λk=>if ej V ⟨k.toArray⟩=0 then none else some ((⟨k.toArray⟩:Xaa),ej V ⟨k.toArray⟩))=[]:=by
    simp only [List.filterMap_cons,List.filterMap_nil];rw [ag9 ad]
   rw [E,cb9];exact o
 ·have hi:i=ks.length:=ad
  subst hi;rw [bj9] at o;have c6:=c5.aj f (by simp; omega);refine ay A ((p,l,c),n,()) (ak ?_);refine bJ c6 ?_;intro M b7 t z7;have b7:br M h.size 53 [.slice p l c,.int .u32 n]:=b7;refine ay b7 ((p,l,c),n,()) ?_;have hz5:=e05.size;exact ⟨bS C t,p,l,c,rfl,(o.bf t (λj b=>by have:=(o.cj b).1; simp; omega)).mono ad⟩
structure iA (h:Hp) (p:Xac) (l:Nat) (us:dr):Prop where
 len:l=us.length
 cells:∀ i,(hi:i<us.length)->∃ a,p=some a/\aH h (a.add (i*2)) 0 (cT us[i])
variable {b:Xac}
def iA.aj {ws:List Nat} {h h':Hp} {us:dr} (v:iA h b H us) (k:Ch ws h h') (d:∀ i,i∈ax b->i∉ws):iA h' b H us :=
 ⟨v.len,λi hi=>by
  obtain ⟨a,c,hc⟩:=v.cells i hi;exact ⟨a,c,aP k (by rw [fw]; exact d _ (by rw [c]; simp [ax])) _ _ hc⟩⟩
def SL.Mp {h:Hp} {us:dr} (s:SL h H c 2 b Y a (us.map cT)):iA h b Y us:=by
 refine ⟨by rw [s.1,ab9],λi hi=>?_⟩;obtain ⟨d,f,hc⟩:=s.cells (i:=i) (by simpa using hi);rw [aj9] at hc;exact ⟨d,f,hc⟩
structure bK where
 af:dr
 num:Nat
def iD (p:Xac) (l c:Nat) (x:bK):Xab:=.agg #[.slice p l c,.int .u32 x.num]
def Gf (l:dr):dr:=Gn (l.foldl jP [])
def nS (x y:bK):bK:=⟨Gf (x.af++y.af),(x.num+y.num) % 4294967296⟩
def eC (x:Int):IntKind.wrap .u32 x=x % 4294967296:=by
 simp only [IntKind.wrap] <;> rfl
def jr (a:Nat):((a % 4294967296:Nat):Int)=(a:Int) % 4294967296:=Int.natCast_emod a 4294967296
def iW (a b:Xaa):Prop:=a.data.toList<b.data.toList
instance (a b:Xaa):Decidable (iW a b):=inferInstanceAs (Decidable (a.data.toList<b.data.toList))
def Cs (a:Xaa):¬ iW a a:=List.lt_irrefl (α:=UInt8) _
def kj {b c:Xaa} (h:iW O b) (k:iW b c):iW O c:=List.lt_trans (α:=UInt8) h k
def zy {b:Xaa} (h:O.data.toList=b.data.toList):O=b:=by
 cases O; cases b;simp only at h;rw [ca9.1 h]
def AK (a b:Xaa) (h:¬ iW a b) (k:¬ iW b a):a=b :=
 zy (List.le_antisymm (α:=UInt8) (List.not_lt.1 k) (List.not_lt.1 h))
def ko {b:Xaa} (h:iW O b):O≠b:=λe=>by subst e; exact Cs _ h
def DX {a:Xaa} (h:iW a O):¬ iW O a:=λk=>Cs _ (kj h k)
structure Nf (l:dr):Prop where
 Wu:l.Pairwise λp q=>iW p.1 q.1
 HL:∀ p,p∈l->p.2≠0/\p.2<4294967296
def cf:dr->Xaa->Nat
 | [],_=>0
 | p::l,s=>(if p.1=s then p.2 else 0)+cf l s
def Bh (s:Xaa):cf [] s=0:=rfl
def ft (p:Xaa × Nat) (l:dr) (s:Xaa):cf (p::l) s=(if p.1=s then p.2 else 0)+cf l s:=rfl
variable {Z:Xaa × Nat}
def Nf.tail {l:dr} (h:Nf (Z::l)):Nf l:=⟨(ds9.1 h.1).2,λq a=>h.2 q (aq9 _ a)⟩
def Nf.head (h:Nf (Z::V)):∀ q,q∈V->iW Z.1 q.1:=(ds9.1 h.1).1
def Nf.nil:Nf []:=⟨List.Pairwise.nil,ai⟩
def Ay (h:∀ p,p∈V->p.1≠O):cf V O=0:=by
 induction V with
 | nil=>rfl
 | cons p V a =>
  rw [ft,ac9 (h p (da9 ..)),a λq b=>h q (aq9 _ b)]
def DD (l m:dr) (s:Xaa):cf (l++m) s=cf l s+cf m s:=by
 induction l with
 | nil=>simp [cf]
 | cons p l a=>simp only [List.cons_append,cf,a]; omega
def Nf.ot (h:Nf (Z::V)):cf (Z::V) Z.1=Z.2:=by
 rw [ft,ag9 rfl,Ay λq a=>(ko (h.head q a)).symm] <;> rfl
def Nf.Fp {l:dr} {s:Xaa} (h:∀ p,p∈l->iW s p.1):cf l s=0:=Ay λp a=>(ko (h p a)).symm
theorem Nf.Nt:∀ {l m:dr},Nf l->Nf m->(∀ s,cf l s % 4294967296=cf m s % 4294967296)->l=m
 | [],[],_,_,_=>rfl
 | [],q::m,_,e,h=>by
  have:=h q.1
  rw [e.ot] at this;have hq:=e.HL q (da9 ..);simp only [cf] at this;omega
 | p::l,[],hl,_,h=>by
  have:=h p.1
  rw [hl.ot] at this;have hq:=hl.HL p (da9 ..);simp only [cf] at this;omega
 | p::l,q::m,hl,e,h=>by
  have hp:=hl.HL p (da9 ..);have hq:=e.HL q (da9 ..)
  by_cases h1:iW p.1 q.1
  ·exfalso
   have:=h p.1
   rw [hl.ot,Nf.Fp (l:=q::m) (s:=p.1) (by
    intro r f;rcases bd9.1 f with rfl | f
    ·exact h1
    ·exact kj h1 (e.head r f))] at this
   omega
  ·by_cases h2:iW q.1 p.1
   ·exfalso
    have:=h q.1
    rw [e.ot,Nf.Fp (l:=p::l) (s:=q.1) (by
     intro r f;rcases bd9.1 f with rfl | f
     ·exact h2
     ·exact kj h2 (hl.head r f))] at this
    omega
   ·have he:=AK _ _ h1 h2;have h3:=h p.1;rw [hl.ot,he,e.ot] at h3;have g:p=q:=by
     obtain ⟨a,b⟩:=p;obtain ⟨c,d⟩:=q;simp only at he h3 hp hq;subst he
     congr 1
     rw [eb9 hp.2,eb9 hq.2] at h3;exact h3
    subst g
    congr 1
    refine Nf.Nt hl.tail e.tail λs=>?_
    by_cases i:p.1=s
    ·subst i;rw [Nf.Fp hl.head,Nf.Fp e.head]
    ·have:=h s
     simp only [cf,if_neg i,Nat.zero_add] at this;exact this
def sF (s:Xaa):ej [] s=0:=rfl
def qj (p:Xaa × Nat) (D:dr) (s:Xaa):ej (p::D) s=if s=p.1 then p.2 else ej D s:=by
 unfold ej;rw [fj9]
 by_cases h:s=p.1
 ·simp [h]
 ·simp [h]
def Hu (D:dr) (s t:Xaa) (v:Nat):ej (D++[(t,v)]) s=if (D.find? λp=>decide (s=p.1)).isSome then ej D s else if s=t then v else 0:=by
 induction D with
 | nil=>simp [qj,sF]
 | cons p D a =>
  rw [fc9,qj,qj,a,fj9]
  by_cases h:s=p.1
  ·simp [h]
  ·simp only [decide_eq_false h,if_neg h]
def DU (h:(V.find? λp=>decide (O=p.1)).isSome=false):ej V O=0:=by
 unfold ej;cases a:(V.find? λp=>decide (O=p.1)) with
 | none=>rfl
 | some x=>rw [a] at h; cases h
def Oy (D:dr) (t:Xaa) (v:Nat) (s:Xaa):ej (D.map λp=>if t=p.1 then (p.1,v) else p) s=if s=t/\(D.find? λp=>decide (t=p.1)).isSome then v else ej D s:=by
 induction D with
 | nil=>simp [sF]
 | cons p D a =>
  rw [bq9,qj,a,qj,fj9]
  by_cases h:t=p.1
  ·subst h
   by_cases k:s=p.1 <;> simp [k]
  ·rw [ac9 h]
   by_cases k:s=p.1
   ·subst k
    have:¬ p.1=t:=λe=>h e.symm
    simp [this]
   ·simp only [decide_eq_false h,if_neg k]
def Eb (D:dr) (t:Xaa) (v:Nat) (s:Xaa):ej (wP D t v) s=if s=t then v else ej D s:=by
 unfold wP;split
 ·rename_i a;rw [Oy]
  by_cases k:s=t <;> simp [k,a]
 ·rename_i a;rw [Hu]
  by_cases k:s=t
  ·subst k;simp [a]
  ·rw [ac9 k];split
   ·rfl
   ·rename_i h2;rw [DU (Bool.eq_false_iff.2 h2)]
def JJ (l:dr) (s:Xaa):∀ D:dr,ej (l.foldl jP D) s % 4294967296=(ej D s+cf l s) % 4294967296:=by
 induction l with
 | nil=>intro D; simp [cf]
 | cons p l a =>
  intro D;rw [bt9,a];unfold jP;rw [ft,Eb]
  by_cases h:s=p.1
  ·subst h;rw [ag9 rfl,ag9 rfl,Nat.mod_add_mod]
   congr 1; omega
  ·rw [ac9 h,ac9 λe=>h e.symm]
   congr 1; omega
def JT (h:(V.map (·.1)).Nodup) (t:Xaa) (v:Nat):((wP V t v).map (·.1)).Nodup:=by
 unfold wP;have h1:(V.find? λp=>decide (t=p.1)).isSome=true↔t∈V.map (·.1):=by
  rw [List.find?_isSome];simp [eq_comm]
 split
 ·have e:(V.map λp=>if t=p.1 then (p.1,v) else p).map (·.1)=V.map (·.1):=by
   rw [bg9];refine cm9 λp f=>?_
   simp only [Function.comp];split <;> rfl
  rw [e]; exact h
 ·rename_i hn;rw [ao9,ct9];refine ⟨h,ai,?_⟩;rintro a d b c rfl;simp only [List.map_cons,List.map_nil,List.mem_singleton] at c;subst c;exact hn (h1.2 d)
def Bn (l:dr):∀ D:dr,(D.map (·.1)).Nodup->((l.foldl jP D).map (·.1)).Nodup:=by
 induction l with
 | nil=>intro D h; exact h
 | cons p l a =>
  intro D h;rw [bt9];exact a _ (JT h _ _)
def Lm (l:dr):∀ D:dr,(∀ s,ej D s<4294967296)->∀ s,ej (l.foldl jP D) s<4294967296:=by
 induction l with
 | nil=>intro D h; exact h
 | cons p l a =>
  intro D h;rw [bt9];refine a _ λs=>?_
  unfold jP;rw [Eb];split
  ·exact fz9 _ bH
  ·exact h s
def Sw (h:O∉V.map (·.1)):ej V O=0:=by
 refine DU ?_;cases a:(V.find? λp=>decide (O=p.1)).isSome with
 | false=>rfl
 | true =>
  rw [List.find?_isSome] at a;obtain ⟨x,b,c⟩:=a;exact absurd (ap9.2 ⟨x,b,(ai9 c).symm⟩) h
def pick (g:Xaa->Nat) (ks:List (List UInt8)):dr:=ks.filterMap λk=>if g ⟨k.toArray⟩=0 then none else some (⟨k.toArray⟩,g ⟨k.toArray⟩)
def Ve (g:Xaa->Nat) (s:Xaa):∀ ks:List (List UInt8),ks.Nodup->cf (pick g ks) s=if s.data.toList∈ks then g s else 0:=by
 intro ks
 induction ks with
 | nil=>intro _; simp [pick,cf]
 | cons k ks ih =>
  intro h;rw [el9] at h;have ih:=ih h.2;unfold pick at ih ⊢;rw [List.filterMap_cons];have b:(⟨k.toArray⟩:Xaa)=s↔s.data.toList=k:=by
   constructor
   ·rintro rfl; simp
   ·intro e; exact zy (by simp [e])
  by_cases hk:s.data.toList=k
  ·have hs:=b.2 hk;rw [hs];split
   ·rename_i a;split at a
    ·rename_i h0;rw [ih,h0]
     simp
    ·cases a
   ·rename_i a;split at a
    ·cases a
    ·cases a;rw [ft,ih,ag9 rfl,ac9 (by rw [hk]; exact h.1),ag9 (by rw [hk]; simp)] <;> rfl
  ·have hs:¬ (⟨k.toArray⟩:Xaa)=s:=λe=>hk (b.1 e)
   split
   ·rw [ih];simp [hk]
   ·rename_i a;split at a
    ·cases a
    ·cases a;rw [ft,ih,ac9 hs];simp [hk]
def U6 (g:Xaa->Nat) (f:∀ s,g s<4294967296) {ks:List (List UInt8)} (h:ks.Pairwise λa b=>a<b):Nf (pick g ks):=by
 refine ⟨?_,?_⟩
 ·unfold pick;refine List.Pairwise.filterMap _ ?_ h;intro a b d p c q e;split at c
  ·cases c
  ·split at e
   ·cases e
   ·cases c; cases e;unfold iW;simpa using d
 ·intro p c;unfold pick at c;rw [dz9] at c;obtain ⟨k,_,hk⟩:=c;split at hk
  ·cases hk
  ·rename_i h0;cases hk;exact ⟨h0,f _⟩
def zt (D:dr):(keysOf (vm D)).Perm (D.map λp=>p.1.data.toList):=by
 unfold keysOf vm;rw [bg9];exact List.mergeSort_perm _ _
def vc (h:(V.map (·.1)).Nodup):(keysOf (vm V)).Pairwise λa b=>a<b:=by
 have hn:(keysOf (vm V)).Nodup:=by
  refine (zt V).nodup_iff.2 ?_
  have:(V.map λp=>p.1.data.toList)=(V.map (·.1)).map λs=>s.data.toList:=by rw [bg9]; rfl
  rw [this];exact cs9.2 (h.imp λf e=>f (zy e))
 have i:(keysOf (vm V)).Pairwise λa b=>a<=b:=by
  unfold keysOf;refine (List.pairwise_mergeSort ?_ ?_ _).imp ?_
  ·intro a b c h1 h2;exact ak9 (List.le_trans (α:=UInt8) (ai9 h1) (ai9 h2))
  ·intro a b;simp only [Bool.or_eq_true,decide_eq_true_eq];exact List.le_total (α:=UInt8) a b
  ·intro a b g;exact ai9 g
 refine (i.and hn).imp ?_;rintro a b ⟨h1,h2⟩
 by_cases d:a<b
 ·exact d
 ·exact absurd (List.le_antisymm (α:=UInt8) h1 (List.not_lt.1 d)) h2
def Iq (l:dr):Gf l=pick (ej (l.foldl jP [])) (keysOf (vm (l.foldl jP []))):=rfl
def BK (l:dr):Nf (Gf l):=by
 rw [Iq];exact U6 _ (Lm l [] (λs=>by rw [sF]; decide)) (vc (Bn l [] ai))
def Cu (l:dr) (s:Xaa):cf (Gf l) s=cf l s % 4294967296:=by
 have h1:=JJ l s [];rw [sF,by9,eb9 (Lm l [] (λs=>by rw [sF]; decide) s)] at h1;rw [Iq,Ve _ _ _ ((vc (Bn l [] ai)).imp λh e=>by subst e; exact List.lt_irrefl (α:=UInt8) _ h)];split
 ·exact h1
 ·rename_i hn;rw [<- h1,Sw];intro a;refine hn ((zt _).mem_iff.2 ?_);obtain ⟨p,b,rfl⟩:=ap9.1 a;exact ap9.2 ⟨p,b,rfl⟩
def fA (n:Nat) (l:dr):dr:=l.filterMap λp=>if p.2*n % 4294967296=0 then none else some (p.1,p.2*n % 4294967296)
def fT:Nat->dr->dr->dr
 | 0,_,_=>[]
 | n+1,x,y=>match x,y with
  | [],[]=>[]
  | p::x,[]=>p::fT n x []
  | [],q::y=>q::fT n [] y
  | p::x,q::y=>if iW p.1 q.1 then p::fT n x (q::y) else if iW q.1 p.1 then q::fT n (p::x) y else if (p.2+q.2) % 4294967296=0 then fT n x y else (p.1,(p.2+q.2) % 4294967296)::fT n x y
def He (x y:dr):dr:=fT (x.length+y.length) x y
def Ms (h:Nf V):Nf (fA H V):=by
 refine ⟨?_,?_⟩
 ·unfold fA;refine List.Pairwise.filterMap _ ?_ h.1;intro a b d p c q e;split at c
  ·cases c
  ·split at e
   ·cases e
   ·cases c; cases e;exact d
 ·intro p c;unfold fA at c;rw [dz9] at c;obtain ⟨k,_,hk⟩:=c;split at hk
  ·cases hk
  ·rename_i h0;cases hk;exact ⟨h0,fz9 _ bH⟩
def NB (n:Nat) (l:dr) (s:Xaa):cf (fA n l) s % 4294967296=cf l s*n % 4294967296:=by
 induction l with
 | nil=>simp [fA,cf]
 | cons p l b =>
  have hc:cf (fA n (p::l)) s=(if p.1=s then p.2*n % 4294967296 else 0)+cf (fA n l) s:=by
   unfold fA;rw [List.filterMap_cons];split
   ·rename_i a;split at a
    ·rename_i h0;rw [h0]; simp
    ·cases a
   ·rename_i a;split at a
    ·cases a
    ·cases a;rfl
  rw [hc,eq9,b,ft]
  by_cases h:p.1=s
  ·rw [ag9 h,ag9 h,dd9,gc9,<- eq9]
  ·rw [ac9 h,ac9 h,by9]; simp
def sH (h:Z∈fT H V e):(∃ p,p∈V/\p.1=Z.1)\/(∃ q,q∈e/\q.1=Z.1):=by
 induction H generalizing V e with
 | zero=>simp [fT] at h
 | succ H d =>
  rcases V with _ | ⟨p,V⟩ <;> rcases e with _ | ⟨q,e⟩
  ·simp [fT] at h
  ·simp only [fT,List.mem_cons] at h;rcases h with rfl | h
   ·exact .inr ⟨_,ai,rfl⟩
   ·rcases d h with ⟨a,c,b⟩ | ⟨a,c,b⟩
    ·simp at c
    ·exact .inr ⟨a,by simp [c],b⟩
  ·simp only [fT,List.mem_cons] at h;rcases h with rfl | h
   ·exact .inl ⟨_,ai,rfl⟩
   ·rcases d h with ⟨a,c,b⟩ | ⟨a,c,b⟩
    ·exact .inl ⟨a,by simp [c],b⟩
    ·simp at c
  ·simp only [fT] at h;split at h
   ·rcases bd9.1 h with rfl | h
    ·exact .inl ⟨_,ai,rfl⟩
    ·rcases d h with ⟨a,c,b⟩ | ⟨a,c,b⟩
     ·exact .inl ⟨a,by simp [c],b⟩
     ·exact .inr ⟨a,c,b⟩
   ·split at h
    ·rcases bd9.1 h with rfl | h
     ·exact .inr ⟨_,ai,rfl⟩
     ·rcases d h with ⟨a,c,b⟩ | ⟨a,c,b⟩
      ·exact .inl ⟨a,c,b⟩
      ·exact .inr ⟨a,by simp [c],b⟩
    ·split at h
     ·rcases d h with ⟨a,c,b⟩ | ⟨a,c,b⟩
      ·exact .inl ⟨a,by simp [c],b⟩
      ·exact .inr ⟨a,by simp [c],b⟩
     ·rcases bd9.1 h with rfl | h
      ·exact .inl ⟨p,ai,rfl⟩
      ·rcases d h with ⟨a,c,b⟩ | ⟨a,c,b⟩
       ·exact .inl ⟨a,by simp [c],b⟩
       ·exact .inr ⟨a,by simp [c],b⟩
def Nf.cons {p:Xaa × Nat} {l:dr} (h:Nf l) (hc:p.2≠0/\p.2<4294967296) (hl:∀ q,q∈l->iW p.1 q.1):Nf (p::l) :=
 ⟨ds9.2 ⟨hl,h.1⟩,λq a=>by rcases bd9.1 a with rfl | a; exact hc; exact h.2 q a⟩
def UE (d:Nf V) (f:Nf e):Nf (fT H V e):=by
 induction H generalizing V e with
 | zero=>exact Nf.nil
 | succ H h =>
  rcases V with _ | ⟨p,V⟩ <;> rcases e with _ | ⟨q,e⟩
  ·exact Nf.nil
  ·simp only [fT];refine (h Nf.nil f.tail).cons (f.2 q ai) λr g=>?_
   rcases sH g with ⟨a,c,b⟩ | ⟨a,c,b⟩
   ·simp at c
   ·rw [<- b]; exact f.head a c
  ·simp only [fT];refine (h d.tail Nf.nil).cons (d.2 p ai) λr g=>?_
   rcases sH g with ⟨a,c,b⟩ | ⟨a,c,b⟩
   ·rw [<- b]; exact d.head a c
   ·simp at c
  ·simp only [fT];split
   ·rename_i h1;refine (h d.tail f).cons (d.2 p ai) λr g=>?_
    rcases sH g with ⟨a,c,b⟩ | ⟨a,c,b⟩
    ·rw [<- b]; exact d.head a c
    ·rw [<- b];rcases bd9.1 c with rfl | c
     ·exact h1
     ·exact kj h1 (f.head a c)
   ·rename_i h1;split
    ·rename_i h2;refine (h d f.tail).cons (f.2 q ai) λr g=>?_
     rcases sH g with ⟨a,c,b⟩ | ⟨a,c,b⟩
     ·rw [<- b];rcases bd9.1 c with rfl | c
      ·exact h2
      ·exact kj h2 (d.head a c)
     ·rw [<- b]; exact f.head a c
    ·rename_i h2;have he:=AK _ _ h1 h2;split
     ·exact h d.tail f.tail
     ·rename_i h0;refine (h d.tail f.tail).cons ⟨h0,fz9 _ bH⟩ λr g=>?_
      rcases sH g with ⟨a,c,b⟩ | ⟨a,c,b⟩
      ·rw [<- b]; exact d.head a c
      ·rw [<- b];show iW p.1 a.1;rw [he]; exact f.head a c
def T9 {x y:dr} (hn:x.length+y.length<=H) (s:Xaa):cf (fT H x y) s % 4294967296=(cf x s+cf y s) % 4294967296:=by
 induction H generalizing x y with
 | zero =>
  have h1:x=[]:=ec9.1 ad;have h2:y=[]:=ec9.1 ad;subst h1 h2;rfl
 | succ H a =>
  rcases x with _ | ⟨p,x⟩ <;> rcases y with _ | ⟨q,y⟩
  ·rfl
  ·simp only [fT,ft,Bh]
   have:=a (x:=[]) (y:=y) (by simp at hn ⊢; omega)
   simp only [Bh] at this;omega
  ·simp only [fT,ft,Bh]
   have:=a (x:=x) (y:=[]) (by simp at hn ⊢; omega)
   simp only [Bh] at this;omega
  ·simp only [List.length_cons] at hn;simp only [fT];split
   ·have:=a (x:=x) (y:=q::y) (by simp; omega)
    simp only [ft] at this ⊢;omega
   ·rename_i h1;split
    ·have:=a (x:=p::x) (y:=y) (by simp; omega)
     simp only [ft] at this ⊢;omega
    ·rename_i h2;have he:=AK _ _ h1 h2
     have:=a (x:=x) (y:=y) ad
     split
     ·rename_i h0;simp only [ft,<- he];split
      ·omega
      ·omega
     ·simp only [ft,<- he];split
      ·omega
      ·omega
def FO (a:Nf V) (b:Nf e):Nf (He V e):=UE a b
def FJ (x y:dr) (s:Xaa):cf (He x y) s % 4294967296=(cf x s+cf y s) % 4294967296:=T9 (am9 _) s
def Fu (n:Nat) (l:dr) (s:Xaa):cf (l.map λp=>(p.1,p.2*n % 4294967296)) s % 4294967296=cf l s*n % 4294967296:=by
 induction l with
 | nil=>simp [cf]
 | cons p l a =>
  simp only [List.map_cons,cf];rw [eq9,a]
  by_cases h:p.1=s
  ·rw [ag9 h,ag9 h,dd9,gc9,<- eq9]
  ·rw [ac9 h,ac9 h,by9]; simp
def wA (x:bK) (n:Nat):bK:=⟨fA n x.af,x.num*n % 4294967296⟩
def kB (x y:bK):bK:=⟨He x.af y.af,(x.num+y.num) % 4294967296⟩
def C0 (n:Nat) (l:dr):(fA n l).length<=l.length:=List.length_filterMap_le _ _
def YW (r:Option Nat) (p:Xac) (l i:Nat) (k:T):T :=
 T.loop [aS] [vI (0:Int)] <| λ(a:Int) =>
 bz a l
  (T.need (IT a l) <|
  T.bh p <| λ(d:Xax) =>
  T.ah (d.add (aK a 2)) [.string,.int .u32] <| λ(e:Xaa) (f:Int) =>
  T.new [bZ,aE (0:Int)] 64 <| λ(b:Xax) =>
  T.aD b [.string e,aE f] <|
  T.ah b [.string] <| λ(c:Xaa) =>
  dp (Instr.lookup 196 (.map r) (.string c) false) false [(false,[.int .u32])] <| λ(g:Int) =>
  T.ah (b.add 1) [.int .u32] <| λ(h:Int) =>
  T.fI Xaz (Instr.mapUpdate 196 (.map r) (.string c) (aE (IntKind.wrap .u32 (g+h)))) <|
  T.again i [vI (bY (a+(1:Int)))]) k
def wZ (l:dr):∀ D:dr,(l.foldl jP D).length<=D.length+l.length:=by
 induction l with
 | nil=>intro D; simp
 | cons p l a =>
  intro D;rw [bt9];have h1:=a (jP D p);have h2:=ID D p.1 ((ej D p.1+p.2) % 4294967296);have b:(jP D p).length<=D.length+1:=h2;simp only [List.length_cons];omega
def L7 {K:Xab->Hp->Prop} {h:Hp} {us D:dr} (s:d.length=a) (v:iA h b Y us) (hl:us.length<=2^40) (I:∀ t,t∈us->t.1.size<=maxLen) (m:fq h H (vm D)) (M:H∉ax b)
  (hk:∀ J h',fq h' H (vm (us.foldl jP D))->Ch [H] h h'->i (d++[J]) K h'):YW (some H) b Y a i d K h:=by
 have hll:=v.len;have N:∀ J:List Xab->Hp->Prop,(d++[J])[a]?=some J:=by intro J; subst s; simp
 unfold YW bz aK dp bY IT aE bZ aS;refine aM (cs:=cz) (λy w h'=>∃ (c:Nat),y.1=(c:Int)/\c<=us.length/\w=us.length-c/\Ch [H] h h'/\fq h' H (vm ((us.take c).foldl jP D))) ((0:Int),()) us.length rfl
  ⟨0,rfl,ad,ad,Ch.refl _ _,by simpa using m⟩ ?_
 rintro ⟨n8,⟨⟩⟩ w E ⟨c,hi,F,rfl,u,x⟩;simp only at hi;subst hi;refine ak ?_;refine aI ?_ ?_<;>intro O
 ·have f:c<us.length:=ad
  obtain ⟨e,rfl,hc⟩:=(v.aj u (by intro j A G; rw [an9] at G; subst G; exact M A)).cells c f;have o:us.take (c+1)=us.take c++[us[c]]:=af9 f;have hsz:=I us[c] (ah9 f);generalize us[c]=t at hc o hsz;refine bM rfl ?_;rw [cg c];refine ar (t.1,(t.2:Int),()) hc (ak ?_);refine bn ?_;intro W P Q X;refine bJ P ?_;intro h6 r R Z;have r:br h6 E.size 64 (cT t):=r;have q:Ext E h6:=bS Q R;have m6:=x.aj q ai;refine ay r (t.1,()) (ak ?_);refine qX m6 _ ?_;rw [aw];refine ay r ((t.2:Int),()) (ak ?_);generalize B:(us.take c).foldl jP D=C at m6;refine JN (n:=(ej C t.1+t.2) % 4294967296) m6 hsz ?_ ?_
  ·rw [eC,jr,fk9]
  ·intro h7 S U z7;have hw:=gK c;have V:(us.take (c+1)).foldl jP D=wP C t.1 ((ej C t.1+t.2) % 4294967296):=by
    rw [o,ck9,B] <;> rfl
   refine aC (cs:=cz) (((c+1:Nat):Int),()) (us.length-(c+1)) (N _) ad (as9 (λz=>[Value.int .i64 z]) hw) ⟨c+1,rfl,ad,rfl,?_,by rw [V]; exact S⟩;exact Ch.trans (Ch.trans u q ai) U (λj A _=>A)
 ·have hi:c=us.length:=ad
  subst hi;rw [bj9] at x;exact hk _ _ x u
def iA.Yg {h:Hp} {us:dr} (v:iA h b H us) (hn:us≠[]):∀ i,i∈ax b->i<h.size:=by
 intro i hi;cases us with
 | nil=>exact absurd rfl hn
 | cons t us =>
  obtain ⟨a,rfl,hc⟩:=v.cells 0 ai;simp only [ax,List.mem_singleton] at hi;subst hi;rw [show a.add (0*2)=a by simp [Addr.add]] at hc;have h1:=hc.1;unfold iB at h1;split at h1
  ·rename_i c
   have:=eY c
   simpa [fw] using this
  ·cases h1
def Zd:Tryz.prog.underlying 59=some (.slice 50):=av
def ZD:(Tryz.prog.info? 50).map (λi=>(i.zero,i.size,i.bytes))=some (some (.slice none 0 0),1,24):=av
def WQ {h:Hp} {p q:Xac} {l c m d:Nat} {x y:bK} (v:iA h p l x.af) (u:iA h q m y.af) (P:∀ i,i∈ax p->i<h.size) (Q:∀ i,i∈ax q->i<h.size)
  (hl:x.af.length+y.af.length<=2^40) (R:∀ t,t∈x.af->t.1.size<=maxLen) (S:∀ t,t∈y.af->t.1.size<=maxLen) :
  HC Xaz 66 #[iD p l c x,iD q m d y] h λw h'=>Ext h h'/\∃ p' l' c',w=iD p' l' c' (nS x y)/\SL h' h.size 64 2 p' l' c' ((nS x y).af.map cT):=by
 refine aX (args:=[.agg #[.slice p l c,.int .u32 x.num],.agg #[.slice q m d,.int .u32 y.num]]) mixed Tryz.func66 av (CU p l c x.num q m d y.num) ?_;unfold BU aR aY bz aK cv bg dp aE bm bZ aS;refine bn ?_;intro h1 b1 F z1;refine bn ?_;intro h2 b2 o z2;refine bn ?_;intro e b3 r z3;refine nP _ ?_;intro X G n z4;refine ⟨(some e.size,()),rfl,ak ?_⟩;have b1:=((b1.aj o ai).aj r ai).aj n ai;have b2:=(b2.aj r ai).aj n ai;have b3:=b3.aj n ai;have e04:=((F.trans o).trans r).trans n;refine ay b1 ((p,l,c),()) (ak ?_);refine ay b2 ((q,m,d),()) (ak ?_);refine oB (cells:=[.slice p l c,.slice q m d]) Zd ZD bH bH av ?_;intro H I f Y;have U:fq H e.size (vm []):=G.aj f ai;have b1:=b1.aj f ai;have b2:=b2.aj f ai;have b3:=b3.aj f ai;have e05:=e04.trans f;have hb5:=I.lt;have hm4:=G.lt;refine aM (cs:=cz) (λz w h'=>∃ (i:Nat),z.1=(i:Int)/\i<=2/\w=2-i/\Ch [e.size] H h'/\fq h' e.size (vm ((([x.af,y.af].take i).flatten).foldl jP []))) ((0:Int),()) 2 rfl
  ⟨0,rfl,ad,ad,Ch.refl _ _,U⟩ ?_
 rintro ⟨n8,⟨⟩⟩ w h6 ⟨i,hi,K,rfl,b,g⟩;simp only at hi;subst hi;refine ak ?_;have b6:=I.aj b (by simp; omega);have a:Ext h h6:=bS e05 b;refine aI ?_ ?_<;>intro V
 ·refine bM rfl ?_;rw [cg i,aw];have hw:=gK i;have s:i=0\/i=1:=ad
  rcases s with rfl | rfl
  ·refine ay b6 ((p,l,c),()) (ak ?_);refine L7 (us:=x.af) (D:=[]) rfl (v.aj a ai) ad R g (λA=>by have:=P _ A; omega) ?_;intro J L B C;refine aC (cs:=cz) (((0+1:Nat):Int),()) (2-(0+1)) rfl ad (as9 (λz=>[Value.int .i64 z]) hw) ⟨0+1,rfl,ad,rfl,Ch.trans b C (λj k _=>k),?_⟩;simpa using B
  ·refine ay b6 ((q,m,d),()) (ak ?_);refine L7 (us:=y.af) (D:=x.af.foldl jP []) rfl (u.aj a ai) ad S (by simpa using g) (λA=>by have:=Q _ A; omega) ?_;intro J L B C;refine aC (cs:=cz) (((1+1:Nat):Int),()) (2-(1+1)) rfl ad (as9 (λz=>[Value.int .i64 z]) hw) ⟨1+1,rfl,ad,rfl,Ch.trans b C (λj k _=>k),?_⟩;simpa using B
 ·have hi:i=2:=ad
  subst hi;have g:fq h6 e.size (vm ((x.af++y.af).foldl jP [])):=by simpa using g
  have b1:=b1.aj b (by simp; omega);have b2:=b2.aj b (by simp; omega);have b3:=b3.aj b (by simp; omega);rw [aw,aw];refine ay b1 ((x.num:Int),()) (ak ?_);refine ay b2 ((y.num:Int),()) (ak ?_);refine aG (Ue g (by have:=wZ (x.af++y.af) []; rw [ae9,List.length_nil] at this; omega) _) ?_;rintro _ L ⟨M,p',l',c',rfl,N⟩;refine ⟨((p',l',c'),IntKind.wrap .u32 ((x.num:Int)+(y.num:Int)),()),rfl,ak ?_⟩;refine bJ (b3.aj M ai) ?_;intro W E O Z;have E:br W h2.size 53 [.slice p' l' c',.int .u32 (IntKind.wrap .u32 ((x.num:Int)+(y.num:Int)))]:=E;refine ay E ((p',l',c'),IntKind.wrap .u32 ((x.num:Int)+(y.num:Int)),()) ?_;have hz6:=a.size;have hz2:=(F.trans o).size;have hb3:=b3.lt;refine ⟨bS (a.trans M) O,p',l',c',?_,(N.bf O (λj k=>by have:=(N.cj k).1; simp; omega)).mono ad⟩;unfold iD nS;rw [eC];dsimp only;rw [jr,fk9]
def sX (p:UInt8->Bool) (l:List UInt8) (k:Nat) (hk:k<l.length):(l.take (k+1)).all p=((l.take k).all p && p (l.getD k 0)):=by
 rw [af9 hk,List.all_append];simp [List.getD,List.getElem?_eq_getElem hk]
def ui (s:Xaa) (h:Hp) (u:s.size<=9223372036854775807):ug Xaz 78 [.string s] h (.bool (cD s.data.toList)):=by
 refine eW mixed Tryz.func78 av (qo s) ?_;have l:s.data.toList.length=s.size:=ai
 unfold kM aY bj cv IT jc cC aS cH;unfold cD;rw [l];refine ao ?_ ?_<;>intro h1
 ·have h1:=ai9 h1;rw [show decide (0<s.size)=false from al9 ad];exact ⟨ai,rfl⟩
 have h1:=aw9 h1;refine ao ?_ ?_<;>intro h2
 ·have h2:=ai9 h2;rw [show decide (s.size<=32)=false from al9 ad];exact ⟨ai,rfl⟩
 have h2:=aw9 h2;rw [show decide (0<s.size)=true from ak9 ad,show decide (s.size<=32)=true from ak9 ad];refine eS ?_;refine aJ (DG (s.data.toList.getD 0 0) h) ?_;refine ao ?_ ?_<;>intro f
 ·have f:dJ (s.data.toList.getD 0 0)=false:=by simpa using f
  rw [f];exact ⟨ai,rfl⟩
 have f:dJ (s.data.toList.getD 0 0)=true:=by simpa using f
 rw [f];refine aM (cs:=iv) (λx n h'=>h'=h/\∃ k:Nat,x.2.1=(k:Int)/\k<=s.size/\n=s.size-k/\(s.data.toList.take k).all (λc=>dJ c || dM c)=true)
  (false,(0:Int),()) s.size rfl ⟨rfl,0,rfl,ad,ad,ai⟩ ?_
 rintro ⟨b,n,⟨⟩⟩ m h' ⟨rfl,k,hk,p,rfl,a⟩;simp only at hk;subst hk;refine ao ?_ ?_<;>intro o
 ·have j:(k:Int)<s.size:=ai9 o;have hst:=sX (λc=>dJ c || dM c) s.data.toList k ad;rw [a,bl9] at hst;have e:∀ k':Nat,(dJ (s.data.toList.getD k 0) || dM (s.data.toList.getD k 0))=false->s.data.toList.all (λc=>dJ c || dM c)=false:=by
   intro k' q;rw [q] at hst;cases r:s.data.toList.all (λc=>dJ c || dM c) with
   | false=>rfl
   | true =>
    have:(s.data.toList.take (k+1)).all (λc=>dJ c || dM c)=true:=bn9.2 λc hc=>bn9.1 r c (cy9 hc)
    rw [this] at hst; cases hst
  have d:(dJ (s.data.toList.getD k 0) || dM (s.data.toList.getD k 0))=true->T.again 0 [.bool b,vI (IntKind.wrap .i64 ((k:Int)+1))] ([]++[Jl (cs:=iv) (λx n h''=>h''=h'/\∃ k:Nat,x.2.1=(k:Int)/\k<=s.size/\n=s.size-k/\(s.data.toList.take k).all (λc=>dJ c || dM c)=true) (s.size-k)]) (λv' h''=>v'=.bool (true && true && true && s.data.toList.all (λc=>dJ c || dM c) && !(rW s.data.toList).2.2)/\h''=h') h':=by
   intro ht;rw [wrap_i64 ad ad];exact aC (cs:=iv) (b,(k:Int)+1,()) (s.size-(k+1)) rfl ad rfl ⟨rfl,k+1,(show ((k:Int)+1)=((k+1:Nat):Int) from ad),ad,rfl,by rw [hst,ht]⟩
  refine cX ⟨(by show (0:Int)<=(k:Int); omega),j⟩ ?_;refine aJ (DG (s.data.toList.getD k 0) h') ?_;refine ao ?_ ?_<;>intro g
  ·have g:dJ (s.data.toList.getD k 0)=false:=by simpa using g
   refine cX ⟨(by show (0:Int)<=(k:Int); omega),j⟩ ?_;refine aJ (Rw (s.data.toList.getD k 0) h') ?_;refine ao ?_ ?_<;>intro i
   ·have i:dM (s.data.toList.getD k 0)=false:=by simpa using i
    rw [e 0 (by rw [g,i]; rfl)];exact ⟨ai,rfl⟩
   ·have i:dM (s.data.toList.getD k 0)=true:=by simpa using i
    exact d (by rw [i]; simp)
  ·have g:dJ (s.data.toList.getD k 0)=true:=by simpa using g
   exact d (by rw [g]; simp)
 ·have t:¬ (k:Int)<s.size:=aw9 o;have hk:k=s.data.toList.length:=ad
  rw [hk,bj9] at a;rw [a];refine IF (E0 s h') ?_;exact ⟨ai,rfl⟩
def dv (c:UInt8):Nat:=if c.toNat<58 then c.toNat-48 else c.toNat-87
def xy (b:Nat) (l:List UInt8):Nat:=l.foldl (λn c=>n*b+dv c) 0
def Ck (c:UInt8):Bool:=dM c || (97<=c.toNat && c.toNat<=102)
def NU (c:UInt8):Ck c=true↔(48<=cN c/\cN c<=57)\/(97<=cN c/\cN c<=102):=by
 unfold Ck;rw [Bool.or_eq_true,MU];unfold cN;simp only [Bool.and_eq_true,decide_eq_true_eq];omega
def Wt (c:UInt8) (h:Ck c=true):(cN c<=57->(dv c:Int)=cN c-48)/\(57<cN c->(dv c:Int)=cN c-87)/\dv c<16:=by
 have:=(NU c).1 h
 unfold dv cN at *;split <;> omega
theorem xH:∀ (l:List UInt8) (n:Nat),(∀ c∈l,dv c<16)->l.foldl (λn c=>n*16+dv c) n<(n+1)*16^l.length
 | [],n,_=>ai
 | c::l,n,a=>by
  rw [bt9,cn9,Nat.pow_succ];have h1:=xH l (n*16+dv c) (λx b=>a x (by simp [b]));have h2:=a c ai;have d:(n*16+dv c+1)*16^l.length<=((n+1)*16)*16^l.length:=cz9 _ ad;have e:((n+1)*16)*16^l.length=(n+1)*(16^l.length*16):=by rw [Nat.mul_assoc,fv9 16]
  omega
def SO (s:Xaa) (i j:Nat):(s.extract i j).data.toList=(s.data.toList.drop i).take (j-i):=by
 rw [ByteArray.data_extract,Array.toList_extract,List.extract_eq_take_drop]
def QP (hl:U.length<=8) (a:∀ i,i<U.length->Ck (U.getD i 0)=true):xy 16 U<4294967296:=by
 have h1:=xH U 0 (λc hc=>by
  obtain ⟨i,hi,rfl⟩:=bh9 hc
  have:=a i hi
  simp only [List.getD,List.getElem?_eq_getElem hi,Option.getD_some] at this;exact (Wt _ this).2.2)
 have h2:16^U.length<=16^8:=Nat.pow_le_pow_right ad ad;have b:(16:Nat)^8=4294967296:=rfl;unfold xy;omega
def getD_take (hi:Y<H):(U.take H).getD Y 0=U.getD Y 0:=by
 rw [cg9,eo9,ag9 hi,<- cg9]
def fS:List UInt8:=[48,49,50,51,52,53,54,55,56,57,97,98,99,100,101,102]
def OG (c:UInt8):fS.contains c=Ck c:=jf (λc=>fS.contains c) Ck (by decide +kernel) c
def gV (l:List UInt8):Nat × Nat :=
 if l.take 2=[48,120] then
  (if 8<cy (l.drop 2) fS\/cy (l.drop 2) fS=0 then (0,0) else (2+cy (l.drop 2) fS,xy 16 ((l.drop 2).take (cy (l.drop 2) fS))))
 else
  (if (1<cy l cP/\l.getD 0 0=48)\/cy l cP=0\/4294967296<=xy 10 (l.take (cy l cP)) then (0,0) else (cy l cP,xy 10 (l.take (cy l cP))))
def P5 {set:List UInt8} (hi:H<cy U set):set.contains (U.getD H 0)=true:=by
 have hle:=ov U set;exact (uv U set H ad ad).1 hi
structure Tok where
 kind:Nat
 text:Xaa
 num:Nat
 at_:Nat
def dV:List UInt8:=[9,13,32]
def cL:List UInt8:=gk++cP
def BW:List UInt8:=[58,44,40,41,43,45,42,61]
inductive Step where
 | stop
 | iH (at_:Nat)
 | tok (t:Tok) (next:Nat)
def RJ (s:Xaa) (a:Nat):Step :=
 if a=s.size then .stop
 else if s.data.toList.getD a 0=59 then .stop
 else if dJ (s.data.toList.getD a 0)=true then
  if 32<cy (s.data.toList.drop a) cL then .iH a else .tok ⟨1,s.extract a (a+cy (s.data.toList.drop a) cL),0,a⟩ (a+cy (s.data.toList.drop a) cL)
 else if dM (s.data.toList.getD a 0)=true then
  if (gV (s.data.toList.drop a)).1=0\/0<cy (s.data.toList.drop (a+(gV (s.data.toList.drop a)).1)) cL then .iH a
  else .tok ⟨2,s.extract a (a+(gV (s.data.toList.drop a)).1),(gV (s.data.toList.drop a)).2,a⟩ (a+(gV (s.data.toList.drop a)).1)
 else if s.data.toList.getD a 0=39 then
  if s.size<a+3\/(s.data.toList.getD (a+1) 0).toNat<32\/126<(s.data.toList.getD (a+1) 0).toNat\/s.data.toList.getD (a+1) 0=39\/s.data.toList.getD (a+2) 0≠39 then .iH a
  else .tok ⟨2,s.extract a (a+3),(s.data.toList.getD (a+1) 0).toNat,a⟩ (a+3)
 else if BW.contains (s.data.toList.getD a 0)=true then .tok ⟨3,s.extract a (a+1),0,a⟩ (a+1)
 else .iH a
def mu (s:Xaa) (k:Nat):Step:=RJ s (k+cy (s.data.toList.drop k) dV)
def Ah (s:Xaa):Nat->Nat->List Tok->List Tok × Nat × Nat
 | 0,_,b=>(b,0,0)
 | f+1,k,b =>
  match mu s k with
  | .stop=>(b,0,0)
  | .iH a=>([],a,20)
  | .tok t k'=>Ah s f k' (b++[t])
def F' (s:Xaa):List Tok × Nat × Nat:=Ah s (s.size+1) 0 []
def Uy (l:List UInt8):(gV l).1<=l.length/\(gV l).2<4294967296:=by
 unfold gV;split
 ·rename_i h;have h2:=as9 List.length h;rw [au9] at h2;simp only [List.length_cons,List.length_nil] at h2;have h3:=ov (l.drop 2) fS;rw [bs9] at h3;split
  ·simp
  ·rename_i a;refine ⟨by simp only; omega,?_⟩;refine QP (by rw [au9]; omega) (λi hi=>?_);rw [au9] at hi;rw [getD_take ad,<- OG];exact P5 ad
 ·have h3:=ov l cP;split
  ·simp
  ·rename_i a;exact ⟨h3,by simp only; omega⟩
variable {f:List Tok} {g:Tok}
def A5 {k':Nat} (h:mu O Y=.tok g k'):Ah O (H+1) Y f=Ah O H k' (f++[g]):=by
 show (match mu O Y with
  | .stop=>(f,0,0)
  | .iH a=>([],a,20)
  | .tok g k'=>Ah O H k' (f++[g]))=_
 rw [h]
def Dz (h:mu O Y=.stop):Ah O (H+1) Y f=(f,0,0):=by
 show (match mu O Y with
  | .stop=>(f,0,0)
  | .iH a=>([],a,20)
  | .tok t k'=>Ah O H k' (f++[t]))=_
 rw [h]
def I6 (h:mu O Y=.iH a):Ah O (H+1) Y f=([],a,20):=by
 show (match mu O Y with
  | .stop=>(f,0,0)
  | .iH a=>([],a,20)
  | .tok t k'=>Ah O H k' (f++[t]))=_
 rw [h]
inductive YI where
 | stop
 | iH
 | tok (kind len num:Nat)
def np (D:List UInt8):YI :=
 if D=[] then .stop
 else if D.getD 0 0=59 then .stop
 else if dJ (D.getD 0 0)=true then
  if 32<cy D cL then .iH else .tok 1 (cy D cL) 0
 else if dM (D.getD 0 0)=true then
  if (gV D).1=0\/0<cy (D.drop (gV D).1) cL then .iH else .tok 2 (gV D).1 (gV D).2
 else if D.getD 0 0=39 then
  if D.length<3\/(D.getD 1 0).toNat<32\/126<(D.getD 1 0).toNat\/D.getD 1 0=39\/D.getD 2 0≠39 then .iH
  else .tok 2 3 (D.getD 1 0).toNat
 else if BW.contains (D.getD 0 0)=true then .tok 3 1 0
 else .iH
def Om (s:Xaa) (a:Nat):YI->Step
 | .stop=>.stop
 | .iH=>.iH a
 | .tok k n m=>.tok ⟨k,s.extract a (a+n),m,a⟩ (a+n)
def CR (l:List UInt8) (a j:Nat):(l.drop a).getD j 0=l.getD (a+j) 0:=by
 simp [List.getD_eq_getElem?_getD,List.getElem?_drop]
def Kk (s:Xaa) (a:Nat) (j:a<=s.size):RJ s a=Om s a (np (s.data.toList.drop a)):=by
 unfold RJ np;have g:s.data.toList.length=s.size:=ai
 simp only [CR,Nat.add_zero,List.drop_drop,List.length_drop,g]
 by_cases h1:a=s.size
 ·rw [ag9 h1,ag9 (ce9 ad)]; rfl
 have h:¬ s.data.toList.drop a=[]:=λb=>h1 (by have:=fq9.1 b; omega)
 rw [ac9 h1,ac9 h]
 by_cases h2:s.data.toList.getD a 0=59
 ·rw [ag9 h2,ag9 h2]; rfl
 rw [ac9 h2,ac9 h2]
 by_cases c:dJ (s.data.toList.getD a 0)=true
 ·rw [ag9 c,ag9 c];split <;> rfl
 rw [ac9 c,ac9 c]
 by_cases d:dM (s.data.toList.getD a 0)=true
 ·rw [ag9 d,ag9 d];split <;> rfl
 rw [ac9 d,ac9 d]
 by_cases e:s.data.toList.getD a 0=39
 ·rw [ag9 e,ag9 e]
  by_cases i:s.size<a+3
  ·rw [ag9 (.inl i),ag9 (.inl ad)]; rfl
  ·by_cases f:(s.data.toList.getD (a+1) 0).toNat<32\/126<(s.data.toList.getD (a+1) 0).toNat\/s.data.toList.getD (a+1) 0=39\/s.data.toList.getD (a+2) 0≠39
   ·rw [ag9 (.inr f),ag9 (.inr f)]; rfl
   ·rw [ac9 (by intro b; rcases b with b | b; exact i b; exact f b),ac9 (by intro b; rcases b with b | b; omega; exact f b)]; rfl
 rw [ac9 e,ac9 e];split <;> rfl
theorem vj {p:UInt8->Bool}:∀ (l:List UInt8) {c:UInt8},c∈l.takeWhile p->p c=true
 | [],c,h=>by simp at h
 | d::l,c,h=>by
  rw [List.takeWhile_cons] at h;cases a:p d with
  | false=>rw [a] at h; simp at h
  | true =>
   rw [a] at h;simp only [if_true,List.mem_cons] at h;rcases h with rfl | h
   ·exact a
   ·exact vj l h
def kA {set D:List UInt8} (a:cy U set=0):cy (D.take (cy D set)++U) set=cy D set:=by
 unfold cy at a ⊢;have h1:U.takeWhile (λc=>set.contains c)=[]:=bu9 a;have h2:D.take (D.takeWhile λc=>set.contains c).length=D.takeWhile λc=>set.contains c:=(List.prefix_iff_eq_take.1 (List.takeWhile_prefix _)).symm
 rw [h2,List.takeWhile_append_of_pos,h1,cb9];exact λc hc=>vj D hc
def gw {set:List UInt8}:cy U set=0↔∀ c r,U=c::r->set.contains c=false:=by
 unfold cy;cases U with
 | nil=>simp
 | cons c r =>
  simp only [List.takeWhile_cons,List.cons.injEq,and_imp];cases h:set.contains c with
  | false=>simp only [Bool.false_eq_true,if_false,List.length_nil,true_iff]; rintro _ _ rfl rfl; exact h
  | true=>simp only [if_true,List.length_cons,Nat.add_one_ne_zero,false_iff]; intro a; have:=a c r rfl rfl; rw [h] at this; cases this
def Fx (c:UInt8) (h:cL.contains c=false):cP.contains c=false:=by
 have:=jf (λc=>cL.contains c || !cP.contains c) (λ_=>true) (by decide +kernel) c
 simp only [h,Bool.false_or,Bool.not_eq_true'] at this;exact this
def Il (c:UInt8) (h:cL.contains c=false):fS.contains c=false:=by
 have:=jf (λc=>cL.contains c || !fS.contains c) (λ_=>true) (by decide +kernel) c
 simp only [h,Bool.false_or,Bool.not_eq_true'] at this;exact this
def w9 (h:cy U cL=0):cy U cP=0:=gw.2 λc r a=>Fx c (gw.1 h c r a)
def GY (h:cy U cL=0):cy U fS=0:=gw.2 λc r a=>Il c (gw.1 h c r a)
def Jg {D E:List UInt8} (h0:(gV D).1≠0) (e:cy E cL=0):gV (D.take (gV D).1++E)=gV D:=by
 by_cases h1:D.take 2=[48,120]
 ·have a:gV D=if 8<cy (D.drop 2) fS\/cy (D.drop 2) fS=0 then (0,0) else (2+cy (D.drop 2) fS,xy 16 ((D.drop 2).take (cy (D.drop 2) fS))):=by
   unfold gV; rw [ag9 h1]
  have i:2<=D.length:=by
   have:=as9 List.length h1
   rw [au9] at this;simp at this; omega
  by_cases h2:8<cy (D.drop 2) fS\/cy (D.drop 2) fS=0
  ·rw [ag9 h2] at a;rw [a] at h0;exact (h0 rfl).elim
  ·rw [ac9 h2] at a;rw [a];have hr:=ov (D.drop 2) fS;have hloc:=kA (set:=fS) (D:=D.drop 2) (GY e);generalize cy (D.drop 2) fS=r at *;simp only;have j:D.take (2+r)=[48,120]++(D.drop 2).take r:=by
    rw [<- h1,List.take_add]
   rw [j,az9];unfold gV;rw [ag9 (by rfl)];have k:([48,120]++((D.drop 2).take r++E)).drop 2=(D.drop 2).take r++E:=rfl;rw [k,hloc,ac9 h2];have f:((D.drop 2).take r++E).take r=(D.drop 2).take r:=by
    rw [ci9 (by rw [au9]; omega),fr9,Nat.min_self]
   rw [f]
 ·have a:gV D=if (1<cy D cP/\D.getD 0 0=48)\/cy D cP=0\/4294967296<=xy 10 (D.take (cy D cP)) then (0,0) else (cy D cP,xy 10 (D.take (cy D cP))):=by
   unfold gV; rw [ac9 h1]
  by_cases h2:(1<cy D cP/\D.getD 0 0=48)\/cy D cP=0\/4294967296<=xy 10 (D.take (cy D cP))
  ·rw [ag9 h2] at a;rw [a] at h0;exact (h0 rfl).elim
  ·rw [ac9 h2] at a;rw [a];have hr:=ov D cP;have hloc:=kA (set:=cP) (D:=D) (w9 e);generalize cy D cP=r at *;simp only;have l:0<r:=by
    rcases Nat.eq_zero_or_pos r with h | h
    ·exact (h2 (.inr (.inl h))).elim
    ·exact h
   have f:(D.take r++E).take r=D.take r:=by
    rw [ci9 (by rw [au9]; omega),fr9,Nat.min_self]
   have m:(D.take r++E).getD 0 0=D.getD 0 0:=by
    cases D with
    | nil=>simp at hr; omega
    | cons d D=>obtain ⟨r,rfl⟩:∃ n,r=n+1:=⟨r-1,ad⟩; simp
   have o:¬ (D.take r++E).take 2=[48,120]:=by
    intro b
    by_cases p:2<=r
    ·rw [ci9 (by rw [au9]; omega),fr9,cp9 p] at b;exact h1 b
    ·have g:r=1:=ad
     subst g;cases D with
     | nil=>simp at hr
     | cons d D =>
      cases E with
      | nil=>simp at b
      | cons c E =>
       simp at b
       have:=gw.1 e c E rfl
       rw [b.2] at this;revert this; decide +kernel
   unfold gV;rw [ac9 o,hloc,f,m,ac9 h2]
def Kj {E:List UInt8} (h:np U=.tok H Y a) (f:cy E cL=0\/cy (U.drop Y) cL≠0):np (U.take Y++E)=.tok H Y a/\0<Y/\Y<=U.length:=by
 cases U with
 | nil=>simp [np] at h
 | cons d U =>
  unfold np at h;rw [ac9 ai] at h;rw [List.getD_cons_zero] at h;have g:0<Y->np ((d::U).take Y++E)=(if d=59 then .stop
   else if dJ d=true then
    if 32<cy ((d::U).take Y++E) cL then .iH else .tok 1 (cy ((d::U).take Y++E) cL) 0
   else if dM d=true then
    if (gV ((d::U).take Y++E)).1=0\/0<cy (((d::U).take Y++E).drop (gV ((d::U).take Y++E)).1) cL then .iH else .tok 2 (gV ((d::U).take Y++E)).1 (gV ((d::U).take Y++E)).2
   else if d=39 then
    if ((d::U).take Y++E).length<3\/(((d::U).take Y++E).getD 1 0).toNat<32\/126<(((d::U).take Y++E).getD 1 0).toNat\/((d::U).take Y++E).getD 1 0=39\/((d::U).take Y++E).getD 2 0≠39 then .iH
    else .tok 2 3 (((d::U).take Y++E).getD 1 0).toNat
   else if BW.contains d=true then .tok 3 1 0
   else .iH):=by
   intro hn;have e0:((d::U).take Y++E).getD 0 0=d:=by
    obtain ⟨Y,rfl⟩:∃ x,Y=x+1:=⟨Y-1,ad⟩
    simp
   conv=>lhs; unfold np
   rw [ac9 (by obtain ⟨Y,rfl⟩:∃ x,Y=x+1:=⟨Y-1,ad⟩; simp),e0]
  by_cases h2:d=59
  ·rw [ag9 h2] at h; cases h
  rw [ac9 h2] at h
  by_cases o:dJ d=true
  ·rw [ag9 o] at h;have hpos:=uv (d::U) cL 0 ad ai;rw [List.getD_cons_zero,show cL=gk++cP from rfl,BX,o] at hpos;have hpos:=hpos.2 rfl;rw [<- show cL=gk++cP from rfl] at hpos
   by_cases i:32<cy (d::U) cL
   ·rw [ag9 i] at h; cases h
   rw [ac9 i] at h;injection h with q s t
   subst q s t;have hr:=ov (d::U) cL;have u:cy E cL=0:=by
    rcases f with f | f
    ·exact f
    ·refine (f ?_).elim;refine gw.2 λc r y=>?_
     have:=nV (p:=λc=>cL.contains c) (d::U) (cy (d::U) cL) (am9 _) (by
      have:=as9 List.length y
      rw [bs9] at this; simp at this ⊢; omega)
     have b:¬ cy (d::U) cL<((d::U).takeWhile λc=>cL.contains c).length:=Nat.lt_irrefl _;rw [this] at b;have e:(d::U).getD (cy (d::U) cL) 0=c:=by
      have:=as9 (λl=>l.getD 0 0) y
      simp only [CR,Nat.add_zero,List.getD_cons_zero] at this;exact this
     rw [e] at b;simpa using b
   refine ⟨?_,hpos,hr⟩;rw [g hpos,ac9 h2,ag9 o,kA u,ac9 i]
  rw [ac9 o] at h
  by_cases i:dM d=true
  ·rw [ag9 i] at h
   by_cases b:(gV (d::U)).1=0\/0<cy ((d::U).drop (gV (d::U)).1) cL
   ·rw [ag9 b] at h; cases h
   rw [ac9 b] at h;injection h with q s t
   subst q s t;have u:cy E cL=0:=by
    rcases f with f | f
    ·exact f
    ·omega
   have hl:=(Uy (d::U)).1;have z:(gV (d::U)).1≠0:=λw=>b (.inl w)
   have hloc:=Jg z u;refine ⟨?_,ad,hl⟩;rw [g ad,ac9 h2,ac9 o,ag9 i,hloc];rw [dc9 (by rw [au9]; omega),List.drop_take,fg9,List.take_zero,cw9,ac9 ad]
  rw [ac9 i] at h
  by_cases b:d=39
  ·rw [ag9 b] at h
   by_cases e:(d::U).length<3\/((d::U).getD 1 0).toNat<32\/126<((d::U).getD 1 0).toNat\/(d::U).getD 1 0=39\/(d::U).getD 2 0≠39
   ·rw [ag9 e] at h; cases h
   rw [ac9 e] at h;injection h with q s t
   subst q s t;have j:3<=(d::U).length:=ad
   refine ⟨?_,ad,j⟩
   match U,j with
   | A::B::U,_ =>
    rw [g ad,ac9 h2,ac9 o,ac9 i,ag9 b];simp only [List.take_succ_cons,List.take_zero,List.cons_append,List.nil_append,List.getD_cons_succ,List.getD_cons_zero,List.length_cons] at e ⊢;rw [ac9 (by intro w; apply e; rcases w with w | w; omega; exact .inr w)]
  rw [ac9 b] at h
  by_cases e:BW.contains d=true
  ·rw [ag9 e] at h;injection h with q s t
   subst q s t;refine ⟨?_,ad,ai⟩;rw [g ad,ac9 h2,ac9 o,ac9 i,ac9 b,ag9 e]
  ·rw [ac9 e] at h; cases h
def wJ (P:Program) (t:TypeId):Array Field :=
 match P.underlying t with
 | some (.struct a)=>a
 | _=>#[]
def bytes_beq (t:Xaa):(t==t)=true:=by
 cases t with | mk d=>show (d==d)=true; simp
def hv (c:UInt8):Int:=if Ck c=true then (dv c:Int) else -1
def wb (D:List UInt8):Nat × Nat :=
 if D.getD 0 0=39 then
  (if D.length<3\/(D.getD 1 0).toNat<32\/126<(D.getD 1 0).toNat\/D.getD 1 0=39\/D.getD 2 0≠39 then (0,0) else ((D.getD 1 0).toNat,3))
 else if (gV D).1=0\/0<cy (D.drop (gV D).1) cL then (0,0) else ((gV D).2,(gV D).1)
inductive wM (s:Xaa):Nat->List Tok->Prop where
 | stop (k:Nat):k<=s.size->np (s.data.toList.drop (k+cy (s.data.toList.drop k) dV))=.stop->wM s k []
 | tok (k kind n m:Nat) (ts:List Tok):k<=s.size->np (s.data.toList.drop (k+cy (s.data.toList.drop k) dV))=.tok kind n m->wM s (k+cy (s.data.toList.drop k) dV+n) ts ->
   wM s k (⟨kind,s.extract (k+cy (s.data.toList.drop k) dV) (k+cy (s.data.toList.drop k) dV+n),m,k+cy (s.data.toList.drop k) dV⟩::ts)
def Cp (hk:H<=O.size):H+cy (O.data.toList.drop H) dV<=O.size:=by
 have h1:=ov (O.data.toList.drop H) dV;rw [bs9] at h1;have a:O.data.toList.length=O.size:=ai
 omega
def qO (hk:H<=O.size):mu O H=Om O (H+cy (O.data.toList.drop H) dV) (np (O.data.toList.drop (H+cy (O.data.toList.drop H) dV))):=by
 unfold mu;exact Kk O _ (Cp hk)
def BF (h:np U=.tok H Y a):0<Y/\Y<=U.length:=(Kj (E:=[]) h (.inl rfl)).2
def SB:np []=.stop:=rfl
theorem B8 {s:Xaa}:∀ (f k:Nat) (b:List Tok),k<=s.size->s.size-k<f ->
  (∃ ts,wM s k ts/\Ah s f k b=(b++ts,0,0))\/(∃ a,a<s.size/\Ah s f k b=([],a,20))
 | 0,k,b,hk,g=>ad
 | f+1,k,b,hk,g=>by
  have hst:=qO hk;have ha:=Cp hk;have i:s.data.toList.length=s.size:=ai
  cases c:np (s.data.toList.drop (k+cy (s.data.toList.drop k) dV)) with
  | stop =>
   rw [c] at hst;exact .inl ⟨[],.stop k hk c,by rw [Dz hst,cb9]⟩
  | iH =>
   rw [c] at hst;refine .inr ⟨_,?_,I6 hst⟩;rcases cj9 (k+cy (s.data.toList.drop k) dV) s.size with h | h
   ·exact h
   ·rw [ce9 ad,SB] at c; cases c
  | tok kind n m =>
   rw [c] at hst;obtain ⟨h1,h2⟩:=BF c;rw [bs9] at h2;rcases B8 (s:=s) f (k+cy (s.data.toList.drop k) dV+n) (b++[⟨kind,s.extract (k+cy (s.data.toList.drop k) dV) (k+cy (s.data.toList.drop k) dV+n),m,k+cy (s.data.toList.drop k) dV⟩]) ad ad with ⟨ts,hc,d⟩ | ⟨a,e,d⟩
   ·refine .inl ⟨_,.tok k kind n m ts hk c hc,?_⟩;rw [A5 hst,d,az9,List.singleton_append]
   ·exact .inr ⟨a,e,by rw [A5 hst,d]⟩
def Jp {ts:List Tok} (h:wM O H ts):∀ (f:Nat) (a:List Tok),O.size-H<f->Ah O f H a=(a++ts,0,0):=by
 induction h with
 | stop H hk b =>
  intro f a d;obtain ⟨f,rfl⟩:∃ c,f=c+1:=⟨f-1,ad⟩
  have hst:=qO hk;rw [b] at hst;rw [Dz hst,cb9]
 | tok H kind n m ts hk b hc e =>
  intro f a d;obtain ⟨f,rfl⟩:∃ c,f=c+1:=⟨f-1,ad⟩
  have hst:=qO hk;rw [b] at hst;obtain ⟨h1,h2⟩:=BF b;have ha:=Cp hk;have g:O.data.toList.length=O.size:=ai
  rw [bs9] at h2;rw [A5 hst,e f _ ad,az9,List.singleton_append]
def W9 (s:Xaa):(wM s 0 (F' s).1/\(F' s).2=(0,0))\/(∃ a,a<s.size/\F' s=([],a,20)):=by
 rcases B8 (s:=s) (s.size+1) 0 [] ad ad with ⟨ts,hc,b⟩ | ⟨a,c,b⟩
 ·refine .inl ?_;unfold F';rw [b];exact ⟨hc,rfl⟩
 ·exact .inr ⟨a,c,b⟩
def Ji {ts:List Tok} (h:wM O 0 ts):F' O=(ts,0,0):=by
 unfold F';rw [Jp h _ _ ad]; rfl
def AX {t:Xaa} (h:O.data.toList=t.data.toList):O=t:=by
 cases O; cases t;simp only at h
 congr 1
 exact ca9.1 h
def rN {set:List UInt8} (h:cy U set=U.length):cy (U++j) set=U.length+cy j set:=by
 unfold cy at h ⊢
 induction U with
 | nil=>simp
 | cons d U b =>
  simp only [List.cons_append,List.takeWhile_cons] at h ⊢;cases a:set.contains d with
  | false=>rw [a] at h; simp at h
  | true =>
   rw [a] at h;simp only [if_true,List.length_cons] at h ⊢;rw [b ad];omega
def I9 (h:np U=.tok H Y a):cy U dV=0:=by
 refine gw.2 λc r b=>?_
 subst b;cases d:dV.contains c with
 | false=>rfl
 | true =>
  exfalso;have hall:=jf (λc=>!dV.contains c || (!decide (c=59) && !dJ c && !dM c && !decide (c=39) && !BW.contains c)) (λ_=>true) (by decide +kernel) c;simp only [d,Bool.not_true,Bool.false_or,Bool.and_eq_true,Bool.not_eq_true',decide_eq_false_iff_not] at hall;obtain ⟨⟨⟨⟨h1,h2⟩,e⟩,f⟩,g⟩:=hall;unfold np at h;simp only [List.getD_cons_zero] at h;rw [ac9 ai,ac9 h1,ac9 (by rw [h2]; simp),ac9 (by rw [e]; simp),ac9 f,ac9 (by rw [g]; simp)] at h;cases h
structure oX where
 p:Xac
 l:Nat
 c:Nat
 q:Xac
 d:Nat
 ts:List Tok
def oX.one (e:oX):List Xab:=[.slice e.p e.l e.c]
def oX.two (e:oX):List Xab:=[.slice e.q e.l e.d]
def oX.uJ (e:oX):List Nat:=ax e.p++ax e.q
def eX (p:Xac) (k:Nat):ax (p.map λa=>a.add k)=ax p:=by
 cases p with
 | none=>rfl
 | some a=>simp [ax,fw]
def MJ {h:Hp} {gb:Nat} {l:List Nat} (a:Ch (gb::l) h h1) (c:Ch [gb] h1 h2):Ch (gb::l) h h2:=a.trans c (λi hi _=>by simp at hi; simp [hi])
def du (b:Nat) (h h':Hp):Prop:=h.size<=h'.size/\∀ i,i<b->i<h.size->h'[i]?=h[i]?
def du.of {ws:List Nat} {h h':Hp} (k:Ch ws h h') (a:∀ i,i∈ws->i<h.size->H<=i):du H h h' :=
 ⟨k.size,λi hi hl=>k.same i hl λc=>by have:=a i c hl; omega⟩
def du.trans {b:Nat} {h:Hp} (a:du b h h1) (c:du b h1 h2):du b h h2 :=
 ⟨cd9 a.1 c.1,λi hi hl=>(c.2 i hi (ea9 hl a.1)).trans (a.2 i hi hl)⟩
def du.ext {h:Hp} (a:Ext h h1) (c:du h.size h1 h2):Ext h h2 :=
 ⟨cd9 a.size c.1,λi hi _=>(c.2 i hi (ea9 hi a.size)).trans (a.same i hi ai)⟩
def Yu (k j:Nat):List Xab:=[vI (IntKind.wrap .i64 (-100-(k:Int))),.string ⟨#[]⟩,.int .u32 0,vI (IntKind.wrap .i64 (0-(j:Int)))]
def yG {cells vs:List Xab} (hv:vs.length=Y) (h:H+Y<=cells.length):((iw cells H vs).drop H).take Y=vs:=by
 rw [ig _ _ _ ad,az9];rw [dc9 (by rw [au9]; omega),dl9 (by rw [au9]; omega),cw9,ci9 ad,bo9 ad]
def sG {cells vs:List Xab} {o' n:Nat} (h:H+vs.length<=cells.length) (h':o'+n<=H):((iw cells H vs).drop o').take n=(cells.drop o').take n:=by
 rw [ig _ _ _ ad,az9];rw [dc9 (by rw [au9]; omega),ci9 (by rw [bs9,au9]; omega)];rw [List.drop_take,fr9,cp9 ad]
def N6 (t:Tok) (c:UInt8):Bool:=t.kind==3 && t.text.data.toList==[c]
def add_add (a:Xax) (i j:Nat):(a.add i).add j=a.add (i+j):=by
 unfold Addr.add
 by_cases hi:i=0 <;> by_cases b:j=0 <;> simp [hi,b] <;> omega
abbrev kL:=Except Nat (bK × List Tok)
def aao (b:Bool) (x:bK):bK:=if b=true then wA x 4294967295 else x
def vZ:bK:=⟨[],0⟩
def Wz (o:Option (List Tok->kL)) (ts:List Tok):kL :=
 match ts with
 | []=>.error 20
 | t::r =>
  if t.kind=1 then if (rW t.text.data.toList).2.2=true then .error 20 else .ok (⟨[(t.text,1)],0⟩,r)
  else if t.kind=2 then .ok (⟨[],t.num⟩,r)
  else if N6 t 40=true then match o with
   | none=>.error 21
   | some f=>match f r with
    | .error e=>.error e
    | .ok (x,b)=>match b with
     | []=>.error 20
     | c::a=>if N6 c 41=true then .ok (x,a) else .error 20
  else .error 20
def TW (o:Option (List Tok->kL)) (b:Bool) (ts:List Tok):kL :=
 match Wz o ts with
 | .error e=>.error e
 | .ok (x,r)=>.ok (aao b x,r)
def UX (o:Option (List Tok->kL)):Bool->List Tok->kL
 | b,[]=>TW o b []
 | b,t::r=>if N6 t 45=true then UX o (!b) r else TW o b (t::r)
def uL (o:Option (List Tok->kL)) (ts:List Tok):kL:=UX o false ts
def pD (a:List Tok->kL):Nat->bK->List Tok->kL
 | 0,x,r=>.ok (x,r)
 | n+1,x,r=>match r with
  | []=>.ok (x,[])
  | t::c=>if N6 t 42=true then match a c with
    | .error e=>.error e
    | .ok (y,b)=>if x.af≠[]/\y.af≠[] then .error 21 else if y.af≠[] then pD a n (wA y x.num) b else pD a n (wA x y.num) b
   else .ok (x,t::c)
def nC (a:List Tok->kL) (ts:List Tok):kL :=
 match a ts with
 | .error e=>.error e
 | .ok (x,r)=>pD a r.length x r
def NE (part:List Tok->kL):Nat->bK->List Tok->kL
 | 0,x,r=>.ok (x,r)
 | n+1,x,r=>match r with
  | []=>.ok (x,[])
  | t::b=>if N6 t 43=true then match part b with
    | .error e=>.error e
    | .ok (y,a)=>NE part n (kB x y) a
   else if N6 t 45=true then match part b with
    | .error e=>.error e
    | .ok (y,a)=>NE part n (kB x (wA y 4294967295)) a
   else .ok (x,t::b)
def Mo (part:List Tok->kL) (ts:List Tok):kL :=
 match part ts with
 | .error e=>.error e
 | .ok (x,r)=>NE part r.length x r
def Vl:Nat->List Tok->kL
 | 0=>Mo (nC (uL none))
 | k+1=>Mo (nC (uL (some (Vl k))))
def WY:Nat->Option (List Tok->kL)
 | 0=>none
 | k+1=>some (Vl k)
def Tc (k:Nat):Vl k=Mo (nC (uL (WY k))):=by cases k <;> rfl
def QK (ts:List Tok):Except Nat bK :=
 match Vl 32 ts with
 | .error e=>.error e
 | .ok (x,r)=>if r=[] then .ok x else .error 20
structure Good (x:bK):Prop where
 nf:Nf x.af
 K9:∀ t,t∈x.af->cD t.1.data.toList=true
 num:x.num<4294967296
def BV (h:cD O.data.toList=true):O.size<=32:=by
 unfold cD at h;simp only [Bool.and_eq_true,decide_eq_true_eq] at h
 have:O.data.toList.length=O.size:=ai
 omega
abbrev ptr (a:Nat):Xab:=.pointer (some ⟨a,0,none⟩)
def V' (e:Nat) (ts:List Tok) (c:UInt8):Bool:=decide (e=0) && match ts with
 | []=>false
 | t::_=>N6 t c
def vO {a:List Tok->kL} {x:bK} {ts:List Tok} (h:V' 0 ts 42=false):pD a H x ts=.ok (x,ts):=by
 cases H with
 | zero=>rfl
 | succ H =>
  cases ts with
  | nil=>rfl
  | cons t r =>
   have h:N6 t 42=false:=h;unfold pD;simp only;rw [ac9 (by rw [h]; simp)]
section any
variable {P:Program} {h:Hp}
def yj (a:Xax) (l:List UInt8) (cap:Nat) (K:Xab->Hp->Prop) (hc:aH h a 0 (l.map B')) (hk:K (.string ⟨l.toArray⟩) h):aQ P (Conv.bytesToString (.slice (some a) l.length cap)) h K:=by
 unfold Conv.bytesToString;simp only;rw [an];refine dK ai hc _ ?_;rw [an,<- Array.forIn_toList]
 have b:∀ (l:List UInt8) (s:Xaa) (K':Xaa->Hp->Prop),K' ⟨s.data++l.toArray⟩ h->aQ P (forIn (l.map B') s λc r=>match c with
   | .int .u8 n=>(pure (ForInStep.yield (r.push (UInt8.ofNat n.toNat))):Sem (ForInStep Xaa))
   | _ => stuck "bytesToString: byte expected") h K' := by
  intro l
  induction l with
  | nil =>
   intro s K' hk;have e:(⟨s.data++([]:List UInt8).toArray⟩:Xaa)=s:=ai
   rw [e] at hk;exact hk
  | cons c l d =>
   intro s K' hk;rw [bq9,List.forIn_cons];rw [an];show aQ P (forIn (List.map B' l) (s.push (UInt8.ofNat ((c.toNat:Nat):Int).toNat)) _) h K';have f:UInt8.ofNat ((c.toNat:Nat):Int).toNat=c:=ai
   rw [f];refine d (s.push c) K' ?_
   have:(⟨(s.push c).data++l.toArray⟩:Xaa)=⟨s.data++(c::l).toArray⟩:=by
    congr 1
    apply ca9.1
    simp
   rw [this]; exact hk
 refine b l ByteArray.empty _ ?_;have e:(⟨ByteArray.empty.data++l.toArray⟩:Xaa)=⟨l.toArray⟩:=by
  congr 1
  apply ca9.1
  simp
 rw [e];exact hk
def zW {t e:TypeId} {n:Nat} {i:TypeInfo} (ht:P.underlying t=some (.array n e)) (hi:P.info? e=some i) (a:Xax) {k:IntKind} {m:Int} (h0:0<=m) (h1:m<=n) (K:Xab->Hp->Prop) (hk:K (.slice (some a) m.toNat n) h) :
  aQ P (Instr.sliceAt t (.pointer (some a)) none (some (.int k m)) none) h K:=by
 unfold Instr.sliceAt;rw [an,az ht];show aQ P (Instr.sliceBounds false n n none (some (.int k m)) none >>= λx=>(do let size <- sizeOf e; pure (.slice (some (if x.2.2=x.1 then a else a.add (x.1*size))) (x.2.1-x.1) (x.2.2-x.1)):Sem Xab)) h K;rw [an,j8 (lo:=none) (hi:=some (.int k m)) false n n rfl rfl (Int.le_refl _) h0 h1];rw [an,bT hi];show K (.slice (some (if n=0 then a else a.add (0*P.cellsOf e))) (m.toNat-0) (n-0)) h;have b:(if n=0 then a else a.add (0*P.cellsOf e))=a:=by simp [Addr.add]
 rw [b];exact hk
end any
def eU (h:Hp):Prop:=∃ e f,h[1]?=some (.cells (Lib.pow10Tab.map λz=>Value.int .u64 z).toArray e f)
def eU.aj {ws:List Nat} {h h':Hp} (p:eU h) (k:Ch ws h h') (a:∀ i,i∈ws->1<i):eU h':=by
 obtain ⟨e,f,b⟩:=p;exact ⟨e,f,k.get b (λc=>by have:=a _ c; omega)⟩
def eU.lt {h:Hp} (p:eU h):1<h.size:=by
 obtain ⟨e,f,a⟩:=p;exact eY a
def Kx {name:String} (a:Tryz.prog.globalNamed name=some 1) (p:eU h.heap):Lib.TabIs Xaz h name .u64 Lib.pow10Tab:=by
 obtain ⟨e,f,b⟩:=p;unfold Lib.TabIs World.var?;rw [a];show (match h.heap[1]? with | some (.cells cs _ _)=>some cs | _=>none)=_;rw [b]
def uu {h:Hp} (p:eU h) (u:Nat) (h1:1<=u) (h2:u<18446744073709551616):ug Xaz 119 [.int .u64 u] h (vI (Lib.nDigits u)):=by
 intro W a;refine ((Any.internal_strconv_numDigits Tryz.Qv u h1 h2 W (Kx av (by rw [a]; exact p))).mono ?_);rintro e w' ⟨c,b⟩;exact ⟨_,c,by rw [b]; exact dO.refl W,rfl,by rw [b]; exact a⟩
def O8 (i:Nat) (hi:i<100) (h:Hp):ug Xaz 118 [vI i] h (.string ⟨(Lib.decDigits i).toArray⟩) :=
 Nw λw=>Tryz.internal_strconv_small i hi w
def Mv {h:Hp} {xs:List Xab} (b:br h H c xs) (u cap n:Nat) (hn:n<=xs.length) (p:∀ j,j<n->xs[j]?=some (.int .u8 0)) (q:u<10^n) (h2:u<18446744073709551616) (f:n<4611686018427387904) :
  HC Xaz 120 #[.slice (some ⟨H,0,none⟩) n cap,.int .u64 u] h λv h'=>v=.tuple #[]/\Ch [H] h h'/\h'.size=h.size/\∃ (v':Nat) (a:Array UInt8),Lib.FmtInv n u 0 v' a/\∀ j,j<n->iB h' ⟨H,j,none⟩=some (B' a[j]!):=by
 intro W r;subst r;have o:Sort.Holds (λ(b:UInt8)=>Value.int .u8 (b.toNat:Int)) W H 0 (Array.replicate n (0:UInt8)):=by
  intro j d;have l:j<n:=by simpa using d
  refine ⟨?_,?_⟩
  ·rw [Ec,b.cell,by9,p j l,getElem!_pos _ j d]
   simp
  ·exact b.frozen
 have hc:=Tryz.internal_strconv_formatBase10 H 0 cap u (Array.replicate n 0) W o (by rw [fs9]; exact q) h2 (by rw [fs9]; exact f);rw [fs9] at hc;refine hc.mono ?_;rintro t w' ⟨rfl,k,v',a,rfl,m⟩;refine ⟨_,rfl,⟨rfl,rfl,rfl⟩,rfl,⟨?_,?_⟩,?_,v',a,m,?_⟩
 ·show W.heap.size<=(W.heap.modify H _).size
  simp
 ·intro i hi s;show (W.heap.modify H _)[i]?=_;rw [Array.getElem?_modify,ac9 (by simp at s; omega)]
 ·show (W.heap.modify H _).size=W.heap.size
  simp
 ·intro j d
  have:=Sort.cell?_putRow (λ(b:UInt8)=>Value.int .u8 (b.toNat:Int)) W H 0 _ a o (by rw [m.size,fs9]) j (by rw [m.size]; exact d)
  rw [by9] at this;exact this
def QJ:Tryz.prog.underlying 234=some (.array 24 5):=av
def Xi:Tryz.prog.underlying 204=some (.slice 5):=av
def aaG:Tryz.prog.underlying 5=some (.int .u8):=av
def Zu:(Tryz.prog.info? 5).isSome=true:=av
def eO (n:Nat):Xaa:=⟨(Lib.decDigits n).toArray⟩
def ix (t:Xaa × Nat):Xaa:=if t.2=1 then t.1 else (eO t.2++⟨#[42]⟩)++t.1
def nH (x:bK):List Xaa:=if x.num≠0\/x.af=[] then [eO x.num] else []
def fM (x:bK):Xaa:=⟨(Lib.join ((x.af.map ix++nH x).map (·.data.toList)) [43]).toArray⟩
def AW {n:Nat} (h:n<4294967296):(eO n).size<=20:=by
 have e:(eO n).size=Lib.nDigits n:=by
  show (Lib.decDigits n).toArray.size=_;rw [List.size_toArray,Lib.decDigits_length]
 rw [e]
 by_cases h0:n=0
 ·subst h0; rw [Lib.nDigits_small ad]; omega
 ·have:=Lib.numDigits_eq n ad ad
  split at this <;> omega
def mV (a b:Xaa):(a++b).size=a.size+b.size:=ai
def Jt (h:Z.1.size<=32) (k:Z.2<4294967296):(ix Z).size<=53:=by
 unfold ix;split
 ·omega
 ·have:=AW k
  rw [mV,mV]
  have:(⟨#[42]⟩:Xaa).size=1:=rfl
  omega
theorem join_length:∀ (xs:List (List UInt8)) (m:Nat),(∀ x,x∈xs->x.length<=m)->(Lib.join xs [43]).length<=xs.length*(m+1)
 | [],m,_=>by rw [Lib.join_nil]; simp
 | [x],m,h=>by rw [Lib.join_one]; have:=h x ai; simp; omega
 | x::y::r,m,h=>by
  have ih:=join_length (y::r) m (λz a=>h z (aq9 _ a));have hx:=h x ai;have e:Lib.join (x::y::r) [43]=x++[43]++Lib.join (y::r) [43]:=by
   unfold Lib.join;simp [List.intercalate,List.intersperse]
  rw [e,ae9,ae9];simp only [List.length_cons,List.length_nil] at ih ⊢;rw [Nat.succ_mul (r.length+1)];omega
def PO:Tryz.prog.underlying 68=some (.slice 9):=av
def Oi:(Tryz.prog.info? 9).map (λi=>(i.zero,i.size,i.bytes))=some (some (.string ⟨#[]⟩),1,16):=av
def ik (f:Xaa->Nat):dr->Nat
 | []=>0
 | p::l=>p.2*f p.1+ik f l
def fz (f:Xaa->Nat) (p:Xaa × Nat) (l:dr):ik f (p::l)=p.2*f p.1+ik f l:=rfl
def QN (a b:Nat):a % 4294967296*b % 4294967296=a*b % 4294967296:=by rw [ft9,gc9,<- ft9]
structure Wd where
 w:List UInt8
 k:Nat
 n:Nat
def cat:List Wd->List UInt8
 | []=>[]
 | x::r=>x.w++cat r
def Bu (a b:List Wd):cat (a++b)=cat a++cat b:=by
 induction a with
 | nil=>rfl
 | cons x a c=>simp only [List.cons_append,cat,c,List.append_assoc]
def gy:Nat->List Wd->List Tok
 | _,[]=>[]
 | k,x::r=>⟨x.k,⟨x.w.toArray⟩,x.n,k⟩::gy (k+x.w.length) r
def uR (a b:List Wd):∀ k,gy k (a++b)=gy k a++gy (k+(cat a).length) b:=by
 induction a with
 | nil=>intro k; rfl
 | cons x a c =>
  intro k;simp only [List.cons_append,gy,cat,c,List.length_append];rw [Nat.add_assoc]
def CZ (a:List Wd):∀ k,(gy k a).length=a.length:=by
 induction a with
 | nil=>intro k; rfl
 | cons x a b=>intro k; simp only [gy,List.length_cons,b]
def Br:List Wd->Prop
 | []=>True
 | x::r=>np (x.w++cat r)=.tok x.k x.w.length x.n/\Br r
theorem zS {s:Xaa}:∀ (ws:List Wd) (k:Nat),Br ws->k<=s.size->s.data.toList.drop k=cat ws->wM s k (gy k ws)
 | [],k,_,hk,a=>by
  refine .stop k hk ?_;rw [<- fo9,a] <;> rfl
 | x::r,k,h,hk,a=>by
  obtain ⟨h1,h2⟩:=h;have d:s.data.toList.length=s.size:=ai
  have b:cy (s.data.toList.drop k) dV=0:=by rw [a]; exact I9 h1
  have a:s.data.toList.drop k=x.w++cat r:=a;have hlen:=as9 List.length a;rw [bs9,ae9] at hlen;have c:s.data.toList.drop (k+x.w.length)=cat r:=by
   rw [<- fo9,a,dy9]
  have hpos:=(BF h1).1;have hc:=zS (s:=s) r (k+x.w.length) h2 ad c
  have:=wM.tok k x.k x.w.length x.n (gy (k+x.w.length) r) hk (by rw [b,eh9,a]; exact h1) (by rw [b,eh9]; exact hc)
  rw [b,eh9] at this;have e:s.extract k (k+x.w.length)=⟨x.w.toArray⟩:=by
   refine Go.Sx.AX ?_;rw [SO,show k+x.w.length-k=x.w.length from ad,a,eg9]
  rw [e] at this;exact this
def Py (c:UInt8):cL.contains c=(dJ c || dM c):=BX c
def Vh (c:UInt8) (h:dM c=true):dJ c=false:=by
 have:=jf (λc=>dJ c && dM c) (λ_=>false) (by decide +kernel) c
 simp only [h,Bool.and_true] at this;exact this
def GM (c:UInt8) (h:cL.contains c=true):c≠59:=by rintro rfl; revert h; decide
def pN (a b:List UInt8) (h:a≠[]):(a++b).getD 0 0=a.getD 0 0:=by
 cases a with
 | nil=>exact absurd rfl h
 | cons c a=>rfl
def Dj (h:cD U=true) (e:cy j cL=0):np (U++j)=.tok 1 U.length 0:=by
 unfold cD at h;simp only [Bool.and_eq_true,decide_eq_true_eq] at h;obtain ⟨⟨⟨⟨h1,h2⟩,d⟩,f⟩,_⟩:=h;have a:U≠[]:=λg=>by rw [g] at h1; simp at h1
 have b:cy U cL=U.length:=AP.2 (by simpa only [Py] using f);have c:cy (U++j) cL=U.length:=by rw [rN b,e]; rfl
 unfold np;rw [ac9 (by simp [a]),pN _ _ a,ac9,ag9 d,c,ac9 ad];exact GM _ (by rw [Py,d]; rfl)
def zz (l:List UInt8) (c:UInt8):xy 10 (l++[c])=xy 10 l*10+dv c:=by
 unfold xy;rw [ck9] <;> rfl
def Ek {u:Nat} (h:u<10):dM (UInt8.ofNat (48+u))=true/\dv (UInt8.ofNat (48+u))=u/\(UInt8.ofNat (48+u)=48->u=0):=by
 have:∀ u,u<10->(dM (UInt8.ofNat (48+u))=true/\dv (UInt8.ofNat (48+u))=u/\(UInt8.ofNat (48+u)=48->u=0)):=bH
 exact this u h
def Df (n:Nat):(∀ c,c∈Lib.decDigits n->dM c=true)/\xy 10 (Lib.decDigits n)=n/\Lib.decDigits n≠[]/\((Lib.decDigits n).getD 0 0=48->n=0)/\(n=0->(Lib.decDigits n).length=1):=by
 induction n using Nat.strongRecOn with
 | ind n j =>
  rw [Lib.decDigits]
  by_cases f:n<10
  ·rw [dif_pos f];obtain ⟨a,b,c⟩:=Ek f;refine ⟨?_,?_,ai,?_,λ_=>rfl⟩
   ·intro d i;rw [an9] at i;subst i;exact a
   ·show xy 10 ([]++[_])=n;rw [zz,b];show 0*10+n=n;omega
   ·exact c
  ·rw [dif_neg f];obtain ⟨a,b,c,d,e⟩:=j (n / 10) ad;obtain ⟨a',b',_⟩:=Ek (u:=n % 10) ad;refine ⟨?_,?_,ai,?_,λh=>ad⟩
   ·intro x g;rcases ar9.1 g with g | g
    ·exact a x g
    ·rw [an9] at g;subst g;exact a'
   ·rw [zz,b,b'];omega
   ·rw [pN _ _ c];intro h0
    have:=d h0
    omega
def Hm {n:Nat} {E:List UInt8} (hn:n<4294967296) (j:cy E cL=0):np (Lib.decDigits n++E)=.tok 2 (Lib.decDigits n).length n:=by
 obtain ⟨h1,h2,a,o,p⟩:=Df n;have b:cy (Lib.decDigits n) cP=(Lib.decDigits n).length:=AP.2 (bn9.2 λc hc=>by rw [MQ]; exact h1 c hc);have d:cy (Lib.decDigits n++E) cP=(Lib.decDigits n).length:=by rw [rN b,w9 j]; rfl
 have k:dM ((Lib.decDigits n).getD 0 0)=true:=by
  cases hl:Lib.decDigits n with
  | nil=>exact absurd hl a
  | cons c r=>exact h1 c (by rw [hl]; exact da9 ..)
 have q:0<(Lib.decDigits n).length:=List.length_pos_iff.2 a;have m:(Lib.decDigits n++E).take 2≠[48,120]:=by
  intro h;have h0:(Lib.decDigits n).getD 0 0=48:=by
   rw [<- pN _ E a]
   have:=as9 (λl=>l.getD 0 0) h
   simpa using this
  have hn0:=o h0;have hl1:=p hn0;have f:(Lib.decDigits n++E).getD 1 0=120:=by
   have:=as9 (λl=>l.getD 1 0) h
   simpa using this
  match s:Lib.decDigits n,hl1 with
  | [c],_ =>
   rw [s] at f h;cases E with
   | nil=>simp at h
   | cons e E =>
    have t:e=120:=by simpa using f
    subst t
    have:=gw.1 j 120 E rfl
    revert this;decide
 have g:gV (Lib.decDigits n++E)=((Lib.decDigits n).length,n):=by
  unfold gV;rw [ac9 m,d,eg9,h2,ac9];rintro (⟨u,i⟩ | i | i)
  ·rw [pN _ _ a] at i
   have:=p (o i)
   omega
  ·omega
  ·omega
 unfold np;rw [ac9 (by simp [a]),pN _ _ a,ac9 (GM _ (by rw [Py,k,Bool.or_true])),ac9 (by rw [Vh _ k]; simp),ag9 k,g,dy9,j,ac9];simp only [Nat.lt_irrefl,or_false];omega
def D1 {c:UInt8} (hc:c=43\/c=42) (E:List UInt8):np (c::E)=.tok 3 1 0:=by
 have a:(c::E).getD 0 0=c:=rfl;unfold np;rw [a];rcases hc with rfl | rfl
 ·rw [ac9 ai,ac9 bH,ac9 bH,ac9 bH,ac9 bH,ag9 bH]
 ·rw [ac9 ai,ac9 bH,ac9 bH,ac9 bH,ac9 bH,ag9 bH]
def LR:Wd:=⟨[43],3,0⟩
def OD:Wd:=⟨[42],3,0⟩
def Iu (s:Xaa):Wd:=⟨s.data.toList,1,0⟩
def EZ (n:Nat):Wd:=⟨Lib.decDigits n,2,n⟩
def ru (t:Xaa × Nat):List Wd:=if t.2=1 then [Iu t.1] else [EZ t.2,OD,Iu t.1]
def JW (t:Xaa × Nat):cat (ru t)=(ix t).data.toList:=by
 unfold ru ix;split
 ·simp [cat,Iu]
 ·simp [cat,Iu,EZ,OD,eO]
structure It where
 ws:List Wd
 x:bK
def iZ (l:dr):List It:=l.map λt=>⟨ru t,⟨[t],0⟩⟩
def jC (x:bK):List It:=if x.num≠0\/x.af=[] then [⟨[EZ x.num],⟨[],x.num⟩⟩] else []
def ir (l:List It):List Wd:=l.flatMap λi=>LR::i.ws
def FD:List It->List Wd
 | []=>[]
 | i::r=>i.ws++ir r
theorem GA:∀ (i:It) (l:List It),cat i.ws++cat (ir l)=Lib.join ((i::l).map λi=>cat i.ws) [43]
 | i,[]=>by
  rw [bq9,List.map_nil,Lib.join_one];simp [ir,cat]
 | i,j::l=>by
  have ih:=GA j l;have e:Lib.join ((i::j::l).map λi=>cat i.ws) [43]=cat i.ws++[43]++Lib.join ((j::l).map λi=>cat i.ws) [43]:=by
   unfold Lib.join;simp [List.intercalate,List.intersperse]
  rw [e,<- ih];have a:ir (j::l)=LR::(j.ws++ir l):=by simp [ir]
  rw [a];show cat i.ws++([43]++cat (j.ws++ir l))=_;rw [Bu];simp only [List.append_assoc]
def U1 (x:bK):cat (FD (iZ x.af++jC x))=(fM x).data.toList:=by
 have h1:(iZ x.af++jC x).map (λi=>cat i.ws)=(x.af.map ix++nH x).map (·.data.toList):=by
  rw [ao9,ao9]
  congr 1
  ·unfold iZ;rw [bg9,bg9];refine cm9 λt _=>?_
   exact JW t
  ·unfold jC nH;split
   ·simp [cat,EZ,eO]
   ·rfl
 unfold fM;rw [<- h1];cases hl:iZ x.af++jC x with
 | nil=>rfl
 | cons i l =>
  show cat (i.ws++ir l)=_;rw [Bu,GA]
def Ce (i:It):Prop:=∀ r:List Wd,cy (cat r) cL=0->Br r->Br (i.ws++r)
def Ow (h:cD Z.1.data.toList=true) (h2:Z.2<4294967296):Ce ⟨ru Z,⟨[Z],0⟩⟩:=by
 intro r a b;show Br (ru Z++r);unfold ru;split
 ·exact ⟨Dj h a,b⟩
 ·refine ⟨Hm h2 (E:=cat ([OD,Iu Z.1]++r)) ?_,D1 (.inr rfl) _,Dj h a,b⟩;exact gw.2 (by rintro c e ⟨⟩; decide)
def Qq (h:H<4294967296) (x:bK):Ce ⟨[EZ H],x⟩:=λr a b=>⟨Hm h a,b⟩
def CI (l:List It):cy (cat (ir l)) cL=0:=by
 cases l with
 | nil=>rfl
 | cons i l=>exact gw.2 (by rintro c e ⟨⟩; decide)
theorem A3:∀ l:List It,(∀ i,i∈l->Ce i)->Br (ir l)
 | [],_=>trivial
 | i::l,h=>by
  have ih:=A3 l λj a=>h j (aq9 _ a)
  have b:ir (i::l)=LR::(i.ws++ir l):=by simp [ir]
  rw [b];exact ⟨D1 (.inl rfl) _,h i (da9 ..) _ (CI l) ih⟩
def MV (l:List It) (h:∀ i,i∈l->Ce i):Br (FD l):=by
 cases l with
 | nil=>trivial
 | cons i l=>exact h i (da9 ..) _ (CI l) (A3 l λj a=>h j (aq9 _ a))
def Jf (r:List Tok):Prop:=V' 0 r 42=false
def Hq (o:Option (List Tok->kL)) (hk:g.kind=2) (r:List Tok):uL o (g::r)=.ok (⟨[],g.num⟩,r):=by
 have h1:N6 g 45=false:=by unfold N6; rw [hk]; rfl
 unfold uL UX;rw [ac9 (by rw [h1]; simp)];unfold TW Wz;simp only [hk] <;> rfl
def Dn (o:Option (List Tok->kL)) (hk:g.kind=1) (a:(rW g.text.data.toList).2.2=false) (r:List Tok):uL o (g::r)=.ok (⟨[(g.text,1)],0⟩,r):=by
 have h1:N6 g 45=false:=by unfold N6; rw [hk]; rfl
 unfold uL UX;rw [ac9 (by rw [h1]; simp)];unfold TW Wz;simp only [hk,a] <;> rfl
def M1 (h:cD U=true):(rW U).2.2=false:=by
 unfold cD at h;simp only [Bool.and_eq_true] at h;simpa using h.2
def Co (o:Option (List Tok->kL)) (i:It):Prop:=∀ (k:Nat) (r:List Tok),Jf r->nC (uL o) (gy k i.ws++r)=.ok (i.x,r)
def Jx (o:Option (List Tok->kL)) (n:Nat):Co o ⟨[EZ n],⟨[],n⟩⟩:=by
 intro k r a;show nC (uL o) (⟨2,_,n,k⟩::r)=_;unfold nC;rw [Hq o rfl];simp only;exact vO a
def JP (o:Option (List Tok->kL)) (h:cD Z.1.data.toList=true) (h0:Z.2≠0) (h2:Z.2<4294967296):Co o ⟨ru Z,⟨[Z],0⟩⟩:=by
 intro k r a;show nC (uL o) (gy k (ru Z)++r)=_;have hreg:=M1 h;unfold ru;split
 ·rename_i h1;show nC (uL o) (⟨1,⟨Z.1.data.toList.toArray⟩,0,k⟩::r)=_;unfold nC;rw [Dn o rfl (by simpa using hreg)];simp only;rw [vO a];have e:Z=(⟨Z.1.data.toList.toArray⟩,1):=by rw [<- h1]
  rw [<- e]
 ·show nC (uL o) (⟨2,_,Z.2,k⟩::⟨3,⟨#[42]⟩,0,k+(EZ Z.2).w.length⟩::⟨1,⟨Z.1.data.toList.toArray⟩,0,k+(EZ Z.2).w.length+1⟩::r)=_;unfold nC;rw [Hq o rfl];simp only [List.length_cons];unfold pD;simp only;rw [ag9 (by rfl),Dn o rfl (by simpa using hreg)];simp only;rw [ac9 ai,ag9 ai,vO a];have b:Z.2 % 4294967296=Z.2:=eb9 h2;unfold wA fA;simp only [List.filterMap_cons,Nat.one_mul,b,if_neg h0,List.filterMap_nil,Nat.zero_mul]
theorem GL (o:Option (List Tok->kL)):∀ (l:List It),(∀ i,i∈l->Co o i)->∀ (n k:Nat) (x:bK),l.length<=n->NE (nC (uL o)) n x (gy k (ir l))=.ok (l.foldl (λa i=>kB a i.x) x,[])
 | [],_,n,k,x,_=>by cases n <;> rfl
 | i::l,h,n,k,x,hn=>by
  simp only [List.length_cons] at hn;obtain ⟨n,rfl⟩:∃ m,n=m+1:=⟨n-1,ad⟩
  have c:ir (i::l)=LR::(i.ws++ir l):=by simp [ir]
  rw [c];have b:Jf (gy (k+1+(cat i.ws).length) (ir l)):=by
   cases l with
   | nil=>rfl
   | cons j l=>rfl
  have hp:=h i (da9 ..) (k+1) _ b;show NE (nC (uL o)) (n+1) x (⟨3,⟨#[43]⟩,0,k⟩::gy (k+1) (i.ws++ir l))=_;rw [uR];unfold NE;simp only;rw [ag9 (by rfl),hp];simp only;rw [GL o l (λj d=>h j (aq9 _ d)) n _ _ ad] <;> rfl
def Ul (o:Option (List Tok->kL)) {i:It} {l:List It} (h:∀ j,j∈i::l->Co o j) (k:Nat):Mo (nC (uL o)) (gy k (FD (i::l)))=.ok (l.foldl (λa i=>kB a i.x) i.x,[]):=by
 have b:Jf (gy (k+(cat i.ws).length) (ir l)):=by
  cases l with
  | nil=>rfl
  | cons j l=>rfl
 show Mo (nC (uL o)) (gy k (i.ws++ir l))=_;rw [uR];unfold Mo;rw [h i (da9 ..) k _ b];simp only;refine GL o l (λj c=>h j (aq9 _ c)) _ _ _ ?_;rw [CZ];unfold ir;clear h b
 induction l with
 | nil=>simp
 | cons j l d =>
  simp only [List.flatMap_cons,List.length_append,List.length_cons];omega
def M2 {l:dr} (h:Nf (l++[Z])):He l [Z]=l++[Z]:=by
 have hl:Nf l:=⟨(fu9.1 h.1).1,λp a=>h.2 p (be9 _ a)⟩
 have ht:Nf [Z]:=⟨List.pairwise_singleton _ _,λp a=>h.2 p (bi9 _ a)⟩
 refine Nf.Nt (FO hl ht) h λs=>?_
 rw [FJ,DD]
def RN {l:dr} (h:Nf l):He l []=l:=Nf.Nt (FO h Nf.nil) h λs=>by rw [FJ]; simp [cf]
theorem AY:∀ (r a:dr),Nf (a++r)->(iZ r).foldl (λa i=>kB a i.x) ⟨a,0⟩=⟨a++r,0⟩
 | [],a,_=>by simp [iZ]
 | t::r,a,h=>by
  have h':Nf ((a++[t])++r):=by simpa using h
  have h1:Nf (a++[t]):=⟨(fu9.1 h'.1).1,λp b=>h'.2 p (be9 _ b)⟩
  have ih:=AY r (a++[t]) h';show (iZ r).foldl (λa i=>kB a i.x) (kB ⟨a,0⟩ ⟨[t],0⟩)=_;have e:kB ⟨a,0⟩ ⟨[t],0⟩=⟨a++[t],0⟩:=by
   unfold kB;rw [M2 h1] <;> rfl
  rw [e,ih]
  simp
def PF {x:bK} (c:Good x) (i:It) (l:List It) (h:iZ x.af++jC x=i::l):l.foldl (λa i=>kB a i.x) i.x=x:=by
 have hn:=c.num;cases ht:x.af with
 | nil =>
  rw [ht] at h;have d:jC x=[⟨[EZ x.num],⟨[],x.num⟩⟩]:=by unfold jC; rw [ag9 (.inr ht)]
  rw [d] at h;simp only [iZ,List.map_nil,List.nil_append,List.cons.injEq] at h;obtain ⟨rfl,rfl⟩:=h;cases x;simp only at ht;subst ht;rfl
 | cons t r =>
  rw [ht] at h;simp only [iZ,List.map_cons,List.cons_append,List.cons.injEq] at h;obtain ⟨rfl,rfl⟩:=h;have b:Nf ([t]++r):=by rw [List.singleton_append,<- ht]; exact c.nf
  rw [ck9];have h1:=AY r [t] b;show (jC x).foldl (λa i=>kB a i.x) ((iZ r).foldl (λa i=>kB a i.x) ⟨[t],0⟩)=x;rw [h1];unfold jC;cases x with
  | mk af num =>
   simp only at ht hn b ⊢;subst ht;split
   ·show kB ⟨t::r,0⟩ ⟨[],num⟩=_;unfold kB;rw [RN c.nf,by9,eb9 hn]
   ·rename_i h0
    have:num=0:=by
     rcases Nat.eq_zero_or_pos num with h | h
     ·exact h
     ·exact absurd (.inl ad) h0
    subst this;rfl
def Dk {x:bK} (b:Good x):(F' (fM x)).2=(0,0)/\QK (F' (fM x)).1=.ok x:=by
 have a:∀ i,i∈iZ x.af++jC x->Ce i/\Co (WY 32) i:=by
  intro i hi;rcases ar9.1 hi with hi | hi
  ·obtain ⟨t,ht,rfl⟩:=ap9.1 hi;have h1:=b.K9 t ht;have h2:=b.nf.2 t ht;exact ⟨Ow h1 h2.2,JP _ h1 h2.1 h2.2⟩
  ·unfold jC at hi;split at hi
   ·rw [an9] at hi;subst hi;exact ⟨Qq b.num _,Jx _ _⟩
   ·cases hi
 have c:F' (fM x)=(gy 0 (FD (iZ x.af++jC x)),0,0) :=
  Ji (zS _ 0 (MV _ λi hi=>(a i hi).1) (dw9 _) (by rw [U1]; rfl))
 rw [c];refine ⟨rfl,?_⟩;cases hl:iZ x.af++jC x with
 | nil =>
  exfalso;unfold jC at hl;split at hl
  ·simp at hl
  ·rename_i h0
   have:x.af=[]:=by simpa [iZ] using hl
   exact h0 (.inr this)
 | cons i l =>
  unfold QK;rw [Tc,Ul (WY 32) (λj d=>(a j (by rw [hl]; exact d)).2),PF b i l hl] <;> rfl
end Go.Sx
