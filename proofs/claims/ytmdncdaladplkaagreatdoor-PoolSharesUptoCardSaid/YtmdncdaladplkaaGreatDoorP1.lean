/- Contracts over heaps, part 1. Condition: as each statement says. -/
import Derived.Test.YtmdncdaladplkaaGreatDoorBtA
import Derived.Test.YtmdncdaladplkaaGreatDoorDShelf
import Derived.Test.YtmdncdaladplkaaGreatDoorSxG
import Derived.Test.YtmdncdaladplkaaGreatDoorSxE
import Derived.Test.YtmdncdaladplkaaGreatDoorDShelfB
import Derived.Lib.ItoaMem
set_option linter.all false
set_option maxRecDepth 100000
set_option maxHeartbeats 4000000
namespace Go.Sx
open Go.Proofs
def mixed:Tryz.prog.follows .mixedOrders=true:=ax
def Vx : (Tryz.f157.name == "runtime.NumGoroutine") = false :=ax
def UK:Tryz.f157.body.isNone=true:=ax
def U1:Extern.findNext Tryz.f157=none:=ax
def Vm:Extern.find Tryz.f157=some Extern.BytealgIndexByte.indexByte:=ax
def Cv (s:Xaa) (c:Int) (h:Hp):uu Xaz 139 [.string s,.int .u8 c] h (vI (Lib.indexByte s.data.toList c.toNat.toUInt8)):=by
 refine ff mixed Tryz.func139 ax (iB s c) ?_;refine Hl Tryz.func157 Vx UK U1 Vm ?_;rw [rU];exact ⟨(_,()),rfl,rfl,rfl⟩
def FH (s:Xaa) (c:Int) (h:Hp):uu Xaz 113 [.string s,.int .u8 c] h (vI (Lib.indexByte s.data.toList c.toNat.toUInt8)):=by
 refine ff mixed Tryz.func113 ax (qn s c) ?_;exact jo (Cv s c h) ⟨rfl,rfl⟩
def cD (s set:List UInt8):Nat:=(s.takeWhile fun c=>set.contains c).length
def nM (s set:List UInt8):cD s set<=s.length:=by
 unfold cD;exact (List.takeWhile_prefix _).length_le
theorem nr {p:UInt8->Bool}:∀ (l:List UInt8) (k:Nat),k<=(l.takeWhile p).length->k<l.length->(k<(l.takeWhile p).length↔p (l.getD k 0)=true)
 | [],k,_,h=>by simp at h
 | c::l,0,_,_=>by
  simp only [List.takeWhile_cons,List.getD_cons_zero];cases a:p c <;> simp
 | c::l,k+1,h,hl=>by
  simp only [List.takeWhile_cons] at h ⊢;cases a:p c with
  | false=>rw [a] at h; simp at h
  | true =>
   rw [a] at h;simp at h hl
   have:=nr l k (by simpa using h) hl
   simpa using this
def tM (s set:List UInt8) (k:Nat) (hk:k<=cD s set) (hl:k<s.length):(k<cD s set↔set.contains (s.getD k 0)=true):=nr s k hk hl
def Q5 (s:Xaa) (n:Int):(df s n).toNat.toUInt8=s.data.toList.getD n.toNat 0:=by
 unfold df; simp
def PH (s set:Xaa) (h:Hp) (j:s.size<=9223372036854775807):uu Xaz 84 [.string s,.string set] h (vI (cD s.data.toList set.data.toList)):=by
 refine ff mixed Tryz.func84 ax (Er s set) ?_;have g:s.data.toList.length=s.size:=aj
 have hle:=nM s.data.toList set.data.toList;refine aT (cs:=cI) (fun x n h'=>h'=h/\∃ k:Nat,x.1=(k:Int)/\k<=cD s.data.toList set.data.toList/\n=s.size-k) ((0:Int),()) s.size rfl ⟨rfl,0,rfl,ad,ad⟩ ?_;rintro ⟨n,⟨⟩⟩ m h' ⟨rfl,k,hk,c,rfl⟩;simp only at hk;subst hk;refine aw ?_ ?_<;>intro d
 ·have e:(k:Int)<s.size:=ah9 d;have hst:=tM s.data.toList set.data.toList k c ad;refine dC ⟨ad,e⟩ ?_;refine jo (FH _ _ _) ?_;rw [Q5];have hc:=Lib.contains_iff_indexByte set.data.toList (s.data.toList.getD k 0);refine aw ?_ ?_<;>intro a
  ·have h2:=ah9 a;rw [wrap_i64 ad ad];have b:set.data.toList.contains (s.data.toList.getD k 0)=true:=by rw [hc]; exact aj9 h2
   exact aG (cs:=cI) ((k:Int)+1,()) (s.size-(k+1)) rfl ad rfl ⟨rfl,k+1,(show ((k:Int)+1)=((k+1:Nat):Int) from ad),hst.2 b,rfl⟩
  ·have h2:=av9 a;have b:¬ set.data.toList.contains (s.data.toList.getD k 0)=true:=by rw [hc]; exact fun f=>h2 (ah9 f)
   have:k=cD s.data.toList set.data.toList:=by
    have:¬ k<cD s.data.toList set.data.toList:=fun f=>b (hst.1 f)
    omega
   exact ⟨by rw [<- this],rfl⟩
 ·have i:¬ (k:Int)<s.size:=av9 d
  have:k=cD s.data.toList set.data.toList:=ad
  exact ⟨by rw [<- this],rfl⟩
def dI (c:UInt8):Bool:=(97<=c.toNat && c.toNat<=122) || (65<=c.toNat && c.toNat<=90) || c.toNat==95
def dL (c:UInt8):Bool:=48<=c.toNat && c.toNat<=57
def fV:List UInt8:=[97,98,99,100,101,102,103,104,105,106,107,108,109,110,111,112,113,114,115,116,117,118,119,120,121,122,65,66,67,68,69,70,71,72,73,74,75,76,77,78,79,80,81,82,83,84,85,86,87,88,89,90,95]
def cO:List UInt8:=[48,49,50,51,52,53,54,55,56,57]
def iS (p q:UInt8->Bool) (h:(List.range 256).all (fun n=>p (UInt8.ofNat n)==q (UInt8.ofNat n))=true) (c:UInt8):p c=q c:=by
 have:=bn9.1 h c.toNat (dv9.2 (by have:=c.toNat_lt; omega))
 simpa using this
def Ix (c:UInt8):fV.contains c=dI c:=iS (fun c=>fV.contains c) dI (by decide +kernel) c
def L8 (c:UInt8):cO.contains c=dL c:=iS (fun c=>cO.contains c) dL (by decide +kernel) c
def BE (c:UInt8):(fV++cO).contains c=(dI c || dL c):=iS (fun c=>(fV++cO).contains c) (fun c=>dI c || dL c) (by decide +kernel) c
def cN (c:UInt8):Int:=(c.toNat:Nat)
def QF (c:UInt8) (h:Hp):uu Xaz 106 [.int .u8 (cN c)] h (.bool (dL c)):=by
 refine ff mixed Tryz.func106 ax (oW _) ?_;unfold ko dL cN bz;refine aR ?_ ?_<;>intro h1
 ·refine ⟨?_,rfl⟩
  congr 1
  rw [show decide (48<=c.toNat)=true from aj9 ad,bl9];exact fn9.2 ad
 ·refine ⟨?_,rfl⟩
  congr 1
  rw [show decide (48<=c.toNat)=false from ak9 ad,Bool.false_and]
def Mr (c:UInt8):dI c=true↔(97<=cN c/\cN c<=122)\/(65<=cN c/\cN c<=90)\/cN c=95:=by
 unfold dI cN;simp only [Bool.or_eq_true,Bool.and_eq_true,decide_eq_true_eq,beq_iff_eq];omega
def Mb (c:UInt8):dL c=true↔48<=cN c/\cN c<=57:=by
 unfold dL cN;simp only [Bool.and_eq_true,decide_eq_true_eq];omega
def Df (c:UInt8) (h:Hp):uu Xaz 105 [.int .u8 (cN c)] h (.bool (dI c)):=by
 refine ff mixed Tryz.func105 ax (ou _) ?_;unfold jB ez;have hl:=Mr c
 repeat' (refine aw (fun h1=>?_) (fun h1=>?_) <;> first | replace h1:=ah9 h1 | replace h1:=av9 h1)
 all_goals exact ⟨as9 Value.bool (ds9.2 (by simp only [hl,true_iff,beq_iff_eq]; omega)),rfl⟩
def ry (s:List UInt8):Int × Bool × Bool :=
 match s with
 | [a,b]=>if cN a=114/\48<=cN b/\cN b<=55 then (cN b-48,false,true) else if cN a=122/\48<=cN b/\cN b<=51 then (cN b-48,true,true) else (0,false,false)
 | _=>(0,false,false)
variable {U l:List UInt8}
def Bh (h:U.length≠2):ry U=(0,false,false):=by
 unfold ry;split
 ·simp at h
 ·rfl
def xh (s:Xaa) (n:Int):df s n=cN (s.data.toList.getD n.toNat 0):=rfl
variable {O:Xaa}
def two_bytes (h1:(O.size:Int)=2):∃ a b,O.data.toList=[a,b]:=by
 have d:O.data.toList.length=O.size:=aj
 match hl:O.data.toList with
 | [a,b]=>exact ⟨a,b,rfl⟩
 | []=>rw [hl] at d; simp at d; omega
 | [a]=>rw [hl] at d; simp at d; omega
 | a::b::c::l=>rw [hl] at d; simp at d; omega
def FV (s:Xaa) (h:Hp):uu Xaz 83 [.string s] h (.tuple #[vI (ry s.data.toList).1,.bool (ry s.data.toList).2.1,.bool (ry s.data.toList).2.2]):=by
 refine ff mixed Tryz.func83 ax (wz s) ?_;have d:s.data.toList.length=s.size:=aj
 unfold rO bq lh bG;refine aw ?_ ?_<;>intro h1
 ·have h1:(s.size:Int)≠2:=by simpa using h1
  rw [Bh ad];exact ⟨rfl,rfl⟩
 ·have h1:(s.size:Int)=2:=by simpa using h1
  obtain ⟨a,b,c⟩:=two_bytes h1;have e0:df s 0=cN a:=by rw [xh,c]; rfl
  have e:df s 1=cN b:=by rw [xh,c]; rfl
  have hb:=b.toNat_lt;have f:IntKind.wrap .i64 (IntKind.wrap .i64 (df s 1)-48)=cN b-48:=by
   rw [e,wrap_i64 (x:=cN b) (by unfold cN; omega) (by unfold cN; omega),wrap_i64 (by unfold cN; omega) (by unfold cN; omega)]
  rw [f,e0,c];unfold ry
  repeat' (first | refine hZ ?_ | (refine aw (fun h1=>?_) (fun h1=>?_) <;> first | replace h1:=ah9 h1 | replace h1:=av9 h1 | replace h1:=eq_of_beq h1 | replace h1:=ne_of_beq_false h1))
  all_goals
   refine ⟨?_,rfl⟩;simp only
   first
    | (exfalso; omega)
    | rw [ag9 ad]
    | rw [ac9 ad,ag9 ad]
    | rw [ac9 ad,ac9 ad]
def Ez (s:Xaa) (h:Hp):uu Xaz 107 [.string s] h (.tuple #[vI (ry s.data.toList).1,.bool (ry s.data.toList).2.1,.bool (ry s.data.toList).2.2]):=by
 refine ff mixed Tryz.func107 ax (mW s) ?_;have d:s.data.toList.length=s.size:=aj
 unfold iX bq lh bG;refine aw ?_ ?_<;>intro h1
 ·have h1:(s.size:Int)≠2:=by simpa using h1
  rw [Bh ad];exact ⟨rfl,rfl⟩
 ·have h1:(s.size:Int)=2:=by simpa using h1
  obtain ⟨a,b,c⟩:=two_bytes h1;have e0:df s 0=cN a:=by rw [xh,c]; rfl
  have e:df s 1=cN b:=by rw [xh,c]; rfl
  have hb:=b.toNat_lt;have f:IntKind.wrap .i64 (IntKind.wrap .i64 (df s 1)-48)=cN b-48:=by
   rw [e,wrap_i64 (x:=cN b) (by unfold cN; omega) (by unfold cN; omega),wrap_i64 (by unfold cN; omega) (by unfold cN; omega)]
  rw [f,e0,c];unfold ry
  repeat' (first | refine hZ ?_ | (refine aw (fun h1=>?_) (fun h1=>?_) <;> first | replace h1:=ah9 h1 | replace h1:=av9 h1 | replace h1:=eq_of_beq h1 | replace h1:=ne_of_beq_false h1))
  all_goals
   refine ⟨?_,rfl⟩;simp only
   first
    | (exfalso; omega)
    | rw [ag9 ad]
    | rw [ac9 ad,ag9 ad]
    | rw [ac9 ad,ac9 ad]
def cE (s:List UInt8):Bool:=decide (0<s.length) && decide (s.length<=32) && dI (s.getD 0 0) && s.all (fun c=>dI c || dL c) && !(ry s).2.2
def Ql {set:List UInt8} (h:0<U.length):0<cD U set↔set.contains (U.getD 0 0)=true:=tM U set 0 (em9 _) h
def Ay {s set:List UInt8}:cD s set=s.length↔s.all (fun c=>set.contains c)=true:=by
 unfold cD
 induction s with
 | nil=>simp
 | cons c s a =>
  rw [List.takeWhile_cons,ff9];cases hc:set.contains c with
  | true=>simp only [if_true,List.length_cons,Bool.true_and]; rw [<- a]; omega
  | false=>simp
def ZQ:(⟨#[97,98,99,100,101,102,103,104,105,106,107,108,109,110,111,112,113,114,115,116,117,118,119,120,121,122,65,66,67,68,69,70,71,72,73,74,75,76,77,78,79,80,81,82,83,84,85,86,87,88,89,90,95]⟩:Xaa).data.toList=fV:=rfl
def aae:(⟨#[97,98,99,100,101,102,103,104,105,106,107,108,109,110,111,112,113,114,115,116,117,118,119,120,121,122,65,66,67,68,69,70,71,72,73,74,75,76,77,78,79,80,81,82,83,84,85,86,87,88,89,90,95,48,49,50,51,52,53,54,55,56,57]⟩:Xaa).data.toList=fV++cO:=rfl
def toList_nil :(O.toList==[])=decide (O.size=0):=by
 have:O.toList=O.data.toList:=ByteArray.toList_eq O
 rw [this];have b:O.data.toList.length=O.size:=aj
 cases hl:O.data.toList with
 | nil=>rw [hl] at b; simp at b; simp [<- b]
 | cons a l=>rw [hl] at b; simp at b; simp [<- b]
def vS (s:Xaa) (h:Hp) (d:s.size<=9223372036854775807):uu Xaz 55 [.string s] h (.bool (cE s.data.toList)):=by
 refine ff mixed Tryz.func55 ax (Bf s) ?_;have a:s.data.toList.length=s.size:=aj
 unfold zz cQ bP bz aQ cn;refine H4 (FV s h) ?_;unfold cE;rw [a];refine aw ?_ ?_<;>intro h1
 ·have h1:s.size≠0:=by rw [toList_nil] at h1; simpa using h1
  refine aR ?_ ?_<;>intro h2
  ·refine jo (PH s _ h d) ?_;rw [ZQ];have hp:=Ql (set:=fV) (by omega:0<s.data.toList.length);rw [Ix] at hp;refine aR ?_ ?_<;>intro e
   ·refine jo (PH s _ h d) ?_;rw [aae];have ha:=Ay (s:=s.data.toList) (set:=fV++cO);have f:(fun c=>(fV++cO).contains c)=(fun c=>dI c || dL c):=funext BE;rw [f] at ha;rw [show decide (0<s.size)=true from aj9 ad,show decide (s.size<=32)=true from aj9 ad,hp.1 ad];refine aw ?_ ?_<;>intro h4
    ·have h4:=eq_of_beq h4;rw [ha.1 ad];exact ⟨rfl,rfl⟩
    ·have h4:=ne_of_beq_false h4
     have:s.data.toList.all (fun c=>dI c || dL c)=false:=by
      cases b:s.data.toList.all (fun c=>dI c || dL c) with
      | false=>rfl
      | true=>exact (h4 (by rw [ha.2 b]; omega)).elim
     rw [this];exact ⟨rfl,rfl⟩
   ·have:dI (s.data.toList.getD 0 0)=false:=by
     cases b:dI (s.data.toList.getD 0 0) with
     | false=>rfl
     | true=>have:=hp.2 b; omega
    rw [this];exact ⟨aj,rfl⟩
  ·rw [show decide (s.size<=32)=false from ak9 ad];exact ⟨aj,rfl⟩
 ·have h1:s.size=0:=by rw [toList_nil] at h1; simpa using h1
  rw [show decide (0<s.size)=false from ak9 ad];exact ⟨aj,rfl⟩
open Go.Proofs Go.MapKept Go.WideAt Go.WideMaps Go.Maps Go.RowKit Go.WideElems Go.WideElems
def MT:Xab->Option (DataW Unit × List MemPlace):=fun _=>some (.nil,[])
def wZ:Tryz.prog.underlying 9=some .string:=ax
def UH:Tryz.prog.underlying 196=some (.map 9 51):=ax
def keysOf (D:List (Xaa × Xab)):List (List UInt8):=(D.map fun p=>p.1.data.toList).mergeSort fun x y=>decide (x<=y)
def Pr {x:MapEntry} (hk:x.key=.string O) (a:O.size<=maxLen):WideElems.rd Xaz 9 MT x=some (.string O.data.toList,.nil):=by
 unfold WideElems.rd;rw [hk,keyOf_string_mk wZ a] <;> rfl
variable {H Z b:Nat}
def fl.owns {W:World} {D:List (Xaa × Xab)} (m:fl W.heap H D) (hl:D.length<=maxLen) :
  ∃ c:DataW Unit,W.ownsMap Xaz 9 MT H D.length c/\(strKeys c).Perm (D.map fun p=>p.1.data.toList)/\Maps.size c=D.length:=by
 obtain ⟨es,clock,j,d,k,f⟩:=m;have h:es.size=D.length:=by
  have:=as9 List.length d
  simpa using this
 have a:es.toList.map (WideElems.rg Xaz 9 MT)=D.map fun p=>(Lit.string p.1.data.toList,DataW.nil):=by
  apply df9;intro i;have h1:(es.toList.map (fun e=>(e.key,e.val)))[i]?=(D.map (fun p=>(Value.string p.1,p.2)))[i]?:=by rw [d]
  simp only [List.getElem?_map] at h1 ⊢;rcases cm9 i D.length with hi | hi
  ·rw [ad9 hi,ad9 (show i<es.toList.length by simp; omega)] at h1 ⊢;simp only [Option.map_some,Option.some.injEq,Prod.mk.injEq] at h1 ⊢;exact WideElems.rg_of (Pr h1.1 (f _ (al9 hi)))
  ·rw [bs9 hi,bs9 (show es.toList.length<=i by simp; omega)] <;> rfl
 refine ⟨_,⟨es,clock,j,⟨ad,k,?_⟩,ad,rfl⟩,?_,?_⟩
 ·intro x l;obtain ⟨i,hi,rfl⟩:=bg9 l;have b:i<D.length:=by simp at hi; omega
  have h1:(es.toList.map (fun e=>(e.key,e.val)))[i]?=(D.map (fun p=>(Value.string p.1,p.2)))[i]?:=by rw [d]
  simp only [List.getElem?_map,List.getElem?_eq_getElem b,List.getElem?_eq_getElem hi,Option.map_some,Option.some.injEq,Prod.mk.injEq] at h1;exact ⟨_,Pr h1.1 (f _ (al9 b))⟩
 ·show List.Perm (((es.toList.map (WideElems.rg Xaz 9 MT)).foldr DataW.insert []).map fun p=>strOf p.1) _;rw [a];refine ((WideShapes.sorted_perm _).map _).trans ?_;rw [bf9];exact List.Perm.refl _
 ·show ((es.toList.map (WideElems.rg Xaz 9 MT)).foldr DataW.insert []).length=D.length;rw [a,length_sorted,ab9]
variable {Y:Hp}
def World.NJ {W:World} {o:Obj} (a:W.heap=Y.push o):({ W with heap:=Y }:World).alloc o=W:=by
 cases W;simp only at a;subst a;rfl
def dM.alloc (w:World) (o:Obj):dM w (w.alloc o):=⟨rfl,rfl,rfl⟩
def KK (r:Option Nat) (h:Hp):HC Xaz 90 #[.map r] h fun v h'=>v=.func (.func 117) #[] #[.pointer (some ⟨h.size,0,none⟩)]/\h'=h.push (.cells #[.map r] 196):=by
 intro W b;subst b;exact (callsIn_wide.1 (Tryz.Cu r W)).mono fun e w' ⟨c,a⟩=>⟨_,c,by rw [a]; exact dM.alloc _ _,rfl,by rw [a]; rfl⟩
variable {j:World} {d:TypeId}
def SL.V2 {v:Xab} {xs:List Xab} (r:j.ownsRow H d 1 v xs.length xs):∃ p l c,v=.slice p l c/\SL j.heap H d 1 p l c (xs.map fun x=>[x]):=by
 have a:∀ ys:List Xab,(ys.map fun x=>[x]).flatten=ys:=by
  intro ys
  induction ys with
  | nil=>rfl
  | cons y ys h=>simp [h]
 obtain ⟨h1,h2⟩:=r;rcases h2 with ⟨hv,hn⟩ | ⟨g,cap,jO,hv,i,k,f,hc,m,ht⟩
 ·have:xs=[]:=bo9 hn
  subst this;exact ⟨none,0,0,hv,SL.nil _ _ _ _⟩
 ·refine ⟨some ⟨g,0,none⟩,xs.length,cap,hv,aj,aj,g,[],jO.toList.drop xs.length,rfl,i,⟨f,by unfold maxLen at hc; omega⟩,?_,?_⟩
  ·rw [a,dj9]
   have:xs=jO.toList.take xs.length:=by rw [<- ht]; simp
   unfold bC;rw [k]
   congr 2
   conv=>lhs; rw [<- Array.toArray_toList (xs:=jO),<- ce9 xs.length jO.toList]
   rw [<- this]
  ·rw [bw9,db9,m]; omega
def tQ {D:List (Xaa × Xab)} (m:fl Y H D) (hl:D.length<=2^40) :
  HC Xaz 89 #[.func (.func 117) #[] #[.pointer (some ⟨Y.size,0,none⟩)]] (Y.push (.cells #[.map (some H)] 196)) fun v h'=>∃ p l c,v=.slice p l c/\SL h' (Y.size+1) 9 1 p l c ((keysOf D).map fun k=>[encStr k]) /\
   Ext (Y.push (.cells #[.map (some H)] 196)) h':=by
 intro W q;obtain ⟨t,j,d,a⟩:=fl.owns (W:={ W with heap:=Y }) m (by unfold maxLen; omega);have hc:=callsIn_wide.1 (Tryz.mH H D.length t MT { W with heap:=Y } j (by rw [a]; unfold maxLen; omega) (by rw [a]; omega));rw [World.NJ q] at hc;refine hc.mono fun e w' u=>?_
 obtain ⟨v,r,w,z,b,_,n⟩:=u;have s:r.mergeSort (fun x y=>decide (x<=y))=keysOf D:=mergeSort_of_perm (z.trans d);have o:r.length=((r.mergeSort (fun x y=>decide (x<=y))).map encStr).length:=by rw [ab9,List.length_mergeSort]
 rw [o,s] at b;obtain ⟨p,l,c,hv,f⟩:=SL.V2 b;refine ⟨v,w,⟨n.os,n.tape,n.output⟩,p,l,c,hv,?_,?_⟩
 ·rw [bf9] at f
  have:W.heap.size=Y.size+1:=by rw [q]; simp
  rw [this] at f;exact f
 ·rw [<- q];exact ⟨n.size,fun i hi _=>n.block i hi⟩
abbrev dt:=List (Xaa × Nat)
def dp (p:Xaa × Nat):List Xab:=[.string p.1,.int .u32 p.2]
def vm (D:dt):List (Xaa × Xab):=D.map fun p=>(p.1,Value.int .u32 p.2)
def ef (D:dt) (s:Xaa):Nat:=((D.find? fun p=>decide (s=p.1)).map (·.2)).getD 0
def wa (D:dt) (s:Xaa) (v:Nat):dt:=if (D.find? fun p=>decide (s=p.1)).isSome then D.map fun p=>if s=p.1 then (p.1,v) else p else D++[(s,v)]
def jz (D:dt) (p:Xaa × Nat):dt:=wa D p.1 ((ef D p.1+p.2) % 4294967296)
def FT (D:dt):dt:=(keysOf (vm D)).filterMap fun k=>if ef D ⟨k.toArray⟩=0 then none else some (⟨k.toArray⟩,ef D ⟨k.toArray⟩)
def Uw (D:dt) (s:Xaa):(vm D).find? (fun p=>decide (s=p.1))=(D.find? fun p=>decide (s=p.1)).map fun p=>(p.1,Value.int .u32 p.2):=by
 unfold vm
 induction D with
 | nil=>rfl
 | cons p D a =>
  by_cases h:s=p.1
  ·simp [h]
  ·simp only [List.map_cons,List.find?_cons,decide_eq_false h];exact a
def K5 (D:dt) (s:Xaa):look (vm D) s=(D.find? fun p=>decide (s=p.1)).map fun p=>Value.int .u32 p.2:=by
 unfold look;rw [Uw,Option.map_map] <;> rfl
def LX (D:dt) (s:Xaa):(look (vm D) s).getD (.int .u32 0)=.int .u32 (ef D s):=by
 rw [K5];unfold ef
 all_goals (cases D.find? fun p=>decide (s=p.1) <;> rfl)
def V' (D:dt) (s:Xaa) (v:Nat):kO (vm D) s (.int .u32 v)=vm (wa D s v):=by
 unfold kO wa;rw [K5];cases h:(D.find? fun p=>decide (s=p.1)) with
 | none=>simp [vm]
 | some q =>
  simp only [Option.map_some,Option.isSome_some,if_true,vm,List.map_map];refine ck9 fun p a=>?_
  simp only [Function.comp];split <;> simp_all
def H2 (D:dt) (s:Xaa) (v:Nat):(wa D s v).length<=D.length+1:=by
 unfold wa;split <;> simp
def W3:(Tryz.prog.info? 51).bind (·.zero)=some (.int .u32 0):=ax
def AK:Tryz.prog.underlying 50=some (.slice 64):=ax
def uq:(Tryz.prog.info? 64).map (fun i=>(i.zero,i.size,i.bytes))=some (some (.agg #[.string ⟨#[]⟩,.int .u32 0]),2,24):=ax
variable {e:Lp} {f:Xab->Hp->Prop} {V g:dt}
def qu {h:Hp} (m:fl h H (vm V)) (s:Xaa) {k:Int->T} (hk:k (ef V s) e f h):T.eH Xaz (Instr.lookup 196 (.map (some H)) (.string s) false) false [(false,[.int .u32])] k e f h:=by
 refine j6 UH wZ W3 m s false _ ?_;refine ⟨((ef V s:Int),()),?_,hk⟩;simp only [Bool.false_eq_true,if_false];rw [LX] <;> rfl
variable {k:T}
def Ja {h:Hp} (m:fl h H (vm V)) (b:O.size<=maxLen) {v:Int} {n:Nat} (hv:v=(n:Int)) (hk:∀ h',fl h' H (vm (wa V O n))->Ch [H] h h'->h'.size=h.size->k e f h') :
  T.dX Xaz (Instr.mapUpdate 196 (.map (some H)) (.string O) (.int .u32 v)) k e f h:=by
 subst hv;refine gV UH wZ m b _ _ ?_;intro h' a c' c;rw [V'] at a;exact hk h' a c' c
def To (m:fl Y H (vm V)) (hl:V.length<=2^40) (n:Int) :
  HC Xaz 91 #[.map (some H),.int .u32 n] Y fun v h'=>Ext Y h'/\∃ p l c,v=.agg #[.slice p l c,.int .u32 n]/\SL h' Y.size 64 2 p l c ((FT V).map dp):=by
 refine bd (args:=[.map (some H),.int .u32 n]) mixed Tryz.func91 ax (AW (some H) n) ?_;unfold zx aY bh bt aI bP bn bQ aF bg aQ;refine br ?_;intro h1 P Q z1;refine br ?_;intro h2 R F z2;refine bR R ?_;intro h3 u G z3;have u:bC h3 h1.size 53 [.slice none 0 0,.int .u32 n]:=u;have I:Ext Y h3:=bY (Q.trans F) G;have m3:=m.an I aj;have c3:bC h3 Y.size 53 [.slice none 0 0,.int .u32 0]:=(P.an F aj).an G (by simp; omega);refine aK (KK (some H) h3) ?_;rintro _ h4 ⟨rfl,rfl⟩;refine ⟨(.func (.func 117) #[] #[.pointer (some ⟨h3.size,0,none⟩)],()),rfl,ao ?_⟩;have S:Ext h3 (h3.push (.cells #[.map (some H)] 196)):=Ext.push _ _;have r:(vm V).length<=2^40:=by unfold vm; rw [ab9]; exact hl
 refine aK (tQ m3 r) ?_;rintro _ J ⟨U,K,W,rfl,y,X⟩;refine ⟨((U,K,W),()),rfl,ao ?_⟩;have e35:=S.trans X;have e:(keysOf (vm V)).length<=2^40:=by
  unfold keysOf;rw [List.length_mergeSort,ab9];exact r
 have B:K=(keysOf (vm V)).length:=by rw [y.1,ab9]
 unfold FT;generalize keysOf (vm V)=ks at y e B ⊢;have b5:=u.an e35 aj;have c5:=c3.an e35 aj;have m5:=m3.an e35 aj;have e05:=I.trans e35;have hz3:=e35.size;have hb3:=u.lt;have hg:=m.lt;refine aT (cs:=cI) (fun x w h'=>∃ (i:Nat) (p:Xac) (l c:Nat),x.1=(i:Int)/\i<=ks.length/\w=ks.length-i/\Ch [h1.size] J h'/\bC h' h1.size 53 [.slice p l c,.int .u32 n] /\
  SL h' J.size 64 2 p l c (((ks.take i).filterMap fun k=>if ef V ⟨k.toArray⟩=0 then none else some ((⟨k.toArray⟩:Xaa),ef V ⟨k.toArray⟩)).map dp)/\l<=i) ((0:Int),()) ks.length rfl
  ⟨0,none,0,0,rfl,ad,ad,Ch.refl _ _,b5,SL.nil _ _ _ _,ad⟩ ?_
 rintro ⟨n8,⟨⟩⟩ w h6 ⟨i,p,l,c,hi,L,rfl,f,A,o,Z⟩;simp only at hi;subst hi;refine ao ?_;have m6:=m5.an f (by simp; omega);have hz6:=f.size;have C:Ext Y h6:=bY e05 f;refine aR ?_ ?_<;>intro g1
 ·have d:i<ks.length:=ad
  have sk6:=y.bK f (fun j b=>by have:=(y.cB b).1; simp; omega);obtain ⟨a,rfl,hc⟩:=sk6.cells (i:=i) (by simpa using d);rw [am9] at hc;have q:ks.take (i+1)=ks.take i++[ks[i]]:=ae9 d;generalize ks[i]=k at hc q;refine bS rfl ?_;rw [cr i];refine ay ((⟨k.toArray⟩:Xaa),()) hc (ao ?_);have hw:=ic i;refine qu m6 _ (aw (fun s=>?_) (fun s=>?_))
  ·have s:((ef V ⟨k.toArray⟩:Nat):Int)≠0:=by simpa using s
   refine az A ((p,l,c),()) (ao ?_);refine qu m6 _ ?_;refine gh (vs:=dp (⟨k.toArray⟩,ef V ⟨k.toArray⟩)) AK uq rfl ad ad ax rfl rfl o hz6 ad ad ?_;intro p' c' M N t hp7;have b7:=A.an t (fun hh=>by have:=(o.cB hh).1; omega);refine bR b7 ?_;intro h8 b8 O z8;refine aG (cs:=cI) (((i+1:Nat):Int),()) (ks.length-(i+1)) rfl ad (as9 (fun z=>[Value.int .i64 z]) hw) ⟨i+1,p',l+1,c',rfl,ad,rfl,?_,b8,?_,ad⟩
   ·exact Ch.trans (Ch.trans f t (fun j b hl=>by have:=(o.cB b).1; omega)) O (fun j b _=>b)
   ·rw [q,eg9,ao9];have E:([k].filterMap fun k=>if ef V ⟨k.toArray⟩=0 then none else some ((⟨k.toArray⟩:Xaa),ef V ⟨k.toArray⟩))=[((⟨k.toArray⟩:Xaa),ef V ⟨k.toArray⟩)]:=by
     simp only [List.filterMap_cons,List.filterMap_nil];rw [ac9 ad]
    rw [E];exact N.bK O (fun j b=>by have:=(N.cB b).1; simp; omega)
  ·have s:((ef V ⟨k.toArray⟩:Nat):Int)=0:=by simpa using s
   refine aG (cs:=cI) (((i+1:Nat):Int),()) (ks.length-(i+1)) rfl ad (as9 (fun z=>[Value.int .i64 z]) hw) ⟨i+1,p,l,c,rfl,ad,rfl,f,A,?_,ad⟩;rw [q,eg9];have E:([k].filterMap fun k=>if ef V ⟨k.toArray⟩=0 then none else some ((⟨k.toArray⟩:Xaa),ef V ⟨k.toArray⟩))=[]:=by
    simp only [List.filterMap_cons,List.filterMap_nil];rw [ag9 ad]
   rw [E,bz9];exact o
 ·have hi:i=ks.length:=ad
  subst hi;rw [bj9] at o;have c6:=c5.an f (by simp; omega);refine az A ((p,l,c),n,()) (ao ?_);refine bR c6 ?_;intro M b7 t z7;have b7:bC M Y.size 53 [.slice p l c,.int .u32 n]:=b7;refine az b7 ((p,l,c),n,()) ?_;have hz5:=e05.size;exact ⟨bY C t,p,l,c,rfl,(o.bK t (fun j b=>by have:=(o.cB b).1; simp; omega)).mono ad⟩
structure iD (h:Hp) (p:Xac) (l:Nat) (us:dt):Prop where
 len:l=us.length
 cells:∀ i,(hi:i<us.length)->∃ a,p=some a/\aH h (a.add (i*2)) 0 (dp us[i])
variable {c:Xac}
def iD.an {ws:List Nat} {h':Hp} {us:dt} (v:iD Y c H us) (k:Ch ws Y h') (d:∀ i,i∈aJ c->i∉ws):iD h' c H us :=
 ⟨v.len,fun i hi=>by
  obtain ⟨a,b,hc⟩:=v.cells i hi;exact ⟨a,b,aM k (by rw [iO]; exact d _ (by rw [b]; simp [aJ])) _ _ hc⟩⟩
def SL.NF {us:dt} (s:SL Y H d 2 c Z b (us.map dp)):iD Y c Z us:=by
 refine ⟨by rw [s.1,ab9],fun i hi=>?_⟩;obtain ⟨a,f,hc⟩:=s.cells (i:=i) (by simpa using hi);rw [am9] at hc;exact ⟨a,f,hc⟩
structure bM where
 ah:dt
 num:Nat
def ik (p:Xac) (l c:Nat) (x:bM):Xab:=.agg #[.slice p l c,.int .u32 x.num]
def FK (l:dt):dt:=FT (l.foldl jz [])
def nl (x y:bM):bM:=⟨FK (x.ah++y.ah),(x.num+y.num) % 4294967296⟩
def ey (x:Int):IntKind.wrap .u32 x=x % 4294967296:=by
 simp only [IntKind.wrap] <;> rfl
def jd (a:Nat):((a % 4294967296:Nat):Int)=(a:Int) % 4294967296:=Int.natCast_emod a 4294967296
def iK (a b:Xaa):Prop:=a.data.toList<b.data.toList
instance (a b:Xaa):Decidable (iK a b):=inferInstanceAs (Decidable (a.data.toList<b.data.toList))
def B2 (a:Xaa):¬ iK a a:=List.lt_irrefl (α:=UInt8) _
def jV {b c:Xaa} (h:iK O b) (k:iK b c):iK O c:=List.lt_trans (α:=UInt8) h k
def zg {b:Xaa} (h:O.data.toList=b.data.toList):O=b:=by
 cases O; cases b;simp only at h;rw [cb9.1 h]
def Av (a b:Xaa) (h:¬ iK a b) (k:¬ iK b a):a=b :=
 zg (List.le_antisymm (α:=UInt8) (List.not_lt.1 k) (List.not_lt.1 h))
def jX {b:Xaa} (h:iK O b):O≠b:=fun e=>by subst e; exact B2 _ h
def Dw {a:Xaa} (h:iK a O):¬ iK O a:=fun k=>B2 _ (jV h k)
structure Nf (l:dt):Prop where
 VE:l.Pairwise fun p q=>iK p.1 q.1
 Ha:∀ p,p∈l->p.2≠0/\p.2<4294967296
def cf:dt->Xaa->Nat
 | [],_=>0
 | p::l,s=>(if p.1=s then p.2 else 0)+cf l s
def A2 (s:Xaa):cf [] s=0:=rfl
def fm (p:Xaa × Nat) (l:dt) (s:Xaa):cf (p::l) s=(if p.1=s then p.2 else 0)+cf l s:=rfl
variable {a:Xaa × Nat}
def Nf.tail {l:dt} (h:Nf (a::l)):Nf l:=⟨(dp9.1 h.1).2,fun q b=>h.2 q (ap9 _ b)⟩
def Nf.head (h:Nf (a::V)):∀ q,q∈V->iK a.1 q.1:=(dp9.1 h.1).1
def Nf.nil:Nf []:=⟨List.Pairwise.nil,aj⟩
def Ak (h:∀ p,p∈V->p.1≠O):cf V O=0:=by
 induction V with
 | nil=>rfl
 | cons p V a =>
  rw [fm,ac9 (h p (cw9 ..)),a fun q b=>h q (ap9 _ b)]
def Dc (l m:dt) (s:Xaa):cf (l++m) s=cf l s+cf m s:=by
 induction l with
 | nil=>simp [cf]
 | cons p l a=>simp only [List.cons_append,cf,a]; omega
def Nf.nK (h:Nf (a::V)):cf (a::V) a.1=a.2:=by
 rw [fm,ag9 rfl,Ak fun q b=>(jX (h.head q b)).symm] <;> rfl
def Nf.ET {l:dt} {s:Xaa} (h:∀ p,p∈l->iK s p.1):cf l s=0:=Ak fun p a=>(jX (h p a)).symm
theorem Nf.MH:∀ {l m:dt},Nf l->Nf m->(∀ s,cf l s % 4294967296=cf m s % 4294967296)->l=m
 | [],[],_,_,_=>rfl
 | [],q::m,_,e,h=>by
  have:=h q.1
  rw [e.nK] at this;have hq:=e.Ha q (cw9 ..);simp only [cf] at this;omega
 | p::l,[],hl,_,h=>by
  have:=h p.1
  rw [hl.nK] at this;have hq:=hl.Ha p (cw9 ..);simp only [cf] at this;omega
 | p::l,q::m,hl,e,h=>by
  have hp:=hl.Ha p (cw9 ..);have hq:=e.Ha q (cw9 ..)
  by_cases h1:iK p.1 q.1
  ·exfalso
   have:=h p.1
   rw [hl.nK,Nf.ET (l:=q::m) (s:=p.1) (by
    intro r f;rcases be9.1 f with rfl | f
    ·exact h1
    ·exact jV h1 (e.head r f))] at this
   omega
  ·by_cases h2:iK q.1 p.1
   ·exfalso
    have:=h q.1
    rw [e.nK,Nf.ET (l:=p::l) (s:=q.1) (by
     intro r f;rcases be9.1 f with rfl | f
     ·exact h2
     ·exact jV h2 (hl.head r f))] at this
    omega
   ·have he:=Av _ _ h1 h2;have h3:=h p.1;rw [hl.nK,he,e.nK] at h3;have g:p=q:=by
     obtain ⟨a,b⟩:=p;obtain ⟨c,d⟩:=q;simp only at he h3 hp hq;subst he
     congr 1
     rw [dx9 hp.2,dx9 hq.2] at h3;exact h3
    subst g
    congr 1
    refine Nf.MH hl.tail e.tail fun s=>?_
    by_cases i:p.1=s
    ·subst i;rw [Nf.ET hl.head,Nf.ET e.head]
    ·have:=h s
     simp only [cf,if_neg i,Nat.zero_add] at this;exact this
def rQ (s:Xaa):ef [] s=0:=rfl
def pH (p:Xaa × Nat) (D:dt) (s:Xaa):ef (p::D) s=if s=p.1 then p.2 else ef D s:=by
 unfold ef;rw [fd9]
 by_cases h:s=p.1
 ·simp [h]
 ·simp [h]
def GV (D:dt) (s t:Xaa) (v:Nat):ef (D++[(t,v)]) s=if (D.find? fun p=>decide (s=p.1)).isSome then ef D s else if s=t then v else 0:=by
 induction D with
 | nil=>simp [pH,rQ]
 | cons p D a =>
  rw [ez9,pH,pH,a,fd9]
  by_cases h:s=p.1
  ·simp [h]
  ·simp only [decide_eq_false h,if_neg h]
def Dt (h:(V.find? fun p=>decide (O=p.1)).isSome=false):ef V O=0:=by
 unfold ef;cases a:(V.find? fun p=>decide (O=p.1)) with
 | none=>rfl
 | some x=>rw [a] at h; cases h
def NP (D:dt) (t:Xaa) (v:Nat) (s:Xaa):ef (D.map fun p=>if t=p.1 then (p.1,v) else p) s=if s=t/\(D.find? fun p=>decide (t=p.1)).isSome then v else ef D s:=by
 induction D with
 | nil=>simp [rQ]
 | cons p D a =>
  rw [bq9,pH,a,pH,fd9]
  by_cases h:t=p.1
  ·subst h
   by_cases k:s=p.1 <;> simp [k]
  ·rw [ac9 h]
   by_cases k:s=p.1
   ·subst k
    have:¬ p.1=t:=fun e=>h e.symm
    simp [this]
   ·simp only [decide_eq_false h,if_neg k]
def DK (D:dt) (t:Xaa) (v:Nat) (s:Xaa):ef (wa D t v) s=if s=t then v else ef D s:=by
 unfold wa;split
 ·rename_i a;rw [NP]
  by_cases k:s=t <;> simp [k,a]
 ·rename_i a;rw [GV]
  by_cases k:s=t
  ·subst k;simp [a]
  ·rw [ac9 k];split
   ·rfl
   ·rename_i h2;rw [Dt (Bool.eq_false_iff.2 h2)]
def I2 (l:dt) (s:Xaa):∀ D:dt,ef (l.foldl jz D) s % 4294967296=(ef D s+cf l s) % 4294967296:=by
 induction l with
 | nil=>intro D; simp [cf]
 | cons p l a =>
  intro D;rw [bt9,a];unfold jz;rw [fm,DK]
  by_cases h:s=p.1
  ·subst h;rw [ag9 rfl,ag9 rfl,Nat.mod_add_mod]
   congr 1; omega
  ·rw [ac9 h,ac9 fun e=>h e.symm]
   congr 1; omega
def Jh (h:(V.map (·.1)).Nodup) (t:Xaa) (v:Nat):((wa V t v).map (·.1)).Nodup:=by
 unfold wa;have h1:(V.find? fun p=>decide (t=p.1)).isSome=true↔t∈V.map (·.1):=by
  rw [List.find?_isSome];simp [eq_comm]
 split
 ·have e:(V.map fun p=>if t=p.1 then (p.1,v) else p).map (·.1)=V.map (·.1):=by
   rw [bf9];refine ck9 fun p f=>?_
   simp only [Function.comp];split <;> rfl
  rw [e]; exact h
 ·rename_i hn;rw [ao9,cs9];refine ⟨h,aj,?_⟩;rintro a d b c rfl;simp only [List.map_cons,List.map_nil,List.mem_singleton] at c;subst c;exact hn (h1.2 d)
def A7 (l:dt):∀ D:dt,(D.map (·.1)).Nodup->((l.foldl jz D).map (·.1)).Nodup:=by
 induction l with
 | nil=>intro D h; exact h
 | cons p l a =>
  intro D h;rw [bt9];exact a _ (Jh h _ _)
def KF (l:dt):∀ D:dt,(∀ s,ef D s<4294967296)->∀ s,ef (l.foldl jz D) s<4294967296:=by
 induction l with
 | nil=>intro D h; exact h
 | cons p l a =>
  intro D h;rw [bt9];refine a _ fun s=>?_
  unfold jz;rw [DK];split
  ·exact ft9 _ bT
  ·exact h s
def RD (h:O∉V.map (·.1)):ef V O=0:=by
 refine Dt ?_;cases a:(V.find? fun p=>decide (O=p.1)).isSome with
 | false=>rfl
 | true =>
  rw [List.find?_isSome] at a;obtain ⟨x,b,c⟩:=a;exact absurd (an9.2 ⟨x,b,(ah9 c).symm⟩) h
def pick (g:Xaa->Nat) (ks:List (List UInt8)):dt:=ks.filterMap fun k=>if g ⟨k.toArray⟩=0 then none else some (⟨k.toArray⟩,g ⟨k.toArray⟩)
def Up (g:Xaa->Nat) (s:Xaa):∀ ks:List (List UInt8),ks.Nodup->cf (pick g ks) s=if s.data.toList∈ks then g s else 0:=by
 intro ks
 induction ks with
 | nil=>intro _; simp [pick,cf]
 | cons k ks ih =>
  intro h;rw [ef9] at h;have ih:=ih h.2;unfold pick at ih ⊢;rw [List.filterMap_cons];have b:(⟨k.toArray⟩:Xaa)=s↔s.data.toList=k:=by
   constructor
   ·rintro rfl; simp
   ·intro e; exact zg (by simp [e])
  by_cases hk:s.data.toList=k
  ·have hs:=b.2 hk;rw [hs];split
   ·rename_i a;split at a
    ·rename_i h0;rw [ih,h0]
     simp
    ·cases a
   ·rename_i a;split at a
    ·cases a
    ·cases a;rw [fm,ih,ag9 rfl,ac9 (by rw [hk]; exact h.1),ag9 (by rw [hk]; simp)] <;> rfl
  ·have hs:¬ (⟨k.toArray⟩:Xaa)=s:=fun e=>hk (b.1 e)
   split
   ·rw [ih];simp [hk]
   ·rename_i a;split at a
    ·cases a
    ·cases a;rw [fm,ih,ac9 hs];simp [hk]
def Ug (g:Xaa->Nat) (f:∀ s,g s<4294967296) {ks:List (List UInt8)} (h:ks.Pairwise fun a b=>a<b):Nf (pick g ks):=by
 refine ⟨?_,?_⟩
 ·unfold pick;refine List.Pairwise.filterMap _ ?_ h;intro a b d p c q e;split at c
  ·cases c
  ·split at e
   ·cases e
   ·cases c; cases e;unfold iK;simpa using d
 ·intro p c;unfold pick at c;rw [dw9] at c;obtain ⟨k,_,hk⟩:=c;split at hk
  ·cases hk
  ·rename_i h0;cases hk;exact ⟨h0,f _⟩
def zc (D:dt):(keysOf (vm D)).Perm (D.map fun p=>p.1.data.toList):=by
 unfold keysOf vm;rw [bf9];exact List.mergeSort_perm _ _
def ux (h:(V.map (·.1)).Nodup):(keysOf (vm V)).Pairwise fun a b=>a<b:=by
 have hn:(keysOf (vm V)).Nodup:=by
  refine (zc V).nodup_iff.2 ?_
  have:(V.map fun p=>p.1.data.toList)=(V.map (·.1)).map fun s=>s.data.toList:=by rw [bf9]; rfl
  rw [this];exact cr9.2 (h.imp fun f e=>f (zg e))
 have i:(keysOf (vm V)).Pairwise fun a b=>a<=b:=by
  unfold keysOf;refine (List.pairwise_mergeSort ?_ ?_ _).imp ?_
  ·intro a b c h1 h2;exact aj9 (List.le_trans (α:=UInt8) (ah9 h1) (ah9 h2))
  ·intro a b;simp only [Bool.or_eq_true,decide_eq_true_eq];exact List.le_total (α:=UInt8) a b
  ·intro a b g;exact ah9 g
 refine (i.and hn).imp ?_;rintro a b ⟨h1,h2⟩
 by_cases d:a<b
 ·exact d
 ·exact absurd (List.le_antisymm (α:=UInt8) h1 (List.not_lt.1 d)) h2
def HQ (l:dt):FK l=pick (ef (l.foldl jz [])) (keysOf (vm (l.foldl jz []))):=rfl
def Bp (l:dt):Nf (FK l):=by
 rw [HQ];exact Ug _ (KF l [] (fun s=>by rw [rQ]; decide)) (ux (A7 l [] aj))
def B5 (l:dt) (s:Xaa):cf (FK l) s=cf l s % 4294967296:=by
 have h1:=I2 l s [];rw [rQ,bu9,dx9 (KF l [] (fun s=>by rw [rQ]; decide) s)] at h1;rw [HQ,Up _ _ _ ((ux (A7 l [] aj)).imp fun h e=>by subst e; exact List.lt_irrefl (α:=UInt8) _ h)];split
 ·exact h1
 ·rename_i hn;rw [<- h1,RD];intro a;refine hn ((zc _).mem_iff.2 ?_);obtain ⟨p,b,rfl⟩:=an9.1 a;exact an9.2 ⟨p,b,rfl⟩
def fv (n:Nat) (l:dt):dt:=l.filterMap fun p=>if p.2*n % 4294967296=0 then none else some (p.1,p.2*n % 4294967296)
def fL:Nat->dt->dt->dt
 | 0,_,_=>[]
 | n+1,x,y=>match x,y with
  | [],[]=>[]
  | p::x,[]=>p::fL n x []
  | [],q::y=>q::fL n [] y
  | p::x,q::y=>if iK p.1 q.1 then p::fL n x (q::y) else if iK q.1 p.1 then q::fL n (p::x) y else if (p.2+q.2) % 4294967296=0 then fL n x y else (p.1,(p.2+q.2) % 4294967296)::fL n x y
def GH (x y:dt):dt:=fL (x.length+y.length) x y
def LF (h:Nf V):Nf (fv H V):=by
 refine ⟨?_,?_⟩
 ·unfold fv;refine List.Pairwise.filterMap _ ?_ h.1;intro a b d p c q e;split at c
  ·cases c
  ·split at e
   ·cases e
   ·cases c; cases e;exact d
 ·intro p c;unfold fv at c;rw [dw9] at c;obtain ⟨k,_,hk⟩:=c;split at hk
  ·cases hk
  ·rename_i h0;cases hk;exact ⟨h0,ft9 _ bT⟩
def MO (n:Nat) (l:dt) (s:Xaa):cf (fv n l) s % 4294967296=cf l s*n % 4294967296:=by
 induction l with
 | nil=>simp [fv,cf]
 | cons p l b =>
  have hc:cf (fv n (p::l)) s=(if p.1=s then p.2*n % 4294967296 else 0)+cf (fv n l) s:=by
   unfold fv;rw [List.filterMap_cons];split
   ·rename_i a;split at a
    ·rename_i h0;rw [h0]; simp
    ·cases a
   ·rename_i a;split at a
    ·cases a
    ·cases a;rfl
  rw [hc,en9,b,fm]
  by_cases h:p.1=s
  ·rw [ag9 h,ag9 h,da9,fw9,<- en9]
  ·rw [ac9 h,ac9 h,bu9]; simp
def rR (h:a∈fL H V g):(∃ p,p∈V/\p.1=a.1)\/(∃ q,q∈g/\q.1=a.1):=by
 induction H generalizing V g with
 | zero=>simp [fL] at h
 | succ H d =>
  rcases V with _ | ⟨p,V⟩ <;> rcases g with _ | ⟨q,g⟩
  ·simp [fL] at h
  ·simp only [fL,List.mem_cons] at h;rcases h with rfl | h
   ·exact .inr ⟨_,aj,rfl⟩
   ·rcases d h with ⟨b,c,e⟩ | ⟨b,c,e⟩
    ·simp at c
    ·exact .inr ⟨b,by simp [c],e⟩
  ·simp only [fL,List.mem_cons] at h;rcases h with rfl | h
   ·exact .inl ⟨_,aj,rfl⟩
   ·rcases d h with ⟨b,c,e⟩ | ⟨b,c,e⟩
    ·exact .inl ⟨b,by simp [c],e⟩
    ·simp at c
  ·simp only [fL] at h;split at h
   ·rcases be9.1 h with rfl | h
    ·exact .inl ⟨_,aj,rfl⟩
    ·rcases d h with ⟨b,c,e⟩ | ⟨b,c,e⟩
     ·exact .inl ⟨b,by simp [c],e⟩
     ·exact .inr ⟨b,c,e⟩
   ·split at h
    ·rcases be9.1 h with rfl | h
     ·exact .inr ⟨_,aj,rfl⟩
     ·rcases d h with ⟨b,c,e⟩ | ⟨b,c,e⟩
      ·exact .inl ⟨b,c,e⟩
      ·exact .inr ⟨b,by simp [c],e⟩
    ·split at h
     ·rcases d h with ⟨b,c,e⟩ | ⟨b,c,e⟩
      ·exact .inl ⟨b,by simp [c],e⟩
      ·exact .inr ⟨b,by simp [c],e⟩
     ·rcases be9.1 h with rfl | h
      ·exact .inl ⟨p,aj,rfl⟩
      ·rcases d h with ⟨b,c,e⟩ | ⟨b,c,e⟩
       ·exact .inl ⟨b,by simp [c],e⟩
       ·exact .inr ⟨b,by simp [c],e⟩
def Nf.cons {p:Xaa × Nat} {l:dt} (h:Nf l) (hc:p.2≠0/\p.2<4294967296) (hl:∀ q,q∈l->iK p.1 q.1):Nf (p::l) :=
 ⟨dp9.2 ⟨hl,h.1⟩,fun q a=>by rcases be9.1 a with rfl | a; exact hc; exact h.2 q a⟩
def TQ (c:Nf V) (d:Nf g):Nf (fL H V g):=by
 induction H generalizing V g with
 | zero=>exact Nf.nil
 | succ H h =>
  rcases V with _ | ⟨p,V⟩ <;> rcases g with _ | ⟨q,g⟩
  ·exact Nf.nil
  ·simp only [fL];refine (h Nf.nil d.tail).cons (d.2 q aj) fun r f=>?_
   rcases rR f with ⟨a,b,e⟩ | ⟨a,b,e⟩
   ·simp at b
   ·rw [<- e]; exact d.head a b
  ·simp only [fL];refine (h c.tail Nf.nil).cons (c.2 p aj) fun r f=>?_
   rcases rR f with ⟨a,b,e⟩ | ⟨a,b,e⟩
   ·rw [<- e]; exact c.head a b
   ·simp at b
  ·simp only [fL];split
   ·rename_i h1;refine (h c.tail d).cons (c.2 p aj) fun r f=>?_
    rcases rR f with ⟨a,b,e⟩ | ⟨a,b,e⟩
    ·rw [<- e]; exact c.head a b
    ·rw [<- e];rcases be9.1 b with rfl | b
     ·exact h1
     ·exact jV h1 (d.head a b)
   ·rename_i h1;split
    ·rename_i h2;refine (h c d.tail).cons (d.2 q aj) fun r f=>?_
     rcases rR f with ⟨a,b,e⟩ | ⟨a,b,e⟩
     ·rw [<- e];rcases be9.1 b with rfl | b
      ·exact h2
      ·exact jV h2 (c.head a b)
     ·rw [<- e]; exact d.head a b
    ·rename_i h2;have he:=Av _ _ h1 h2;split
     ·exact h c.tail d.tail
     ·rename_i h0;refine (h c.tail d.tail).cons ⟨h0,ft9 _ bT⟩ fun r f=>?_
      rcases rR f with ⟨a,b,e⟩ | ⟨a,b,e⟩
      ·rw [<- e]; exact c.head a b
      ·rw [<- e];show iK p.1 a.1;rw [he]; exact d.head a b
def Ti {x y:dt} (hn:x.length+y.length<=H) (s:Xaa):cf (fL H x y) s % 4294967296=(cf x s+cf y s) % 4294967296:=by
 induction H generalizing x y with
 | zero =>
  have h1:x=[]:=dy9.1 ad;have h2:y=[]:=dy9.1 ad;subst h1 h2;rfl
 | succ H a =>
  rcases x with _ | ⟨p,x⟩ <;> rcases y with _ | ⟨q,y⟩
  ·rfl
  ·simp only [fL,fm,A2]
   have:=a (x:=[]) (y:=y) (by simp at hn ⊢; omega)
   simp only [A2] at this;omega
  ·simp only [fL,fm,A2]
   have:=a (x:=x) (y:=[]) (by simp at hn ⊢; omega)
   simp only [A2] at this;omega
  ·simp only [List.length_cons] at hn;simp only [fL];split
   ·have:=a (x:=x) (y:=q::y) (by simp; omega)
    simp only [fm] at this ⊢;omega
   ·rename_i h1;split
    ·have:=a (x:=p::x) (y:=y) (by simp; omega)
     simp only [fm] at this ⊢;omega
    ·rename_i h2;have he:=Av _ _ h1 h2
     have:=a (x:=x) (y:=y) ad
     split
     ·rename_i h0;simp only [fm,<- he];split
      ·omega
      ·omega
     ·simp only [fm,<- he];split
      ·omega
      ·omega
def Fj (a:Nf V) (b:Nf g):Nf (GH V g):=TQ a b
def Ff (x y:dt) (s:Xaa):cf (GH x y) s % 4294967296=(cf x s+cf y s) % 4294967296:=Ti (aq9 _) s
def EW (n:Nat) (l:dt) (s:Xaa):cf (l.map fun p=>(p.1,p.2*n % 4294967296)) s % 4294967296=cf l s*n % 4294967296:=by
 induction l with
 | nil=>simp [cf]
 | cons p l a =>
  simp only [List.map_cons,cf];rw [en9,a]
  by_cases h:p.1=s
  ·rw [ag9 h,ag9 h,da9,fw9,<- en9]
  ·rw [ac9 h,ac9 h,bu9]; simp
def vL (x:bM) (n:Nat):bM:=⟨fv n x.ah,x.num*n % 4294967296⟩
def j3 (x y:bM):bM:=⟨GH x.ah y.ah,(x.num+y.num) % 4294967296⟩
def CA (n:Nat) (l:dt):(fv n l).length<=l.length:=List.length_filterMap_le _ _
def X6 (r:Option Nat) (p:Xac) (l i:Nat) (k:T):T :=
 T.loop [aQ] [vI (0:Int)] <| fun (a:Int) =>
 bt a l
  (T.need (eS a l) <|
  T.bf p <| fun (d:Xax) =>
  T.af (d.add (aI a 2)) [.string,.int .u32] <| fun (e:Xaa) (f:Int) =>
  T.new [cm,aF (0:Int)] 64 <| fun (b:Xax) =>
  T.aD b [.string e,aF f] <|
  T.af b [.string] <| fun (c:Xaa) =>
  bQ (Instr.lookup 196 (.map r) (.string c) false) false [(false,[.int .u32])] <| fun (g:Int) =>
  T.af (b.add 1) [.int .u32] <| fun (h:Int) =>
  T.dX Xaz (Instr.mapUpdate 196 (.map r) (.string c) (aF (IntKind.wrap .u32 (g+h)))) <|
  T.again i [vI (bq (a+(1:Int)))]) k
def wq (l:dt):∀ D:dt,(l.foldl jz D).length<=D.length+l.length:=by
 induction l with
 | nil=>intro D; simp
 | cons p l a =>
  intro D;rw [bt9];have h1:=a (jz D p);have h2:=H2 D p.1 ((ef D p.1+p.2) % 4294967296);have b:(jz D p).length<=D.length+1:=h2;simp only [List.length_cons];omega
def Lf {h:Hp} {us D:dt} (s:e.length=b) (v:iD h c Z us) (hl:us.length<=2^40) (I:∀ t,t∈us->t.1.size<=maxLen) (m:fl h H (vm D)) (M:H∉aJ c)
  (hk:∀ J h',fl h' H (vm (us.foldl jz D))->Ch [H] h h'->k (e++[J]) f h'):X6 (some H) c Z b k e f h:=by
 have hll:=v.len;have N:∀ J:List Xab->Hp->Prop,(e++[J])[b]?=some J:=by intro J; subst s; simp
 unfold X6 bt aI bQ bq eS aF cm aQ;refine aT (cs:=cI) (fun y w h'=>∃ (i:Nat),y.1=(i:Int)/\i<=us.length/\w=us.length-i/\Ch [H] h h'/\fl h' H (vm ((us.take i).foldl jz D))) ((0:Int),()) us.length rfl
  ⟨0,rfl,ad,ad,Ch.refl _ _,by simpa using m⟩ ?_
 rintro ⟨n8,⟨⟩⟩ w E ⟨i,hi,F,rfl,u,x⟩;simp only at hi;subst hi;refine ao ?_;refine aR ?_ ?_<;>intro O
 ·have d:i<us.length:=ad
  obtain ⟨a,rfl,hc⟩:=(v.an u (by intro j A G; rw [ai9] at G; subst G; exact M A)).cells i d;have o:us.take (i+1)=us.take i++[us[i]]:=ae9 d;have hsz:=I us[i] (al9 d);generalize us[i]=t at hc o hsz;refine bS rfl ?_;rw [cr i];refine ay (t.1,(t.2:Int),()) hc (ao ?_);refine br ?_;intro W P Q X;refine bR P ?_;intro h6 r R Y;have r:bC h6 E.size 64 (dp t):=r;have q:Ext E h6:=bY Q R;have m6:=x.an q aj;refine az r (t.1,()) (ao ?_);refine qu m6 _ ?_;rw [aE];refine az r ((t.2:Int),()) (ao ?_);generalize B:(us.take i).foldl jz D=C at m6;refine Ja (n:=(ef C t.1+t.2) % 4294967296) m6 hsz ?_ ?_
  ·rw [ey,jd,fe9]
  ·intro h7 S U z7;have hw:=ic i;have V:(us.take (i+1)).foldl jz D=wa C t.1 ((ef C t.1+t.2) % 4294967296):=by
    rw [o,ch9,B] <;> rfl
   refine aG (cs:=cI) (((i+1:Nat):Int),()) (us.length-(i+1)) (N _) ad (as9 (fun z=>[Value.int .i64 z]) hw) ⟨i+1,rfl,ad,rfl,?_,by rw [V]; exact S⟩;exact Ch.trans (Ch.trans u q aj) U (fun j A _=>A)
 ·have hi:i=us.length:=ad
  subst hi;rw [bj9] at x;exact hk _ _ x u
def iD.Xr {us:dt} (v:iD Y c H us) (hn:us≠[]):∀ i,i∈aJ c->i<Y.size:=by
 intro i hi;cases us with
 | nil=>exact absurd rfl hn
 | cons t us =>
  obtain ⟨a,rfl,hc⟩:=v.cells 0 aj;simp only [aJ,List.mem_singleton] at hi;subst hi;rw [show a.add (0*2)=a by simp [Addr.add]] at hc;have h1:=hc.1;unfold ig at h1;split at h1
  ·rename_i b
   have:=eV b
   simpa [iO] using this
  ·cases h1
def Yo:Tryz.prog.underlying 59=some (.slice 50):=ax
def YP:(Tryz.prog.info? 50).map (fun i=>(i.zero,i.size,i.bytes))=some (some (.slice none 0 0),1,24):=ax
def V0 {h:Hp} {p q:Xac} {l c m d:Nat} {x y:bM} (v:iD h p l x.ah) (u:iD h q m y.ah) (P:∀ i,i∈aJ p->i<h.size) (Q:∀ i,i∈aJ q->i<h.size)
  (hl:x.ah.length+y.ah.length<=2^40) (R:∀ t,t∈x.ah->t.1.size<=maxLen) (S:∀ t,t∈y.ah->t.1.size<=maxLen) :
  HC Xaz 66 #[ik p l c x,ik q m d y] h fun w h'=>Ext h h'/\∃ p' l' c',w=ik p' l' c' (nl x y)/\SL h' h.size 64 2 p' l' c' ((nl x y).ah.map dp):=by
 refine bd (args:=[.agg #[.slice p l c,.int .u32 x.num],.agg #[.slice q m d,.int .u32 y.num]]) mixed Tryz.func66 ax (Ct p l c x.num q m d y.num) ?_;unfold BA aY bh bt aI bP bn bQ aF bg cm aQ;refine br ?_;intro h1 b1 F z1;refine br ?_;intro h2 b2 o z2;refine br ?_;intro e b3 r z3;refine nj _ ?_;intro X G n z4;refine ⟨(some e.size,()),rfl,ao ?_⟩;have b1:=((b1.an o aj).an r aj).an n aj;have b2:=(b2.an r aj).an n aj;have b3:=b3.an n aj;have e04:=((F.trans o).trans r).trans n;refine az b1 ((p,l,c),()) (ao ?_);refine az b2 ((q,m,d),()) (ao ?_);refine nS (cells:=[.slice p l c,.slice q m d]) Yo YP bT bT ax ?_;intro H I f Y;have U:fl H e.size (vm []):=G.an f aj;have b1:=b1.an f aj;have b2:=b2.an f aj;have b3:=b3.an f aj;have e05:=e04.trans f;have hb5:=I.lt;have hm4:=G.lt;refine aT (cs:=cI) (fun z w h'=>∃ (i:Nat),z.1=(i:Int)/\i<=2/\w=2-i/\Ch [e.size] H h'/\fl h' e.size (vm ((([x.ah,y.ah].take i).flatten).foldl jz []))) ((0:Int),()) 2 rfl
  ⟨0,rfl,ad,ad,Ch.refl _ _,U⟩ ?_
 rintro ⟨n8,⟨⟩⟩ w h6 ⟨i,hi,K,rfl,b,g⟩;simp only at hi;subst hi;refine ao ?_;have b6:=I.an b (by simp; omega);have a:Ext h h6:=bY e05 b;refine aR ?_ ?_<;>intro V
 ·refine bS rfl ?_;rw [cr i,aE];have hw:=ic i;have s:i=0\/i=1:=ad
  rcases s with rfl | rfl
  ·refine az b6 ((p,l,c),()) (ao ?_);refine Lf (us:=x.ah) (D:=[]) rfl (v.an a aj) ad R g (fun A=>by have:=P _ A; omega) ?_;intro J L B C;refine aG (cs:=cI) (((0+1:Nat):Int),()) (2-(0+1)) rfl ad (as9 (fun z=>[Value.int .i64 z]) hw) ⟨0+1,rfl,ad,rfl,Ch.trans b C (fun j k _=>k),?_⟩;simpa using B
  ·refine az b6 ((q,m,d),()) (ao ?_);refine Lf (us:=y.ah) (D:=x.ah.foldl jz []) rfl (u.an a aj) ad S (by simpa using g) (fun A=>by have:=Q _ A; omega) ?_;intro J L B C;refine aG (cs:=cI) (((1+1:Nat):Int),()) (2-(1+1)) rfl ad (as9 (fun z=>[Value.int .i64 z]) hw) ⟨1+1,rfl,ad,rfl,Ch.trans b C (fun j k _=>k),?_⟩;simpa using B
 ·have hi:i=2:=ad
  subst hi;have g:fl h6 e.size (vm ((x.ah++y.ah).foldl jz [])):=by simpa using g
  have b1:=b1.an b (by simp; omega);have b2:=b2.an b (by simp; omega);have b3:=b3.an b (by simp; omega);rw [aE,aE];refine az b1 ((x.num:Int),()) (ao ?_);refine az b2 ((y.num:Int),()) (ao ?_);refine aK (To g (by have:=wq (x.ah++y.ah) []; rw [af9,List.length_nil] at this; omega) _) ?_;rintro _ L ⟨M,p',l',c',rfl,N⟩;refine ⟨((p',l',c'),IntKind.wrap .u32 ((x.num:Int)+(y.num:Int)),()),rfl,ao ?_⟩;refine bR (b3.an M aj) ?_;intro W E O Z;have E:bC W h2.size 53 [.slice p' l' c',.int .u32 (IntKind.wrap .u32 ((x.num:Int)+(y.num:Int)))]:=E;refine az E ((p',l',c'),IntKind.wrap .u32 ((x.num:Int)+(y.num:Int)),()) ?_;have hz6:=a.size;have hz2:=(F.trans o).size;have hb3:=b3.lt;refine ⟨bY (a.trans M) O,p',l',c',?_,(N.bK O (fun j k=>by have:=(N.cB k).1; simp; omega)).mono ad⟩;unfold ik nl;rw [ey];dsimp only;rw [jd,fe9]
def sr (p:UInt8->Bool) (l:List UInt8) (k:Nat) (hk:k<l.length):(l.take (k+1)).all p=((l.take k).all p && p (l.getD k 0)):=by
 rw [ae9 hk,List.all_append];simp [List.getD,List.getElem?_eq_getElem hk]
def tD (s:Xaa) (h:Hp) (u:s.size<=9223372036854775807):uu Xaz 78 [.string s] h (.bool (cE s.data.toList)):=by
 refine ff mixed Tryz.func78 ax (pL s) ?_;have l:s.data.toList.length=s.size:=aj
 unfold kh bh aZ bP eS lh bz aQ cn;unfold cE;rw [l];refine aw ?_ ?_<;>intro h1
 ·have h1:=ah9 h1;rw [show decide (0<s.size)=false from ak9 ad];exact ⟨aj,rfl⟩
 have h1:=av9 h1;refine aw ?_ ?_<;>intro h2
 ·have h2:=ah9 h2;rw [show decide (s.size<=32)=false from ak9 ad];exact ⟨aj,rfl⟩
 have h2:=av9 h2;rw [show decide (0<s.size)=true from aj9 ad,show decide (s.size<=32)=true from aj9 ad];refine hZ ?_;refine aP (Df (s.data.toList.getD 0 0) h) ?_;refine aw ?_ ?_<;>intro f
 ·have f:dI (s.data.toList.getD 0 0)=false:=by simpa using f
  rw [f];exact ⟨aj,rfl⟩
 have f:dI (s.data.toList.getD 0 0)=true:=by simpa using f
 rw [f];refine aT (cs:=gT) (fun x n h'=>h'=h/\∃ k:Nat,x.2.1=(k:Int)/\k<=s.size/\n=s.size-k/\(s.data.toList.take k).all (fun c=>dI c || dL c)=true)
  (false,(0:Int),()) s.size rfl ⟨rfl,0,rfl,ad,ad,aj⟩ ?_
 rintro ⟨b,n,⟨⟩⟩ m h' ⟨rfl,k,hk,p,rfl,a⟩;simp only at hk;subst hk;refine aw ?_ ?_<;>intro o
 ·have j:(k:Int)<s.size:=ah9 o;have hst:=sr (fun c=>dI c || dL c) s.data.toList k ad;rw [a,bl9] at hst;have e:∀ k':Nat,(dI (s.data.toList.getD k 0) || dL (s.data.toList.getD k 0))=false->s.data.toList.all (fun c=>dI c || dL c)=false:=by
   intro k' q;rw [q] at hst;cases r:s.data.toList.all (fun c=>dI c || dL c) with
   | false=>rfl
   | true =>
    have:(s.data.toList.take (k+1)).all (fun c=>dI c || dL c)=true:=bn9.2 fun c hc=>bn9.1 r c (cv9 hc)
    rw [this] at hst; cases hst
  have d:(dI (s.data.toList.getD k 0) || dL (s.data.toList.getD k 0))=true->T.again 0 [.bool b,vI (IntKind.wrap .i64 ((k:Int)+1))] ([]++[Jl (cs:=gT) (fun x n h''=>h''=h'/\∃ k:Nat,x.2.1=(k:Int)/\k<=s.size/\n=s.size-k/\(s.data.toList.take k).all (fun c=>dI c || dL c)=true) (s.size-k)]) (fun v' h''=>v'=.bool (true && true && true && s.data.toList.all (fun c=>dI c || dL c) && !(ry s.data.toList).2.2)/\h''=h') h':=by
   intro ht;rw [wrap_i64 ad ad];exact aG (cs:=gT) (b,(k:Int)+1,()) (s.size-(k+1)) rfl ad rfl ⟨rfl,k+1,(show ((k:Int)+1)=((k+1:Nat):Int) from ad),ad,rfl,by rw [hst,ht]⟩
  refine dC ⟨(by show (0:Int)<=(k:Int); omega),j⟩ ?_;refine aP (Df (s.data.toList.getD k 0) h') ?_;refine aw ?_ ?_<;>intro g
  ·have g:dI (s.data.toList.getD k 0)=false:=by simpa using g
   refine dC ⟨(by show (0:Int)<=(k:Int); omega),j⟩ ?_;refine aP (QF (s.data.toList.getD k 0) h') ?_;refine aw ?_ ?_<;>intro i
   ·have i:dL (s.data.toList.getD k 0)=false:=by simpa using i
    rw [e 0 (by rw [g,i]; rfl)];exact ⟨aj,rfl⟩
   ·have i:dL (s.data.toList.getD k 0)=true:=by simpa using i
    exact d (by rw [i]; simp)
  ·have g:dI (s.data.toList.getD k 0)=true:=by simpa using g
   exact d (by rw [g]; simp)
 ·have t:¬ (k:Int)<s.size:=av9 o;have hk:k=s.data.toList.length:=ad
  rw [hk,bj9] at a;rw [a];refine H4 (Ez s h') ?_;exact ⟨aj,rfl⟩
def dv (c:UInt8):Nat:=if c.toNat<58 then c.toNat-48 else c.toNat-87
def wW (b:Nat) (l:List UInt8):Nat:=l.foldl (fun n c=>n*b+dv c) 0
def BV (c:UInt8):Bool:=dL c || (97<=c.toNat && c.toNat<=102)
def M9 (c:UInt8):BV c=true↔(48<=cN c/\cN c<=57)\/(97<=cN c/\cN c<=102):=by
 unfold BV;rw [Bool.or_eq_true,Mb];unfold cN;simp only [Bool.and_eq_true,decide_eq_true_eq];omega
def VD (c:UInt8) (h:BV c=true):(cN c<=57->(dv c:Int)=cN c-48)/\(57<cN c->(dv c:Int)=cN c-87)/\dv c<16:=by
 have:=(M9 c).1 h
 unfold dv cN at *;split <;> omega
theorem xe:∀ (l:List UInt8) (n:Nat),(∀ c∈l,dv c<16)->l.foldl (fun n c=>n*16+dv c) n<(n+1)*16^l.length
 | [],n,_=>aj
 | c::l,n,a=>by
  rw [bt9,cj9,Nat.pow_succ];have h1:=xe l (n*16+dv c) (fun x b=>a x (by simp [b]));have h2:=a c aj;have d:(n*16+dv c+1)*16^l.length<=((n+1)*16)*16^l.length:=cl9 _ ad;have e:((n+1)*16)*16^l.length=(n+1)*(16^l.length*16):=by rw [Nat.mul_assoc,fm9 16]
  omega
def RT (s:Xaa) (i j:Nat):(s.extract i j).data.toList=(s.data.toList.drop i).take (j-i):=by
 rw [ByteArray.data_extract,Array.toList_extract,List.extract_eq_take_drop]
def P5 (hl:U.length<=8) (a:∀ i,i<U.length->BV (U.getD i 0)=true):wW 16 U<4294967296:=by
 have h1:=xe U 0 (fun c hc=>by
  obtain ⟨i,hi,rfl⟩:=bg9 hc
  have:=a i hi
  simp only [List.getD,List.getElem?_eq_getElem hi,Option.getD_some] at this;exact (VD _ this).2.2)
 have h2:16^U.length<=16^8:=Nat.pow_le_pow_right ad ad;have b:(16:Nat)^8=4294967296:=rfl;unfold wW;omega
def getD_take (hi:Z<H):(U.take H).getD Z 0=U.getD Z 0:=by
 rw [cf9,ei9,ag9 hi,<- cf9]
def fK:List UInt8:=[48,49,50,51,52,53,54,55,56,57,97,98,99,100,101,102]
def NZ (c:UInt8):fK.contains c=BV c:=iS (fun c=>fK.contains c) BV (by decide +kernel) c
def gF (l:List UInt8):Nat × Nat :=
 if l.take 2=[48,120] then
  (if 8<cD (l.drop 2) fK\/cD (l.drop 2) fK=0 then (0,0) else (2+cD (l.drop 2) fK,wW 16 ((l.drop 2).take (cD (l.drop 2) fK))))
 else
  (if (1<cD l cO/\l.getD 0 0=48)\/cD l cO=0\/4294967296<=wW 10 (l.take (cD l cO)) then (0,0) else (cD l cO,wW 10 (l.take (cD l cO))))
def Pk {set:List UInt8} (hi:H<cD U set):set.contains (U.getD H 0)=true:=by
 have hle:=nM U set;exact (tM U set H ad ad).1 hi
structure Tok where
 kind:Nat
 text:Xaa
 num:Nat
 at_:Nat
def dS:List UInt8:=[9,13,32]
def cL:List UInt8:=fV++cO
def BD:List UInt8:=[58,44,40,41,43,45,42,61]
inductive Step where
 | stop
 | iw (at_:Nat)
 | tok (t:Tok) (next:Nat)
def QZ (s:Xaa) (a:Nat):Step :=
 if a=s.size then .stop
 else if s.data.toList.getD a 0=59 then .stop
 else if dI (s.data.toList.getD a 0)=true then
  if 32<cD (s.data.toList.drop a) cL then .iw a else .tok ⟨1,s.extract a (a+cD (s.data.toList.drop a) cL),0,a⟩ (a+cD (s.data.toList.drop a) cL)
 else if dL (s.data.toList.getD a 0)=true then
  if (gF (s.data.toList.drop a)).1=0\/0<cD (s.data.toList.drop (a+(gF (s.data.toList.drop a)).1)) cL then .iw a
  else .tok ⟨2,s.extract a (a+(gF (s.data.toList.drop a)).1),(gF (s.data.toList.drop a)).2,a⟩ (a+(gF (s.data.toList.drop a)).1)
 else if s.data.toList.getD a 0=39 then
  if s.size<a+3\/(s.data.toList.getD (a+1) 0).toNat<32\/126<(s.data.toList.getD (a+1) 0).toNat\/s.data.toList.getD (a+1) 0=39\/s.data.toList.getD (a+2) 0≠39 then .iw a
  else .tok ⟨2,s.extract a (a+3),(s.data.toList.getD (a+1) 0).toNat,a⟩ (a+3)
 else if BD.contains (s.data.toList.getD a 0)=true then .tok ⟨3,s.extract a (a+1),0,a⟩ (a+1)
 else .iw a
def lI (s:Xaa) (k:Nat):Step:=QZ s (k+cD (s.data.toList.drop k) dS)
def zT (s:Xaa):Nat->Nat->List Tok->List Tok × Nat × Nat
 | 0,_,b=>(b,0,0)
 | f+1,k,b =>
  match lI s k with
  | .stop=>(b,0,0)
  | .iw a=>([],a,20)
  | .tok t k'=>zT s f k' (b++[t])
def FF (s:Xaa):List Tok × Nat × Nat:=zT s (s.size+1) 0 []
def TK (l:List UInt8):(gF l).1<=l.length/\(gF l).2<4294967296:=by
 unfold gF;split
 ·rename_i h;have h2:=as9 List.length h;rw [az9] at h2;simp only [List.length_cons,List.length_nil] at h2;have h3:=nM (l.drop 2) fK;rw [bw9] at h3;split
  ·simp
  ·rename_i a;refine ⟨by simp only; omega,?_⟩;refine P5 (by rw [az9]; omega) (fun i hi=>?_);rw [az9] at hi;rw [getD_take ad,<- NZ];exact Pk ad
 ·have h3:=nM l cO;split
  ·simp
  ·rename_i a;exact ⟨h3,by simp only; omega⟩
variable {h:List Tok} {i:Tok}
def AM {k':Nat} (b:lI O Z=.tok i k'):zT O (H+1) Z h=zT O H k' (h++[i]):=by
 show (match lI O Z with
  | .stop=>(h,0,0)
  | .iw a=>([],a,20)
  | .tok i k'=>zT O H k' (h++[i]))=_
 rw [b]
def C9 (b:lI O Z=.stop):zT O (H+1) Z h=(h,0,0):=by
 show (match lI O Z with
  | .stop=>(h,0,0)
  | .iw a=>([],a,20)
  | .tok t k'=>zT O H k' (h++[t]))=_
 rw [b]
def Iq (c:lI O Z=.iw b):zT O (H+1) Z h=([],b,20):=by
 show (match lI O Z with
  | .stop=>(h,0,0)
  | .iw b=>([],b,20)
  | .tok t k'=>zT O H k' (h++[t]))=_
 rw [c]
inductive XP where
 | stop
 | iw
 | tok (kind len num:Nat)
def mE (D:List UInt8):XP :=
 if D=[] then .stop
 else if D.getD 0 0=59 then .stop
 else if dI (D.getD 0 0)=true then
  if 32<cD D cL then .iw else .tok 1 (cD D cL) 0
 else if dL (D.getD 0 0)=true then
  if (gF D).1=0\/0<cD (D.drop (gF D).1) cL then .iw else .tok 2 (gF D).1 (gF D).2
 else if D.getD 0 0=39 then
  if D.length<3\/(D.getD 1 0).toNat<32\/126<(D.getD 1 0).toNat\/D.getD 1 0=39\/D.getD 2 0≠39 then .iw
  else .tok 2 3 (D.getD 1 0).toNat
 else if BD.contains (D.getD 0 0)=true then .tok 3 1 0
 else .iw
def NG (s:Xaa) (a:Nat):XP->Step
 | .stop=>.stop
 | .iw=>.iw a
 | .tok k n m=>.tok ⟨k,s.extract a (a+n),m,a⟩ (a+n)
def Cq (l:List UInt8) (a j:Nat):(l.drop a).getD j 0=l.getD (a+j) 0:=by
 simp [List.getD_eq_getElem?_getD,List.getElem?_drop]
def JH (s:Xaa) (a:Nat) (j:a<=s.size):QZ s a=NG s a (mE (s.data.toList.drop a)):=by
 unfold QZ mE;have g:s.data.toList.length=s.size:=aj
 simp only [Cq,Nat.add_zero,List.drop_drop,List.length_drop,g]
 by_cases h1:a=s.size
 ·rw [ag9 h1,ag9 (cc9 ad)]; rfl
 have h:¬ s.data.toList.drop a=[]:=fun b=>h1 (by have:=fj9.1 b; omega)
 rw [ac9 h1,ac9 h]
 by_cases h2:s.data.toList.getD a 0=59
 ·rw [ag9 h2,ag9 h2]; rfl
 rw [ac9 h2,ac9 h2]
 by_cases c:dI (s.data.toList.getD a 0)=true
 ·rw [ag9 c,ag9 c];split <;> rfl
 rw [ac9 c,ac9 c]
 by_cases d:dL (s.data.toList.getD a 0)=true
 ·rw [ag9 d,ag9 d];split <;> rfl
 rw [ac9 d,ac9 d]
 by_cases e:s.data.toList.getD a 0=39
 ·rw [ag9 e,ag9 e]
  by_cases i:s.size<a+3
  ·rw [ag9 (.inl i),ag9 (.inl ad)]; rfl
  ·by_cases f:(s.data.toList.getD (a+1) 0).toNat<32\/126<(s.data.toList.getD (a+1) 0).toNat\/s.data.toList.getD (a+1) 0=39\/s.data.toList.getD (a+2) 0≠39
   ·rw [ag9 (.inr f),ag9 (.inr f)]; rfl
   ·rw [ac9 (by intro b; rcases b with b | b; exact i b; exact f b),ac9 (by intro b; rcases b with b | b; omega; exact f b)]; rfl
 rw [ac9 e,ac9 e];split <;> rfl
theorem uA {p:UInt8->Bool}:∀ (l:List UInt8) {c:UInt8},c∈l.takeWhile p->p c=true
 | [],c,h=>by simp at h
 | d::l,c,h=>by
  rw [List.takeWhile_cons] at h;cases a:p d with
  | false=>rw [a] at h; simp at h
  | true =>
   rw [a] at h;simp only [if_true,List.mem_cons] at h;rcases h with rfl | h
   ·exact a
   ·exact uA l h
def j2 {set D:List UInt8} (a:cD U set=0):cD (D.take (cD D set)++U) set=cD D set:=by
 unfold cD at a ⊢;have h1:U.takeWhile (fun c=>set.contains c)=[]:=bo9 a;have h2:D.take (D.takeWhile fun c=>set.contains c).length=D.takeWhile fun c=>set.contains c:=(List.prefix_iff_eq_take.1 (List.takeWhile_prefix _)).symm
 rw [h2,List.takeWhile_append_of_pos,h1,bz9];exact fun c hc=>uA D hc
def fZ {set:List UInt8}:cD U set=0↔∀ c r,U=c::r->set.contains c=false:=by
 unfold cD;cases U with
 | nil=>simp
 | cons c r =>
  simp only [List.takeWhile_cons,List.cons.injEq,and_imp];cases h:set.contains c with
  | false=>simp only [Bool.false_eq_true,if_false,List.length_nil,true_iff]; rintro _ _ rfl rfl; exact h
  | true=>simp only [if_true,List.length_cons,Nat.add_one_ne_zero,false_iff]; intro a; have:=a c r rfl rfl; rw [h] at this; cases this
def EZ (c:UInt8) (h:cL.contains c=false):cO.contains c=false:=by
 have:=iS (fun c=>cL.contains c || !cO.contains c) (fun _=>true) (by decide +kernel) c
 simp only [h,Bool.false_or,Bool.not_eq_true'] at this;exact this
def HM (c:UInt8) (h:cL.contains c=false):fK.contains c=false:=by
 have:=iS (fun c=>cL.contains c || !fK.contains c) (fun _=>true) (by decide +kernel) c
 simp only [h,Bool.false_or,Bool.not_eq_true'] at this;exact this
def wx (h:cD U cL=0):cD U cO=0:=fZ.2 fun c r a=>EZ c (fZ.1 h c r a)
def Gp (h:cD U cL=0):cD U fK=0:=fZ.2 fun c r a=>HM c (fZ.1 h c r a)
def IA {D E:List UInt8} (h0:(gF D).1≠0) (e:cD E cL=0):gF (D.take (gF D).1++E)=gF D:=by
 by_cases h1:D.take 2=[48,120]
 ·have a:gF D=if 8<cD (D.drop 2) fK\/cD (D.drop 2) fK=0 then (0,0) else (2+cD (D.drop 2) fK,wW 16 ((D.drop 2).take (cD (D.drop 2) fK))):=by
   unfold gF; rw [ag9 h1]
  have i:2<=D.length:=by
   have:=as9 List.length h1
   rw [az9] at this;simp at this; omega
  by_cases h2:8<cD (D.drop 2) fK\/cD (D.drop 2) fK=0
  ·rw [ag9 h2] at a;rw [a] at h0;exact (h0 rfl).elim
  ·rw [ac9 h2] at a;rw [a];have hr:=nM (D.drop 2) fK;have hloc:=j2 (set:=fK) (D:=D.drop 2) (Gp e);generalize cD (D.drop 2) fK=r at *;simp only;have j:D.take (2+r)=[48,120]++(D.drop 2).take r:=by
    rw [<- h1,List.take_add]
   rw [j,ay9];unfold gF;rw [ag9 (by rfl)];have k:([48,120]++((D.drop 2).take r++E)).drop 2=(D.drop 2).take r++E:=rfl;rw [k,hloc,ac9 h2];have f:((D.drop 2).take r++E).take r=(D.drop 2).take r:=by
    rw [List.take_append_of_le_length (by rw [az9]; omega),List.take_take,Nat.min_self]
   rw [f]
 ·have a:gF D=if (1<cD D cO/\D.getD 0 0=48)\/cD D cO=0\/4294967296<=wW 10 (D.take (cD D cO)) then (0,0) else (cD D cO,wW 10 (D.take (cD D cO))):=by
   unfold gF; rw [ac9 h1]
  by_cases h2:(1<cD D cO/\D.getD 0 0=48)\/cD D cO=0\/4294967296<=wW 10 (D.take (cD D cO))
  ·rw [ag9 h2] at a;rw [a] at h0;exact (h0 rfl).elim
  ·rw [ac9 h2] at a;rw [a];have hr:=nM D cO;have hloc:=j2 (set:=cO) (D:=D) (wx e);generalize cD D cO=r at *;simp only;have l:0<r:=by
    rcases Nat.eq_zero_or_pos r with h | h
    ·exact (h2 (.inr (.inl h))).elim
    ·exact h
   have f:(D.take r++E).take r=D.take r:=by
    rw [List.take_append_of_le_length (by rw [az9]; omega),List.take_take,Nat.min_self]
   have m:(D.take r++E).getD 0 0=D.getD 0 0:=by
    cases D with
    | nil=>simp at hr; omega
    | cons d D=>obtain ⟨r,rfl⟩:∃ n,r=n+1:=⟨r-1,ad⟩; simp
   have o:¬ (D.take r++E).take 2=[48,120]:=by
    intro b
    by_cases p:2<=r
    ·rw [List.take_append_of_le_length (by rw [az9]; omega),List.take_take,dc9 p] at b;exact h1 b
    ·have g:r=1:=ad
     subst g;cases D with
     | nil=>simp at hr
     | cons d D =>
      cases E with
      | nil=>simp at b
      | cons c E =>
       simp at b
       have:=fZ.1 e c E rfl
       rw [b.2] at this;revert this; decide +kernel
   unfold gF;rw [ac9 o,hloc,f,m,ac9 h2]
def JG {E:List UInt8} (h:mE U=.tok H Z b) (f:cD E cL=0\/cD (U.drop Z) cL≠0):mE (U.take Z++E)=.tok H Z b/\0<Z/\Z<=U.length:=by
 cases U with
 | nil=>simp [mE] at h
 | cons d U =>
  unfold mE at h;rw [ac9 aj] at h;rw [List.getD_cons_zero] at h;have g:0<Z->mE ((d::U).take Z++E)=(if d=59 then .stop
   else if dI d=true then
    if 32<cD ((d::U).take Z++E) cL then .iw else .tok 1 (cD ((d::U).take Z++E) cL) 0
   else if dL d=true then
    if (gF ((d::U).take Z++E)).1=0\/0<cD (((d::U).take Z++E).drop (gF ((d::U).take Z++E)).1) cL then .iw else .tok 2 (gF ((d::U).take Z++E)).1 (gF ((d::U).take Z++E)).2
   else if d=39 then
    if ((d::U).take Z++E).length<3\/(((d::U).take Z++E).getD 1 0).toNat<32\/126<(((d::U).take Z++E).getD 1 0).toNat\/((d::U).take Z++E).getD 1 0=39\/((d::U).take Z++E).getD 2 0≠39 then .iw
    else .tok 2 3 (((d::U).take Z++E).getD 1 0).toNat
   else if BD.contains d=true then .tok 3 1 0
   else .iw):=by
   intro hn;have e0:((d::U).take Z++E).getD 0 0=d:=by
    obtain ⟨Z,rfl⟩:∃ x,Z=x+1:=⟨Z-1,ad⟩
    simp
   conv=>lhs; unfold mE
   rw [ac9 (by obtain ⟨Z,rfl⟩:∃ x,Z=x+1:=⟨Z-1,ad⟩; simp),e0]
  by_cases h2:d=59
  ·rw [ag9 h2] at h; cases h
  rw [ac9 h2] at h
  by_cases o:dI d=true
  ·rw [ag9 o] at h;have hpos:=tM (d::U) cL 0 ad aj;rw [List.getD_cons_zero,show cL=fV++cO from rfl,BE,o] at hpos;have hpos:=hpos.2 rfl;rw [<- show cL=fV++cO from rfl] at hpos
   by_cases i:32<cD (d::U) cL
   ·rw [ag9 i] at h; cases h
   rw [ac9 i] at h;injection h with q s t
   subst q s t;have hr:=nM (d::U) cL;have u:cD E cL=0:=by
    rcases f with f | f
    ·exact f
    ·refine (f ?_).elim;refine fZ.2 fun c r y=>?_
     have:=nr (p:=fun c=>cL.contains c) (d::U) (cD (d::U) cL) (aq9 _) (by
      have:=as9 List.length y
      rw [bw9] at this; simp at this ⊢; omega)
     have a:¬ cD (d::U) cL<((d::U).takeWhile fun c=>cL.contains c).length:=Nat.lt_irrefl _;rw [this] at a;have e:(d::U).getD (cD (d::U) cL) 0=c:=by
      have:=as9 (fun l=>l.getD 0 0) y
      simp only [Cq,Nat.add_zero,List.getD_cons_zero] at this;exact this
     rw [e] at a;simpa using a
   refine ⟨?_,hpos,hr⟩;rw [g hpos,ac9 h2,ag9 o,j2 u,ac9 i]
  rw [ac9 o] at h
  by_cases i:dL d=true
  ·rw [ag9 i] at h
   by_cases a:(gF (d::U)).1=0\/0<cD ((d::U).drop (gF (d::U)).1) cL
   ·rw [ag9 a] at h; cases h
   rw [ac9 a] at h;injection h with q s t
   subst q s t;have u:cD E cL=0:=by
    rcases f with f | f
    ·exact f
    ·omega
   have hl:=(TK (d::U)).1;have z:(gF (d::U)).1≠0:=fun w=>a (.inl w)
   have hloc:=IA z u;refine ⟨?_,ad,hl⟩;rw [g ad,ac9 h2,ac9 o,ag9 i,hloc];rw [List.drop_append_of_le_length (by rw [az9]; omega),List.drop_take,ex9,List.take_zero,dj9,ac9 ad]
  rw [ac9 i] at h
  by_cases a:d=39
  ·rw [ag9 a] at h
   by_cases e:(d::U).length<3\/((d::U).getD 1 0).toNat<32\/126<((d::U).getD 1 0).toNat\/(d::U).getD 1 0=39\/(d::U).getD 2 0≠39
   ·rw [ag9 e] at h; cases h
   rw [ac9 e] at h;injection h with q s t
   subst q s t;have j:3<=(d::U).length:=ad
   refine ⟨?_,ad,j⟩
   match U,j with
   | A::B::U,_ =>
    rw [g ad,ac9 h2,ac9 o,ac9 i,ag9 a];simp only [List.take_succ_cons,List.take_zero,List.cons_append,List.nil_append,List.getD_cons_succ,List.getD_cons_zero,List.length_cons] at e ⊢;rw [ac9 (by intro w; apply e; rcases w with w | w; omega; exact .inr w)]
  rw [ac9 a] at h
  by_cases e:BD.contains d=true
  ·rw [ag9 e] at h;injection h with q s t
   subst q s t;refine ⟨?_,ad,aj⟩;rw [g ad,ac9 h2,ac9 o,ac9 i,ac9 a,ag9 e]
  ·rw [ac9 e] at h; cases h
def vU (P:Program) (t:TypeId):Array Field :=
 match P.underlying t with
 | some (.struct a)=>a
 | _=>#[]
def bytes_beq (t:Xaa):(t==t)=true:=by
 cases t with | mk d=>show (d==d)=true; simp
def hv (c:UInt8):Int:=if BV c=true then (dv c:Int) else -1
def vl (D:List UInt8):Nat × Nat :=
 if D.getD 0 0=39 then
  (if D.length<3\/(D.getD 1 0).toNat<32\/126<(D.getD 1 0).toNat\/D.getD 1 0=39\/D.getD 2 0≠39 then (0,0) else ((D.getD 1 0).toNat,3))
 else if (gF D).1=0\/0<cD (D.drop (gF D).1) cL then (0,0) else ((gF D).2,(gF D).1)
inductive vX (s:Xaa):Nat->List Tok->Prop where
 | stop (k:Nat):k<=s.size->mE (s.data.toList.drop (k+cD (s.data.toList.drop k) dS))=.stop->vX s k []
 | tok (k kind n m:Nat) (ts:List Tok):k<=s.size->mE (s.data.toList.drop (k+cD (s.data.toList.drop k) dS))=.tok kind n m->vX s (k+cD (s.data.toList.drop k) dS+n) ts ->
   vX s k (⟨kind,s.extract (k+cD (s.data.toList.drop k) dS) (k+cD (s.data.toList.drop k) dS+n),m,k+cD (s.data.toList.drop k) dS⟩::ts)
def B0 (hk:H<=O.size):H+cD (O.data.toList.drop H) dS<=O.size:=by
 have h1:=nM (O.data.toList.drop H) dS;rw [bw9] at h1;have a:O.data.toList.length=O.size:=aj
 omega
def qh (hk:H<=O.size):lI O H=NG O (H+cD (O.data.toList.drop H) dS) (mE (O.data.toList.drop (H+cD (O.data.toList.drop H) dS))):=by
 unfold lI;exact JH O _ (B0 hk)
def Bk (h:mE U=.tok H Z b):0<Z/\Z<=U.length:=(JG (E:=[]) h (.inl rfl)).2
def RH:mE []=.stop:=rfl
theorem BK {s:Xaa}:∀ (f k:Nat) (b:List Tok),k<=s.size->s.size-k<f ->
  (∃ ts,vX s k ts/\zT s f k b=(b++ts,0,0))\/(∃ a,a<s.size/\zT s f k b=([],a,20))
 | 0,k,b,hk,g=>ad
 | f+1,k,b,hk,g=>by
  have hst:=qh hk;have ha:=B0 hk;have i:s.data.toList.length=s.size:=aj
  cases c:mE (s.data.toList.drop (k+cD (s.data.toList.drop k) dS)) with
  | stop =>
   rw [c] at hst;exact .inl ⟨[],.stop k hk c,by rw [C9 hst,bz9]⟩
  | iw =>
   rw [c] at hst;refine .inr ⟨_,?_,Iq hst⟩;rcases cm9 (k+cD (s.data.toList.drop k) dS) s.size with h | h
   ·exact h
   ·rw [cc9 ad,RH] at c; cases c
  | tok kind n m =>
   rw [c] at hst;obtain ⟨h1,h2⟩:=Bk c;rw [bw9] at h2;rcases BK (s:=s) f (k+cD (s.data.toList.drop k) dS+n) (b++[⟨kind,s.extract (k+cD (s.data.toList.drop k) dS) (k+cD (s.data.toList.drop k) dS+n),m,k+cD (s.data.toList.drop k) dS⟩]) ad ad with ⟨ts,hc,d⟩ | ⟨a,e,d⟩
   ·refine .inl ⟨_,.tok k kind n m ts hk c hc,?_⟩;rw [AM hst,d,ay9,List.singleton_append]
   ·exact .inr ⟨a,e,by rw [AM hst,d]⟩
def IH {ts:List Tok} (h:vX O H ts):∀ (f:Nat) (a:List Tok),O.size-H<f->zT O f H a=(a++ts,0,0):=by
 induction h with
 | stop H hk b =>
  intro f a d;obtain ⟨f,rfl⟩:∃ c,f=c+1:=⟨f-1,ad⟩
  have hst:=qh hk;rw [b] at hst;rw [C9 hst,bz9]
 | tok H kind n m ts hk b hc e =>
  intro f a d;obtain ⟨f,rfl⟩:∃ c,f=c+1:=⟨f-1,ad⟩
  have hst:=qh hk;rw [b] at hst;obtain ⟨h1,h2⟩:=Bk b;have ha:=B0 hk;have g:O.data.toList.length=O.size:=aj
  rw [bw9] at h2;rw [AM hst,e f _ ad,ay9,List.singleton_append]
def Wk (s:Xaa):(vX s 0 (FF s).1/\(FF s).2=(0,0))\/(∃ a,a<s.size/\FF s=([],a,20)):=by
 rcases BK (s:=s) (s.size+1) 0 [] ad ad with ⟨ts,hc,b⟩ | ⟨a,c,b⟩
 ·refine .inl ?_;unfold FF;rw [b];exact ⟨hc,rfl⟩
 ·exact .inr ⟨a,c,b⟩
def IC {ts:List Tok} (h:vX O 0 ts):FF O=(ts,0,0):=by
 unfold FF;rw [IH h _ _ ad]; rfl
def AG {t:Xaa} (h:O.data.toList=t.data.toList):O=t:=by
 cases O; cases t;simp only at h
 congr 1
 exact cb9.1 h
def re {set:List UInt8} (h:cD U set=U.length):cD (U++l) set=U.length+cD l set:=by
 unfold cD at h ⊢
 induction U with
 | nil=>simp
 | cons d U b =>
  simp only [List.cons_append,List.takeWhile_cons] at h ⊢;cases a:set.contains d with
  | false=>rw [a] at h; simp at h
  | true =>
   rw [a] at h;simp only [if_true,List.length_cons] at h ⊢;rw [b ad];omega
def Is (h:mE U=.tok H Z b):cD U dS=0:=by
 refine fZ.2 fun c r a=>?_
 subst a;cases d:dS.contains c with
 | false=>rfl
 | true =>
  exfalso;have hall:=iS (fun c=>!dS.contains c || (!decide (c=59) && !dI c && !dL c && !decide (c=39) && !BD.contains c)) (fun _=>true) (by decide +kernel) c;simp only [d,Bool.not_true,Bool.false_or,Bool.and_eq_true,Bool.not_eq_true',decide_eq_false_iff_not] at hall;obtain ⟨⟨⟨⟨h1,h2⟩,e⟩,f⟩,g⟩:=hall;unfold mE at h;simp only [List.getD_cons_zero] at h;rw [ac9 aj,ac9 h1,ac9 (by rw [h2]; simp),ac9 (by rw [e]; simp),ac9 f,ac9 (by rw [g]; simp)] at h;cases h
def Nq (t:Tok) (c:UInt8):Bool:=t.kind==3 && t.text.data.toList==[c]
def add_add (a:Xax) (i j:Nat):(a.add i).add j=a.add (i+j):=by
 unfold Addr.add
 by_cases hi:i=0 <;> by_cases b:j=0 <;> simp [hi,b] <;> omega
abbrev kg:=Except Nat (bM × List Tok)
def ZA (b:Bool) (x:bM):bM:=if b=true then vL x 4294967295 else x
def vj:bM:=⟨[],0⟩
def VJ (o:Option (List Tok->kg)) (ts:List Tok):kg :=
 match ts with
 | []=>.error 20
 | t::r =>
  if t.kind=1 then if (ry t.text.data.toList).2.2=true then .error 20 else .ok (⟨[(t.text,1)],0⟩,r)
  else if t.kind=2 then .ok (⟨[],t.num⟩,r)
  else if Nq t 40=true then match o with
   | none=>.error 21
   | some f=>match f r with
    | .error e=>.error e
    | .ok (x,b)=>match b with
     | []=>.error 20
     | c::a=>if Nq c 41=true then .ok (x,a) else .error 20
  else .error 20
def S7 (o:Option (List Tok->kg)) (b:Bool) (ts:List Tok):kg :=
 match VJ o ts with
 | .error e=>.error e
 | .ok (x,r)=>.ok (ZA b x,r)
def T' (o:Option (List Tok->kg)):Bool->List Tok->kg
 | b,[]=>S7 o b []
 | b,t::r=>if Nq t 45=true then T' o (!b) r else S7 o b (t::r)
def tZ (o:Option (List Tok->kg)) (ts:List Tok):kg:=T' o false ts
def oP (a:List Tok->kg):Nat->bM->List Tok->kg
 | 0,x,r=>.ok (x,r)
 | n+1,x,r=>match r with
  | []=>.ok (x,[])
  | t::c=>if Nq t 42=true then match a c with
    | .error e=>.error e
    | .ok (y,b)=>if x.ah≠[]/\y.ah≠[] then .error 21 else if y.ah≠[] then oP a n (vL y x.num) b else oP a n (vL x y.num) b
   else .ok (x,t::c)
def mQ (a:List Tok->kg) (ts:List Tok):kg :=
 match a ts with
 | .error e=>.error e
 | .ok (x,r)=>oP a r.length x r
def MS (part:List Tok->kg):Nat->bM->List Tok->kg
 | 0,x,r=>.ok (x,r)
 | n+1,x,r=>match r with
  | []=>.ok (x,[])
  | t::b=>if Nq t 43=true then match part b with
    | .error e=>.error e
    | .ok (y,a)=>MS part n (j3 x y) a
   else if Nq t 45=true then match part b with
    | .error e=>.error e
    | .ok (y,a)=>MS part n (j3 x (vL y 4294967295)) a
   else .ok (x,t::b)
def LA (part:List Tok->kg) (ts:List Tok):kg :=
 match part ts with
 | .error e=>.error e
 | .ok (x,r)=>MS part r.length x r
def Ux:Nat->List Tok->kg
 | 0=>LA (mQ (tZ none))
 | k+1=>LA (mQ (tZ (some (Ux k))))
def V9:Nat->Option (List Tok->kg)
 | 0=>none
 | k+1=>some (Ux k)
def Sf (k:Nat):Ux k=LA (mQ (tZ (V9 k))):=by cases k <;> rfl
def P0 (ts:List Tok):Except Nat bM :=
 match Ux 32 ts with
 | .error e=>.error e
 | .ok (x,r)=>if r=[] then .ok x else .error 20
structure Good (x:bM):Prop where
 nf:Nf x.ah
 Ku:∀ t,t∈x.ah->cE t.1.data.toList=true
 num:x.num<4294967296
def BC (h:cE O.data.toList=true):O.size<=32:=by
 unfold cE at h;simp only [Bool.and_eq_true,decide_eq_true_eq] at h
 have:O.data.toList.length=O.size:=aj
 omega
abbrev ptr (a:Nat):Xab:=.pointer (some ⟨a,0,none⟩)
def Vk (e:Nat) (ts:List Tok) (c:UInt8):Bool:=decide (e=0) && match ts with
 | []=>false
 | t::_=>Nq t c
def uT {a:List Tok->kg} {x:bM} {ts:List Tok} (h:Vk 0 ts 42=false):oP a H x ts=.ok (x,ts):=by
 cases H with
 | zero=>rfl
 | succ H =>
  cases ts with
  | nil=>rfl
  | cons t r =>
   have h:Nq t 42=false:=h;unfold oP;simp only;rw [ac9 (by rw [h]; simp)]
section any
variable {P:Program} {h:Hp}
def xM (a:Xax) (l:List UInt8) (cap:Nat) (K:Xab->Hp->Prop) (hc:aH h a 0 (l.map BL)) (hk:K (.string ⟨l.toArray⟩) h):aS P (Conv.bytesToString (.slice (some a) l.length cap)) h K:=by
 unfold Conv.bytesToString;simp only;rw [av];refine dJ aj hc _ ?_;rw [av,<- Array.forIn_toList]
 have b:∀ (l:List UInt8) (s:Xaa) (K':Xaa->Hp->Prop),K' ⟨s.data++l.toArray⟩ h->aS P (forIn (l.map BL) s fun c r=>match c with
   | .int .u8 n=>(pure (ForInStep.yield (r.push (UInt8.ofNat n.toNat))):Sem (ForInStep Xaa))
   | _ => stuck "bytesToString: byte expected") h K' := by
  intro l
  induction l with
  | nil =>
   intro s K' hk;have e:(⟨s.data++([]:List UInt8).toArray⟩:Xaa)=s:=aj
   rw [e] at hk;exact hk
  | cons c l d =>
   intro s K' hk;rw [bq9,List.forIn_cons];rw [av];show aS P (forIn (List.map BL l) (s.push (UInt8.ofNat ((c.toNat:Nat):Int).toNat)) _) h K';have f:UInt8.ofNat ((c.toNat:Nat):Int).toNat=c:=aj
   rw [f];refine d (s.push c) K' ?_
   have:(⟨(s.push c).data++l.toArray⟩:Xaa)=⟨s.data++(c::l).toArray⟩:=by
    congr 1
    apply cb9.1
    simp
   rw [this]; exact hk
 refine b l ByteArray.empty _ ?_;have e:(⟨ByteArray.empty.data++l.toArray⟩:Xaa)=⟨l.toArray⟩:=by
  congr 1
  apply cb9.1
  simp
 rw [e];exact hk
def zH {t e:TypeId} {n:Nat} {i:TypeInfo} (ht:P.underlying t=some (.array n e)) (hi:P.info? e=some i) (a:Xax) {k:IntKind} {m:Int} (h0:0<=m) (h1:m<=n) (K:Xab->Hp->Prop) (hk:K (.slice (some a) m.toNat n) h) :
  aS P (Instr.sliceAt t (.pointer (some a)) none (some (.int k m)) none) h K:=by
 unfold Instr.sliceAt;rw [av,aC ht];show aS P (Instr.sliceBounds false n n none (some (.int k m)) none >>= fun x=>(do let size <- sizeOf e; pure (.slice (some (if x.2.2=x.1 then a else a.add (x.1*size))) (x.2.1-x.1) (x.2.2-x.1)):Sem Xab)) h K;rw [av,jP (lo:=none) (hi:=some (.int k m)) false n n rfl rfl (Int.le_refl _) h0 h1];rw [av,cd hi];show K (.slice (some (if n=0 then a else a.add (0*P.cellsOf e))) (m.toNat-0) (n-0)) h;have b:(if n=0 then a else a.add (0*P.cellsOf e))=a:=by simp [Addr.add]
 rw [b];exact hk
end any
def eM (h:Hp):Prop:=∃ e f,h[1]?=some (.cells (Lib.pow10Tab.map fun z=>Value.int .u64 z).toArray e f)
def eM.an {ws:List Nat} {h':Hp} (p:eM Y) (k:Ch ws Y h') (a:∀ i,i∈ws->1<i):eM h':=by
 obtain ⟨e,f,b⟩:=p;exact ⟨e,f,k.get b (fun c=>by have:=a _ c; omega)⟩
def eM.lt (p:eM Y):1<Y.size:=by
 obtain ⟨e,f,a⟩:=p;exact eV a
def JS {name:String} (a:Tryz.prog.globalNamed name=some 1) (p:eM j.heap):Lib.TabIs Xaz j name .u64 Lib.pow10Tab:=by
 obtain ⟨e,f,b⟩:=p;unfold Lib.TabIs World.var?;rw [a];show (match j.heap[1]? with | some (.cells cs _ _)=>some cs | _=>none)=_;rw [b]
def tL (p:eM Y) (u:Nat) (h1:1<=u) (h2:u<18446744073709551616):uu Xaz 119 [.int .u64 u] Y (vI (Lib.nDigits u)):=by
 intro W a;refine ((Any.internal_strconv_numDigits Tryz.PL u h1 h2 W (JS ax (by rw [a]; exact p))).mono ?_);rintro e w' ⟨c,b⟩;exact ⟨_,c,by rw [b]; exact dM.refl W,rfl,by rw [b]; exact a⟩
def Ov (i:Nat) (hi:i<100) (h:Hp):uu Xaz 118 [vI i] h (.string ⟨(Lib.decDigits i).toArray⟩) :=
 MK fun w=>Tryz.internal_strconv_small i hi w
def LH {xs:List Xab} (b:bC Y H d xs) (u cap n:Nat) (hn:n<=xs.length) (p:∀ j,j<n->xs[j]?=some (.int .u8 0)) (q:u<10^n) (h2:u<18446744073709551616) (f:n<4611686018427387904) :
  HC Xaz 120 #[.slice (some ⟨H,0,none⟩) n cap,.int .u64 u] Y fun v h'=>v=.tuple #[]/\Ch [H] Y h'/\h'.size=Y.size/\∃ (v':Nat) (a:Array UInt8),Lib.FmtInv n u 0 v' a/\∀ j,j<n->ig h' ⟨H,j,none⟩=some (BL a[j]!):=by
 intro W r;subst r;have o:Sort.Holds (fun (b:UInt8)=>Value.int .u8 (b.toNat:Int)) W H 0 (Array.replicate n (0:UInt8)):=by
  intro j c;have l:j<n:=by simpa using c
  refine ⟨?_,?_⟩
  ·rw [DL,b.cell,bu9,p j l,getElem!_pos _ j c]
   simp
  ·exact b.frozen
 have hc:=Tryz.internal_strconv_formatBase10 H 0 cap u (Array.replicate n 0) W o (by rw [fk9]; exact q) h2 (by rw [fk9]; exact f);rw [fk9] at hc;refine hc.mono ?_;rintro t w' ⟨rfl,k,v',a,rfl,m⟩;refine ⟨_,rfl,⟨rfl,rfl,rfl⟩,rfl,⟨?_,?_⟩,?_,v',a,m,?_⟩
 ·show W.heap.size<=(W.heap.modify H _).size
  simp
 ·intro i hi s;show (W.heap.modify H _)[i]?=_;rw [Array.getElem?_modify,ac9 (by simp at s; omega)]
 ·show (W.heap.modify H _).size=W.heap.size
  simp
 ·intro j c
  have:=Sort.cell?_putRow (fun (b:UInt8)=>Value.int .u8 (b.toNat:Int)) W H 0 _ a o (by rw [m.size,fk9]) j (by rw [m.size]; exact c)
  rw [bu9] at this;exact this
def PZ:Tryz.prog.underlying 234=some (.array 24 5):=ax
def Ws:Tryz.prog.underlying 204=some (.slice 5):=ax
def ZS:Tryz.prog.underlying 5=some (.int .u8):=ax
def YG:(Tryz.prog.info? 5).isSome=true:=ax
def eO (n:Nat):Xaa:=⟨(Lib.decDigits n).toArray⟩
def hQ (t:Xaa × Nat):Xaa:=if t.2=1 then t.1 else (eO t.2++⟨#[42]⟩)++t.1
def mU (x:bM):List Xaa:=if x.num≠0\/x.ah=[] then [eO x.num] else []
def fG (x:bM):Xaa:=⟨(Lib.join ((x.ah.map hQ++mU x).map (·.data.toList)) [43]).toArray⟩
def AF {n:Nat} (h:n<4294967296):(eO n).size<=20:=by
 have e:(eO n).size=Lib.nDigits n:=by
  show (Lib.decDigits n).toArray.size=_;rw [List.size_toArray,Lib.decDigits_length]
 rw [e]
 by_cases h0:n=0
 ·subst h0; rw [Lib.nDigits_small ad]; omega
 ·have:=Lib.numDigits_eq n ad ad
  split at this <;> omega
def mi (a b:Xaa):(a++b).size=a.size+b.size:=aj
def IK (h:a.1.size<=32) (k:a.2<4294967296):(hQ a).size<=53:=by
 unfold hQ;split
 ·omega
 ·have:=AF k
  rw [mi,mi]
  have:(⟨#[42]⟩:Xaa).size=1:=rfl
  omega
theorem join_length:∀ (xs:List (List UInt8)) (m:Nat),(∀ x,x∈xs->x.length<=m)->(Lib.join xs [43]).length<=xs.length*(m+1)
 | [],m,_=>by rw [Lib.join_nil]; simp
 | [x],m,h=>by rw [Lib.join_one]; have:=h x aj; simp; omega
 | x::y::r,m,h=>by
  have ih:=join_length (y::r) m (fun z a=>h z (ap9 _ a));have hx:=h x aj;have e:Lib.join (x::y::r) [43]=x++[43]++Lib.join (y::r) [43]:=by
   unfold Lib.join;simp [List.intercalate,List.intersperse]
  rw [e,af9,af9];simp only [List.length_cons,List.length_nil] at ih ⊢;rw [Nat.succ_mul (r.length+1)];omega
def O3:Tryz.prog.underlying 68=some (.slice 9):=ax
def NC:(Tryz.prog.info? 9).map (fun i=>(i.zero,i.size,i.bytes))=some (some (.string ⟨#[]⟩),1,16):=ax
def gX (f:Xaa->Nat):dt->Nat
 | []=>0
 | p::l=>p.2*f p.1+gX f l
def ft (f:Xaa->Nat) (p:Xaa × Nat) (l:dt):gX f (p::l)=p.2*f p.1+gX f l:=rfl
def P3 (a b:Nat):a % 4294967296*b % 4294967296=a*b % 4294967296:=by rw [fl9,fw9,<- fl9]
structure Wd where
 w:List UInt8
 k:Nat
 n:Nat
def cat:List Wd->List UInt8
 | []=>[]
 | x::r=>x.w++cat r
def Bc (a b:List Wd):cat (a++b)=cat a++cat b:=by
 induction a with
 | nil=>rfl
 | cons x a c=>simp only [List.cons_append,cat,c,List.append_assoc]
def gf:Nat->List Wd->List Tok
 | _,[]=>[]
 | k,x::r=>⟨x.k,⟨x.w.toArray⟩,x.n,k⟩::gf (k+x.w.length) r
def uh (a b:List Wd):∀ k,gf k (a++b)=gf k a++gf (k+(cat a).length) b:=by
 induction a with
 | nil=>intro k; rfl
 | cons x a c =>
  intro k;simp only [List.cons_append,gf,cat,c,List.length_append];rw [Nat.add_assoc]
def Cz (a:List Wd):∀ k,(gf k a).length=a.length:=by
 induction a with
 | nil=>intro k; rfl
 | cons x a b=>intro k; simp only [gf,List.length_cons,b]
def Ba:List Wd->Prop
 | []=>True
 | x::r=>mE (x.w++cat r)=.tok x.k x.w.length x.n/\Ba r
theorem zD {s:Xaa}:∀ (ws:List Wd) (k:Nat),Ba ws->k<=s.size->s.data.toList.drop k=cat ws->vX s k (gf k ws)
 | [],k,_,hk,a=>by
  refine .stop k hk ?_;rw [<- fi9,a] <;> rfl
 | x::r,k,h,hk,a=>by
  obtain ⟨h1,h2⟩:=h;have d:s.data.toList.length=s.size:=aj
  have b:cD (s.data.toList.drop k) dS=0:=by rw [a]; exact Is h1
  have a:s.data.toList.drop k=x.w++cat r:=a;have hlen:=as9 List.length a;rw [bw9,af9] at hlen;have c:s.data.toList.drop (k+x.w.length)=cat r:=by
   rw [<- fi9,a,ed9]
  have hpos:=(Bk h1).1;have hc:=zD (s:=s) r (k+x.w.length) h2 ad c
  have:=vX.tok k x.k x.w.length x.n (gf (k+x.w.length) r) hk (by rw [b,ek9,a]; exact h1) (by rw [b,ek9]; exact hc)
  rw [b,ek9] at this;have e:s.extract k (k+x.w.length)=⟨x.w.toArray⟩:=by
   refine Go.Sx.AG ?_;rw [RT,show k+x.w.length-k=x.w.length from ad,a,el9]
  rw [e] at this;exact this
def OP (c:UInt8):cL.contains c=(dI c || dL c):=BE c
def Ut (c:UInt8) (h:dL c=true):dI c=false:=by
 have:=iS (fun c=>dI c && dL c) (fun _=>false) (by decide +kernel) c
 simp only [h,Bool.and_true] at this;exact this
def Ge (c:UInt8) (h:cL.contains c=true):c≠59:=by rintro rfl; revert h; decide
def oY (a b:List UInt8) (h:a≠[]):(a++b).getD 0 0=a.getD 0 0:=by
 cases a with
 | nil=>exact absurd rfl h
 | cons c a=>rfl
def CT (h:cE U=true) (e:cD l cL=0):mE (U++l)=.tok 1 U.length 0:=by
 unfold cE at h;simp only [Bool.and_eq_true,decide_eq_true_eq] at h;obtain ⟨⟨⟨⟨h1,h2⟩,d⟩,f⟩,_⟩:=h;have a:U≠[]:=fun g=>by rw [g] at h1; simp at h1
 have b:cD U cL=U.length:=Ay.2 (by simpa only [OP] using f);have c:cD (U++l) cL=U.length:=by rw [re b,e]; rfl
 unfold mE;rw [ac9 (by simp [a]),oY _ _ a,ac9,ag9 d,c,ac9 ad];exact Ge _ (by rw [OP,d]; rfl)
def zh (l:List UInt8) (c:UInt8):wW 10 (l++[c])=wW 10 l*10+dv c:=by
 unfold wW;rw [ch9] <;> rfl
def DU {u:Nat} (h:u<10):dL (UInt8.ofNat (48+u))=true/\dv (UInt8.ofNat (48+u))=u/\(UInt8.ofNat (48+u)=48->u=0):=by
 have:∀ u,u<10->(dL (UInt8.ofNat (48+u))=true/\dv (UInt8.ofNat (48+u))=u/\(UInt8.ofNat (48+u)=48->u=0)):=bT
 exact this u h
def CN (n:Nat):(∀ c,c∈Lib.decDigits n->dL c=true)/\wW 10 (Lib.decDigits n)=n/\Lib.decDigits n≠[]/\((Lib.decDigits n).getD 0 0=48->n=0)/\(n=0->(Lib.decDigits n).length=1):=by
 induction n using Nat.strongRecOn with
 | ind n j =>
  rw [Lib.decDigits]
  by_cases f:n<10
  ·rw [dif_pos f];obtain ⟨a,b,c⟩:=DU f;refine ⟨?_,?_,aj,?_,fun _=>rfl⟩
   ·intro d i;rw [ai9] at i;subst i;exact a
   ·show wW 10 ([]++[_])=n;rw [zh,b];show 0*10+n=n;omega
   ·exact c
  ·rw [dif_neg f];obtain ⟨a,b,c,d,e⟩:=j (n / 10) ad;obtain ⟨a',b',_⟩:=DU (u:=n % 10) ad;refine ⟨?_,?_,aj,?_,fun h=>ad⟩
   ·intro x g;rcases ar9.1 g with g | g
    ·exact a x g
    ·rw [ai9] at g;subst g;exact a'
   ·rw [zh,b,b'];omega
   ·rw [oY _ _ c];intro h0
    have:=d h0
    omega
def GN {n:Nat} {E:List UInt8} (hn:n<4294967296) (j:cD E cL=0):mE (Lib.decDigits n++E)=.tok 2 (Lib.decDigits n).length n:=by
 obtain ⟨h1,h2,a,o,p⟩:=CN n;have b:cD (Lib.decDigits n) cO=(Lib.decDigits n).length:=Ay.2 (bn9.2 fun c hc=>by rw [L8]; exact h1 c hc);have d:cD (Lib.decDigits n++E) cO=(Lib.decDigits n).length:=by rw [re b,wx j]; rfl
 have k:dL ((Lib.decDigits n).getD 0 0)=true:=by
  cases hl:Lib.decDigits n with
  | nil=>exact absurd hl a
  | cons c r=>exact h1 c (by rw [hl]; exact cw9 ..)
 have q:0<(Lib.decDigits n).length:=List.length_pos_iff.2 a;have m:(Lib.decDigits n++E).take 2≠[48,120]:=by
  intro h;have h0:(Lib.decDigits n).getD 0 0=48:=by
   rw [<- oY _ E a]
   have:=as9 (fun l=>l.getD 0 0) h
   simpa using this
  have hn0:=o h0;have hl1:=p hn0;have f:(Lib.decDigits n++E).getD 1 0=120:=by
   have:=as9 (fun l=>l.getD 1 0) h
   simpa using this
  match s:Lib.decDigits n,hl1 with
  | [c],_ =>
   rw [s] at f h;cases E with
   | nil=>simp at h
   | cons e E =>
    have t:e=120:=by simpa using f
    subst t
    have:=fZ.1 j 120 E rfl
    revert this;decide
 have g:gF (Lib.decDigits n++E)=((Lib.decDigits n).length,n):=by
  unfold gF;rw [ac9 m,d,el9,h2,ac9];rintro (⟨u,i⟩ | i | i)
  ·rw [oY _ _ a] at i
   have:=p (o i)
   omega
  ·omega
  ·omega
 unfold mE;rw [ac9 (by simp [a]),oY _ _ a,ac9 (Ge _ (by rw [OP,k,Bool.or_true])),ac9 (by rw [Ut _ k]; simp),ag9 k,g,ed9,j,ac9];simp only [Nat.lt_irrefl,or_false];omega
def Dz {c:UInt8} (hc:c=43\/c=42) (E:List UInt8):mE (c::E)=.tok 3 1 0:=by
 have a:(c::E).getD 0 0=c:=rfl;unfold mE;rw [a];rcases hc with rfl | rfl
 ·rw [ac9 aj,ac9 bT,ac9 bT,ac9 bT,ac9 bT,ag9 bT]
 ·rw [ac9 aj,ac9 bT,ac9 bT,ac9 bT,ac9 bT,ag9 bT]
def K1:Wd:=⟨[43],3,0⟩
def NW:Wd:=⟨[42],3,0⟩
def HT (s:Xaa):Wd:=⟨s.data.toList,1,0⟩
def Ey (n:Nat):Wd:=⟨Lib.decDigits n,2,n⟩
def qN (t:Xaa × Nat):List Wd:=if t.2=1 then [HT t.1] else [Ey t.2,NW,HT t.1]
def Jk (t:Xaa × Nat):cat (qN t)=(hQ t).data.toList:=by
 unfold qN hQ;split
 ·simp [cat,HT]
 ·simp [cat,HT,Ey,NW,eO]
structure It where
 ws:List Wd
 x:bM
def iN (l:dt):List It:=l.map fun t=>⟨qN t,⟨[t],0⟩⟩
def jm (x:bM):List It:=if x.num≠0\/x.ah=[] then [⟨[Ey x.num],⟨[],x.num⟩⟩] else []
def gZ (l:List It):List Wd:=l.flatMap fun i=>K1::i.ws
def E6:List It->List Wd
 | []=>[]
 | i::r=>i.ws++gZ r
theorem F4:∀ (i:It) (l:List It),cat i.ws++cat (gZ l)=Lib.join ((i::l).map fun i=>cat i.ws) [43]
 | i,[]=>by
  rw [bq9,List.map_nil,Lib.join_one];simp [gZ,cat]
 | i,j::l=>by
  have ih:=F4 j l;have e:Lib.join ((i::j::l).map fun i=>cat i.ws) [43]=cat i.ws++[43]++Lib.join ((j::l).map fun i=>cat i.ws) [43]:=by
   unfold Lib.join;simp [List.intercalate,List.intersperse]
  rw [e,<- ih];have a:gZ (j::l)=K1::(j.ws++gZ l):=by simp [gZ]
  rw [a];show cat i.ws++([43]++cat (j.ws++gZ l))=_;rw [Bc];simp only [List.append_assoc]
def Uc (x:bM):cat (E6 (iN x.ah++jm x))=(fG x).data.toList:=by
 have h1:(iN x.ah++jm x).map (fun i=>cat i.ws)=(x.ah.map hQ++mU x).map (·.data.toList):=by
  rw [ao9,ao9]
  congr 1
  ·unfold iN;rw [bf9,bf9];refine ck9 fun t _=>?_
   exact Jk t
  ·unfold jm mU;split
   ·simp [cat,Ey,eO]
   ·rfl
 unfold fG;rw [<- h1];cases hl:iN x.ah++jm x with
 | nil=>rfl
 | cons i l =>
  show cat (i.ws++gZ l)=_;rw [Bc,F4]
def BQ (i:It):Prop:=∀ r:List Wd,cD (cat r) cL=0->Ba r->Ba (i.ws++r)
def NN (h:cE a.1.data.toList=true) (h2:a.2<4294967296):BQ ⟨qN a,⟨[a],0⟩⟩:=by
 intro r b d;show Ba (qN a++r);unfold qN;split
 ·exact ⟨CT h b,d⟩
 ·refine ⟨GN h2 (E:=cat ([NW,HT a.1]++r)) ?_,Dz (.inr rfl) _,CT h b,d⟩;exact fZ.2 (by rintro c e ⟨⟩; decide)
def PF (h:H<4294967296) (x:bM):BQ ⟨[Ey H],x⟩:=fun r a b=>⟨GN h a,b⟩
def Cj (l:List It):cD (cat (gZ l)) cL=0:=by
 cases l with
 | nil=>rfl
 | cons i l=>exact fZ.2 (by rintro c e ⟨⟩; decide)
theorem AL:∀ l:List It,(∀ i,i∈l->BQ i)->Ba (gZ l)
 | [],_=>trivial
 | i::l,h=>by
  have ih:=AL l fun j a=>h j (ap9 _ a)
  have b:gZ (i::l)=K1::(i.ws++gZ l):=by simp [gZ]
  rw [b];exact ⟨Dz (.inl rfl) _,h i (cw9 ..) _ (Cj l) ih⟩
def Mc (l:List It) (h:∀ i,i∈l->BQ i):Ba (E6 l):=by
 cases l with
 | nil=>trivial
 | cons i l=>exact h i (cw9 ..) _ (Cj l) (AL l fun j a=>h j (ap9 _ a))
def Iz (r:List Tok):Prop:=Vk 0 r 42=false
def GQ (o:Option (List Tok->kg)) (hk:i.kind=2) (r:List Tok):tZ o (i::r)=.ok (⟨[],i.num⟩,r):=by
 have h1:Nq i 45=false:=by unfold Nq; rw [hk]; rfl
 unfold tZ T';rw [ac9 (by rw [h1]; simp)];unfold S7 VJ;simp only [hk] <;> rfl
def CX (o:Option (List Tok->kg)) (hk:i.kind=1) (a:(ry i.text.data.toList).2.2=false) (r:List Tok):tZ o (i::r)=.ok (⟨[(i.text,1)],0⟩,r):=by
 have h1:Nq i 45=false:=by unfold Nq; rw [hk]; rfl
 unfold tZ T';rw [ac9 (by rw [h1]; simp)];unfold S7 VJ;simp only [hk,a] <;> rfl
def Mi (h:cE U=true):(ry U).2.2=false:=by
 unfold cE at h;simp only [Bool.and_eq_true] at h;simpa using h.2
def BZ (o:Option (List Tok->kg)) (i:It):Prop:=∀ (k:Nat) (r:List Tok),Iz r->mQ (tZ o) (gf k i.ws++r)=.ok (i.x,r)
def IP (o:Option (List Tok->kg)) (n:Nat):BZ o ⟨[Ey n],⟨[],n⟩⟩:=by
 intro k r a;show mQ (tZ o) (⟨2,_,n,k⟩::r)=_;unfold mQ;rw [GQ o rfl];simp only;exact uT a
def Jc (o:Option (List Tok->kg)) (h:cE a.1.data.toList=true) (h0:a.2≠0) (h2:a.2<4294967296):BZ o ⟨qN a,⟨[a],0⟩⟩:=by
 intro k r b;show mQ (tZ o) (gf k (qN a)++r)=_;have hreg:=Mi h;unfold qN;split
 ·rename_i h1;show mQ (tZ o) (⟨1,⟨a.1.data.toList.toArray⟩,0,k⟩::r)=_;unfold mQ;rw [CX o rfl (by simpa using hreg)];simp only;rw [uT b];have e:a=(⟨a.1.data.toList.toArray⟩,1):=by rw [<- h1]
  rw [<- e]
 ·show mQ (tZ o) (⟨2,_,a.2,k⟩::⟨3,⟨#[42]⟩,0,k+(Ey a.2).w.length⟩::⟨1,⟨a.1.data.toList.toArray⟩,0,k+(Ey a.2).w.length+1⟩::r)=_;unfold mQ;rw [GQ o rfl];simp only [List.length_cons];unfold oP;simp only;rw [ag9 (by rfl),CX o rfl (by simpa using hreg)];simp only;rw [ac9 aj,ag9 aj,uT b];have c:a.2 % 4294967296=a.2:=dx9 h2;unfold vL fv;simp only [List.filterMap_cons,Nat.one_mul,c,if_neg h0,List.filterMap_nil,Nat.zero_mul]
theorem Gd (o:Option (List Tok->kg)):∀ (l:List It),(∀ i,i∈l->BZ o i)->∀ (n k:Nat) (x:bM),l.length<=n->MS (mQ (tZ o)) n x (gf k (gZ l))=.ok (l.foldl (fun a i=>j3 a i.x) x,[])
 | [],_,n,k,x,_=>by cases n <;> rfl
 | i::l,h,n,k,x,hn=>by
  simp only [List.length_cons] at hn;obtain ⟨n,rfl⟩:∃ m,n=m+1:=⟨n-1,ad⟩
  have c:gZ (i::l)=K1::(i.ws++gZ l):=by simp [gZ]
  rw [c];have b:Iz (gf (k+1+(cat i.ws).length) (gZ l)):=by
   cases l with
   | nil=>rfl
   | cons j l=>rfl
  have hp:=h i (cw9 ..) (k+1) _ b;show MS (mQ (tZ o)) (n+1) x (⟨3,⟨#[43]⟩,0,k⟩::gf (k+1) (i.ws++gZ l))=_;rw [uh];unfold MS;simp only;rw [ag9 (by rfl),hp];simp only;rw [Gd o l (fun j d=>h j (ap9 _ d)) n _ _ ad] <;> rfl
def Tv (o:Option (List Tok->kg)) {i:It} {l:List It} (h:∀ j,j∈i::l->BZ o j) (k:Nat):LA (mQ (tZ o)) (gf k (E6 (i::l)))=.ok (l.foldl (fun a i=>j3 a i.x) i.x,[]):=by
 have b:Iz (gf (k+(cat i.ws).length) (gZ l)):=by
  cases l with
  | nil=>rfl
  | cons j l=>rfl
 show LA (mQ (tZ o)) (gf k (i.ws++gZ l))=_;rw [uh];unfold LA;rw [h i (cw9 ..) k _ b];simp only;refine Gd o l (fun j c=>h j (ap9 _ c)) _ _ _ ?_;rw [Cz];unfold gZ;clear h b
 induction l with
 | nil=>simp
 | cons j l d =>
  simp only [List.flatMap_cons,List.length_append,List.length_cons];omega
def Mj {l:dt} (h:Nf (l++[a])):GH l [a]=l++[a]:=by
 have hl:Nf l:=⟨(List.pairwise_append.1 h.1).1,fun p b=>h.2 p (bh9 _ b)⟩
 have ht:Nf [a]:=⟨List.pairwise_singleton _ _,fun p b=>h.2 p (br9 _ b)⟩
 refine Nf.MH (Fj hl ht) h fun s=>?_
 rw [Ff,Dc]
def Q2 {l:dt} (h:Nf l):GH l []=l:=Nf.MH (Fj h Nf.nil) h fun s=>by rw [Ff]; simp [cf]
theorem AH:∀ (r a:dt),Nf (a++r)->(iN r).foldl (fun a i=>j3 a i.x) ⟨a,0⟩=⟨a++r,0⟩
 | [],a,_=>by simp [iN]
 | t::r,a,h=>by
  have h':Nf ((a++[t])++r):=by simpa using h
  have h1:Nf (a++[t]):=⟨(List.pairwise_append.1 h'.1).1,fun p b=>h'.2 p (bh9 _ b)⟩
  have ih:=AH r (a++[t]) h';show (iN r).foldl (fun a i=>j3 a i.x) (j3 ⟨a,0⟩ ⟨[t],0⟩)=_;have e:j3 ⟨a,0⟩ ⟨[t],0⟩=⟨a++[t],0⟩:=by
   unfold j3;rw [Mj h1] <;> rfl
  rw [e,ih]
  simp
def OV {x:bM} (c:Good x) (i:It) (l:List It) (h:iN x.ah++jm x=i::l):l.foldl (fun a i=>j3 a i.x) i.x=x:=by
 have hn:=c.num;cases ht:x.ah with
 | nil =>
  rw [ht] at h;have d:jm x=[⟨[Ey x.num],⟨[],x.num⟩⟩]:=by unfold jm; rw [ag9 (.inr ht)]
  rw [d] at h;simp only [iN,List.map_nil,List.nil_append,List.cons.injEq] at h;obtain ⟨rfl,rfl⟩:=h;cases x;simp only at ht;subst ht;rfl
 | cons t r =>
  rw [ht] at h;simp only [iN,List.map_cons,List.cons_append,List.cons.injEq] at h;obtain ⟨rfl,rfl⟩:=h;have b:Nf ([t]++r):=by rw [List.singleton_append,<- ht]; exact c.nf
  rw [ch9];have h1:=AH r [t] b;show (jm x).foldl (fun a i=>j3 a i.x) ((iN r).foldl (fun a i=>j3 a i.x) ⟨[t],0⟩)=x;rw [h1];unfold jm;cases x with
  | mk ah num =>
   simp only at ht hn b ⊢;subst ht;split
   ·show j3 ⟨t::r,0⟩ ⟨[],num⟩=_;unfold j3;rw [Q2 c.nf,bu9,dx9 hn]
   ·rename_i h0
    have:num=0:=by
     rcases Nat.eq_zero_or_pos num with h | h
     ·exact h
     ·exact absurd (.inl ad) h0
    subst this;rfl
def CV {x:bM} (b:Good x):(FF (fG x)).2=(0,0)/\P0 (FF (fG x)).1=.ok x:=by
 have a:∀ i,i∈iN x.ah++jm x->BQ i/\BZ (V9 32) i:=by
  intro i hi;rcases ar9.1 hi with hi | hi
  ·obtain ⟨t,ht,rfl⟩:=an9.1 hi;have h1:=b.Ku t ht;have h2:=b.nf.2 t ht;exact ⟨NN h1 h2.2,Jc _ h1 h2.1 h2.2⟩
  ·unfold jm at hi;split at hi
   ·rw [ai9] at hi;subst hi;exact ⟨PF b.num _,IP _ _⟩
   ·cases hi
 have c:FF (fG x)=(gf 0 (E6 (iN x.ah++jm x)),0,0) :=
  IC (zD _ 0 (Mc _ fun i hi=>(a i hi).1) (em9 _) (by rw [Uc]; rfl))
 rw [c];refine ⟨rfl,?_⟩;cases hl:iN x.ah++jm x with
 | nil =>
  exfalso;unfold jm at hl;split at hl
  ·simp at hl
  ·rename_i h0
   have:x.ah=[]:=by simpa [iN] using hl
   exact h0 (.inr this)
 | cons i l =>
  unfold P0;rw [Sf,Tv (V9 32) (fun j d=>(a j (by rw [hl]; exact d)).2),OV b i l hl] <;> rfl
end Go.Sx
