/- Contracts over heaps, part 1. Condition: as each statement says. -/
import Derived.Test.YtlpcncdglfjnoaaGreatDoorBtA
import Derived.Test.YtlpcncdglfjnoaaGreatDoorBShelf
import Derived.Test.YtlpcncdglfjnoaaGreatDoorSxG
import Derived.Test.YtlpcncdglfjnoaaGreatDoorSxE
import Derived.Test.YtlpcncdglfjnoaaGreatDoorBtB
set_option linter.all false
set_option maxRecDepth 100000
set_option maxHeartbeats 4000000
namespace Go.Sx
open Go.Proofs
def mixed:Tryz.prog.follows .mixedOrders=true:=aw
def Qk : (Tryz.f144.name == "runtime.NumGoroutine") = false :=aw
def PE:Tryz.f144.body.isNone=true:=aw
def PQ:Extern.findNext Tryz.f144=none:=aw
def P':Extern.find Tryz.f144=some Extern.BytealgIndexByte.indexByte:=aw
def An (s:XA) (c:Int) (h:Hp):wA YC 129 [.string s,.int .u8 c] h (vI (Lib.indexByte s.data.toList c.toNat.toUInt8)):=by
 refine eC mixed Tryz.func129 aw (gi s c) ?_;refine EA Tryz.func144 Qk PE PQ P' ?_;rw [qa];exact ⟨(_,()),rfl,rfl,rfl⟩
def C3 (s:XA) (c:Int) (h:Hp):wA YC 120 [.string s,.int .u8 c] h (vI (Lib.indexByte s.data.toList c.toNat.toUInt8)):=by
 refine eC mixed Tryz.func120 aw (oF s c) ?_;exact lj (An s c h) ⟨rfl,rfl⟩
def lL (s set:List UInt8):Nat:=(s.takeWhile fun c=>set.contains c).length
def Pk (s set:List UInt8):lL s set<=s.length:=by
 unfold lL;exact (List.takeWhile_prefix _).length_le
theorem qX {p:UInt8->Bool}:∀ (l:List UInt8) (k:Nat),k<=(l.takeWhile p).length->k<l.length->(k<(l.takeWhile p).length↔p (l.getD k 0)=true)
 | [],k,_,h=>by simp at h
 | c::l,0,_,_=>by
  simp only [List.takeWhile_cons,List.getD_cons_zero];cases a:p c <;> simp
 | c::l,k+1,h,hl=>by
  simp only [List.takeWhile_cons] at h ⊢;cases a:p c with
  | false=>rw [a] at h; simp at h
  | true =>
   rw [a] at h;simp at h hl
   have:=qX l k (by simpa using h) hl
   simpa using this
def Bx (s set:List UInt8) (k:Nat) (hk:k<=lL s set) (hl:k<s.length):(k<lL s set↔set.contains (s.getD k 0)=true):=qX s k hk hl
def MQ (s:XA) (n:Int):(cV s n).toNat.toUInt8=s.data.toList.getD n.toNat 0:=by
 unfold cV; simp
def LJ (s set:XA) (h:Hp) (j:s.size<=9223372036854775807):wA YC 103 [.string s,.string set] h (vI (lL s.data.toList set.data.toList)):=by
 refine eC mixed Tryz.func103 aw (B1 s set) ?_;have g:s.data.toList.length=s.size:=ah
 have hle:=Pk s.data.toList set.data.toList;refine aY (cs:=cU) (fun x n h'=>h'=h/\∃ k:Nat,x.1=(k:Int)/\k<=lL s.data.toList set.data.toList/\n=s.size-k) ((0:Int),()) s.size rfl ⟨rfl,0,rfl,ad,ad⟩ ?_;rintro ⟨n,⟨⟩⟩ m h' ⟨rfl,k,hk,c,rfl⟩;simp only at hk;subst hk;refine an ?_ ?_<;>intro d
 ·have e:(k:Int)<s.size:=Vv d;have hst:=Bx s.data.toList set.data.toList k c ad;refine jl ⟨ad,e⟩ ?_;refine lj (C3 _ _ _) ?_;rw [MQ];have hc:=Lib.contains_iff_indexByte set.data.toList (s.data.toList.getD k 0);refine an ?_ ?_<;>intro a
  ·have h2:=Vv a;rw [wrap_i64 ad ad];have b:set.data.toList.contains (s.data.toList.getD k 0)=true:=by rw [hc]; exact Vw h2
   exact aD (cs:=cU) ((k:Int)+1,()) (s.size-(k+1)) rfl ad rfl ⟨rfl,k+1,(show ((k:Int)+1)=((k+1:Nat):Int) from ad),hst.2 b,rfl⟩
  ·have h2:=VI a;have b:¬ set.data.toList.contains (s.data.toList.getD k 0)=true:=by rw [hc]; exact fun f=>h2 (Vv f)
   have:k=lL s.data.toList set.data.toList:=by
    have:¬ k<lL s.data.toList set.data.toList:=fun f=>b (hst.1 f)
    omega
   exact ⟨by rw [<- this],rfl⟩
 ·have i:¬ (k:Int)<s.size:=VI d
  have:k=lL s.data.toList set.data.toList:=ad
  exact ⟨by rw [<- this],rfl⟩
def eR (c:UInt8):Bool:=(97<=c.toNat && c.toNat<=122) || (65<=c.toNat && c.toNat<=90) || c.toNat==95
def gT (c:UInt8):Bool:=48<=c.toNat && c.toNat<=57
def gh:List UInt8:=[97,98,99,100,101,102,103,104,105,106,107,108,109,110,111,112,113,114,115,116,117,118,119,120,121,122,65,66,67,68,69,70,71,72,73,74,75,76,77,78,79,80,81,82,83,84,85,86,87,88,89,90,95]
def iv:List UInt8:=[48,49,50,51,52,53,54,55,56,57]
def Bn (p q:UInt8->Bool) (h:(List.range 256).all (fun n=>p (UInt8.ofNat n)==q (UInt8.ofNat n))=true) (c:UInt8):p c=q c:=by
 have:=VT.1 h c.toNat (Xd.2 (by have:=c.toNat_lt; omega))
 simpa using this
def FN (c:UInt8):gh.contains c=eR c:=Bn (fun c=>gh.contains c) eR (by decide +kernel) c
def Mb (c:UInt8):(gh++iv).contains c=(eR c || gT c):=Bn (fun c=>(gh++iv).contains c) (fun c=>eR c || gT c) (by decide +kernel) c
def cN (c:UInt8):Int:=(c.toNat:Nat)
def MB (c:UInt8) (h:Hp):wA YC 76 [.int .u8 (cN c)] h (.bool (gT c)):=by
 refine eC mixed Tryz.func76 aw (nt _) ?_;unfold jv gT cN bz;refine aQ ?_ ?_<;>intro h1
 ·refine ⟨?_,rfl⟩
  congr 1
  rw [show decide (48<=c.toNat)=true from Vw ad,VZ];exact Xs.2 ad
 ·refine ⟨?_,rfl⟩
  congr 1
  rw [show decide (48<=c.toNat)=false from Vx ad,Bool.false_and]
def IT (c:UInt8):eR c=true↔(97<=cN c/\cN c<=122)\/(65<=cN c/\cN c<=90)\/cN c=95:=by
 unfold eR cN;simp only [Bool.or_eq_true,Bool.and_eq_true,decide_eq_true_eq,beq_iff_eq];omega
def A3 (c:UInt8) (h:Hp):wA YC 75 [.int .u8 (cN c)] h (.bool (eR c)):=by
 refine eC mixed Tryz.func75 aw (mI _) ?_;unfold iH dI;have hl:=IT c
 repeat' (refine an (fun h1=>?_) (fun h1=>?_) <;> first | replace h1:=Vv h1 | replace h1:=VI h1)
 all_goals exact ⟨VO Value.bool (W7.2 (by simp only [hl,true_iff,beq_iff_eq]; omega)),rfl⟩
def x5 (s:List UInt8):Int × Bool × Bool :=
 match s with
 | [a,b]=>if cN a=114/\48<=cN b/\cN b<=55 then (cN b-48,false,true) else if cN a=122/\48<=cN b/\cN b<=51 then (cN b-48,true,true) else (0,false,false)
 | _=>(0,false,false)
variable {b:List UInt8}
def ze (h:b.length≠2):x5 b=(0,false,false):=by
 unfold x5;split
 ·simp at h
 ·rfl
def vj (s:XA) (n:Int):cV s n=cN (s.data.toList.getD n.toNat 0):=rfl
variable {H:XA}
def two_bytes (h1:(H.size:Int)=2):∃ a b,H.data.toList=[a,b]:=by
 have d:H.data.toList.length=H.size:=ah
 match hl:H.data.toList with
 | [a,b]=>exact ⟨a,b,rfl⟩
 | []=>rw [hl] at d; simp at d; omega
 | [a]=>rw [hl] at d; simp at d; omega
 | a::b::c::l=>rw [hl] at d; simp at d; omega
def De (s:XA) (h:Hp):wA YC 102 [.string s] h (.tuple #[vI (x5 s.data.toList).1,.bool (x5 s.data.toList).2.1,.bool (x5 s.data.toList).2.2]):=by
 refine eC mixed Tryz.func102 aw (uz s) ?_;have d:s.data.toList.length=s.size:=ah
 unfold pU bf lV bI;refine an ?_ ?_<;>intro h1
 ·have h1:(s.size:Int)≠2:=by simpa using h1
  rw [ze ad];exact ⟨rfl,rfl⟩
 ·have h1:(s.size:Int)=2:=by simpa using h1
  obtain ⟨a,b,c⟩:=two_bytes h1;have e0:cV s 0=cN a:=by rw [vj,c]; rfl
  have e:cV s 1=cN b:=by rw [vj,c]; rfl
  have hb:=b.toNat_lt;have f:IntKind.wrap .i64 (IntKind.wrap .i64 (cV s 1)-48)=cN b-48:=by
   rw [e,wrap_i64 (x:=cN b) (by unfold cN; omega) (by unfold cN; omega),wrap_i64 (by unfold cN; omega) (by unfold cN; omega)]
  rw [f,e0,c];unfold x5
  repeat' (first | refine fJ ?_ | (refine an (fun h1=>?_) (fun h1=>?_) <;> first | replace h1:=Vv h1 | replace h1:=VI h1 | replace h1:=eq_of_beq h1 | replace h1:=ne_of_beq_false h1))
  all_goals
   refine ⟨?_,rfl⟩;simp only
   first
    | (exfalso; omega)
    | rw [VE ad]
    | rw [Vu ad,VE ad]
    | rw [Vu ad,Vu ad]
def B9 (s:XA) (h:Hp):wA YC 77 [.string s] h (.tuple #[vI (x5 s.data.toList).1,.bool (x5 s.data.toList).2.1,.bool (x5 s.data.toList).2.2]):=by
 refine eC mixed Tryz.func77 aw (ld s) ?_;have d:s.data.toList.length=s.size:=ah
 unfold gU bf lV bI;refine an ?_ ?_<;>intro h1
 ·have h1:(s.size:Int)≠2:=by simpa using h1
  rw [ze ad];exact ⟨rfl,rfl⟩
 ·have h1:(s.size:Int)=2:=by simpa using h1
  obtain ⟨a,b,c⟩:=two_bytes h1;have e0:cV s 0=cN a:=by rw [vj,c]; rfl
  have e:cV s 1=cN b:=by rw [vj,c]; rfl
  have hb:=b.toNat_lt;have f:IntKind.wrap .i64 (IntKind.wrap .i64 (cV s 1)-48)=cN b-48:=by
   rw [e,wrap_i64 (x:=cN b) (by unfold cN; omega) (by unfold cN; omega),wrap_i64 (by unfold cN; omega) (by unfold cN; omega)]
  rw [f,e0,c];unfold x5
  repeat' (first | refine fJ ?_ | (refine an (fun h1=>?_) (fun h1=>?_) <;> first | replace h1:=Vv h1 | replace h1:=VI h1 | replace h1:=eq_of_beq h1 | replace h1:=ne_of_beq_false h1))
  all_goals
   refine ⟨?_,rfl⟩;simp only
   first
    | (exfalso; omega)
    | rw [VE ad]
    | rw [Vu ad,VE ad]
    | rw [Vu ad,Vu ad]
def cn (s:List UInt8):Bool:=decide (0<s.length) && decide (s.length<=32) && eR (s.getD 0 0) && s.all (fun c=>eR c || gT c) && !(x5 s).2.2
def Mk {set:List UInt8} (h:0<b.length):0<lL b set↔set.contains (b.getD 0 0)=true:=Bx b set 0 (WG _) h
def JL {s set:List UInt8}:lL s set=s.length↔s.all (fun c=>set.contains c)=true:=by
 unfold lL
 induction s with
 | nil=>simp
 | cons c s a =>
  rw [List.takeWhile_cons,W8];cases hc:set.contains c with
  | true=>simp only [if_true,List.length_cons,Bool.true_and]; rw [<- a]; omega
  | false=>simp
def Uf:(⟨#[97,98,99,100,101,102,103,104,105,106,107,108,109,110,111,112,113,114,115,116,117,118,119,120,121,122,65,66,67,68,69,70,71,72,73,74,75,76,77,78,79,80,81,82,83,84,85,86,87,88,89,90,95]⟩:XA).data.toList=gh:=rfl
def UE:(⟨#[97,98,99,100,101,102,103,104,105,106,107,108,109,110,111,112,113,114,115,116,117,118,119,120,121,122,65,66,67,68,69,70,71,72,73,74,75,76,77,78,79,80,81,82,83,84,85,86,87,88,89,90,95,48,49,50,51,52,53,54,55,56,57]⟩:XA).data.toList=gh++iv:=rfl
def toList_nil :(H.toList==[])=decide (H.size=0):=by
 have:H.toList=H.data.toList:=ByteArray.toList_eq H
 rw [this];have b:H.data.toList.length=H.size:=ah
 cases hl:H.data.toList with
 | nil=>rw [hl] at b; simp at b; simp [<- b]
 | cons a l=>rw [hl] at b; simp at b; simp [<- b]
def tU (s:XA) (h:Hp) (d:s.size<=9223372036854775807):wA YC 79 [.string s] h (.bool (cn s.data.toList)):=by
 refine eC mixed Tryz.func79 aw (zd s) ?_;have a:s.data.toList.length=s.size:=ah
 unfold xN dh bq bz aK cj;refine Fo (De s h) ?_;unfold cn;rw [a];refine an ?_ ?_<;>intro h1
 ·have h1:s.size≠0:=by rw [toList_nil] at h1; simpa using h1
  refine aQ ?_ ?_<;>intro h2
  ·refine lj (LJ s _ h d) ?_;rw [Uf];have hp:=Mk (set:=gh) (by omega:0<s.data.toList.length);rw [FN] at hp;refine aQ ?_ ?_<;>intro e
   ·refine lj (LJ s _ h d) ?_;rw [UE];have ha:=JL (s:=s.data.toList) (set:=gh++iv);have f:(fun c=>(gh++iv).contains c)=(fun c=>eR c || gT c):=funext Mb;rw [f] at ha;rw [show decide (0<s.size)=true from Vw ad,show decide (s.size<=32)=true from Vw ad,hp.1 ad];refine an ?_ ?_<;>intro h4
    ·have h4:=eq_of_beq h4;rw [ha.1 ad];exact ⟨rfl,rfl⟩
    ·have h4:=ne_of_beq_false h4
     have:s.data.toList.all (fun c=>eR c || gT c)=false:=by
      cases b:s.data.toList.all (fun c=>eR c || gT c) with
      | false=>rfl
      | true=>exact (h4 (by rw [ha.2 b]; omega)).elim
     rw [this];exact ⟨rfl,rfl⟩
   ·have:eR (s.data.toList.getD 0 0)=false:=by
     cases b:eR (s.data.toList.getD 0 0) with
     | false=>rfl
     | true=>have:=hp.2 b; omega
    rw [this];exact ⟨ah,rfl⟩
  ·rw [show decide (s.size<=32)=false from Vx ad];exact ⟨ah,rfl⟩
 ·have h1:s.size=0:=by rw [toList_nil] at h1; simpa using h1
  rw [show decide (0<s.size)=false from Vx ad];exact ⟨ah,rfl⟩
open Go.Proofs Go.MapKept Go.WideAt Go.WideMaps Go.Maps Go.RowKit Go.WideElems Go.WideElems
def Jg:XB->Option (DataW Unit × List MemPlace):=fun _=>some (.nil,[])
def wW:Tryz.prog.underlying 9=some .string:=aw
def PB:Tryz.prog.underlying 170=some (.map 9 58):=aw
def keysOf (D:List (XA × XB)):List (List UInt8):=(D.map fun p=>p.1.data.toList).mergeSort fun x y=>decide (x<=y)
def Lv {x:MapEntry} (hk:x.key=.string H) (a:H.size<=maxLen):WideElems.rd YC 9 Jg x=some (.string H.data.toList,.nil):=by
 unfold WideElems.rd;rw [hk,keyOf_string_mk wW a] <;> rfl
variable {I e f:Nat}
def eJ.owns {W:World} {D:List (XA × XB)} (m:eJ W.heap I D) (hl:D.length<=maxLen) :
  ∃ c:DataW Unit,W.ownsMap YC 9 Jg I D.length c/\(strKeys c).Perm (D.map fun p=>p.1.data.toList)/\Maps.size c=D.length:=by
 obtain ⟨es,clock,j,d,k,f⟩:=m;have h:es.size=D.length:=by
  have:=VO List.length d
  simpa using this
 have a:es.toList.map (WideElems.rg YC 9 Jg)=D.map fun p=>(Lit.string p.1.data.toList,DataW.nil):=by
  apply WA;intro i;have h1:(es.toList.map (fun e=>(e.key,e.val)))[i]?=(D.map (fun p=>(Value.string p.1,p.2)))[i]?:=by rw [d]
  simp only [List.getElem?_map] at h1 ⊢;rcases Wo i D.length with hi | hi
  ·rw [VC hi,VC (show i<es.toList.length by simp; omega)] at h1 ⊢;simp only [Option.map_some,Option.some.injEq,Prod.mk.injEq] at h1 ⊢;exact WideElems.rg_of (Lv h1.1 (f _ (VA hi)))
  ·rw [V5 hi,V5 (show es.toList.length<=i by simp; omega)] <;> rfl
 refine ⟨_,⟨es,clock,j,⟨ad,k,?_⟩,ad,rfl⟩,?_,?_⟩
 ·intro x l;obtain ⟨i,hi,rfl⟩:=VV l;have b:i<D.length:=by simp at hi; omega
  have h1:(es.toList.map (fun e=>(e.key,e.val)))[i]?=(D.map (fun p=>(Value.string p.1,p.2)))[i]?:=by rw [d]
  simp only [List.getElem?_map,List.getElem?_eq_getElem b,List.getElem?_eq_getElem hi,Option.map_some,Option.some.injEq,Prod.mk.injEq] at h1;exact ⟨_,Lv h1.1 (f _ (VA b))⟩
 ·show List.Perm (((es.toList.map (WideElems.rg YC 9 Jg)).foldr DataW.insert []).map fun p=>strOf p.1) _;rw [a];refine ((WideShapes.sorted_perm _).map _).trans ?_;rw [VN];exact Xn _
 ·show ((es.toList.map (WideElems.rg YC 9 Jg)).foldr DataW.insert []).length=D.length;rw [a,length_sorted,Vr]
variable {U:Hp}
def World.JV {W:World} {o:Obj} (a:W.heap=U.push o):({ W with heap:=U }:World).alloc o=W:=by
 cases W;simp only at a;subst a;rfl
def dG.alloc (w:World) (o:Obj):dG w (w.alloc o):=⟨rfl,rfl,rfl⟩
def HF (r:Option Nat) (h:Hp):HC YC 109 #[.map r] h fun v h'=>v=.func (.func 124) #[] #[.pointer (some ⟨h.size,0,none⟩)]/\h'=h.push (.cells #[.map r] 170):=by
 intro W b;subst b;exact (callsIn_wide.1 (Tryz.Am r W)).mono fun e w' ⟨c,a⟩=>⟨_,c,by rw [a]; exact dG.alloc _ _,rfl,by rw [a]; rfl⟩
variable {c:TypeId}
def SL.QH {W:World} {v:XB} {xs:List XB} (r:W.ownsRow I c 1 v xs.length xs):∃ p l a,v=.slice p l a/\SL W.heap I c 1 p l a (xs.map fun x=>[x]):=by
 have d:∀ ys:List XB,(ys.map fun x=>[x]).flatten=ys:=by
  intro ys
  induction ys with
  | nil=>rfl
  | cons y ys h=>simp [h]
 obtain ⟨h1,h2⟩:=r;rcases h2 with ⟨hv,hn⟩ | ⟨g,cap,iV,hv,i,j,f,hc,k,m⟩
 ·have:xs=[]:=Wk hn
  subst this;exact ⟨none,0,0,hv,SL.nil _ _ _ _⟩
 ·refine ⟨some ⟨g,0,none⟩,xs.length,cap,hv,ah,ah,g,[],iV.toList.drop xs.length,rfl,i,⟨f,by unfold maxLen at hc; omega⟩,?_,?_⟩
  ·rw [d,WM]
   have:xs=iV.toList.take xs.length:=by rw [<- m]; simp
   unfold bm;rw [j]
   congr 2
   conv=>lhs; rw [<- Array.toArray_toList (xs:=iV),<- We xs.length iV.toList]
   rw [<- this]
  ·rw [V6,Wy,k]; omega
def rJ {D:List (XA × XB)} (m:eJ U I D) (hl:D.length<=2^40) :
  HC YC 108 #[.func (.func 124) #[] #[.pointer (some ⟨U.size,0,none⟩)]] (U.push (.cells #[.map (some I)] 170)) fun v h'=>∃ p l c,v=.slice p l c/\SL h' (U.size+1) 9 1 p l c ((keysOf D).map fun k=>[encStr k]) /\
   Ext (U.push (.cells #[.map (some I)] 170)) h':=by
 intro W q;obtain ⟨t,j,d,a⟩:=eJ.owns (W:={ W with heap:=U }) m (by unfold maxLen; omega);have hc:=callsIn_wide.1 (Tryz.kR I D.length t Jg { W with heap:=U } j (by rw [a]; unfold maxLen; omega) (by rw [a]; omega));rw [World.JV q] at hc;refine hc.mono fun e w' u=>?_
 obtain ⟨v,r,w,z,b,_,n⟩:=u;have s:r.mergeSort (fun x y=>decide (x<=y))=keysOf D:=mergeSort_of_perm (z.trans d);have o:r.length=((r.mergeSort (fun x y=>decide (x<=y))).map encStr).length:=by rw [Vr,List.length_mergeSort]
 rw [o,s] at b;obtain ⟨p,l,c,hv,f⟩:=SL.QH b;refine ⟨v,w,⟨n.os,n.tape,n.output⟩,p,l,c,hv,?_,?_⟩
 ·rw [VN] at f
  have:W.heap.size=U.size+1:=by rw [q]; simp
  rw [this] at f;exact f
 ·rw [<- q];exact ⟨n.size,fun i hi _=>n.block i hi⟩
abbrev dt:=List (XA × Nat)
def cg (p:XA × Nat):List XB:=[.string p.1,.int .u32 p.2]
def vm (D:dt):List (XA × XB):=D.map fun p=>(p.1,Value.int .u32 p.2)
def dL (D:dt) (s:XA):Nat:=((D.find? fun p=>decide (s=p.1)).map (·.2)).getD 0
def uf (D:dt) (s:XA) (v:Nat):dt:=if (D.find? fun p=>decide (s=p.1)).isSome then D.map fun p=>if s=p.1 then (p.1,v) else p else D++[(s,v)]
def iF (D:dt) (p:XA × Nat):dt:=uf D p.1 ((dL D p.1+p.2) % 4294967296)
def Dc (D:dt):dt:=(keysOf (vm D)).filterMap fun k=>if dL D ⟨k.toArray⟩=0 then none else some (⟨k.toArray⟩,dL D ⟨k.toArray⟩)
def Pp (D:dt) (s:XA):(vm D).find? (fun p=>decide (s=p.1))=(D.find? fun p=>decide (s=p.1)).map fun p=>(p.1,Value.int .u32 p.2):=by
 unfold vm
 induction D with
 | nil=>rfl
 | cons p D a =>
  by_cases h:s=p.1
  ·simp [h]
  ·simp only [List.map_cons,List.find?_cons,decide_eq_false h];exact a
def HY (D:dt) (s:XA):look (vm D) s=(D.find? fun p=>decide (s=p.1)).map fun p=>Value.int .u32 p.2:=by
 unfold look;rw [Pp,Option.map_map] <;> rfl
def IB (D:dt) (s:XA):(look (vm D) s).getD (.int .u32 0)=.int .u32 (dL D s):=by
 rw [HY];unfold dL
 all_goals (cases D.find? fun p=>decide (s=p.1) <;> rfl)
def QO (D:dt) (s:XA) (v:Nat):jL (vm D) s (.int .u32 v)=vm (uf D s v):=by
 unfold jL uf;rw [HY];cases h:(D.find? fun p=>decide (s=p.1)) with
 | none=>simp [vm]
 | some q =>
  simp only [Option.map_some,Option.isSome_some,if_true,vm,List.map_map];refine V4 fun p a=>?_
  simp only [Function.comp];split <;> simp_all
def Fj (D:dt) (s:XA) (v:Nat):(uf D s v).length<=D.length+1:=by
 unfold uf;split <;> simp
def Rw:(Tryz.prog.info? 58).bind (·.zero)=some (.int .u32 0):=aw
def AJ:Tryz.prog.underlying 57=some (.slice 66):=aw
def za:(Tryz.prog.info? 66).map (fun i=>(i.zero,i.size,i.bytes))=some (some (.agg #[.string ⟨#[]⟩,.int .u32 0]),2,24):=aw
variable {Z:Lp} {a:XB->Hp->Prop} {O:dt}
def oI {h:Hp} (m:eJ h I (vm O)) (s:XA) {k:Int->T} (hk:k (dL O s) Z a h):T.eK YC (Instr.lookup 170 (.map (some I)) (.string s) false) false [(false,[.int .u32])] k Z a h:=by
 refine jj PB wW Rw m s false _ ?_;refine ⟨((dL O s:Int),()),?_,hk⟩;simp only [Bool.false_eq_true,if_false];rw [IB] <;> rfl
variable {d:T}
def Ge {h:Hp} (m:eJ h I (vm O)) (c:H.size<=maxLen) {v:Int} {n:Nat} (hv:v=(n:Int)) (hk:∀ h',eJ h' I (vm (uf O H n))->Ch [I] h h'->h'.size=h.size->d Z a h') :
  T.ek YC (Instr.mapUpdate 170 (.map (some I)) (.string H) (.int .u32 v)) d Z a h:=by
 subst hv;refine fP PB wW m c _ _ ?_;intro h' b c' e;rw [QO] at b;exact hk h' b c' e
def OC (m:eJ U I (vm O)) (hl:O.length<=2^40) (n:Int) :
  HC YC 110 #[.map (some I),.int .u32 n] U fun v h'=>Ext U h'/\∃ p l c,v=.agg #[.slice p l c,.int .u32 n]/\SL h' U.size 66 2 p l c ((Dc O).map cg):=by
 refine aZ (args:=[.map (some I),.int .u32 n]) mixed Tryz.func110 aw (yT (some I) n) ?_;unfold xM aT bo bC ay bq aR bR ar aM aK;refine br ?_;intro h1 b1 P z1;refine br ?_;intro h2 b2 E z2;refine bT b2 ?_;intro h3 b3 F z3;have b3:bm h3 h1.size 60 [.slice none 0 0,.int .u32 n]:=b3;have G:Ext U h3:=bZ (P.trans E) F;have m3:=m.af G ah;have c3:bm h3 U.size 60 [.slice none 0 0,.int .u32 0]:=(b1.af E ah).af F (by simp; omega);refine aH (HF (some I) h3) ?_;rintro _ h4 ⟨rfl,rfl⟩;refine ⟨(.func (.func 124) #[] #[.pointer (some ⟨h3.size,0,none⟩)],()),rfl,ak ?_⟩;have Q:Ext h3 (h3.push (.cells #[.map (some I)] 170)):=Ext.push _ _;have r:(vm O).length<=2^40:=by unfold vm; rw [Vr]; exact hl
 refine aH (rJ m3 r) ?_;rintro _ H ⟨R,J,S,rfl,u,V⟩;refine ⟨((R,J,S),()),rfl,ak ?_⟩;have e35:=Q.trans V;have e:(keysOf (vm O)).length<=2^40:=by
  unfold keysOf;rw [List.length_mergeSort,Vr];exact r
 have A:J=(keysOf (vm O)).length:=by rw [u.1,Vr]
 unfold Dc;generalize keysOf (vm O)=ks at u e A ⊢;have b5:=b3.af e35 ah;have c5:=c3.af e35 ah;have m5:=m3.af e35 ah;have e05:=G.trans e35;have hz3:=e35.size;have hb3:=b3.lt;have hg:=m.lt;refine aY (cs:=cU) (fun x w h'=>∃ (i:Nat) (p:XC) (l c:Nat),x.1=(i:Int)/\i<=ks.length/\w=ks.length-i/\Ch [h1.size] H h'/\bm h' h1.size 60 [.slice p l c,.int .u32 n] /\
  SL h' H.size 66 2 p l c (((ks.take i).filterMap fun k=>if dL O ⟨k.toArray⟩=0 then none else some ((⟨k.toArray⟩:XA),dL O ⟨k.toArray⟩)).map cg)/\l<=i) ((0:Int),()) ks.length rfl
  ⟨0,none,0,0,rfl,ad,ad,Ch.refl _ _,b5,SL.nil _ _ _ _,ad⟩ ?_
 rintro ⟨n8,⟨⟩⟩ w h6 ⟨i,p,l,c,hi,K,rfl,f,y,o,W⟩;simp only at hi;subst hi;refine ak ?_;have m6:=m5.af f (by simp; omega);have hz6:=f.size;have B:Ext U h6:=bZ e05 f;refine aQ ?_ ?_<;>intro X
 ·have d:i<ks.length:=ad
  have sk6:=u.bH f (fun j b=>by have:=(u.cu b).1; simp; omega);obtain ⟨a,rfl,hc⟩:=sk6.cells (i:=i) (by simpa using d);rw [VD] at hc;have q:ks.take (i+1)=ks.take i++[ks[i]]:=Vt d;generalize ks[i]=k at hc q;refine cC rfl ?_;rw [cX i];refine aC ((⟨k.toArray⟩:XA),()) hc (ak ?_);have hw:=lC i;refine oI m6 _ (an (fun s=>?_) (fun s=>?_))
  ·have s:((dL O ⟨k.toArray⟩:Nat):Int)≠0:=by simpa using s
   refine av y ((p,l,c),()) (ak ?_);refine oI m6 _ ?_;refine lO (vs:=cg (⟨k.toArray⟩,dL O ⟨k.toArray⟩)) AJ za rfl ad ad aw rfl rfl o hz6 ad ad ?_;intro p' c' L M t Y;have b7:=y.af t (fun Z=>by have:=(o.cu Z).1; omega);refine bT b7 ?_;intro h8 b8 N z8;refine aD (cs:=cU) (((i+1:Nat):Int),()) (ks.length-(i+1)) rfl ad (VO (fun z=>[Value.int .i64 z]) hw) ⟨i+1,p',l+1,c',rfl,ad,rfl,?_,b8,?_,ad⟩
   ·exact Ch.trans (Ch.trans f t (fun j b hl=>by have:=(o.cu b).1; omega)) N (fun j b _=>b)
   ·rw [q,Xk,VB];have C:([k].filterMap fun k=>if dL O ⟨k.toArray⟩=0 then none else some ((⟨k.toArray⟩:XA),dL O ⟨k.toArray⟩))=[((⟨k.toArray⟩:XA),dL O ⟨k.toArray⟩)]:=by
     simp only [List.filterMap_cons,List.filterMap_nil];rw [Vu ad]
    rw [C];exact M.bH N (fun j b=>by have:=(M.cu b).1; simp; omega)
  ·have s:((dL O ⟨k.toArray⟩:Nat):Int)=0:=by simpa using s
   refine aD (cs:=cU) (((i+1:Nat):Int),()) (ks.length-(i+1)) rfl ad (VO (fun z=>[Value.int .i64 z]) hw) ⟨i+1,p,l,c,rfl,ad,rfl,f,y,?_,ad⟩;rw [q,Xk];have C:([k].filterMap fun k=>if dL O ⟨k.toArray⟩=0 then none else some ((⟨k.toArray⟩:XA),dL O ⟨k.toArray⟩))=[]:=by
    simp only [List.filterMap_cons,List.filterMap_nil];rw [VE ad]
   rw [C,Wr];exact o
 ·have hi:i=ks.length:=ad
  subst hi;rw [V1] at o;have c6:=c5.af f (by simp; omega);refine av y ((p,l,c),n,()) (ak ?_);refine bT c6 ?_;intro L b7 t z7;have b7:bm L U.size 60 [.slice p l c,.int .u32 n]:=b7;refine av b7 ((p,l,c),n,()) ?_;have hz5:=e05.size;exact ⟨bZ B t,p,l,c,rfl,(o.bH t (fun j b=>by have:=(o.cu b).1; simp; omega)).mono ad⟩
structure iW (h:Hp) (p:XC) (l:Nat) (us:dt):Prop where
 len:l=us.length
 cells:∀ i,(hi:i<us.length)->∃ a,p=some a/\aE h (a.add (i*2)) 0 (cg us[i])
variable {V:XC}
def iW.af {ws:List Nat} {h':Hp} {us:dt} (v:iW U V I us) (k:Ch ws U h') (c:∀ i,i∈aG V->i∉ws):iW h' V I us :=
 ⟨v.len,fun i hi=>by
  obtain ⟨a,b,hc⟩:=v.cells i hi;exact ⟨a,b,bh k (by rw [qZ]; exact c _ (by rw [b]; simp [aG])) _ _ hc⟩⟩
def SL.Su {us:dt} (s:SL U I c 2 V e f (us.map cg)):iW U V e us:=by
 refine ⟨by rw [s.1,Vr],fun i hi=>?_⟩;obtain ⟨a,d,hc⟩:=s.cells (i:=i) (by simpa using hi);rw [VD] at hc;exact ⟨a,d,hc⟩
structure cL where
 ai:dt
 num:Nat
def iX (p:XC) (l c:Nat) (x:cL):XB:=.agg #[.slice p l c,.int .u32 x.num]
def NG (l:dt):dt:=Dc (l.foldl iF [])
def lu (x y:cL):cL:=⟨NG (x.ai++y.ai),(x.num+y.num) % 4294967296⟩
def eV (x:Int):IntKind.wrap .u32 x=x % 4294967296:=by
 simp only [IntKind.wrap] <;> rfl
def kG (a:Nat):((a % 4294967296:Nat):Int)=(a:Int) % 4294967296:=Int.natCast_emod a 4294967296
def iB (a b:XA):Prop:=a.data.toList<b.data.toList
instance (a b:XA):Decidable (iB a b):=inferInstanceAs (Decidable (a.data.toList<b.data.toList))
def zS (a:XA):¬ iB a a:=List.lt_irrefl (α:=UInt8) _
def kn {b c:XA} (h:iB H b) (k:iB b c):iB H c:=List.lt_trans (α:=UInt8) h k
def DW {b:XA} (h:H.data.toList=b.data.toList):H=b:=by
 cases H; cases b;simp only at h;rw [Wf.1 h]
def C0 (a b:XA) (h:¬ iB a b) (k:¬ iB b a):a=b :=
 DW (List.le_antisymm (α:=UInt8) (List.not_lt.1 k) (List.not_lt.1 h))
def jP {b:XA} (h:iB H b):H≠b:=fun e=>by subst e; exact zS _ h
def IZ {a:XA} (h:iB a H):¬ iB H a:=fun k=>zS _ (kn h k)
structure Nf (l:dt):Prop where
 Qq:l.Pairwise fun p q=>iB p.1 q.1
 En:∀ p,p∈l->p.2≠0/\p.2<4294967296
def cf:dt->XA->Nat
 | [],_=>0
 | p::l,s=>(if p.1=s then p.2 else 0)+cf l s
def QX (s:XA):cf [] s=0:=rfl
def kb (p:XA × Nat) (l:dt) (s:XA):cf (p::l) s=(if p.1=s then p.2 else 0)+cf l s:=rfl
variable {Y:XA × Nat}
def Nf.tail {l:dt} (h:Nf (Y::l)):Nf l:=⟨(Wt.1 h.1).2,fun q a=>h.2 q (Vz _ a)⟩
def Nf.head (h:Nf (Y::O)):∀ q,q∈O->iB Y.1 q.1:=(Wt.1 h.1).1
def yk (h:∀ p,p∈O->p.1≠H):cf O H=0:=by
 induction O with
 | nil=>rfl
 | cons p O a =>
  rw [kb,Vu (h p (WH ..)),a fun q b=>h q (Vz _ b)]
def Nf.ma (h:Nf (Y::O)):cf (Y::O) Y.1=Y.2:=by
 rw [kb,VE rfl,yk fun q a=>(jP (h.head q a)).symm] <;> rfl
def Nf.Cs {l:dt} {s:XA} (h:∀ p,p∈l->iB s p.1):cf l s=0:=yk fun p a=>(jP (h p a)).symm
theorem Nf.Rk:∀ {l m:dt},Nf l->Nf m->(∀ s,cf l s % 4294967296=cf m s % 4294967296)->l=m
 | [],[],_,_,_=>rfl
 | [],q::m,_,e,h=>by
  have:=h q.1
  rw [e.ma] at this;have hq:=e.En q (WH ..);simp only [cf] at this;omega
 | p::l,[],hl,_,h=>by
  have:=h p.1
  rw [hl.ma] at this;have hq:=hl.En p (WH ..);simp only [cf] at this;omega
 | p::l,q::m,hl,e,h=>by
  have hp:=hl.En p (WH ..);have hq:=e.En q (WH ..)
  by_cases h1:iB p.1 q.1
  ·exfalso
   have:=h p.1
   rw [hl.ma,Nf.Cs (l:=q::m) (s:=p.1) (by
    intro r f;rcases VK.1 f with rfl | f
    ·exact h1
    ·exact kn h1 (e.head r f))] at this
   omega
  ·by_cases h2:iB q.1 p.1
   ·exfalso
    have:=h q.1
    rw [e.ma,Nf.Cs (l:=p::l) (s:=q.1) (by
     intro r f;rcases VK.1 f with rfl | f
     ·exact h2
     ·exact kn h2 (hl.head r f))] at this
    omega
   ·have he:=C0 _ _ h1 h2;have h3:=h p.1;rw [hl.ma,he,e.ma] at h3;have g:p=q:=by
     obtain ⟨a,b⟩:=p;obtain ⟨c,d⟩:=q;simp only at he h3 hp hq;subst he
     congr 1
     rw [Nat.mod_eq_of_lt hp.2,Nat.mod_eq_of_lt hq.2] at h3;exact h3
    subst g
    congr 1
    refine Nf.Rk hl.tail e.tail fun s=>?_
    by_cases i:p.1=s
    ·subst i;rw [Nf.Cs hl.head,Nf.Cs e.head]
    ·have:=h s
     simp only [cf,if_neg i,Nat.zero_add] at this;exact this
def pX (s:XA):dL [] s=0:=rfl
def nQ (p:XA × Nat) (D:dt) (s:XA):dL (p::D) s=if s=p.1 then p.2 else dL D s:=by
 unfold dL;rw [Xi]
 by_cases h:s=p.1
 ·simp [h]
 ·simp [h]
def D7 (D:dt) (s t:XA) (v:Nat):dL (D++[(t,v)]) s=if (D.find? fun p=>decide (s=p.1)).isSome then dL D s else if s=t then v else 0:=by
 induction D with
 | nil=>simp [nQ,pX]
 | cons p D a =>
  rw [Xc,nQ,nQ,a,Xi]
  by_cases h:s=p.1
  ·simp [h]
  ·simp only [decide_eq_false h,if_neg h]
def Bc (h:(O.find? fun p=>decide (H=p.1)).isSome=false):dL O H=0:=by
 unfold dL;cases a:(O.find? fun p=>decide (H=p.1)) with
 | none=>rfl
 | some x=>rw [a] at h; cases h
def J3 (D:dt) (t:XA) (v:Nat) (s:XA):dL (D.map fun p=>if t=p.1 then (p.1,v) else p) s=if s=t/\(D.find? fun p=>decide (t=p.1)).isSome then v else dL D s:=by
 induction D with
 | nil=>simp [pX]
 | cons p D a =>
  rw [VY,nQ,a,nQ,Xi]
  by_cases h:t=p.1
  ·subst h
   by_cases k:s=p.1 <;> simp [k]
  ·rw [Vu h]
   by_cases k:s=p.1
   ·subst k
    have:¬ p.1=t:=fun e=>h e.symm
    simp [this]
   ·simp only [decide_eq_false h,if_neg k]
def Bq (D:dt) (t:XA) (v:Nat) (s:XA):dL (uf D t v) s=if s=t then v else dL D s:=by
 unfold uf;split
 ·rename_i a;rw [J3]
  by_cases k:s=t <;> simp [k,a]
 ·rename_i a;rw [D7]
  by_cases k:s=t
  ·subst k;simp [a]
  ·rw [Vu k];split
   ·rfl
   ·rename_i h2;rw [Bc (Bool.eq_false_iff.2 h2)]
def Gb (l:dt) (s:XA):∀ D:dt,dL (l.foldl iF D) s % 4294967296=(dL D s+cf l s) % 4294967296:=by
 induction l with
 | nil=>intro D; simp [cf]
 | cons p l a =>
  intro D;rw [V2,a];unfold iF;rw [kb,Bq]
  by_cases h:s=p.1
  ·subst h;rw [VE rfl,VE rfl,Nat.mod_add_mod]
   congr 1; omega
  ·rw [Vu h,Vu fun e=>h e.symm]
   congr 1; omega
def Gj (h:(O.map (·.1)).Nodup) (t:XA) (v:Nat):((uf O t v).map (·.1)).Nodup:=by
 unfold uf;have h1:(O.find? fun p=>decide (t=p.1)).isSome=true↔t∈O.map (·.1):=by
  rw [List.find?_isSome];simp [eq_comm]
 split
 ·have e:(O.map fun p=>if t=p.1 then (p.1,v) else p).map (·.1)=O.map (·.1):=by
   rw [VN];refine V4 fun p f=>?_
   simp only [Function.comp];split <;> rfl
  rw [e]; exact h
 ·rename_i hn;rw [VB,Wm];refine ⟨h,ah,?_⟩;rintro a d b c rfl;simp only [List.map_cons,List.map_nil,List.mem_singleton] at c;subst c;exact hn (h1.2 d)
def y5 (l:dt):∀ D:dt,(D.map (·.1)).Nodup->((l.foldl iF D).map (·.1)).Nodup:=by
 induction l with
 | nil=>intro D h; exact h
 | cons p l a =>
  intro D h;rw [V2];exact a _ (Gj h _ _)
def HB (l:dt):∀ D:dt,(∀ s,dL D s<4294967296)->∀ s,dL (l.foldl iF D) s<4294967296:=by
 induction l with
 | nil=>intro D h; exact h
 | cons p l a =>
  intro D h;rw [V2];refine a _ fun s=>?_
  unfold iF;rw [Bq];split
  ·exact Nat.mod_lt _ bJ
  ·exact h s
def No (h:H∉O.map (·.1)):dL O H=0:=by
 refine Bc ?_;cases a:(O.find? fun p=>decide (H=p.1)).isSome with
 | false=>rfl
 | true =>
  rw [List.find?_isSome] at a;obtain ⟨x,b,c⟩:=a;exact absurd (Vy.2 ⟨x,b,(Vv c).symm⟩) h
def pick (g:XA->Nat) (ks:List (List UInt8)):dt:=ks.filterMap fun k=>if g ⟨k.toArray⟩=0 then none else some (⟨k.toArray⟩,g ⟨k.toArray⟩)
def Ph (g:XA->Nat) (s:XA):∀ ks:List (List UInt8),ks.Nodup->cf (pick g ks) s=if s.data.toList∈ks then g s else 0:=by
 intro ks
 induction ks with
 | nil=>intro _; simp [pick,cf]
 | cons k ks ih =>
  intro h;rw [WN] at h;have ih:=ih h.2;unfold pick at ih ⊢;rw [List.filterMap_cons];have b:(⟨k.toArray⟩:XA)=s↔s.data.toList=k:=by
   constructor
   ·rintro rfl; simp
   ·intro e; exact DW (by simp [e])
  by_cases hk:s.data.toList=k
  ·have hs:=b.2 hk;rw [hs];split
   ·rename_i a;split at a
    ·rename_i h0;rw [ih,h0]
     simp
    ·cases a
   ·rename_i a;split at a
    ·cases a
    ·cases a;rw [kb,ih,VE rfl,Vu (by rw [hk]; exact h.1),VE (by rw [hk]; simp)] <;> rfl
  ·have hs:¬ (⟨k.toArray⟩:XA)=s:=fun e=>hk (b.1 e)
   split
   ·rw [ih];simp [hk]
   ·rename_i a;split at a
    ·cases a
    ·cases a;rw [kb,ih,Vu hs];simp [hk]
def Pb (g:XA->Nat) (f:∀ s,g s<4294967296) {ks:List (List UInt8)} (h:ks.Pairwise fun a b=>a<b):Nf (pick g ks):=by
 refine ⟨?_,?_⟩
 ·unfold pick;refine List.Pairwise.filterMap _ ?_ h;intro a b d p c q e;split at c
  ·cases c
  ·split at e
   ·cases e
   ·cases c; cases e;unfold iB;simpa using d
 ·intro p c;unfold pick at c;rw [WV] at c;obtain ⟨k,_,hk⟩:=c;split at hk
  ·cases hk
  ·rename_i h0;cases hk;exact ⟨h0,f _⟩
def xx (D:dt):(keysOf (vm D)).Perm (D.map fun p=>p.1.data.toList):=by
 unfold keysOf vm;rw [VN];exact List.mergeSort_perm _ _
def sF (h:(O.map (·.1)).Nodup):(keysOf (vm O)).Pairwise fun a b=>a<b:=by
 have hn:(keysOf (vm O)).Nodup:=by
  refine (xx O).nodup_iff.2 ?_
  have:(O.map fun p=>p.1.data.toList)=(O.map (·.1)).map fun s=>s.data.toList:=by rw [VN]; rfl
  rw [this];exact Wl.2 (h.imp fun f e=>f (DW e))
 have i:(keysOf (vm O)).Pairwise fun a b=>a<=b:=by
  unfold keysOf;refine (List.pairwise_mergeSort ?_ ?_ _).imp ?_
  ·intro a b c h1 h2;exact Vw (List.le_trans (α:=UInt8) (Vv h1) (Vv h2))
  ·intro a b;simp only [Bool.or_eq_true,decide_eq_true_eq];exact List.le_total (α:=UInt8) a b
  ·intro a b g;exact Vv g
 refine (i.and hn).imp ?_;rintro a b ⟨h1,h2⟩
 by_cases d:a<b
 ·exact d
 ·exact absurd (List.le_antisymm (α:=UInt8) h1 (List.not_lt.1 d)) h2
def E1 (l:dt):NG l=pick (dL (l.foldl iF [])) (keysOf (vm (l.foldl iF []))):=rfl
def Gf (l:dt):Nf (NG l):=by
 rw [E1];exact Pb _ (HB l [] (fun s=>by rw [pX]; decide)) (sF (y5 l [] ah))
def GF (l:dt) (s:XA):cf (NG l) s=cf l s % 4294967296:=by
 have h1:=Gb l s [];rw [pX,V9,Nat.mod_eq_of_lt (HB l [] (fun s=>by rw [pX]; decide) s)] at h1;rw [E1,Ph _ _ _ ((sF (y5 l [] ah)).imp fun h e=>by subst e; exact List.lt_irrefl (α:=UInt8) _ h)];split
 ·exact h1
 ·rename_i hn;rw [<- h1,No];intro a;refine hn ((xx _).mem_iff.2 ?_);obtain ⟨p,b,rfl⟩:=Vy.1 a;exact Vy.2 ⟨p,b,rfl⟩
def SK (r:Option Nat) (p:XC) (l i:Nat) (k:T):T :=
 T.loop [aK] [vI (0:Int)] <| fun (a:Int) =>
 bC a l
  (T.need (eH a l) <|
  T.bd p <| fun (d:YA) =>
  T.ae (d.add (ay a 2)) [.string,.int .u32] <| fun (e:XA) (f:Int) =>
  T.new [ct,ar (0:Int)] 66 <| fun (b:YA) =>
  T.ao b [.string e,ar f] <|
  T.ae b [.string] <| fun (c:XA) =>
  bR (Instr.lookup 170 (.map r) (.string c) false) false [(false,[.int .u32])] <| fun (g:Int) =>
  T.ae (b.add 1) [.int .u32] <| fun (h:Int) =>
  T.ek YC (Instr.mapUpdate 170 (.map r) (.string c) (ar (IntKind.wrap .u32 (g+h)))) <|
  T.again i [vI (bf (a+(1:Int)))]) k
def uu (l:dt):∀ D:dt,(l.foldl iF D).length<=D.length+l.length:=by
 induction l with
 | nil=>intro D; simp
 | cons p l a =>
  intro D;rw [V2];have h1:=a (iF D p);have h2:=Fj D p.1 ((dL D p.1+p.2) % 4294967296);have b:(iF D p).length<=D.length+1:=h2;simp only [List.length_cons];omega
def H5 {h:Hp} {us D:dt} (s:Z.length=f) (v:iW h V e us) (hl:us.length<=2^40) (H:∀ t,t∈us->t.1.size<=maxLen) (m:eJ h I (vm D)) (M:I∉aG V)
  (hk:∀ J h',eJ h' I (vm (us.foldl iF D))->Ch [I] h h'->d (Z++[J]) a h'):SK (some I) V e f d Z a h:=by
 have hll:=v.len;have N:∀ J:List XB->Hp->Prop,(Z++[J])[f]?=some J:=by intro J; subst s; simp
 unfold SK bC ay bR bf eH ar ct aK;refine aY (cs:=cU) (fun y w h'=>∃ (i:Nat),y.1=(i:Int)/\i<=us.length/\w=us.length-i/\Ch [I] h h'/\eJ h' I (vm ((us.take i).foldl iF D))) ((0:Int),()) us.length rfl
  ⟨0,rfl,ad,ad,Ch.refl _ _,by simpa using m⟩ ?_
 rintro ⟨X,⟨⟩⟩ w E ⟨i,hi,F,rfl,u,x⟩;simp only at hi;subst hi;refine ak ?_;refine aQ ?_ ?_<;>intro O
 ·have c:i<us.length:=ad
  obtain ⟨b,rfl,hc⟩:=(v.af u (by intro j A G; rw [VH] at G; subst G; exact M A)).cells i c;have o:us.take (i+1)=us.take i++[us[i]]:=Vt c;have hsz:=H us[i] (VA c);generalize us[i]=t at hc o hsz;refine cC rfl ?_;rw [cX i];refine aC (t.1,(t.2:Int),()) hc (ak ?_);refine br ?_;intro Y P Q z5;refine bT P ?_;intro h6 r R z6;have r:bm h6 E.size 66 (cg t):=r;have q:Ext E h6:=bZ Q R;have m6:=x.af q ah;refine av r (t.1,()) (ak ?_);refine oI m6 _ ?_;rw [ax];refine av r ((t.2:Int),()) (ak ?_);generalize B:(us.take i).foldl iF D=C at m6;refine Ge (n:=(dL C t.1+t.2) % 4294967296) m6 hsz ?_ ?_
  ·rw [eV,kG,Xv]
  ·intro h7 S U z7;have hw:=lC i;have W:(us.take (i+1)).foldl iF D=uf C t.1 ((dL C t.1+t.2) % 4294967296):=by
    rw [o,Ws,B] <;> rfl
   refine aD (cs:=cU) (((i+1:Nat):Int),()) (us.length-(i+1)) (N _) ad (VO (fun z=>[Value.int .i64 z]) hw) ⟨i+1,rfl,ad,rfl,?_,by rw [W]; exact S⟩;exact Ch.trans (Ch.trans u q ah) U (fun j A _=>A)
 ·have hi:i=us.length:=ad
  subst hi;rw [V1] at x;exact hk _ _ x u
def iW.RV {us:dt} (v:iW U V I us) (hn:us≠[]):∀ i,i∈aG V->i<U.size:=by
 intro i hi;cases us with
 | nil=>exact absurd rfl hn
 | cons t us =>
  obtain ⟨a,rfl,hc⟩:=v.cells 0 ah;simp only [aG,List.mem_singleton] at hi;subst hi;rw [show a.add (0*2)=a by simp [Addr.add]] at hc;have h1:=hc.1;unfold jr at h1;split at h1
  ·rename_i b
   have:=fq b
   simpa [qZ] using this
  ·cases h1
def S6:Tryz.prog.underlying 175=some (.slice 57):=aw
def Tl:(Tryz.prog.info? 57).map (fun i=>(i.zero,i.size,i.bytes))=some (some (.slice none 0 0),1,24):=aw
def QF {h:Hp} {p q:XC} {l c m d:Nat} {x y:cL} (v:iW h p l x.ai) (u:iW h q m y.ai) (P:∀ i,i∈aG p->i<h.size) (Q:∀ i,i∈aG q->i<h.size)
  (hl:x.ai.length+y.ai.length<=2^40) (R:∀ t,t∈x.ai->t.1.size<=maxLen) (S:∀ t,t∈y.ai->t.1.size<=maxLen) :
  HC YC 87 #[iX p l c x,iX q m d y] h fun w h'=>Ext h h'/\∃ p' l' c',w=iX p' l' c' (lu x y)/\SL h' h.size 66 2 p' l' c' ((lu x y).ai.map cg):=by
 refine aZ (args:=[.agg #[.slice p l c,.int .u32 x.num],.agg #[.slice q m d,.int .u32 y.num]]) mixed Tryz.func87 aw (Al p l c x.num q m d y.num) ?_;unfold zB aT bo bC ay bq aR bR ar aM ct aK;refine br ?_;intro h1 b1 F z1;refine br ?_;intro h2 b2 o z2;refine br ?_;intro e b3 r z3;refine lp _ ?_;intro X G n z4;refine ⟨(some e.size,()),rfl,ak ?_⟩;have b1:=((b1.af o ah).af r ah).af n ah;have b2:=(b2.af r ah).af n ah;have b3:=b3.af n ah;have e04:=((F.trans o).trans r).trans n;refine av b1 ((p,l,c),()) (ak ?_);refine av b2 ((q,m,d),()) (ak ?_);refine sW (cells:=[.slice p l c,.slice q m d]) S6 Tl bJ bJ aw ?_;intro H I f Y;have U:eJ H e.size (vm []):=G.af f ah;have b1:=b1.af f ah;have b2:=b2.af f ah;have b3:=b3.af f ah;have e05:=e04.trans f;have hb5:=I.lt;have hm4:=G.lt;refine aY (cs:=cU) (fun z w h'=>∃ (i:Nat),z.1=(i:Int)/\i<=2/\w=2-i/\Ch [e.size] H h'/\eJ h' e.size (vm ((([x.ai,y.ai].take i).flatten).foldl iF []))) ((0:Int),()) 2 rfl
  ⟨0,rfl,ad,ad,Ch.refl _ _,U⟩ ?_
 rintro ⟨Z,⟨⟩⟩ w h6 ⟨i,hi,K,rfl,b,g⟩;simp only at hi;subst hi;refine ak ?_;have b6:=I.af b (by simp; omega);have a:Ext h h6:=bZ e05 b;refine aQ ?_ ?_<;>intro V
 ·refine cC rfl ?_;rw [cX i,ax];have hw:=lC i;have s:i=0\/i=1:=ad
  rcases s with rfl | rfl
  ·refine av b6 ((p,l,c),()) (ak ?_);refine H5 (us:=x.ai) (D:=[]) rfl (v.af a ah) ad R g (fun A=>by have:=P _ A; omega) ?_;intro J L B C;refine aD (cs:=cU) (((0+1:Nat):Int),()) (2-(0+1)) rfl ad (VO (fun z=>[Value.int .i64 z]) hw) ⟨0+1,rfl,ad,rfl,Ch.trans b C (fun j k _=>k),?_⟩;simpa using B
  ·refine av b6 ((q,m,d),()) (ak ?_);refine H5 (us:=y.ai) (D:=x.ai.foldl iF []) rfl (u.af a ah) ad S (by simpa using g) (fun A=>by have:=Q _ A; omega) ?_;intro J L B C;refine aD (cs:=cU) (((1+1:Nat):Int),()) (2-(1+1)) rfl ad (VO (fun z=>[Value.int .i64 z]) hw) ⟨1+1,rfl,ad,rfl,Ch.trans b C (fun j k _=>k),?_⟩;simpa using B
 ·have hi:i=2:=ad
  subst hi;have g:eJ h6 e.size (vm ((x.ai++y.ai).foldl iF [])):=by simpa using g
  have b1:=b1.af b (by simp; omega);have b2:=b2.af b (by simp; omega);have b3:=b3.af b (by simp; omega);rw [ax,ax];refine av b1 ((x.num:Int),()) (ak ?_);refine av b2 ((y.num:Int),()) (ak ?_);refine aH (OC g (by have:=uu (x.ai++y.ai) []; rw [Vs,List.length_nil] at this; omega) _) ?_;rintro _ L ⟨M,p',l',c',rfl,N⟩;refine ⟨((p',l',c'),IntKind.wrap .u32 ((x.num:Int)+(y.num:Int)),()),rfl,ak ?_⟩;refine bT (b3.af M ah) ?_;intro W E O z8;have E:bm W h2.size 60 [.slice p' l' c',.int .u32 (IntKind.wrap .u32 ((x.num:Int)+(y.num:Int)))]:=E;refine av E ((p',l',c'),IntKind.wrap .u32 ((x.num:Int)+(y.num:Int)),()) ?_;have hz6:=a.size;have hz2:=(F.trans o).size;have hb3:=b3.lt;refine ⟨bZ (a.trans M) O,p',l',c',?_,(N.bH O (fun j k=>by have:=(N.cu k).1; simp; omega)).mono ad⟩;unfold iX lu;rw [eV];dsimp only;rw [kG,Xv]
def qp (p:UInt8->Bool) (l:List UInt8) (k:Nat) (hk:k<l.length):(l.take (k+1)).all p=((l.take k).all p && p (l.getD k 0)):=by
 rw [Vt hk,List.all_append];simp [List.getD,List.getElem?_eq_getElem hk]
def rm (s:XA) (h:Hp) (y:s.size<=9223372036854775807):wA YC 35 [.string s] h (.bool (cn s.data.toList)):=by
 refine eC mixed Tryz.func35 aw (nY s) ?_;have o:s.data.toList.length=s.size:=ah
 unfold jt bo aP bq eH lV bz aK cj;unfold cn;rw [o];refine an ?_ ?_<;>intro h1
 ·have h1:=Vv h1;rw [show decide (0<s.size)=false from Vx ad];exact ⟨ah,rfl⟩
 have h1:=VI h1;refine an ?_ ?_<;>intro h2
 ·have h2:=Vv h2;rw [show decide (s.size<=32)=false from Vx ad];exact ⟨ah,rfl⟩
 have h2:=VI h2;rw [show decide (0<s.size)=true from Vw ad,show decide (s.size<=32)=true from Vw ad];refine fJ ?_;refine aF (A3 (s.data.toList.getD 0 0) h) ?_;refine an ?_ ?_<;>intro f
 ·have f:eR (s.data.toList.getD 0 0)=false:=by simpa using f
  rw [f];exact ⟨ah,rfl⟩
 have f:eR (s.data.toList.getD 0 0)=true:=by simpa using f
 rw [f];refine aY (cs:=fK) (fun x n h'=>h'=h/\∃ k:Nat,x.2.1=(k:Int)/\k<=s.size/\n=s.size-k/\(s.data.toList.take k).all (fun c=>eR c || gT c)=true)
  (false,(0:Int),()) s.size rfl ⟨rfl,0,rfl,ad,ad,ah⟩ ?_
 rintro ⟨b,n,⟨⟩⟩ m h' ⟨rfl,k,hk,q,rfl,a⟩;simp only at hk;subst hk;refine an ?_ ?_<;>intro p
 ·have l:(k:Int)<s.size:=Vv p;have hst:=qp (fun c=>eR c || gT c) s.data.toList k ad;rw [a,VZ] at hst;have e:∀ k':Nat,(eR (s.data.toList.getD k 0) || gT (s.data.toList.getD k 0))=false->s.data.toList.all (fun c=>eR c || gT c)=false:=by
   intro k' r;rw [r] at hst;cases t:s.data.toList.all (fun c=>eR c || gT c) with
   | false=>rfl
   | true =>
    have:(s.data.toList.take (k+1)).all (fun c=>eR c || gT c)=true:=VT.2 fun c hc=>VT.1 t c (WO hc)
    rw [this] at hst; cases hst
  have d:(eR (s.data.toList.getD k 0) || gT (s.data.toList.getD k 0))=true->T.again 0 [.bool b,vI (IntKind.wrap .i64 ((k:Int)+1))] ([]++[Jl (cs:=fK) (fun x n g=>g=h'/\∃ k:Nat,x.2.1=(k:Int)/\k<=s.size/\n=s.size-k/\(s.data.toList.take k).all (fun c=>eR c || gT c)=true) (s.size-k)]) (fun v' g=>v'=.bool (true && true && true && s.data.toList.all (fun c=>eR c || gT c) && !(x5 s.data.toList).2.2)/\g=h') h':=by
   intro u;rw [wrap_i64 ad ad];exact aD (cs:=fK) (b,(k:Int)+1,()) (s.size-(k+1)) rfl ad rfl ⟨rfl,k+1,(show ((k:Int)+1)=((k+1:Nat):Int) from ad),ad,rfl,by rw [hst,u]⟩
  refine jl ⟨(by show (0:Int)<=(k:Int); omega),l⟩ ?_;refine aF (A3 (s.data.toList.getD k 0) h') ?_;refine an ?_ ?_<;>intro i
  ·have i:eR (s.data.toList.getD k 0)=false:=by simpa using i
   refine jl ⟨(by show (0:Int)<=(k:Int); omega),l⟩ ?_;refine aF (MB (s.data.toList.getD k 0) h') ?_;refine an ?_ ?_<;>intro j
   ·have j:gT (s.data.toList.getD k 0)=false:=by simpa using j
    rw [e 0 (by rw [i,j]; rfl)];exact ⟨ah,rfl⟩
   ·have j:gT (s.data.toList.getD k 0)=true:=by simpa using j
    exact d (by rw [j]; simp)
  ·have i:eR (s.data.toList.getD k 0)=true:=by simpa using i
   exact d (by rw [i]; simp)
 ·have w:¬ (k:Int)<s.size:=VI p;have hk:k=s.data.toList.length:=ad
  rw [hk,V1] at a;rw [a];refine Fo (B9 s h') ?_;exact ⟨ah,rfl⟩
def dv (c:UInt8):Nat:=if c.toNat<58 then c.toNat-48 else c.toNat-87
def Rs (b:Nat) (l:List UInt8):Nat:=l.foldl (fun n c=>n*b+dv c) 0
def Tx (c:UInt8):Bool:=gT c || (97<=c.toNat && c.toNat<=102)
def Cd:List UInt8:=[48,49,50,51,52,53,54,55,56,57,97,98,99,100,101,102]
def OY (l:List UInt8):Nat × Nat :=
 if l.take 2=[48,120] then
  (if 8<lL (l.drop 2) Cd\/lL (l.drop 2) Cd=0 then (0,0) else (2+lL (l.drop 2) Cd,Rs 16 ((l.drop 2).take (lL (l.drop 2) Cd))))
 else
  (if (1<lL l iv/\l.getD 0 0=48)\/lL l iv=0\/4294967296<=Rs 10 (l.take (lL l iv)) then (0,0) else (lL l iv,Rs 10 (l.take (lL l iv))))
def QP:List UInt8:=gh++iv
def Di (P:Program) (t:TypeId):Array Field :=
 match P.underlying t with
 | some (.struct a)=>a
 | _=>#[]
def bytes_beq (t:XA):(t==t)=true:=by
 cases t with | mk d=>show (d==d)=true; simp
def hv (c:UInt8):Int:=if Tx c=true then (dv c:Int) else -1
def tz (D:List UInt8):Nat × Nat :=
 if D.getD 0 0=39 then
  (if D.length<3\/(D.getD 1 0).toNat<32\/126<(D.getD 1 0).toNat\/D.getD 1 0=39\/D.getD 2 0≠39 then (0,0) else ((D.getD 1 0).toNat,3))
 else if (OY D).1=0\/0<lL (D.drop (OY D).1) QP then (0,0) else ((OY D).2,(OY D).1)
def BR {t:XA} (h:H.data.toList=t.data.toList):H=t:=by
 cases H; cases t;simp only at h
 congr 1
 exact Wf.1 h
def add_add (a:YA) (i j:Nat):(a.add i).add j=a.add (i+j):=by
 unfold Addr.add
 by_cases hi:i=0 <;> by_cases b:j=0 <;> simp [hi,b] <;> omega
def tv:cL:=⟨[],0⟩
structure Good (x:cL):Prop where
 nf:Nf x.ai
 K9:∀ t,t∈x.ai->cn t.1.data.toList=true
 num:x.num<4294967296
def Gk (h:cn H.data.toList=true):H.size<=32:=by
 unfold cn at h;simp only [Bool.and_eq_true,decide_eq_true_eq] at h
 have:H.data.toList.length=H.size:=ah
 omega
abbrev ptr (a:Nat):XB:=.pointer (some ⟨a,0,none⟩)
def kE {b:YA} (hc:aE U b 0 (cg Y)):aE U b 0 [.string Y.1]/\aE U (b.add 1) 0 [.int .u32 (Y.2:Int)]:=by
 obtain ⟨h1,h2,a⟩:=hc;exact ⟨⟨h1,trivial⟩,⟨by rw [add_add]; exact h2,trivial⟩⟩
def leB (a b:XA):(Op.bytesLess (ByteArray.toList a) (ByteArray.toList b) || (ByteArray.toList a==ByteArray.toList b))=!decide (iB b a):=by
 rw [ByteArray.toList_eq,ByteArray.toList_eq,Proofs.bytesLess_eq]
 by_cases h:iB b a
 ·rw [Vw h];have h1:¬ a.data.toList<b.data.toList:=IZ h;have h2:¬ a.data.toList=b.data.toList:=fun e=>jP h (BR e).symm
  have c:¬ a.data=b.data:=fun e=>h2 (by rw [e])
  simp [h1,c]
 ·rw [Vx h]
  by_cases h1:iB a b
  ·have h1:a.data.toList<b.data.toList:=h1;simp [h1]
  ·have:=C0 a b h1 h
   subst this
   simp
def lB:Option XA->dt->Bool
 | _,[]=>true
 | o,t::r=>cn t.1.data.toList && decide (t.2≠0) && (match o with
  | none=>true
  | some s=>decide (iB s t.1)) && lB (some t.1) r
def HE (l:dt) (i:Nat):Option XA:=if i=0 then none else (l[i-1]?).map (·.1)
def C2 {o:Option XA} (h:lB o O=true):(∀ t,t∈O->cn t.1.data.toList=true/\t.2≠0)/\(O.Pairwise fun p q=>iB p.1 q.1)/\∀ s,o=some s->∀ t,t∈O->iB s t.1:=by
 induction O generalizing o with
 | nil=>exact ⟨ah,List.Pairwise.nil,ah⟩
 | cons t r d =>
  unfold lB at h;simp only [Bool.and_eq_true,decide_eq_true_eq] at h;obtain ⟨⟨⟨h1,h2⟩,b⟩,e⟩:=h;obtain ⟨f,g,c⟩:=d e;refine ⟨?_,Wt.2 ⟨fun q i=>c _ rfl q i,g⟩,?_⟩
  ·intro u a;rcases VK.1 a with rfl | a
   ·exact ⟨h1,h2⟩
   ·exact f u a
  ·rintro s rfl u a;have b:iB s t.1:=by simpa using b
   rcases VK.1 a with rfl | a
   ·exact b
   ·exact kn b (c _ rfl u a)
def RF {o:Option XA} (h1:∀ t,t∈O->cn t.1.data.toList=true/\t.2≠0) (h2:O.Pairwise fun p q=>iB p.1 q.1) (f:∀ s,o=some s->∀ t,t∈O->iB s t.1):lB o O=true:=by
 induction O generalizing o with
 | nil=>rfl
 | cons t r g =>
  obtain ⟨a,b⟩:=h1 t (WH ..);obtain ⟨c,d⟩:=Wt.1 h2;unfold lB;rw [a,Vw b,g (o:=some t.1) (fun u e=>h1 u (Vz _ e)) d (by rintro s ⟨⟩ u e; exact c u e)];cases o with
  | none=>rfl
  | some s =>
   show (true && true && decide (iB s t.1) && true)=true;rw [Vw (f s rfl t (WH ..))] <;> rfl
def CG {x:cL} (h:lB none x.ai=true) (hc:∀ t,t∈x.ai->t.2<4294967296) (hn:x.num<4294967296):Good x :=
 ⟨⟨(C2 h).2.1,fun p a=>⟨((C2 h).1 p a).2,hc p a⟩⟩,fun t b=>((C2 h).1 t b).1,hn⟩
variable {g:cL}
def ti {c:Nat} (v:iW U V I g.ai) (hl:g.ai.length<=9223372036854775807) (J:∀ t,t∈g.ai->t.1.size<=maxLen) :
  HC YC 80 #[iX V I c g] U fun w h'=>w=.bool (lB none g.ai)/\Ext U h':=by
 refine aZ (args:=[.agg #[.slice V I c,.int .u32 g.num]]) mixed Tryz.func80 aw (x7 V I c g.num) ?_;unfold uc aT bo bC ay aP bf ar bz dI ct aK cj;have hll:=v.len;refine br ?_;intro h1 b1 K z1;refine av b1 ((V,I,c),()) (ak ?_);refine aY (cs:=fK) (fun y w h'=>∃ (i:Nat),y.2.1=(i:Int)/\i<=g.ai.length/\w=g.ai.length-i/\Ext h1 h'/\lB none g.ai=lB (HE g.ai i) (g.ai.drop i)) (false,(0:Int),()) g.ai.length rfl
  ⟨0,rfl,ad,ad,Ch.refl _ _,rfl⟩ ?_
 rintro ⟨B,Q,⟨⟩⟩ w h2 ⟨i,hi,H,rfl,C,d⟩;simp only at hi;subst hi;refine ak ?_;have e02:=K.trans C;refine aQ ?_ ?_<;>intro L
 ·have b:i<g.ai.length:=ad
  have v2:=v.af e02 ah;obtain ⟨a,rfl,hc⟩:=v2.cells i b;have D:g.ai.drop i=g.ai[i]::g.ai.drop (i+1):=VU b;have o:HE g.ai (i+1)=some g.ai[i].1:=by
   unfold HE;rw [Vu ad,Nat.add_sub_cancel,VC b] <;> rfl
  have hsz:=J g.ai[i] (VA b);rw [D] at d;generalize g.ai[i]=t at hc d o hsz;refine cC rfl ?_;rw [cX i];refine aC (t.1,(t.2:Int),()) hc (ak ?_);refine br ?_;intro R b3 M z3;refine bT b3 ?_;intro h4 m N z4;have m:bm h4 h2.size 66 [.string t.1,.int .u32 t.2]:=m;have e:Ext h2 h4:=bZ M N;have e04:=e02.trans e;rw [ax];refine av m ((t.2:Int),()) (ak ?_);refine an ?_ ?_<;>intro n
  ·have n:t.2=0:=by have:(t.2:Int)=0:=(by simpa using n); omega
   refine ⟨?_,e04⟩;rw [d];unfold lB;rw [Vx ad]
   simp
  ·have n:t.2≠0:=by have:¬ (t.2:Int)=0:=(by simpa using n); omega
   refine av m (t.1,()) (ak ?_);refine aF (tU t.1 h4 (by have:maxLen=9223372036854775807:=rfl; omega)) ?_;refine ⟨⟨m.cells _ rfl,trivial⟩,?_⟩;refine an ?_ ?_<;>intro j
   ·have j:cn t.1.data.toList=false:=by simpa using j
    refine ⟨?_,e04⟩;rw [d];unfold lB;rw [j]
    simp
   ·have j:cn t.1.data.toList=true:=by simpa using j
    have hw:=lC i
    have f:(match HE g.ai i with
      | none=>true
      | some s=>decide (iB s t.1))=true->lB none g.ai=lB (HE g.ai (i+1)) (g.ai.drop (i+1)):=by
     intro O;rw [d,o]
     conv=>lhs; unfold lB
     rw [j,Vw n,O] <;> rfl
    refine aQ ?_ ?_<;>intro P
    ·have E:IntKind.wrap .i64 ((i:Int)-1)=((i-1:Nat):Int):=by rw [wrap_i64 ad ad]; omega
     have q:i-1<g.ai.length:=ad
     obtain ⟨a',F,r⟩:=(v.af e04 ah).cells (i-1) q;cases F;have A:HE g.ai i=some g.ai[i-1].1:=by
      unfold HE;rw [Vu ad,VC q] <;> rfl
     rw [A] at f d;generalize g.ai[i-1]=u at r A f d;refine av m (t.1,()) (ak ?_);refine av ((b1.af C ah).af e ah) ((some a,I,c),()) (ak ?_);rw [E];refine cC rfl ?_;rw [show Int.toNat ((i-1:Nat):Int)=i-1 from ad];refine aC (u.1,()) (kE r).1 (ak ?_);rw [leB];refine an ?_ ?_<;>intro k
     ·have k:¬ iB u.1 t.1:=by simpa using k
      refine ⟨?_,e04⟩;rw [d];unfold lB;dsimp only;rw [Vx k]
      simp
     ·have k:iB u.1 t.1:=by simpa using k
      exact aD (cs:=fK) (B,((i+1:Nat):Int),()) (g.ai.length-(i+1)) rfl ad (VO (fun z=>[Value.bool B,Value.int .i64 z]) hw) ⟨i+1,rfl,ad,rfl,C.trans e,f (Vw k)⟩
    ·have G:i=0:=ad
     subst G;exact aD (cs:=fK) (B,((0+1:Nat):Int),()) (g.ai.length-(0+1)) rfl ad (VO (fun z=>[Value.bool B,Value.int .i64 z]) hw) ⟨0+1,rfl,ad,rfl,C.trans e,f rfl⟩
 ·have hi:i=g.ai.length:=ad
  subst hi;refine ⟨?_,e02⟩;rw [d,Wn] <;> rfl
def sR {c:Nat} (v:iW U V I g.ai) (hl:g.ai.length<=9223372036854775807) (G:∀ t,t∈g.ai->t.1.size<=maxLen) :
  HC YC 36 #[iX V I c g] U fun w h'=>w=.bool (lB none g.ai)/\Ext U h':=by
 refine aZ (args:=[.agg #[.slice V I c,.int .u32 g.num]]) mixed Tryz.func36 aw (nF V I c g.num) ?_;unfold jz aT bo bC ay aP bf ar bz dI aK cj;have hll:=v.len;refine br ?_;intro h1 b1 m z1;have v:=v.af m ah;refine aY (cs:=fK) (fun y w h'=>∃ (i:Nat),y.2.1=(i:Int)/\i<=g.ai.length/\w=g.ai.length-i/\h1=h'/\lB none g.ai=lB (HE g.ai i) (g.ai.drop i)) (false,(0:Int),()) g.ai.length rfl
  ⟨0,rfl,ad,ad,rfl,rfl⟩ ?_
 rintro ⟨A,L,⟨⟩⟩ w h2 ⟨i,hi,F,rfl,rfl,d⟩;simp only at hi;subst hi;refine ak ?_;refine av b1 ((V,I,c),()) (ak ?_);refine aQ ?_ ?_<;>intro H
 ·have b:i<g.ai.length:=ad
  obtain ⟨a,rfl,hc⟩:=v.cells i b;have B:g.ai.drop i=g.ai[i]::g.ai.drop (i+1):=VU b;have n:HE g.ai (i+1)=some g.ai[i].1:=by
   unfold HE;rw [Vu ad,Nat.add_sub_cancel,VC b] <;> rfl
  have hsz:=G g.ai[i] (VA b);rw [B] at d;generalize g.ai[i]=t at hc d n hsz;refine av b1 ((some a,I,c),()) (ak ?_);refine cC rfl ?_;rw [cX i];refine aC (t.1,()) (kE hc).1 (ak ?_);refine aF (rm t.1 h1 (by have:maxLen=9223372036854775807:=rfl; omega)) ?_;refine ⟨⟨b1.cells _ rfl,trivial⟩,?_⟩;refine an ?_ ?_<;>intro f
  ·have f:cn t.1.data.toList=false:=by simpa using f
   refine ⟨?_,m⟩;rw [d];unfold lB;rw [f]
   simp
  ·have f:cn t.1.data.toList=true:=by simpa using f
   refine av b1 ((some a,I,c),()) (ak ?_);refine cC rfl ?_;refine aC ((t.2:Int),()) (kE hc).2 (ak ?_);refine an ?_ ?_<;>intro k
   ·have k:t.2=0:=by have:(t.2:Int)=0:=(by simpa using k); omega
    refine ⟨?_,m⟩;rw [d];unfold lB;rw [Vx ad]
    simp
   ·have k:t.2≠0:=by have:¬ (t.2:Int)=0:=(by simpa using k); omega
    have hw:=lC i
    have e:(match HE g.ai i with
      | none=>true
      | some s=>decide (iB s t.1))=true->lB none g.ai=lB (HE g.ai (i+1)) (g.ai.drop (i+1)):=by
     intro J;rw [d,n]
     conv=>lhs; unfold lB
     rw [f,Vw k,J] <;> rfl
    refine aQ ?_ ?_<;>intro K
    ·have C:IntKind.wrap .i64 ((i:Int)-1)=((i-1:Nat):Int):=by rw [wrap_i64 ad ad]; omega
     have o:i-1<g.ai.length:=ad
     obtain ⟨a',D,q⟩:=v.cells (i-1) o;cases D;have r:HE g.ai i=some g.ai[i-1].1:=by
      unfold HE;rw [Vu ad,VC o] <;> rfl
     rw [r] at e d;generalize g.ai[i-1]=u at q r e d;refine av b1 ((some a,I,c),()) (ak ?_);refine cC rfl ?_;refine aC (t.1,()) (kE hc).1 (ak ?_);refine av b1 ((some a,I,c),()) (ak ?_);rw [C];refine cC rfl ?_;rw [show Int.toNat ((i-1:Nat):Int)=i-1 from ad];refine aC (u.1,()) (kE q).1 (ak ?_);rw [leB];refine an ?_ ?_<;>intro j
     ·have j:¬ iB u.1 t.1:=by simpa using j
      refine ⟨?_,m⟩;rw [d];unfold lB;dsimp only;rw [Vx j]
      simp
     ·have j:iB u.1 t.1:=by simpa using j
      exact aD (cs:=fK) (A,((i+1:Nat):Int),()) (g.ai.length-(i+1)) rfl ad (VO (fun z=>[Value.bool A,Value.int .i64 z]) hw) ⟨i+1,rfl,ad,rfl,rfl,e (Vw j)⟩
    ·have E:i=0:=ad
     subst E;exact aD (cs:=fK) (A,((0+1:Nat):Int),()) (g.ai.length-(0+1)) rfl ad (VO (fun z=>[Value.bool A,Value.int .i64 z]) hw) ⟨0+1,rfl,ad,rfl,rfl,e rfl⟩
 ·have hi:i=g.ai.length:=ad
  subst hi;refine ⟨?_,m⟩;rw [d,Wn] <;> rfl
end Go.Sx
namespace Go.Sx.Ob
abbrev Bt:=List UInt8
def tx:Nat->Nat->Bt
 | _,0=>[]
 | n,w+1=>UInt8.ofNat n::tx (n / 256) w
def Mt:Bt->Nat
 | []=>0
 | b::l=>b.toNat+256*Mt l
theorem dr:∀ (w n:Nat),(tx n w).length=w
 | 0,_=>rfl
 | w+1,n=>by rw [tx,Wc,dr w]
theorem Be:∀ (w n:Nat),Mt (tx n w)=n % 256^w
 | 0,n=>by simp [tx,Mt,Nat.mod_one]
 | w+1,n=>by
  rw [tx,Mt,Be w,Nat.pow_succ,Nat.mul_comm (256^w) 256,Nat.mod_mul]
  congr 1
abbrev Rd (α:Type):=Except (Nat × Nat) (α × Bt)
def j7 {α β:Type} (a:Rd α) (f:α->Bt->Rd β):Rd β :=
 match a with
 | .ok p=>f p.1 p.2
 | .error e=>.error e
@[simp] theorem uH {α β:Type} (x:α) (r:Bt) (f:α->Bt->Rd β):j7 (.ok (x,r)) f=f x r:=rfl
def tz (w:Nat) (r:Bt):Rd Nat:=if w<=r.length then .ok (Mt (r.take w),r.drop w) else .error (0,10)
def Fh (r:Bt):Rd XA:=j7 (tz 2 r) fun n r=>if n<=r.length then .ok (⟨(r.take n).toArray⟩,r.drop n) else .error (0,10)
def Na:Nat->Bt->Rd dt
 | 0,r=>.ok ([],r)
 | n+1,r=>j7 (Fh r) fun s r=>j7 (tz 4 r) fun c r=>j7 (Na n r) fun ts r=>.ok ((s,c)::ts,r)
def Es (r:Bt):Rd cL:=j7 (tz 2 r) fun n r=>j7 (Na n r) fun ts r=>j7 (tz 4 r) fun c r=>.ok (⟨ts,c⟩,r)
def iK (s:XA):Bt:=tx s.size 2++s.data.toList
def Ex (t:XA × Nat):Bt:=iK t.1++tx t.2 4
def qn (x:cL):Bt:=tx x.ai.length 2++(x.ai.flatMap Ex++tx x.num 4)
def KX (w n:Nat) (t:Bt):tz w (tx n w++t)=.ok (n % 256^w,t):=by
 unfold tz;rw [VE (by rw [Vs,dr]; omega),List.take_left' (dr w n),List.drop_left' (dr w n),Be]
def I4 {s:XA} (h:s.size<65536) (t:Bt):Fh (iK s++t)=.ok (s,t):=by
 unfold Fh iK;rw [VW,KX,uH,Nat.mod_eq_of_lt ad];have hl:s.data.toList.length=s.size:=ah
 rw [VE (by rw [Vs,hl]; omega),List.take_left' hl,List.drop_left' hl]
structure Ins where
 op:Int
 a:Int
 b:Int
 n:Int
 form:Int
deriving DecidableEq
structure cv where
 kind:Int
 name:XA
 inst:Ins
 e:cL
 n:Int
def GL:Ins:=⟨0,0,0,0,0⟩
def D9:cL:=⟨[],0⟩
def dA:XA:=⟨#[]⟩
def ez (k:Int):cv:=⟨k,dA,GL,D9,0⟩
def mZ:List Nat:=[1,1,1,2,2,2,2,2,2,2,3,3,4,4,4,4,4,4,4,4,4,4,4,4,4,4,4,4,5,5,5,5,6,6,7,8,9,10,11,12,12,13,13]
def dk (op:Int):Nat:=if op<1 then 0 else mZ.getD (op-1).toNat 0
def vO (n m:Int):Bool:=decide (0<=n) && decide (n<m)
def cI (s:Nat) (a b n:Int):Bool :=
 if s=1\/s=9\/s=12 then decide (a=0) && decide (b=0)
 else if s=2\/s=8\/s=10\/s=11\/s=13 then vO a 8 && decide (b=0)
 else if s=3 then vO a 4 && decide (b=0)
 else if s=4 then vO a 8 && vO b 8
 else if s=5 then vO a 4 && vO b 4
 else if s=6 then vO a 8 && vO b 4
 else vO a 4 && vO b 8 && vO n 8
def lz (n form:Int):Bool :=
 if form=1 then decide (-128<=n) && decide (n<=127)
 else if form=2 then decide (-32768<=n) && decide (n<=32767)
 else decide (form=4)
def nR (s:Nat) (n form:Int):Bool :=
 if s=8 then lz n 1
 else if s=9 then decide (0<=n) && decide (n<=255)
 else if s=10\/s=7 then true
 else if s=11 then decide (0<=n) && decide (n<=4095)
 else if s=12\/s=13 then lz n form
 else decide (n=0)
def rL (op:Int):Bool:=decide (12<=dk op)
def Fb (op:Int):Bool:=decide (10<=dk op)
def fW (i:Ins):Int :=
 if dk i.op=0 then 11
 else if cI (dk i.op) i.a i.b i.n=false then 12
 else if (!rL i.op && decide (i.form≠0) || !nR (dk i.op) i.n i.form)=true then 13
 else 0
def Io (x:cL):Bool:=decide (x.ai=[]) && decide (x.num=0)
def tV (i:Ins) (e:cL):Bool :=
 decide (dk i.op≠0) && decide (i.form=0) && (if Fb i.op then decide (i.n=0) && decide (fW { i with form:=if rL i.op then 1 else 0 }=0) && lB none e.ai
  else decide (fW i=0) && Io e)
def tM (n:Int):Bool:=decide (n=1) || decide (n=2) || decide (n=4) || decide (n=8) || decide (n=16) || decide (n=32) || decide (n=64) || decide (n=128) || decide (n=256)
def z1 (x:cv):Bool:=decide (x.name=dA)
def z2 (x:cv):Bool:=decide (x.inst=GL)
def z3 (x:cv):Bool:=Io x.e
def z4 (x:cv):Bool:=decide (x.n=0)
def bY (x:cv) (sec:Nat):Bool :=
 if x.kind=1 then cn x.name.data.toList && z2 x && z3 x && z4 x
 else if x.kind=2 then decide (sec=0) && tV x.inst x.e && z1 x && z4 x
 else if x.kind=3 then tM x.n && z1 x && z2 x && z3 x
 else if x.kind=4 then decide (sec=0) && z1 x && z2 x && z3 x && z4 x
 else if x.kind=5 then decide (sec=1) && decide (-128<=x.n) && decide (x.n<=255) && z1 x && z2 x && z3 x
 else if x.kind=6 then decide (sec=1) && lB none x.e.ai && z1 x && z2 x && z4 x
 else if x.kind=7 then decide (sec=1) && decide (0<=x.n) && decide (x.n<=1048576) && z1 x && z2 x && z3 x
 else false
def u32 (n:Int):Nat:=(n % 4294967296).toNat
def Sl (n:Nat):Int:=if n<2147483648 then (n:Int) else (n:Int)-4294967296
def Vm (n:Nat):Int:=if n<32768 then (n:Int) else (n:Int)-65536
def BW (n:Int) (w:Nat):Bt:=tx (u32 n) w
def GV (x:cv):Bt:=BW x.kind 1 ++
 (if x.kind=1 then iK x.name
 else if x.kind=2 then BW x.inst.op 1++(BW x.inst.a 1++(BW x.inst.b 1++(BW x.inst.n 4++if Fb x.inst.op then qn x.e else [])))
 else if x.kind=3\/x.kind=5 then BW x.n 2
 else if x.kind=6 then qn x.e
 else if x.kind=7 then BW x.n 4
 else [])
def Uz (r:Bt):Rd cv:=j7 (tz 1 r) fun op r=>j7 (tz 1 r) fun a r=>j7 (tz 1 r) fun b r=>j7 (tz 4 r) fun n r =>
 if Fb (op:Int) then j7 (Es r) fun e r=>.ok ({ ez 2 with inst:=⟨op,a,b,Sl n,0⟩,e:=e },r) else .ok ({ ez 2 with inst:=⟨op,a,b,Sl n,0⟩ },r)
def T3 (k:Nat) (r:Bt):Rd cv :=
 if k=1 then j7 (Fh r) fun s r=>.ok ({ ez 1 with name:=s },r)
 else if k=2 then Uz r
 else if k=3 then j7 (tz 2 r) fun n r=>.ok ({ ez 3 with n:=n },r)
 else if k=5 then j7 (tz 2 r) fun n r=>.ok ({ ez 5 with n:=Vm n },r)
 else if k=6 then j7 (Es r) fun e r=>.ok ({ ez 6 with e:=e },r)
 else if k=7 then j7 (tz 4 r) fun n r=>.ok ({ ez 7 with n:=n },r)
 else .ok (ez k,r)
def at_ {α:Type} (r:Bt) (Ar:Nat) (ok:α->Bool) (a:Rd α):Rd α:=j7 a fun x b=>if ok x then .ok (x,b) else .error (r.length,Ar)
def fH (D:List XA) (s:XA):Bool:=D.any fun t=>decide (t=s)
def xy (sec:Nat) (D:List XA) (x:cv):Bool:=bY x sec && !(decide (x.kind=1) && fH D x.name)
def sZ (D:List XA) (x:cv):List XA:=if x.kind=1 then x.name::D else D
def Tk (sec:Nat) (D:List XA) (r:Bt):Rd cv:=at_ r 31 (xy sec D) (j7 (tz 1 r) T3)
def Q1 {α:Type} {r b:Bt} {Ar:Nat} {ok:α->Bool} {a:Rd α} {x:α} (h:a=.ok (x,b)) (h2:ok x=true):at_ r Ar ok a=.ok (x,b):=by
 unfold at_;rw [h,uH,VE h2]
def F2 (op:Int) (h:dk op≠0):1<=op/\op<=43:=by
 unfold dk at h;split at h
 ·exact absurd rfl h
 ·refine ⟨ad,?_⟩
  by_cases g:op<=43
  ·exact g
  ·exfalso;apply h;rw [V3,V5 (by simp [mZ]; omega)] <;> rfl
def Dl {i:Ins} (h:fW i=0):dk i.op≠0/\cI (dk i.op) i.a i.b i.n=true:=by
 unfold fW at h;split at h
 ·cases h
 ·split at h
  ·cases h
  ·rename_i h1 h2;exact ⟨h1,by simpa using h2⟩
def gI (op:Int):dk op=0\/(1<=dk op/\dk op<=13):=by
 by_cases h:dk op=0
 ·exact .inl h
 ·right
  have h1:=F2 op h;unfold dk;rw [Vu ad];have h2:(op-1).toNat<43:=ad
  generalize (op-1).toNat=k at h2
  have:∀ k:Fin 43,1<=mZ.getD k.1 0/\mZ.getD k.1 0<=13:=bJ
  exact this ⟨k,h2⟩
abbrev jn:=XA × cL
structure bS where
 text:List cv
 data:List cv
 aS:List jn
 aJ:List XA
def UD:bS:=⟨[],[],[],[]⟩
def wq (sec:Nat):Nat->List XA->Bt->Rd (List cv)
 | 0,_,r=>.ok ([],r)
 | n+1,D,r=>j7 (Tk sec D r) fun x r=>j7 (wq sec n (sZ D x) r) fun l r=>.ok (x::l,r)
def BD (D:List XA) (p:jn):Bool:=!(fH D p.1) && cn p.1.data.toList && lB none p.2.ai
def NC (D:List XA) (last g:XA):Bool:=fH D g && decide (iB last g)
def PT (D:List XA) (last:XA) (r:Bt):Rd XA:=at_ r 31 (NC D last) (Fh r)
def Gh (D:List XA):Nat->XA->Bt->Rd (List XA)
 | 0,_,r=>.ok ([],r)
 | n+1,last,r=>j7 (PT D last r) fun x r=>j7 (Gh D n x r) fun l r=>.ok (x::l,r)
def Ml:Bt:=[83,80,65,78,1]
def cR (D:List XA) (l:List cv):List XA:=l.foldl sZ D
def aU (D:List XA) (l:List jn):List XA:=l.foldl (fun D p=>p.1::D) D
def eN (sec:Nat):List XA->List cv->Bool
 | _,[]=>true
 | D,x::l=>xy sec D x && eN sec (sZ D x) l
def fR:List XA->List jn->Bool
 | _,[]=>true
 | D,x::l=>BD D x && fR (x.1::D) l
def cF (D:List XA):XA->List XA->Bool
 | _,[]=>true
 | last,x::l=>NC D last x && cF D x l
def bS.names (u:bS):List XA:=aU (cR (cR [] u.text) u.data) u.aS
def xS (u:bS):Bool:=eN 0 [] u.text && eN 1 (cR [] u.text) u.data && fR (cR (cR [] u.text) u.data) u.aS && cF u.names dA u.aJ
def lW (u:bS):Bool:=decide (8192<u.text.length+u.data.length) || decide (8192<u.aS.length)
def ee (u:bS):Nat:=if lW u then 4 else if xS u then 0 else 31
def Ks (p:jn):Bt:=iK p.1++qn p.2
def BL {α:Type} (w:α->Bt) (l:List α):Bt:=tx l.length 2++l.flatMap w
def T' (u:bS):Bt:=Ml++(BL GV u.text++(BL GV u.data++(BL Ks u.aS++BL iK u.aJ)))
theorem F1 (D:List XA) (a:∀ s,s∈D->s.size<65536):∀ (l:List XA) (o:XA) (t:Bt),cF D o l=true->Gh D l.length o (l.flatMap iK++t)=.ok (l,t)
 | [],o,t,_=>rfl
 | x::l,o,t,h=>by
  unfold cF at h;rw [VJ] at h;obtain ⟨h1,h2⟩:=h;have b:x.size<65536:=by
   unfold NC fH at h1;simp only [Bool.and_eq_true,List.any_eq_true,decide_eq_true_eq] at h1;obtain ⟨⟨y,c,rfl⟩,_⟩:=h1;exact a y c
  rw [Wc,Wh,VW,Gh];have d:PT D o (iK x++(l.flatMap iK++t))=.ok (x,l.flatMap iK++t):=Q1 (I4 b _) h1;rw [d,uH,F1 D a l _ t h2,uH]
theorem xv (D:List XA):∀ (l:List XA) (o:XA),cF D o l=true->(∀ x,x∈l->x∈D/\iB o x)/\l.Pairwise iB
 | [],o,_=>⟨ah,List.Pairwise.nil⟩
 | x::l,o,h=>by
  unfold cF NC fH at h;simp only [Bool.and_eq_true,List.any_eq_true,decide_eq_true_eq] at h;obtain ⟨⟨⟨y,d,rfl⟩,h2⟩,e⟩:=h;obtain ⟨a,b⟩:=xv D l y e;refine ⟨?_,Wt.2 ⟨fun z c=>(a z c).2,b⟩⟩;intro z c;rcases VK.1 c with rfl | c
  ·exact ⟨d,h2⟩
  ·exact ⟨(a z c).1,kn h2 (a z c).2⟩
def wv {u:bS} (h:ee u=0):lW u=false/\xS u=true:=by
 unfold ee at h;split at h
 ·cases h
 ·rename_i h1;split at h
  ·rename_i h2;exact ⟨by simpa using h1,h2⟩
  ·cases h
end Go.Sx.Ob
namespace Go.Sx
open Go.Proofs
def TA:Tryz.prog.underlying 66=some (.struct (Di YC 66)):=aw
def MC (x y:Operand) (a:XA) (b:Int) (a':XA) (b':Int) (h:Hp) (K:XB->Hp->Prop) (hk:K (.bool !(a==a' && b==b')) h) :
  aI YC (Sx.j6 (BinOp.neq) 66 x y (.agg #[.string a,.int .u32 b]) (.agg #[.string a',.int .u32 b'])) h K:=by
 refine yD TA aw aw aw K ?_;have c:(Di YC 66).all (GX #[.string a,.int .u32 b] #[.string a',.int .u32 b'])=(a==a' && (b==b' && true)):=by
  rw [<- WK]
  kernel_rfl
 rw [c,WL];exact hk
def Kd (t u:XA × Nat):(!(t.1==u.1 && (t.2:Int)==(u.2:Int)))=decide (t≠u):=by
 obtain ⟨a,b⟩:=t;obtain ⟨a',b'⟩:=u
 by_cases h1:a=a'
 ·subst h1;rw [bytes_beq]
  by_cases h2:b=b'
  ·subst h2
   simp
  ·have c:¬ ((b:Int)=(b':Int)):=ad
   have f:((b:Int)==(b':Int))=false:=by simpa using c
   simp [h2,f]
 ·have c:(a==a')=false:=by
   obtain ⟨d⟩:=a;obtain ⟨d'⟩:=a';show (d==d')=false;have f:¬ d=d':=fun e=>h1 (by rw [e])
   simpa using f
  simp [h1,c]
variable {H V:Nat}
def zx {α:Type} {l m:List α} (hi:H<l.length) (a:H<m.length) (h:l[H]≠m[H]):l≠m:=by
 rintro rfl;exact h rfl
def vB {α:Type} {l m:List α} (hi:H<l.length) (a:H<m.length) (h:l[H]=m[H]):(l.drop H=m.drop H)↔(l.drop (H+1)=m.drop (H+1)):=by
 rw [VU hi,VU a,h];exact ⟨fun e=>(List.cons.inj e).2,fun e=>by rw [e]⟩
instance:DecidableEq dt:=inferInstance
variable {I:Hp} {O U:XC}
def FA {c d:Nat} {us j:dt} (v:iW I O H us) (w:iW I U V j) (hl:us.length<=2^60):wA YC 119 [.slice O H c,.slice U V d] I (.bool (decide (us=j))):=by
 refine eC mixed Tryz.func119 aw (fA O H c U V d) ?_;unfold dU aT bo bC ay eh ar bz dI aK cj;have h1:=v.len;have h2:=w.len;refine an ?_ ?_<;>intro k
 ·have k:¬ (H:Int)=(V:Int):=by simpa using k
  exact ⟨by rw [Vx (fun e=>by rw [e] at h1; omega)],rfl⟩
 ·have k:(H:Int)=(V:Int):=by simpa using k
  refine aY (cs:=fK) (fun y n h'=>∃ (i:Nat),y.2.1=(i:Int)/\i<=us.length/\n=us.length-i/\I=h'/\(us=j↔us.drop i=j.drop i)) (false,(0:Int),()) us.length rfl
   ⟨0,rfl,ad,ad,rfl,Iff.rfl⟩ ?_
  rintro ⟨s,C,⟨⟩⟩ n h2 ⟨i,hi,x,rfl,rfl,A⟩;simp only at hi;subst hi;refine ak ?_;refine aQ ?_ ?_<;>intro B
  ·have f:i<us.length:=ad
   have g:i<j.length:=ad
   obtain ⟨a,rfl,hc⟩:=v.cells i f;obtain ⟨a',rfl,o⟩:=w.cells i g;have hst:=vB f g;have hno:=zx f g;generalize us[i]=t at hc hst hno;generalize j[i]=u at o hst hno;refine cC rfl ?_;rw [cX i];refine aC (t.1,(t.2:Int),()) hc (ak ?_);refine cC rfl ?_;refine aC (u.1,(u.2:Int),()) o (ak ?_);refine qv (b:=decide (t≠u)) (fun D hk=>MC _ _ _ _ _ _ _ _ (by rw [Kd]; exact hk)) ?_;refine an ?_ ?_<;>intro r
   ·exact ⟨by rw [Vx (hno (Vv r))],rfl⟩
   ·have r:t=u:=by simpa using r
    have hw:=lC i;exact aD (cs:=fK) (s,((i+1:Nat):Int),()) (us.length-(i+1)) rfl ad (VO (fun z=>[Value.bool s,Value.int .i64 z]) hw) ⟨i+1,rfl,ad,rfl,rfl,A.trans (hst r)⟩
  ·refine ⟨?_,rfl⟩;rw [Vw (A.2 (by rw [WQ ad,WQ ad]))]
def nj (x y:cL):Bool:=decide (x.num=y.num) && decide (x.ai=y.ai)
def Ir (x:cL):nj x x=true:=by unfold nj; simp
variable {Y:cL}
def AH {c d:Nat} {y:cL} (v:iW I O H Y.ai) (w:iW I U V y.ai) (hl:Y.ai.length<=2^60) :
  HC YC 101 #[iX O H c Y,iX U V d y] I fun r h'=>r=.bool (nj Y y)/\Ext I h':=by
 refine aZ (args:=[.agg #[.slice O H c,.int .u32 Y.num],.agg #[.slice U V d,.int .u32 y.num]]) mixed Tryz.func101 aw (zt O H c Y.num U V d y.num) ?_;unfold xA aP ar bz;refine br ?_;intro h1 b1 e z1;refine br ?_;intro h2 b2 b z2;have b1:=b1.af b ah;have e02:=e.trans b;rw [ax,ax];refine av b1 ((Y.num:Int),()) (ak ?_);refine av b2 ((y.num:Int),()) (ak ?_);refine an ?_ ?_<;>intro a
 ·have a:Y.num=y.num:=by have:(Y.num:Int)=y.num:=(by simpa using a); omega
  refine av b1 ((O,H,c),()) (ak ?_);refine av b2 ((U,V,d),()) (ak ?_);refine aF (FA (v.af e02 ah) (w.af e02 ah) hl) ?_;refine ⟨?_,e02⟩;unfold nj;rw [Vw a] <;> rfl
 ·have a:¬ Y.num=y.num:=by have:¬ (Y.num:Int)=y.num:=(by simpa using a); omega
  refine ⟨?_,e02⟩;unfold nj;rw [Vx a] <;> rfl
def IF {c d:Nat} {y:cL} (v:iW I O H Y.ai) (w:iW I U V y.ai) (hl:Y.ai.length<=2^60) :
  HC YC 88 #[iX O H c Y,iX U V d y] I fun r h'=>r=.bool (nj Y y)/\Ext I h':=by
 refine aZ (args:=[.agg #[.slice O H c,.int .u32 Y.num],.agg #[.slice U V d,.int .u32 y.num]]) mixed Tryz.func88 aw (ou O H c Y.num U V d y.num) ?_;unfold jT aT bo bC ay eh ar bz dI aK cj;refine br ?_;intro h1 b1 E z1;refine br ?_;intro h2 b2 A z2;have b1:=b1.af A ah;have e02:=E.trans A;have v:=v.af e02 ah;have w:=w.af e02 ah;have hv:=v.len;have hw:=w.len;rw [ax,ax];refine av b1 ((Y.num:Int),()) (ak ?_);refine av b2 ((y.num:Int),()) (ak ?_);refine an ?_ ?_<;>intro f
 ·have f:¬ Y.num=y.num:=by have:¬ (Y.num:Int)=y.num:=(by simpa using f); omega
  refine ⟨?_,e02⟩;unfold nj;rw [Vx f] <;> rfl
 ·have f:Y.num=y.num:=by have:(Y.num:Int)=y.num:=(by simpa using f); omega
  have F:nj Y y=decide (Y.ai=y.ai):=by
   unfold nj;rw [Vw f] <;> rfl
  rw [F];refine av b1 ((O,H,c),()) (ak ?_);refine av b2 ((U,V,d),()) (ak ?_);refine an ?_ ?_<;>intro g
  ·have g:¬ (H:Int)=(V:Int):=by simpa using g
   exact ⟨by rw [Vx (fun e=>by rw [e] at hv; omega)],e02⟩
  ·have g:(H:Int)=(V:Int):=by simpa using g
   refine aY (cs:=fK) (fun z n h'=>∃ (i:Nat),z.2.1=(i:Int)/\i<=Y.ai.length/\n=Y.ai.length-i/\h2=h'/\(Y.ai=y.ai↔Y.ai.drop i=y.ai.drop i)) (false,(0:Int),()) Y.ai.length rfl
    ⟨0,rfl,ad,ad,rfl,Iff.rfl⟩ ?_
   rintro ⟨B,G,⟨⟩⟩ n J ⟨i,hi,C,rfl,rfl,D⟩;simp only at hi;subst hi;refine ak ?_;refine av b1 ((O,H,c),()) (ak ?_);refine aQ ?_ ?_<;>intro g
   ·have j:i<Y.ai.length:=ad
    have k:i<y.ai.length:=ad
    obtain ⟨a,rfl,hc⟩:=v.cells i j;obtain ⟨a',rfl,o⟩:=w.cells i k;have hst:=vB j k;have hno:=zx j k;generalize Y.ai[i]=t at hc hst hno;generalize y.ai[i]=u at o hst hno;refine av b1 ((some a,H,c),()) (ak ?_);refine cC rfl ?_;rw [cX i];refine aC (t.1,(t.2:Int),()) hc (ak ?_);refine av b2 ((some a',V,d),()) (ak ?_);refine cC rfl ?_;refine aC (u.1,(u.2:Int),()) o (ak ?_);refine qv (b:=decide (t≠u)) (fun K hk=>MC _ _ _ _ _ _ _ _ (by rw [Kd]; exact hk)) ?_;refine ⟨⟨b2.cells _ rfl,b1.cells _ rfl,trivial⟩,?_⟩;refine an ?_ ?_<;>intro s
    ·exact ⟨by rw [Vx (hno (Vv s))],e02⟩
    ·have s:t=u:=by simpa using s
     have hw:=lC i;exact aD (cs:=fK) (B,((i+1:Nat):Int),()) (Y.ai.length-(i+1)) rfl ad (VO (fun z=>[Value.bool B,Value.int .i64 z]) hw) ⟨i+1,rfl,ad,rfl,rfl,D.trans (hst s)⟩
   ·refine ⟨?_,e02⟩;rw [Vw (D.2 (by rw [WQ ad,WQ ad]))]
def Cc {P:Program} {L:Lp} {K:XB->Hp->Prop} {h:Hp} {k:XC->Nat->Nat->T} {t e:TypeId} {z:XB} {sz by':Nat} (b:P.underlying t=some (.slice e)) (a:(P.info? e).map (fun i=>(i.zero,i.size,i.bytes))=some (some z,sz,by'))
  (hk:∀ h' ,SL h' h.size e sz (some ⟨h.size,0,none⟩) 0 0 []->Ext h h'->k (some ⟨h.size,0,none⟩) 0 0 L K h'):T.eK P (Instr.buildSlice t 0 #[]) false [(false,[.slice 0])] k L K h:=by
 obtain ⟨i,hi,c,rfl,rfl⟩:=kq a;refine dc ?_;unfold Instr.buildSlice;rw [al,au b];simp only;rw [al,bF hi];simp only [Nat.zero_mul];rw [Vu ad];have h0:∀ f:Nat->XB,Array.map f (Array.range 0)=#[]:=fun f=>ah
 simp only [h0];refine ⟨_,_,_,rfl,hk _ ?_ (Ext.push h _)⟩;exact ⟨rfl,ah,h.size,[],[],rfl,VL _,⟨VL _,ad⟩,by simpa using bm.new h e [],ah⟩
theorem uQ {h:Hp} {a:YA}:∀ (us:dt) (k:Nat),(∀ i,(hi:i<us.length)->aE h (a.add ((k+i)*2)) 0 (cg us[i]))->aE h a (k*2) (us.map cg).flatten
 | [],_,_=>trivial
 | t::us,k,hc=>by
  have h0:=hc 0 ah;obtain ⟨h1,h2,_⟩:=h0;rw [add_add] at h1 h2;have ih:=uQ us (k+1) (fun i hi=>by
   have:=hc (i+1) (by simpa using hi)
   rw [show k+(i+1)=k+1+i from ad] at this;exact this)
  rw [show (k+1)*2=k*2+1+1 from ad] at ih;exact ⟨h1,by simpa using h2,ih⟩
def iW.flat {h:Hp} {a:YA} {us:dt} (v:iW h (some a) H us):aE h a 0 (us.map cg).flatten:=by
 have:=uQ (h:=h) (a:=a) us 0 (fun i hi=>by
  obtain ⟨a',e,hc⟩:=v.cells i hi;cases e;rw [V9];exact hc)
 simpa using this
def yY (us:dt):(us.map cg).flatten.all cO=true:=by
 rw [VT];intro v hv;obtain ⟨x,a,hv⟩:=Xt.1 hv;obtain ⟨t,_,rfl⟩:=Vy.1 a;simp only [cg,List.mem_cons,List.not_mem_nil,or_false] at hv;rcases hv with rfl | rfl <;> rfl
end Go.Sx
namespace Go.Sx.Ob
open Go.Proofs
variable {h':Hp} {e2 e1:TypeId} {sec:Nat}
def _root_.Go.Sx.Ch.st {h a b:Hp} {g:Nat} (e:Ext h a) (k:Ch [g] a b) (c:h.size<=g):Ext h b:=bZ e k
def kr (nm:Nat->XA) (by_:Nat->Int):List XB:=(List.range 43).flatMap fun k=>[.string (nm k),.int .u8 (by_ k),vI (mZ.getD k 0:Nat)]
def AE (h:Hp):Prop:=∃ nm by_ e f,h[0]?=some (.cells (kr nm by_).toArray e f)
def AE.af {ws:List Nat} {h:Hp} (t:AE h) (k:Ch ws h h') (a:0∉ws):AE h':=by
 obtain ⟨nm,by_,e,f,b⟩:=t;exact ⟨nm,by_,e,f,k.get b a⟩
theorem vf {α β:Type} (f:α->List β) (m:Nat) (a:∀ x,(f x).length=m):∀ (l:List α) (i j:Nat),j<m->(l.flatMap f)[i*m+j]?=(l[i]?).bind fun x=>(f x)[j]?
 | [],i,j,b=>ah
 | x::l,0,j,b=>by
  rw [Wh,Wb (by rw [a]; omega)]
  simp
 | x::l,i+1,j,b=>by
  rw [Wh,V8 (by rw [a,Wx]; omega),a,show (i+1)*m+j-m=i*m+j by rw [Wx]; omega,vf f m a l i j b]
  simp
def AE.cells {h:Hp} (t:AE h) {k:Nat} (hk:k<43):∃ (s:XA) (b:Int),aE h ((⟨0,0,none⟩:YA).add (k*3)) 0 [.string s,.int .u8 b,vI (mZ.getD k 0:Nat)]:=by
 obtain ⟨nm,by_,e,f,a⟩:=t;refine ⟨nm k,by_ k,?_⟩;have c:∀ j,j<3->(kr nm by_)[k*3+j]?=([.string (nm k),.int .u8 (by_ k),vI (mZ.getD k 0:Nat)]:List XB)[j]?:=by
  intro j d;unfold kr;rw [vf _ 3 ah _ _ _ d];simp [hk]
 rw [ax];refine ⟨?_,?_,?_,trivial⟩
 ·rw [ax,qg a]
  have:=c 0 ad
  simpa using this
 ·rw [ax,qg a]
  have:=c 1 ad
  simpa using this
 ·rw [ax,qg a]
  have:=c 2 ad
  simpa using this
def Mm {h:Hp} (t:AE h) (op:Int) (h1:-9223372036854775808<=op) (h2:op<=9223372036854775807) :
  HC YC 105 #[vI op] h fun w h'=>∃ (s:XA) (b:Int),w=.tuple #[.agg #[.string s,.int .u8 b,vI (dk op:Nat)],.bool (decide (dk op≠0))]/\Ext h h':=by
 refine aZ (args:=[vI op]) mixed Tryz.func105 aw (EZ op) ?_;unfold DA bf bI ct;refine br ?_;intro l b1 e1 z1;have c:∀ (d:dk op=0),(∃ (s:XA) (b:Int),(Value.tuple #[.agg #[.string ⟨#[]⟩,.int .u8 0,vI 0],.bool false])=.tuple #[.agg #[.string s,.int .u8 b,vI (dk op:Nat)],.bool (decide (dk op≠0))]) :=
  fun d=>⟨⟨#[]⟩,0,by rw [d]; rfl⟩
 refine an ?_ ?_<;>intro q
 ·have q:=Vv q;refine bT b1 ?_;intro f b2 a z2;refine av b2 ((⟨#[]⟩:XA),(0:Int),(0:Int),()) ?_;obtain ⟨s,b,e⟩:=c (by unfold dk; rw [VE q]);exact ⟨s,b,e,bZ e1 a⟩
 refine an ?_ ?_<;>intro r
 ·have r:=Vv r;refine bT b1 ?_;intro f b2 a z2;refine av b2 ((⟨#[]⟩:XA),(0:Int),(0:Int),()) ?_;obtain ⟨s,b,e⟩:=c (by
   by_cases g:dk op=0
   ·exact g
   ·have:=F2 op g
    omega)
  exact ⟨s,b,e,bZ e1 a⟩
 ·have q:=VI q;have r:=VI r;rw [wrap_i64 ad ad];refine fJ ?_;obtain ⟨s,b,hc⟩:=(t.af e1 ah).cells (k:=(op-1).toNat) ad;refine aC (s,b,((mZ.getD (op-1).toNat 0:Nat):Int),()) hc (ak ?_);refine bT b1 ?_;intro f b2 a z2;refine av b2 (s,b,((mZ.getD (op-1).toNat 0:Nat):Int),()) ?_;refine ⟨s,b,?_,bZ e1 a⟩;have i:dk op=mZ.getD (op-1).toNat 0:=by unfold dk; rw [Vu ad]
  have j:dk op≠0:=by
   rw [i]
   have:∀ k:Fin 43,mZ.getD k.1 0≠0:=bJ
   exact this ⟨(op-1).toNat,ad⟩
  rw [Vw j,i]
def Eg {h:Hp} (t:AE h) (op:Int) (h1:-9223372036854775808<=op) (h2:op<=9223372036854775807) :
  HC YC 82 #[vI op] h fun w h'=>w=.bool (rL op)/\Ext h h':=by
 refine aZ (args:=[vI op]) mixed Tryz.func82 aw (yW op) ?_;unfold xD bq dI ct cj;refine aH (Mm t op h1 h2) ?_;rintro _ a ⟨s,b,rfl,e1⟩;refine ⟨(s,b,((dk op:Nat):Int),decide (dk op≠0),()),rfl,ak ?_⟩;refine br ?_;intro e b2 e2 z2;refine bT b2 ?_;intro c b3 d z3;have e3:=(e1.trans e2).st d (by have:=e1.size; omega);have b3:bm c a.size 165 [.string s,.int .u8 b,vI (dk op:Nat)]:=b3;rw [ax];refine av b3 (((dk op:Nat):Int),()) (ak ?_);have hc:=gI op;refine an ?_ ?_<;>intro q
 ·have q:((dk op:Nat):Int)=12:=by simpa using q
  refine ⟨?_,e3⟩;unfold rL;rw [Vw ad]
 ·have q:¬ ((dk op:Nat):Int)=12:=by simpa using q
  refine av b3 (((dk op:Nat):Int),()) ?_;refine ⟨?_,e3⟩;unfold rL
  by_cases r:dk op=13
  ·rw [r]; rfl
  ·rw [Vx ad]
   congr 1
   simp
   omega
def Gl (n:Int):(n==IntKind.wrap .i32 (IntKind.wrap .i8 n))=(decide (-128<=n) && decide (n<=127)):=by
 have h1:IntKind.wrap .i8 n=if n % 256<128 then n % 256 else n % 256-256:=by
  simp only [IntKind.wrap,IntKind.bits,IntKind.signed,Bool.true_and];split <;> rename_i a
  ·have:=Vv a
   rw [Vu ad] <;> rfl
  ·have:¬ _:=fun h=>a (Vw h)
   rw [VE ad] <;> rfl
 have h2:IntKind.wrap .i32 (IntKind.wrap .i8 n)=IntKind.wrap .i8 n:=by
  have:-128<=IntKind.wrap .i8 n/\IntKind.wrap .i8 n<=127:=by rw [h1]; split <;> omega
  generalize IntKind.wrap .i8 n=m at this;simp only [IntKind.wrap,IntKind.bits,IntKind.signed,Bool.true_and];split <;> rename_i a
  ·have:=Vv a; omega
  ·have:¬ _:=fun h=>a (Vw h); omega
 rw [h2,h1]
 by_cases g:-128<=n/\n<=127
 ·rw [Vw g.1,Vw g.2]
  simp
  split <;> omega
 ·have:(decide (-128<=n) && decide (n<=127))=false:=by
   rw [Bool.and_eq_false_iff]
   simp
   omega
  rw [this]
  simp
  split <;> omega
def Ep (n:Int):(n==IntKind.wrap .i32 (IntKind.wrap .i16 n))=(decide (-32768<=n) && decide (n<=32767)):=by
 have h1:IntKind.wrap .i16 n=if n % 65536<32768 then n % 65536 else n % 65536-65536:=by
  simp only [IntKind.wrap,IntKind.bits,IntKind.signed,Bool.true_and];split <;> rename_i a
  ·have:=Vv a
   rw [Vu ad] <;> rfl
  ·have:¬ _:=fun h=>a (Vw h)
   rw [VE ad] <;> rfl
 have h2:IntKind.wrap .i32 (IntKind.wrap .i16 n)=IntKind.wrap .i16 n:=by
  have:-32768<=IntKind.wrap .i16 n/\IntKind.wrap .i16 n<=32767:=by rw [h1]; split <;> omega
  generalize IntKind.wrap .i16 n=m at this;simp only [IntKind.wrap,IntKind.bits,IntKind.signed,Bool.true_and];split <;> rename_i a
  ·have:=Vv a; omega
  ·have:¬ _:=fun h=>a (Vw h); omega
 rw [h2,h1]
 by_cases g:-32768<=n/\n<=32767
 ·rw [Vw g.1,Vw g.2]
  simp
  split <;> omega
 ·have:(decide (-32768<=n) && decide (n<=32767))=false:=by
   rw [Bool.and_eq_false_iff]
   simp
   omega
  rw [this]
  simp
  split <;> omega
def bP (h:Hp) (n f:Int):wA YC 143 [.int .i32 n,vI f] h (.bool (lz n f)):=by
 refine eC mixed Tryz.func143 aw (wK n f) ?_;unfold sC;rw [Gl,Ep];refine an ?_ ?_<;>intro q
 ·have q:f=1:=by simpa using q
  exact ⟨by unfold lz; rw [VE q],rfl⟩
 have q:¬ f=1:=by simpa using q
 refine an ?_ ?_<;>intro r
 ·have r:f=2:=by simpa using r
  exact ⟨by unfold lz; rw [Vu q,VE r],rfl⟩
 have r:¬ f=2:=by simpa using r
 exact ⟨by unfold lz; rw [Vu q,Vu r]; rfl,rfl⟩
def D2 (h:Hp) (n:Int):wA YC 100 [vI n] h (.bool (tM n)):=by
 refine eC mixed Tryz.func100 aw (x8 n) ?_;unfold uR bf bz;have a:¬ (1<=n/\n<=256)->tM n=false:=by
  intro g;cases b:tM n with
  | false=>rfl
  | true =>
   exfalso;unfold tM at b;simp only [Bool.or_eq_true,decide_eq_true_eq] at b;omega
 refine aQ ?_ ?_<;>intro q
 ·refine aQ ?_ ?_<;>intro r
  ·refine ⟨?_,rfl⟩;obtain ⟨k,rfl,hk⟩:∃ k:Nat,n=((k+1:Nat):Int)/\k<256:=⟨(n-1).toNat,ad,ad⟩
   have:∀ k:Fin 256,(IntKind.wrap .i64 (((BitVec.toNat ((BitVec.ofInt 64 ((k.1+1:Nat):Int)) &&& (BitVec.ofInt 64 (IntKind.wrap .i64 (((k.1+1:Nat):Int)-(1:Int)))))):Nat):Int)==(0:Int))=tM ((k.1+1:Nat):Int):=by
    decide +kernel
   rw [this ⟨k,hk⟩]
  ·exact ⟨by rw [a ad],rfl⟩
 ·exact ⟨by rw [a ad],rfl⟩
def cE (h:Hp) (n m:Int):wA YC 142 [vI n,vI m] h (.bool (vO n m)):=by
 refine eC mixed Tryz.func142 aw (zW n m) ?_;unfold xj bz;refine aQ ?_ ?_<;>intro q
 ·refine ⟨?_,rfl⟩;unfold vO;rw [Vw (show 0<=n from ad)] <;> rfl
 ·refine ⟨?_,rfl⟩;unfold vO;rw [Vx (show ¬ 0<=n from ad)] <;> rfl
def de (a b:Int):(a==b)=decide (a=b):=rfl
def dl (op a b n form:Int):XB:=.agg #[vI op,vI a,vI b,.int .i32 n,vI form]
def Mv (h:Hp) (op a b n form:Int):HC YC 127 #[dl op a b n form,vI 1] h fun w h'=>w=.bool (cI 1 a b n)/\Ext h h':=by
 refine aZ (args:=[dl op a b n form,vI 1]) mixed Tryz.func127 aw (pJ op a b n form) ?_;unfold kS bz;refine br ?_;intro c b1 e1 z1
 try simp only [ax]
 repeat' (first
  | (refine bj b1 (_,()) rfl ?_; refine ak ?_)
  | (refine aF (cE _ _ _) ?_)
  | (refine aF (bP _ _ _) ?_)
  | (refine an (fun q=>?_) (fun q=>?_)))
 all_goals (refine ⟨?_,e1⟩; first | (simp_all [cI,de]; done) | (simp_all [cI,de] <;> simp [vO] <;> omega))
def O1 (h:Hp) (op a b n form:Int):HC YC 128 #[dl op a b n form,vI 1] h fun w h'=>w=.bool (nR 1 n form)/\Ext h h':=by
 refine aZ (args:=[dl op a b n form,vI 1]) mixed Tryz.func128 aw (th op a b n form) ?_;unfold pf;refine br ?_;intro c b1 e1 z1
 try simp only [ax]
 repeat' (first
  | (refine bj b1 (_,()) rfl ?_; refine ak ?_)
  | (refine aF (cE _ _ _) ?_)
  | (refine aF (bP _ _ _) ?_)
  | (refine an (fun q=>?_) (fun q=>?_)))
 all_goals (refine ⟨?_,e1⟩; first | (simp_all [nR,de]; done) | (simp_all [nR,de] <;> omega))
def MA (h:Hp) (op a b n form:Int):HC YC 127 #[dl op a b n form,vI 2] h fun w h'=>w=.bool (cI 2 a b n)/\Ext h h':=by
 refine aZ (args:=[dl op a b n form,vI 2]) mixed Tryz.func127 aw (pB op a b n form) ?_;unfold lf aP bz;refine br ?_;intro c b1 e1 z1
 try simp only [ax]
 repeat' (first
  | (refine bj b1 (_,()) rfl ?_; refine ak ?_)
  | (refine aF (cE _ _ _) ?_)
  | (refine aF (bP _ _ _) ?_)
  | (refine an (fun q=>?_) (fun q=>?_)))
 all_goals (refine ⟨?_,e1⟩; first | (simp_all [cI,de]; done) | (simp_all [cI,de] <;> simp [vO] <;> omega))
def O3 (h:Hp) (op a b n form:Int):HC YC 128 #[dl op a b n form,vI 2] h fun w h'=>w=.bool (nR 2 n form)/\Ext h h':=by
 refine aZ (args:=[dl op a b n form,vI 2]) mixed Tryz.func128 aw (sX op a b n form) ?_;unfold pa;refine br ?_;intro c b1 e1 z1
 try simp only [ax]
 repeat' (first
  | (refine bj b1 (_,()) rfl ?_; refine ak ?_)
  | (refine aF (cE _ _ _) ?_)
  | (refine aF (bP _ _ _) ?_)
  | (refine an (fun q=>?_) (fun q=>?_)))
 all_goals (refine ⟨?_,e1⟩; first | (simp_all [nR,de]; done) | (simp_all [nR,de] <;> omega))
def L5 (h:Hp) (op a b n form:Int):HC YC 127 #[dl op a b n form,vI 3] h fun w h'=>w=.bool (cI 3 a b n)/\Ext h h':=by
 refine aZ (args:=[dl op a b n form,vI 3]) mixed Tryz.func127 aw (pN op a b n form) ?_;unfold kJ aP bz;refine br ?_;intro c b1 e1 z1
 try simp only [ax]
 repeat' (first
  | (refine bj b1 (_,()) rfl ?_; refine ak ?_)
  | (refine aF (cE _ _ _) ?_)
  | (refine aF (bP _ _ _) ?_)
  | (refine an (fun q=>?_) (fun q=>?_)))
 all_goals (refine ⟨?_,e1⟩; first | (simp_all [cI,de]; done) | (simp_all [cI,de] <;> simp [vO] <;> omega))
def NI (h:Hp) (op a b n form:Int):HC YC 128 #[dl op a b n form,vI 3] h fun w h'=>w=.bool (nR 3 n form)/\Ext h h':=by
 refine aZ (args:=[dl op a b n form,vI 3]) mixed Tryz.func128 aw (sS op a b n form) ?_;unfold ph;refine br ?_;intro c b1 e1 z1
 try simp only [ax]
 repeat' (first
  | (refine bj b1 (_,()) rfl ?_; refine ak ?_)
  | (refine aF (cE _ _ _) ?_)
  | (refine aF (bP _ _ _) ?_)
  | (refine an (fun q=>?_) (fun q=>?_)))
 all_goals (refine ⟨?_,e1⟩; first | (simp_all [nR,de]; done) | (simp_all [nR,de] <;> omega))
def M4 (h:Hp) (op a b n form:Int):HC YC 127 #[dl op a b n form,vI 4] h fun w h'=>w=.bool (cI 4 a b n)/\Ext h h':=by
 refine aZ (args:=[dl op a b n form,vI 4]) mixed Tryz.func127 aw (pt op a b n form) ?_;unfold kz aP bz;refine br ?_;intro c b1 e1 z1
 try simp only [ax]
 repeat' (first
  | (refine bj b1 (_,()) rfl ?_; refine ak ?_)
  | (refine aF (cE _ _ _) ?_)
  | (refine aF (bP _ _ _) ?_)
  | (refine an (fun q=>?_) (fun q=>?_)))
 all_goals (refine ⟨?_,e1⟩; first | (simp_all [cI,de]; done) | (simp_all [cI,de] <;> simp [vO] <;> omega))
def OA (h:Hp) (op a b n form:Int):HC YC 128 #[dl op a b n form,vI 4] h fun w h'=>w=.bool (nR 4 n form)/\Ext h h':=by
 refine aZ (args:=[dl op a b n form,vI 4]) mixed Tryz.func128 aw (te op a b n form) ?_;unfold pe;refine br ?_;intro c b1 e1 z1
 try simp only [ax]
 repeat' (first
  | (refine bj b1 (_,()) rfl ?_; refine ak ?_)
  | (refine aF (cE _ _ _) ?_)
  | (refine aF (bP _ _ _) ?_)
  | (refine an (fun q=>?_) (fun q=>?_)))
 all_goals (refine ⟨?_,e1⟩; first | (simp_all [nR,de]; done) | (simp_all [nR,de] <;> omega))
def LY (h:Hp) (op a b n form:Int):HC YC 127 #[dl op a b n form,vI 5] h fun w h'=>w=.bool (cI 5 a b n)/\Ext h h':=by
 refine aZ (args:=[dl op a b n form,vI 5]) mixed Tryz.func127 aw (pM op a b n form) ?_;unfold kU aP bz;refine br ?_;intro c b1 e1 z1
 try simp only [ax]
 repeat' (first
  | (refine bj b1 (_,()) rfl ?_; refine ak ?_)
  | (refine aF (cE _ _ _) ?_)
  | (refine aF (bP _ _ _) ?_)
  | (refine an (fun q=>?_) (fun q=>?_)))
 all_goals (refine ⟨?_,e1⟩; first | (simp_all [cI,de]; done) | (simp_all [cI,de] <;> simp [vO] <;> omega))
def N4 (h:Hp) (op a b n form:Int):HC YC 128 #[dl op a b n form,vI 5] h fun w h'=>w=.bool (nR 5 n form)/\Ext h h':=by
 refine aZ (args:=[dl op a b n form,vI 5]) mixed Tryz.func128 aw (sN op a b n form) ?_;unfold o7;refine br ?_;intro c b1 e1 z1
 try simp only [ax]
 repeat' (first
  | (refine bj b1 (_,()) rfl ?_; refine ak ?_)
  | (refine aF (cE _ _ _) ?_)
  | (refine aF (bP _ _ _) ?_)
  | (refine an (fun q=>?_) (fun q=>?_)))
 all_goals (refine ⟨?_,e1⟩; first | (simp_all [nR,de]; done) | (simp_all [nR,de] <;> omega))
def LH (h:Hp) (op a b n form:Int):HC YC 127 #[dl op a b n form,vI 6] h fun w h'=>w=.bool (cI 6 a b n)/\Ext h h':=by
 refine aZ (args:=[dl op a b n form,vI 6]) mixed Tryz.func127 aw (py op a b n form) ?_;unfold kH aP bz;refine br ?_;intro c b1 e1 z1
 try simp only [ax]
 repeat' (first
  | (refine bj b1 (_,()) rfl ?_; refine ak ?_)
  | (refine aF (cE _ _ _) ?_)
  | (refine aF (bP _ _ _) ?_)
  | (refine an (fun q=>?_) (fun q=>?_)))
 all_goals (refine ⟨?_,e1⟩; first | (simp_all [cI,de]; done) | (simp_all [cI,de] <;> simp [vO] <;> omega))
def Ou (h:Hp) (op a b n form:Int):HC YC 128 #[dl op a b n form,vI 6] h fun w h'=>w=.bool (nR 6 n form)/\Ext h h':=by
 refine aZ (args:=[dl op a b n form,vI 6]) mixed Tryz.func128 aw (tF op a b n form) ?_;unfold pj;refine br ?_;intro c b1 e1 z1
 try simp only [ax]
 repeat' (first
  | (refine bj b1 (_,()) rfl ?_; refine ak ?_)
  | (refine aF (cE _ _ _) ?_)
  | (refine aF (bP _ _ _) ?_)
  | (refine an (fun q=>?_) (fun q=>?_)))
 all_goals (refine ⟨?_,e1⟩; first | (simp_all [nR,de]; done) | (simp_all [nR,de] <;> omega))
def KC (h:Hp) (op a b n form:Int):HC YC 127 #[dl op a b n form,vI 7] h fun w h'=>w=.bool (cI 7 a b n)/\Ext h h':=by
 refine aZ (args:=[dl op a b n form,vI 7]) mixed Tryz.func127 aw (pL op a b n form) ?_;unfold kx aP bz;refine br ?_;intro c b1 e1 z1
 try simp only [ax]
 repeat' (first
  | (refine bj b1 (_,()) rfl ?_; refine ak ?_)
  | (refine aF (cE _ _ _) ?_)
  | (refine aF (bP _ _ _) ?_)
  | (refine an (fun q=>?_) (fun q=>?_)))
 all_goals (refine ⟨?_,e1⟩; first | (simp_all [cI,de]; done) | (simp_all [cI,de] <;> simp [vO] <;> omega))
def Pn (h:Hp) (op a b n form:Int):HC YC 128 #[dl op a b n form,vI 7] h fun w h'=>w=.bool (nR 7 n form)/\Ext h h':=by
 refine aZ (args:=[dl op a b n form,vI 7]) mixed Tryz.func128 aw (tH op a b n form) ?_;unfold pr;refine br ?_;intro c b1 e1 z1
 try simp only [ax]
 repeat' (first
  | (refine bj b1 (_,()) rfl ?_; refine ak ?_)
  | (refine aF (cE _ _ _) ?_)
  | (refine aF (bP _ _ _) ?_)
  | (refine an (fun q=>?_) (fun q=>?_)))
 all_goals (refine ⟨?_,e1⟩; first | (simp_all [nR,de]; done) | (simp_all [nR,de] <;> omega))
def Lo (h:Hp) (op a b n form:Int):HC YC 127 #[dl op a b n form,vI 8] h fun w h'=>w=.bool (cI 8 a b n)/\Ext h h':=by
 refine aZ (args:=[dl op a b n form,vI 8]) mixed Tryz.func127 aw (pO op a b n form) ?_;unfold kC aP bz;refine br ?_;intro c b1 e1 z1
 try simp only [ax]
 repeat' (first
  | (refine bj b1 (_,()) rfl ?_; refine ak ?_)
  | (refine aF (cE _ _ _) ?_)
  | (refine aF (bP _ _ _) ?_)
  | (refine an (fun q=>?_) (fun q=>?_)))
 all_goals (refine ⟨?_,e1⟩; first | (simp_all [cI,de]; done) | (simp_all [cI,de] <;> simp [vO] <;> omega))
def Pa (h:Hp) (op a b n form:Int):HC YC 128 #[dl op a b n form,vI 8] h fun w h'=>w=.bool (nR 8 n form)/\Ext h h':=by
 refine aZ (args:=[dl op a b n form,vI 8]) mixed Tryz.func128 aw (tn op a b n form) ?_;unfold pn aP;refine br ?_;intro c b1 e1 z1
 try simp only [ax]
 repeat' (first
  | (refine bj b1 (_,()) rfl ?_; refine ak ?_)
  | (refine aF (cE _ _ _) ?_)
  | (refine aF (bP _ _ _) ?_)
  | (refine an (fun q=>?_) (fun q=>?_)))
 all_goals (refine ⟨?_,e1⟩; first | (simp_all [nR,de]; done) | (simp_all [nR,de] <;> omega))
def Nh (h:Hp) (op a b n form:Int):HC YC 127 #[dl op a b n form,vI 9] h fun w h'=>w=.bool (cI 9 a b n)/\Ext h h':=by
 refine aZ (args:=[dl op a b n form,vI 9]) mixed Tryz.func127 aw (px op a b n form) ?_;unfold kP bz;refine br ?_;intro c b1 e1 z1
 try simp only [ax]
 repeat' (first
  | (refine bj b1 (_,()) rfl ?_; refine ak ?_)
  | (refine aF (cE _ _ _) ?_)
  | (refine aF (bP _ _ _) ?_)
  | (refine an (fun q=>?_) (fun q=>?_)))
 all_goals (refine ⟨?_,e1⟩; first | (simp_all [cI,de]; done) | (simp_all [cI,de] <;> simp [vO] <;> omega))
def Oi (h:Hp) (op a b n form:Int):HC YC 128 #[dl op a b n form,vI 9] h fun w h'=>w=.bool (nR 9 n form)/\Ext h h':=by
 refine aZ (args:=[dl op a b n form,vI 9]) mixed Tryz.func128 aw (sT op a b n form) ?_;unfold o6 bz;refine br ?_;intro c b1 e1 z1
 try simp only [ax]
 repeat' (first
  | (refine bj b1 (_,()) rfl ?_; refine ak ?_)
  | (refine aF (cE _ _ _) ?_)
  | (refine aF (bP _ _ _) ?_)
  | (refine an (fun q=>?_) (fun q=>?_)))
 all_goals (refine ⟨?_,e1⟩; first | (simp_all [nR,de]; done) | (simp_all [nR,de] <;> omega))
def Jn (h:Hp) (op a b n form:Int):HC YC 127 #[dl op a b n form,vI 10] h fun w h'=>w=.bool (cI 10 a b n)/\Ext h h':=by
 refine aZ (args:=[dl op a b n form,vI 10]) mixed Tryz.func127 aw (oQ op a b n form) ?_;unfold jS aP bz;refine br ?_;intro c b1 e1 z1
 try simp only [ax]
 repeat' (first
  | (refine bj b1 (_,()) rfl ?_; refine ak ?_)
  | (refine aF (cE _ _ _) ?_)
  | (refine aF (bP _ _ _) ?_)
  | (refine an (fun q=>?_) (fun q=>?_)))
 all_goals (refine ⟨?_,e1⟩; first | (simp_all [cI,de]; done) | (simp_all [cI,de] <;> simp [vO] <;> omega))
def L4 (h:Hp) (op a b n form:Int):HC YC 128 #[dl op a b n form,vI 10] h fun w h'=>w=.bool (nR 10 n form)/\Ext h h':=by
 refine aZ (args:=[dl op a b n form,vI 10]) mixed Tryz.func128 aw (rX op a b n form) ?_;unfold nE;refine br ?_;intro c b1 e1 z1
 try simp only [ax]
 repeat' (first
  | (refine bj b1 (_,()) rfl ?_; refine ak ?_)
  | (refine aF (cE _ _ _) ?_)
  | (refine aF (bP _ _ _) ?_)
  | (refine an (fun q=>?_) (fun q=>?_)))
 all_goals (refine ⟨?_,e1⟩; first | (simp_all [nR,de]; done) | (simp_all [nR,de] <;> omega))
def Iq (h:Hp) (op a b n form:Int):HC YC 127 #[dl op a b n form,vI 11] h fun w h'=>w=.bool (cI 11 a b n)/\Ext h h':=by
 refine aZ (args:=[dl op a b n form,vI 11]) mixed Tryz.func127 aw (ox op a b n form) ?_;unfold jW aP bz;refine br ?_;intro c b1 e1 z1
 try simp only [ax]
 repeat' (first
  | (refine bj b1 (_,()) rfl ?_; refine ak ?_)
  | (refine aF (cE _ _ _) ?_)
  | (refine aF (bP _ _ _) ?_)
  | (refine an (fun q=>?_) (fun q=>?_)))
 all_goals (refine ⟨?_,e1⟩; first | (simp_all [cI,de]; done) | (simp_all [cI,de] <;> simp [vO] <;> omega))
def JR (h:Hp) (op a b n form:Int):HC YC 128 #[dl op a b n form,vI 11] h fun w h'=>w=.bool (nR 11 n form)/\Ext h h':=by
 refine aZ (args:=[dl op a b n form,vI 11]) mixed Tryz.func128 aw (rT op a b n form) ?_;unfold nL bz;refine br ?_;intro c b1 e1 z1
 try simp only [ax]
 repeat' (first
  | (refine bj b1 (_,()) rfl ?_; refine ak ?_)
  | (refine aF (cE _ _ _) ?_)
  | (refine aF (bP _ _ _) ?_)
  | (refine an (fun q=>?_) (fun q=>?_)))
 all_goals (refine ⟨?_,e1⟩; first | (simp_all [nR,de]; done) | (simp_all [nR,de] <;> omega))
def II (h:Hp) (op a b n form:Int):HC YC 127 #[dl op a b n form,vI 12] h fun w h'=>w=.bool (cI 12 a b n)/\Ext h h':=by
 refine aZ (args:=[dl op a b n form,vI 12]) mixed Tryz.func127 aw (oc op a b n form) ?_;unfold jV bz;refine br ?_;intro c b1 e1 z1
 try simp only [ax]
 repeat' (first
  | (refine bj b1 (_,()) rfl ?_; refine ak ?_)
  | (refine aF (cE _ _ _) ?_)
  | (refine aF (bP _ _ _) ?_)
  | (refine an (fun q=>?_) (fun q=>?_)))
 all_goals (refine ⟨?_,e1⟩; first | (simp_all [cI,de]; done) | (simp_all [cI,de] <;> simp [vO] <;> omega))
def M' (h:Hp) (op a b n form:Int):HC YC 128 #[dl op a b n form,vI 12] h fun w h'=>w=.bool (nR 12 n form)/\Ext h h':=by
 refine aZ (args:=[dl op a b n form,vI 12]) mixed Tryz.func128 aw (rP op a b n form) ?_;unfold nq aP;refine br ?_;intro c b1 e1 z1
 try simp only [ax]
 repeat' (first
  | (refine bj b1 (_,()) rfl ?_; refine ak ?_)
  | (refine aF (cE _ _ _) ?_)
  | (refine aF (bP _ _ _) ?_)
  | (refine an (fun q=>?_) (fun q=>?_)))
 all_goals (refine ⟨?_,e1⟩; first | (simp_all [nR,de]; done) | (simp_all [nR,de] <;> omega))
def IK (h:Hp) (op a b n form:Int):HC YC 127 #[dl op a b n form,vI 13] h fun w h'=>w=.bool (cI 13 a b n)/\Ext h h':=by
 refine aZ (args:=[dl op a b n form,vI 13]) mixed Tryz.func127 aw (oD op a b n form) ?_;unfold j3 aP bz;refine br ?_;intro c b1 e1 z1
 try simp only [ax]
 repeat' (first
  | (refine bj b1 (_,()) rfl ?_; refine ak ?_)
  | (refine aF (cE _ _ _) ?_)
  | (refine aF (bP _ _ _) ?_)
  | (refine an (fun q=>?_) (fun q=>?_)))
 all_goals (refine ⟨?_,e1⟩; first | (simp_all [cI,de]; done) | (simp_all [cI,de] <;> simp [vO] <;> omega))
def L9 (h:Hp) (op a b n form:Int):HC YC 128 #[dl op a b n form,vI 13] h fun w h'=>w=.bool (nR 13 n form)/\Ext h h':=by
 refine aZ (args:=[dl op a b n form,vI 13]) mixed Tryz.func128 aw (rQ op a b n form) ?_;unfold mU aP;refine br ?_;intro c b1 e1 z1
 try simp only [ax]
 repeat' (first
  | (refine bj b1 (_,()) rfl ?_; refine ak ?_)
  | (refine aF (cE _ _ _) ?_)
  | (refine aF (bP _ _ _) ?_)
  | (refine an (fun q=>?_) (fun q=>?_)))
 all_goals (refine ⟨?_,e1⟩; first | (simp_all [nR,de]; done) | (simp_all [nR,de] <;> omega))
def CX (h:Hp) (op a b n form:Int) {s:Nat} (h1:1<=s) (h2:s<=13):HC YC 127 #[dl op a b n form,vI s] h fun w h'=>w=.bool (cI s a b n)/\Ext h h':=by
 have c:s=1\/s=2\/s=3\/s=4\/s=5\/s=6\/s=7\/s=8\/s=9\/s=10\/s=11\/s=12\/s=13:=ad
 clear h1 h2;rcases c with rfl | rfl | rfl | rfl | rfl | rfl | rfl | rfl | rfl | rfl | rfl | rfl | rfl
 ·exact Mv h op a b n form
 ·exact MA h op a b n form
 ·exact L5 h op a b n form
 ·exact M4 h op a b n form
 ·exact LY h op a b n form
 ·exact LH h op a b n form
 ·exact KC h op a b n form
 ·exact Lo h op a b n form
 ·exact Nh h op a b n form
 ·exact Jn h op a b n form
 ·exact Iq h op a b n form
 ·exact II h op a b n form
 ·exact IK h op a b n form
def Bd (h:Hp) (op a b n form:Int) {s:Nat} (h1:1<=s) (h2:s<=13):HC YC 128 #[dl op a b n form,vI s] h fun w h'=>w=.bool (nR s n form)/\Ext h h':=by
 have c:s=1\/s=2\/s=3\/s=4\/s=5\/s=6\/s=7\/s=8\/s=9\/s=10\/s=11\/s=12\/s=13:=ad
 clear h1 h2;rcases c with rfl | rfl | rfl | rfl | rfl | rfl | rfl | rfl | rfl | rfl | rfl | rfl | rfl
 ·exact O1 h op a b n form
 ·exact O3 h op a b n form
 ·exact NI h op a b n form
 ·exact OA h op a b n form
 ·exact N4 h op a b n form
 ·exact Ou h op a b n form
 ·exact Pn h op a b n form
 ·exact Pa h op a b n form
 ·exact Oi h op a b n form
 ·exact L4 h op a b n form
 ·exact JR h op a b n form
 ·exact M' h op a b n form
 ·exact L9 h op a b n form
def Sm (n:Int):Prop:=-9223372036854775808<=n/\n<=9223372036854775807
def Eb {h:Hp} (t:AE h) (op a b n form:Int) (d:Sm op) :
  HC YC 118 #[dl op a b n form] h fun w h'=>w=vI (fW ⟨op,a,b,n,form⟩)/\Ext h h':=by
 refine aZ (args:=[dl op a b n form]) mixed Tryz.func118 aw (zq op a b n form) ?_;unfold xK aP bq ct cj;refine br ?_;intro o b1 e1 z1;refine av b1 (op,()) (ak ?_);refine aH (Mm (t.af e1 ah) op d.1 d.2) ?_;rintro _ l ⟨s,y,rfl,e2⟩;refine ⟨(s,y,((dk op:Nat):Int),decide (dk op≠0),()),rfl,ak ?_⟩;refine br ?_;intro u b3 g z3;refine bT b3 ?_;intro i b4 j z4;have b4:bm i l.size 165 [.string s,.int .u8 y,vI (dk op:Nat)]:=b4;have e4:=((e1.trans e2).trans g).st j (by have:=e1.size; have:=e2.size; omega);have b1:=b1.af ((e2.trans g).st j (by have:=e2.size; omega)) ah;unfold fW;simp only [ax];refine an ?_ ?_<;>intro q
 ·have q:dk op=0:=by simpa using q
  exact ⟨by rw [VE q],e4⟩
 have q:¬ dk op=0:=by simpa using q
 rw [Vu q];refine av b1 (op,a,b,n,form,()) (ak ?_);refine av b4 (((dk op:Nat):Int),()) (ak ?_);have hs:=gI op;refine aH (CX i op a b n form (s:=dk op) ad ad) ?_;rintro _ x ⟨rfl,e⟩;refine ⟨(cI (dk op) a b n,()),rfl,ak ?_⟩;have e45:=e4.trans e;refine an ?_ ?_<;>intro q
 ·have q:cI (dk op) a b n=false:=by simpa using q
  exact ⟨by rw [VE q],e45⟩
 have q:cI (dk op) a b n=true:=by simpa using q
 rw [Vu (by rw [q]; simp)];have b1:=b1.af e ah;have b4:=b4.af e ah;refine av b1 (op,()) (ak ?_);refine aH (Eg (t.af e45 ah) op d.1 d.2) ?_;rintro _ k ⟨rfl,f⟩;refine ⟨(rL op,()),rfl,ak ?_⟩;have e46:=e45.trans f;have b1:=b1.af f ah;have b4:=b4.af f ah;refine an ?_ ?_<;>intro q
 ·have q:rL op=false:=by simpa using q
  refine av b1 (form,()) (ak ?_);refine an ?_ ?_<;>intro r
  ·have r:¬ form=0:=by simpa using r
   exact ⟨by rw [q]; simp [r],e46⟩
  have r:form=0:=by simpa using r
  refine av b1 (op,a,b,n,form,()) (ak ?_);refine av b4 (((dk op:Nat):Int),()) (ak ?_);refine aH (Bd k op a b n form (s:=dk op) ad ad) ?_;rintro _ m ⟨rfl,c⟩;refine ⟨(nR (dk op) n form,()),rfl,ak ?_⟩;refine an ?_ ?_<;>intro p
  ·exact ⟨by rw [q]; simp_all,e46.trans c⟩
  ·exact ⟨by rw [q]; simp_all,e46.trans c⟩
 ·have q:rL op=true:=by simpa using q
  refine av b1 (op,a,b,n,form,()) (ak ?_);refine av b4 (((dk op:Nat):Int),()) (ak ?_);refine aH (Bd k op a b n form (s:=dk op) ad ad) ?_;rintro _ m ⟨rfl,c⟩;refine ⟨(nR (dk op) n form,()),rfl,ak ?_⟩;refine an ?_ ?_<;>intro p
  ·exact ⟨by rw [q]; simp_all,e46.trans c⟩
  ·exact ⟨by rw [q]; simp_all,e46.trans c⟩
def encI (p:XC) (l c:Nat) (x:cv):List XB:=[vI x.kind,.string x.name,vI x.inst.op,vI x.inst.a,vI x.inst.b,.int .i32 x.inst.n,vI x.inst.form,.slice p l c,.int .u32 x.e.num,vI x.n]
def pK (p:XC) (l c:Nat) (x:cv):XB:=.agg (encI p l c x).toArray
structure nH (h:Hp) (p:XC) (l:Nat) (x:cL):Prop where
 vw:iW h p l x.ai
 many:x.ai.length<=2^60
 names:∀ t,t∈x.ai->t.1.size<=maxLen
def nH.af {h:Hp} {p:XC} {l:Nat} {x:cL} (v:nH h p l x) (k:Ext h h'):nH h' p l x:=⟨v.vw.af k ah,v.many,v.names⟩
def iW.none (h:Hp):iW h none 0 []:=⟨rfl,fun i hi=>absurd hi ah⟩
def qE (x:cL):nj x D9=Io x:=by
 unfold nj Io D9;rw [Bool.and_comm]
def Hm (g k:Nat):T :=
 T.ae ⟨g,5,none⟩ [.int .i32] <| fun (a:Int) =>
 cond (a==(0:Int))
  (T.ae ⟨k,0,none⟩ [.int .i64,.int .i64,.int .i64,.int .i32,.int .i64] <| fun (b c d e f:Int) =>
  bq 118 [.agg #[vI b,vI c,vI d,.int .i32 e,vI f]] false [aK] <| fun (h:Int) =>
  cond (h==(0:Int))
  (T.ae ⟨g,7,none⟩ [.slice 66,.int .u32] <| fun (i:XC) (j l:Nat) (m:Int) =>
  bq 80 [.agg #[.slice i j l,ar m]] false [cj] <| fun (n:Bool) =>
  T.ret (.bool n))
  bz)
  bz
def Kh (g k:Nat):T :=
 T.ae ⟨k,0,none⟩ [.int .i64,.int .i64,.int .i64,.int .i32,.int .i64] <| fun (a b c d e:Int) =>
 bq 118 [.agg #[vI a,vI b,vI c,.int .i32 d,vI e]] false [aK] <| fun (f:Int) =>
 cond (f==(0:Int))
  (T.ae ⟨g,7,none⟩ [.slice 66,.int .u32] <| fun (h:XC) (i j:Nat) (l:Int) =>
  bq 101 [.agg #[.slice h i j,ar l],.agg #[aM,ar (0:Int)]] false [cj] <| fun (m:Bool) =>
  T.ret (.bool m))
  bz
def nK (i:Ins):List XB:=[vI i.op,vI i.a,vI i.b,.int .i32 i.n,vI i.form]
variable {H:cv} {I:XC} {O:Ins}
def D4 {L:Lp} {h0 h:Hp} (t:AE h) {l c g k:Nat} (b1:bm h g e1 (encI I l c H)) (b2:bm h k e2 (nK O)) (v:nH h I l H.e) (d:Sm O.op) (e:Ext h0 h) :
  Hm g k L (fun w h'=>w=.bool (decide (H.inst.n=0) && decide (fW O=0) && lB none H.e.ai)/\Ext h0 h') h:=by
 unfold Hm bq ar bz aK cj;refine av b1 (H.inst.n,()) (ak ?_);refine an ?_ ?_<;>intro q
 ·have q:H.inst.n=0:=by simpa using q
  refine av b2 (O.op,O.a,O.b,O.n,O.form,()) (ak ?_);refine aH (Eb t O.op O.a O.b O.n O.form d) ?_;rintro _ j ⟨rfl,e2⟩;refine ⟨(fW O,()),rfl,ak ?_⟩;refine an ?_ ?_<;>intro r
  ·have r:fW O=0:=by simpa using r
   refine av (b1.af e2 ah) ((I,l,c),(H.e.num:Int),()) (ak ?_);refine aH (ti (c:=c) (v.af e2).vw (by have:=v.many; omega) v.names) ?_;rintro _ m ⟨rfl,f⟩;refine ⟨(lB none H.e.ai,()),rfl,?_⟩;exact ⟨by rw [Vw q,Vw r]; rfl,(e.trans e2).trans f⟩
  ·have r:¬ fW O=0:=by simpa using r
   exact ⟨by rw [Vx r,Xo]; rfl,e.trans e2⟩
 ·have q:¬ H.inst.n=0:=by simpa using q
  exact ⟨by rw [Vx q]; rfl,e⟩
def Ki {L:Lp} {h0 h:Hp} (t:AE h) {l c g k:Nat} (b1:bm h g e1 (encI I l c H)) (b2:bm h k e2 (nK O)) (v:nH h I l H.e) (f:Sm O.op) (e:Ext h0 h) :
  Kh g k L (fun w h'=>w=.bool (decide (fW O=0) && Io H.e)/\Ext h0 h') h:=by
 unfold Kh bq ar bz aM aK cj;refine av b2 (O.op,O.a,O.b,O.n,O.form,()) (ak ?_);refine aH (Eb t O.op O.a O.b O.n O.form f) ?_;rintro _ j ⟨rfl,e2⟩;refine ⟨(fW O,()),rfl,ak ?_⟩;refine an ?_ ?_<;>intro r
 ·have r:fW O=0:=by simpa using r
  refine av (b1.af e2 ah) ((I,l,c),(H.e.num:Int),()) (ak ?_);refine aH (AH (c:=c) (d:=0) (y:=D9) (v.af e2).vw (iW.none j) v.many) ?_;rintro _ o ⟨rfl,m⟩;refine ⟨(nj H.e D9,()),rfl,?_⟩;exact ⟨by rw [Vw r,qE]; rfl,(e.trans e2).trans m⟩
 ·have r:¬ fW O=0:=by simpa using r
  exact ⟨by rw [Vx r]; rfl,e.trans e2⟩
def instruction_hc {h:Hp} (t:AE h) {l c:Nat} (v:nH h I l H.e) (m:Sm H.inst.op) :
  HC YC 99 #[pK I l c H] h fun w h'=>w=.bool (tV H.inst H.e)/\Ext h h':=by
 refine aZ (args:=[pK I l c H]) mixed Tryz.func99 aw (pC H.kind H.name H.inst.op H.inst.a H.inst.b H.inst.n H.inst.form I l c H.e.num H.n) ?_;unfold kX aP dh bq ar bz aM ct cj;refine br ?_;intro J b1 e1 z1;have b1:bm J h.size 64 (encI I l c H):=b1;simp only [ax];refine av b1 (H.inst.op,()) (ak ?_);refine aH (Mm (t.af e1 ah) H.inst.op m.1 m.2) ?_;rintro _ K ⟨s,y,rfl,e2⟩;refine ⟨(s,y,((dk H.inst.op:Nat):Int),decide (dk H.inst.op≠0),()),rfl,ak ?_⟩;refine br ?_;intro V b3 M z3;refine bT b3 ?_;intro g b4 N z4;have b4:bm g K.size 165 [.string s,.int .u8 y,vI (dk H.inst.op:Nat)]:=b4;have s1:=e1.size;have s2:=e2.size;have e14:=(e2.trans M).st N ad;have e4:=e1.trans e14;have b1:=b1.af e14 ah;unfold tV;refine an ?_ ?_<;>intro q
 ·have q:dk H.inst.op=0:=by simpa using q
  exact ⟨by rw [q]; rfl,e4⟩
 have q:dk H.inst.op≠0:=by simpa using q
 rw [Vw q,VZ];refine av b1 (H.inst.form,()) (ak ?_);refine an ?_ ?_<;>intro r
 ·have r:¬ H.inst.form=0:=by simpa using r
  exact ⟨by rw [Vx r]; rfl,e4⟩
 have r:H.inst.form=0:=by simpa using r
 rw [Vw r,VZ];refine av b1 (H.inst.op,H.inst.a,H.inst.b,H.inst.n,H.inst.form,()) (ak ?_);refine br ?_;intro W O P X;refine bT O ?_;intro g6 o Q Y;have o:bm g6 g.size 62 (nK H.inst):=o;have e46:=P.st Q ad;have e6:=e4.trans e46;have b1:=b1.af e46 ah;have b4:=b4.af e46 ah;simp only [ax];have hs:=gI H.inst.op;refine av b4 (((dk H.inst.op:Nat):Int),()) (ak ?_);generalize i:(if Fb H.inst.op=true then decide (H.inst.n=0) && decide (fW { H.inst with form:=if rL H.inst.op=true then 1 else 0 }=0) && lB none H.e.ai else decide (fW H.inst=0) && Io H.e)=B;have R:{ H.inst with form:=0 }=H.inst:=by
  rcases S:H.inst with ⟨Z,a2,a3,a4,a5⟩
  rw [S] at r;simp only at r;rw [r]
 have E:12<=dk H.inst.op->T.ao ⟨g.size,4,none⟩ [vI 1] (Hm h.size g.size) [] (fun w h'=>w=.bool B/\Ext h h') g6:=by
  intro z;refine cr o rfl (by simp [nK]) ?_;intro g7 A F z7;have A:bm g7 g.size 62 (nK { H.inst with form:=1 }):=A;have C:Ext g g7:=e46.st F ad;have e7:=e4.trans C;have u:Fb H.inst.op=true:=Vw ad;have D:rL H.inst.op=true:=Vw z;rw [VE u,VE D] at i
  have:=D4 (L:=[]) (h0:=h) (t.af e7 ah) (b1.af F (by simp; omega)) A (v.af e7) m e7
  rw [i] at this;exact this
 have G:dk H.inst.op=10\/dk H.inst.op=11->Hm h.size g.size [] (fun w h'=>w=.bool B/\Ext h h') g6:=by
  intro z;have u:Fb H.inst.op=true:=Vw ad;have D:¬ rL H.inst.op=true:=by unfold rL; rw [Vx ad]; simp
  rw [VE u,Vu D,R] at i
  have:=D4 (L:=[]) (h0:=h) (t.af e6 ah) b1 o (v.af e6) m e6
  rw [i] at this;exact this
 have U:dk H.inst.op<10->Kh h.size g.size [] (fun w h'=>w=.bool B/\Ext h h') g6:=by
  intro z;have u:¬ Fb H.inst.op=true:=by unfold Fb; rw [Vx ad]; simp
  rw [Vu u] at i
  have:=Ki (L:=[]) (h0:=h) (t.af e6 ah) b1 o (v.af e6) m e6
  rw [i] at this;exact this
 clear i;refine an ?_ ?_<;>intro j
 ·have j:((dk H.inst.op:Nat):Int)=12:=by simpa using j
  refine an (fun d=>E ad) (fun d=>?_);have d:¬ ((dk H.inst.op:Nat):Int)=12:=by simpa using d
  exact absurd j d
 have j:¬ ((dk H.inst.op:Nat):Int)=12:=by simpa using j
 refine an ?_ ?_<;>intro d
 ·have d:((dk H.inst.op:Nat):Int)=13:=by simpa using d
  exact E ad
 have d:¬ ((dk H.inst.op:Nat):Int)=13:=by simpa using d
 refine an ?_ ?_<;>intro k
 ·have k:((dk H.inst.op:Nat):Int)=10:=by simpa using k
  refine an (fun d=>G ad) (fun f=>?_);have f:¬ ((dk H.inst.op:Nat):Int)=10:=by simpa using f
  exact absurd k f
 have k:¬ ((dk H.inst.op:Nat):Int)=10:=by simpa using k
 refine an ?_ ?_<;>intro f
 ·have f:((dk H.inst.op:Nat):Int)=11:=by simpa using f
  exact G ad
 have f:¬ ((dk H.inst.op:Nat):Int)=11:=by simpa using f
 exact U ad
structure lZ (h:Hp) (p:XC) (l:Nat) (x:cv):Prop where
 di:nH h p l x.e
 name:x.name.size<=maxLen
 op:Sm x.inst.op
def lZ.af {h:Hp} {p:XC} {l:Nat} {x:cv} (v:lZ h p l x) (k:Ext h h'):lZ h' p l x:=⟨v.di.af k,v.name,v.op⟩
def j2 (x y:cv):Bool:=decide (x.name=y.name) && decide (x.inst=y.inst) && decide (x.n=y.n) && nj x.e y.e
def PY:Tryz.prog.underlying 62=some (.struct (Di YC 62)):=aw
def QQ (x y:Operand) (i j:Ins) (h:Hp) (K:XB->Hp->Prop) (hk:K (.bool !(decide (i=j))) h) :
  aI YC (Sx.j6 (BinOp.neq) 62 x y (.agg (nK i).toArray) (.agg (nK j).toArray)) h K:=by
 refine yD PY aw aw aw K ?_;have c:(Di YC 62).all (GX (nK i).toArray (nK j).toArray)=(i.op==j.op && (i.a==j.a && (i.b==j.b && (i.n==j.n && (i.form==j.form && true))))):=by
  rw [<- WK]
  kernel_rfl
 rw [c,WL]
 have:(i.op==j.op && (i.a==j.a && (i.b==j.b && (i.n==j.n && i.form==j.form))))=decide (i=j):=by
  rcases i with ⟨d,e,f,g,k⟩
  rcases j with ⟨c1,l,c3,m,c5⟩
  simp only [de,Ins.mk.injEq]
  by_cases h1:d=c1 <;> by_cases h2:e=l <;> by_cases o:f=c3 <;> by_cases p:g=m <;> by_cases q:k=c5 <;> simp [h1,h2,o,p,q]
 rw [this];exact hk
def UP (g k:Nat):T :=
 T.ae ⟨g,1,none⟩ [.string] <| fun (z:XA) =>
 T.ae ⟨k,1,none⟩ [.string] <| fun (A:XA) =>
 cond (!((ByteArray.toList z)==(ByteArray.toList A)))
  (T.ret (vI (31:Int)))
  (T.ae ⟨g,2,none⟩ [.int .i64,.int .i64,.int .i64,.int .i32,.int .i64] <| fun (a b c d e:Int) =>
  T.ae ⟨k,2,none⟩ [.int .i64,.int .i64,.int .i64,.int .i32,.int .i64] <| fun (f h i j l:Int) =>
  bR (Sx.j6 (BinOp.neq) 62 (Operand.tmp 109) (Operand.tmp 111) (.agg #[vI a,vI b,vI c,.int .i32 d,vI e]) (.agg #[vI f,vI h,vI i,.int .i32 j,vI l])) false [cj] <| fun (m:Bool) =>
  cond m
  (T.ret (vI (31:Int)))
  (T.ae ⟨g,9,none⟩ [.int .i64] <| fun (n:Int) =>
  T.ae ⟨k,9,none⟩ [.int .i64] <| fun (o:Int) =>
  cond (n != o)
   (T.ret (vI (31:Int)))
   (T.ae ⟨g,7,none⟩ [.slice 66,.int .u32] <| fun (p:XC) (q r:Nat) (s:Int) =>
   T.ae ⟨k,7,none⟩ [.slice 66,.int .u32] <| fun (t:XC) (u w:Nat) (x:Int) =>
   bq 101 [.agg #[.slice p q r,ar s],.agg #[.slice t u w,ar x]] false [cj] <| fun (y:Bool) =>
   cond (!y)
   (T.ret (vI (31:Int)))
   (T.ret (vI (0:Int))))))
def CH (b:Bool):XB:=vI (if b then 0 else 31)
def oy {L:Lp} {h0 h:Hp} {y:cv} {q:XC} {l c m d g k:Nat} (b1:bm h g e1 (encI I l c H)) (b2:bm h k e2 (encI q m d y)) (v:nH h I l H.e) (w:iW h q m y.e.ai) (e:Ext h0 h) :
  UP g k L (fun w h'=>w=CH (j2 H y)/\Ext h0 h') h:=by
 unfold UP j2 bq bR ar cj;refine av b1 (H.name,()) (ak ?_);refine av b2 (y.name,()) (ak ?_);rw [ByteArray.toList_eq,ByteArray.toList_eq];refine an ?_ ?_<;>intro r
 ·have r:¬ H.name=y.name:=fun i=>by rw [i] at r; simp at r
  exact ⟨by rw [Vx r]; rfl,e⟩
 have r:H.name=y.name:=BR (by simpa using r);rw [Vw r,VZ];refine av b1 (H.inst.op,H.inst.a,H.inst.b,H.inst.n,H.inst.form,()) (ak ?_);refine av b2 (y.inst.op,y.inst.a,y.inst.b,y.inst.n,y.inst.form,()) (ak ?_);refine qv (fun j o=>QQ _ _ H.inst y.inst h j o) ?_;refine an ?_ ?_<;>intro r
 ·have r:¬ H.inst=y.inst:=by simpa using r
  exact ⟨by rw [Vx r]; rfl,e⟩
 have r:H.inst=y.inst:=by simpa using r
 rw [Vw r,VZ];refine av b1 (H.n,()) (ak ?_);refine av b2 (y.n,()) (ak ?_);refine an ?_ ?_<;>intro r
 ·have r:¬ H.n=y.n:=by simpa using r
  exact ⟨by rw [Vx r]; rfl,e⟩
 have r:H.n=y.n:=by simpa using r
 rw [Vw r,VZ];refine av b1 ((I,l,c),(H.e.num:Int),()) (ak ?_);refine av b2 ((q,m,d),(y.e.num:Int),()) (ak ?_);refine aH (AH (c:=c) (d:=d) v.vw w v.many) ?_;rintro _ s ⟨rfl,f⟩;refine ⟨(nj H.e y.e,()),rfl,ak ?_⟩;refine an ?_ ?_<;>intro r
 ·have r:nj H.e y.e=false:=by simpa using r
  exact ⟨by rw [r]; rfl,e.trans f⟩
 ·have r:nj H.e y.e=true:=by simpa using r
  exact ⟨by rw [r]; rfl,e.trans f⟩
def tG (x:cL):nj x x=true:=Ir x
def Cn (hk:H.kind=1):bY H sec=(cn H.name.data.toList && j2 H { ez H.kind with name:=H.name }):=by
 unfold bY j2;simp only [hk,ez,tG,qE,z1,z2,z3,z4];simp (decide:=true) only [if_true,if_false,Xw,VZ,WL]
 try simp only [Bool.and_assoc,Bool.and_comm,Bool.and_left_comm]
def Mq (hk:H.kind=2):bY H sec=(decide (sec=0) && tV H.inst H.e && j2 H { ez H.kind with inst:=H.inst,e:=H.e }):=by
 unfold bY j2;simp only [hk,ez,tG,qE,z1,z2,z3,z4];simp (decide:=true) only [if_true,if_false,Xw,VZ,WL]
 try simp only [Bool.and_assoc,Bool.and_comm,Bool.and_left_comm]
def K5 (hk:H.kind=3):bY H sec=(tM H.n && j2 H { ez H.kind with n:=H.n }):=by
 unfold bY j2;simp only [hk,ez,tG,qE,z1,z2,z3,z4];simp (decide:=true) only [if_true,if_false,Xw,VZ,WL]
 try simp only [Bool.and_assoc,Bool.and_comm,Bool.and_left_comm]
def Mz (hk:H.kind=4):bY H sec=(decide (sec=0) && j2 H (ez H.kind)):=by
 unfold bY j2;simp only [hk,ez,tG,qE,z1,z2,z3,z4];simp (decide:=true) only [if_true,if_false,Xw,VZ,WL]
 try simp only [Bool.and_assoc,Bool.and_comm,Bool.and_left_comm]
def Ly (hk:H.kind=5):bY H sec=(decide (sec=1) && decide (-128<=H.n) && decide (H.n<=255) && j2 H { ez H.kind with n:=H.n }):=by
 unfold bY j2;simp only [hk,ez,tG,qE,z1,z2,z3,z4];simp (decide:=true) only [if_true,if_false,Xw,VZ,WL]
 try simp only [Bool.and_assoc,Bool.and_comm,Bool.and_left_comm]
def JK (hk:H.kind=6):bY H sec=(decide (sec=1) && lB none H.e.ai && j2 H { ez H.kind with e:=H.e }):=by
 unfold bY j2;simp only [hk,ez,tG,qE,z1,z2,z3,z4];simp (decide:=true) only [if_true,if_false,Xw,VZ,WL]
 try simp only [Bool.and_assoc,Bool.and_comm,Bool.and_left_comm]
def Ms (hk:H.kind=7):bY H sec=(decide (sec=1) && decide (0<=H.n) && decide (H.n<=1048576) && j2 H { ez H.kind with n:=H.n }):=by
 unfold bY j2;simp only [hk,ez,tG,qE,z1,z2,z3,z4];simp (decide:=true) only [if_true,if_false,Xw,VZ,WL]
 try simp only [Bool.and_assoc,Bool.and_comm,Bool.and_left_comm]
def G5 (h1:H.kind≠1) (h2:H.kind≠2) (a:H.kind≠3) (b:H.kind≠4) (c:H.kind≠5) (d:H.kind≠6) (e:H.kind≠7):bY H sec=false:=by
 unfold bY;rw [Vu h1,Vu h2,Vu a,Vu b,Vu c,Vu d,Vu e]
def MS {h:Hp} (t:AE h) {l c:Nat} (v:lZ h I l H) :
  HC YC 78 #[pK I l c H,vI 0] h fun w h'=>w=CH (bY H 0)/\Ext h h':=by
 refine aZ (args:=[pK I l c H,vI 0]) mixed Tryz.func78 aw (tg H.kind H.name H.inst.op H.inst.a H.inst.b H.inst.n H.inst.form I l c H.e.num H.n) ?_;unfold pd aP eh ar aM ct;refine br ?_;intro i b1 e1 z1;have b1:bm i h.size 64 (encI I l c H):=b1;refine av b1 (H.kind,()) (ak ?_);refine br ?_;intro F b2 e2 z2;refine bT b2 ?_;intro k b3 o z3;have b3:bm k i.size 64 (encI none 0 0 (ez H.kind)):=b3;have s1:=e1.size;have e13:=e2.st o (VL _);have e3:=e1.trans e13;have b1:=b1.af e13 ah;simp only [ax];refine av b1 (H.kind,()) (ak ?_);refine an ?_ ?_<;>intro q
 ·have q:H.kind=1:=by simpa using q
  rw [Cn q];refine av b1 (H.name,()) (ak ?_);refine cr b3 rfl (by simp [encI]) ?_;intro g d f z4;have d:bm g i.size 64 (encI none 0 0 { ez H.kind with name:=H.name }):=d;have e4:=e3.st f ad;have b1:=b1.af f (by simp; omega);refine av b1 (H.name,()) (ak ?_);refine aF (tU H.name g (by have:=v.name; have:maxLen=9223372036854775807:=rfl; omega)) ?_;refine an ?_ ?_<;>intro r
  ·have r:cn H.name.data.toList=false:=by simpa using r
   exact ⟨by rw [r]; rfl,e4⟩
  have r:cn H.name.data.toList=true:=by simpa using r
  rw [r,VZ];have hh:=oy (L:=[]) (h0:=h) (y:={ ez H.kind with name:=H.name }) b1 d (v.di.af e4) (iW.none g) e4;exact hh
 have s:H.kind≠1:=by simpa using q
 refine an ?_ ?_<;>intro q
 ·have q:H.kind=2:=by simpa using q
  rw [Mq q];refine av b1 (H.inst.op,H.inst.a,H.inst.b,H.inst.n,H.inst.form,()) (ak ?_);refine av b1 ((I,l,c),(H.e.num:Int),()) (ak ?_);refine cr b3 rfl (by simp [encI]) ?_;intro g d f z4;have e4:=e3.st f ad;have b1:=b1.af f (by simp; omega);refine ⟨⟨b1.cells [.slice I l c,.int .u32 H.e.num] rfl,trivial⟩,?_⟩;refine cr d rfl (by simp [encI,gW]) ?_;intro u b5 m G;have b5:bm u i.size 64 (encI I l c { ez H.kind with inst:=H.inst,e:=H.e }):=b5;have e5:=e4.st m ad;have b1:=b1.af m (by simp; omega);refine av b1 (H.kind,H.name,H.inst.op,H.inst.a,H.inst.b,H.inst.n,H.inst.form,(I,l,c),(H.e.num:Int),H.n,()) (ak ?_);refine aH (instruction_hc (c:=c) (t.af e5 ah) (v.di.af e5) v.op) ?_;rintro _ J ⟨rfl,j⟩;refine ⟨(tV H.inst H.e,()),rfl,ak ?_⟩;have e6:=e5.trans j;refine an ?_ ?_<;>intro r
  ·have r:tV H.inst H.e=false:=by simpa using r
   exact ⟨by rw [r]; rfl,e6⟩
  have r:tV H.inst H.e=true:=by simpa using r
  rw [r];have b1:=b1.af j ah;have b5:=b5.af j ah;have hh:=oy (L:=[]) (h0:=h) (y:={ ez H.kind with inst:=H.inst,e:=H.e }) b1 b5 (v.di.af e6) (v.di.af e6).vw e6;exact hh
 have z:H.kind≠2:=by simpa using q
 refine an ?_ ?_<;>intro q
 ·have q:H.kind=3:=by simpa using q
  rw [K5 q];refine av b1 (H.n,()) (ak ?_);refine cr b3 rfl (by simp [encI]) ?_;intro g d f z4;have d:bm g i.size 64 (encI none 0 0 { ez H.kind with n:=H.n }):=d;have e4:=e3.st f ad;have b1:=b1.af f (by simp; omega);refine av b1 (H.n,()) (ak ?_);refine aF (D2 g H.n) ?_;refine an ?_ ?_<;>intro r
  ·have r:tM H.n=false:=by simpa using r
   exact ⟨by rw [r]; rfl,e4⟩
  have r:tM H.n=true:=by simpa using r
  rw [r,VZ];have hh:=oy (L:=[]) (h0:=h) (y:={ ez H.kind with n:=H.n }) b1 d (v.di.af e4) (iW.none g) e4;exact hh
 have A:H.kind≠3:=by simpa using q
 refine an ?_ ?_<;>intro q
 ·have q:H.kind=4:=by simpa using q
  rw [Mz q];have hh:=oy (L:=[]) (h0:=h) (y:=(ez H.kind)) b1 b3 (v.di.af e3) (iW.none k) e3;exact hh
 have B:H.kind≠4:=by simpa using q
 refine an ?_ ?_<;>intro q
 ·have q:H.kind=5:=by simpa using q
  rw [Ly q];refine av b1 (H.n,()) (ak ?_);refine cr b3 rfl (by simp [encI]) ?_;intro g d f z4;have d:bm g i.size 64 (encI none 0 0 { ez H.kind with n:=H.n }):=d;have e4:=e3.st f ad;have b1:=b1.af f (by simp; omega);exact ⟨rfl,e4⟩
 have C:H.kind≠5:=by simpa using q
 refine an ?_ ?_<;>intro q
 ·have q:H.kind=6:=by simpa using q
  rw [JK q];refine av b1 ((I,l,c),(H.e.num:Int),()) (ak ?_);refine cr b3 rfl (by simp [encI]) ?_;intro g d f z4;have d:bm g i.size 64 (encI I l c { ez H.kind with e:=H.e }):=d;have e4:=e3.st f ad;have b1:=b1.af f (by simp; omega);exact ⟨rfl,e4⟩
 have D:H.kind≠6:=by simpa using q
 refine an ?_ ?_<;>intro q
 ·have q:H.kind=7:=by simpa using q
  rw [Ms q];refine av b1 (H.n,()) (ak ?_);refine cr b3 rfl (by simp [encI]) ?_;intro g d f z4;have d:bm g i.size 64 (encI none 0 0 { ez H.kind with n:=H.n }):=d;have e4:=e3.st f ad;have b1:=b1.af f (by simp; omega);exact ⟨rfl,e4⟩
 have E:H.kind≠7:=by simpa using q
 exact ⟨by rw [G5 s z A B C D E]; rfl,e3⟩
def JU {h:Hp} (t:AE h) {l c:Nat} (v:lZ h I l H) :
  HC YC 78 #[pK I l c H,vI 1] h fun w h'=>w=CH (bY H 1)/\Ext h h':=by
 refine aZ (args:=[pK I l c H,vI 1]) mixed Tryz.func78 aw (tj H.kind H.name H.inst.op H.inst.a H.inst.b H.inst.n H.inst.form I l c H.e.num H.n) ?_;unfold o0 aP eh ar aM ct;refine br ?_;intro i b1 e1 z1;have b1:bm i h.size 64 (encI I l c H):=b1;refine av b1 (H.kind,()) (ak ?_);refine br ?_;intro G b2 e2 z2;refine bT b2 ?_;intro o b3 s z3;have b3:bm o i.size 64 (encI none 0 0 (ez H.kind)):=b3;have s1:=e1.size;have e13:=e2.st s (VL _);have e3:=e1.trans e13;have b1:=b1.af e13 ah;simp only [ax];refine av b1 (H.kind,()) (ak ?_);refine an ?_ ?_<;>intro q
 ·have q:H.kind=1:=by simpa using q
  rw [Cn q];refine av b1 (H.name,()) (ak ?_);refine cr b3 rfl (by simp [encI]) ?_;intro f b4 d z4;have b4:bm f i.size 64 (encI none 0 0 { ez H.kind with name:=H.name }):=b4;have e4:=e3.st d ad;have b1:=b1.af d (by simp; omega);refine av b1 (H.name,()) (ak ?_);refine aF (tU H.name f (by have:=v.name; have:maxLen=9223372036854775807:=rfl; omega)) ?_;refine an ?_ ?_<;>intro r
  ·have r:cn H.name.data.toList=false:=by simpa using r
   exact ⟨by rw [r]; rfl,e4⟩
  have r:cn H.name.data.toList=true:=by simpa using r
  rw [r,VZ];have hh:=oy (L:=[]) (h0:=h) (y:={ ez H.kind with name:=H.name }) b1 b4 (v.di.af e4) (iW.none f) e4;exact hh
 have u:H.kind≠1:=by simpa using q
 refine an ?_ ?_<;>intro q
 ·have q:H.kind=2:=by simpa using q
  rw [Mq q];refine av b1 (H.inst.op,H.inst.a,H.inst.b,H.inst.n,H.inst.form,()) (ak ?_);refine av b1 ((I,l,c),(H.e.num:Int),()) (ak ?_);refine cr b3 rfl (by simp [encI]) ?_;intro f b4 d z4;have e4:=e3.st d ad;have b1:=b1.af d (by simp; omega);refine ⟨⟨b1.cells [.slice I l c,.int .u32 H.e.num] rfl,trivial⟩,?_⟩;refine cr b4 rfl (by simp [encI,gW]) ?_;intro z k m J;have k:bm z i.size 64 (encI I l c { ez H.kind with inst:=H.inst,e:=H.e }):=k;have e5:=e4.st m ad;have b1:=b1.af m (by simp; omega);exact ⟨rfl,e5⟩
 have A:H.kind≠2:=by simpa using q
 refine an ?_ ?_<;>intro q
 ·have q:H.kind=3:=by simpa using q
  rw [K5 q];refine av b1 (H.n,()) (ak ?_);refine cr b3 rfl (by simp [encI]) ?_;intro f b4 d z4;have b4:bm f i.size 64 (encI none 0 0 { ez H.kind with n:=H.n }):=b4;have e4:=e3.st d ad;have b1:=b1.af d (by simp; omega);refine av b1 (H.n,()) (ak ?_);refine aF (D2 f H.n) ?_;refine an ?_ ?_<;>intro r
  ·have r:tM H.n=false:=by simpa using r
   exact ⟨by rw [r]; rfl,e4⟩
  have r:tM H.n=true:=by simpa using r
  rw [r,VZ];have hh:=oy (L:=[]) (h0:=h) (y:={ ez H.kind with n:=H.n }) b1 b4 (v.di.af e4) (iW.none f) e4;exact hh
 have B:H.kind≠3:=by simpa using q
 refine an ?_ ?_<;>intro q
 ·have q:H.kind=4:=by simpa using q
  rw [Mz q];exact ⟨rfl,e3⟩
 have C:H.kind≠4:=by simpa using q
 refine an ?_ ?_<;>intro q
 ·have q:H.kind=5:=by simpa using q
  rw [Ly q];refine av b1 (H.n,()) (ak ?_);refine cr b3 rfl (by simp [encI]) ?_;intro f b4 d z4;have b4:bm f i.size 64 (encI none 0 0 { ez H.kind with n:=H.n }):=b4;have e4:=e3.st d ad;have b1:=b1.af d (by simp; omega);refine av b1 (H.n,()) (ak ?_);refine aQ ?_ ?_<;>intro r
  ·refine av b1 (H.n,()) (ak ?_);refine an ?_ ?_<;>intro g
   ·have g:¬ H.n<=255:=by simpa using g
    exact ⟨by rw [Vx g,Xo]; rfl,e4⟩
   have g:H.n<=255:=by simpa using g
   rw [Vw g,Vw (show -128<=H.n from r)];have hh:=oy (L:=[]) (h0:=h) (y:={ ez H.kind with n:=H.n }) b1 b4 (v.di.af e4) (iW.none f) e4;exact hh
  ·exact ⟨by rw [Vx (show ¬ -128<=H.n from r),Xo]; rfl,e4⟩
 have D:H.kind≠5:=by simpa using q
 refine an ?_ ?_<;>intro q
 ·have q:H.kind=6:=by simpa using q
  rw [JK q];refine av b1 ((I,l,c),(H.e.num:Int),()) (ak ?_);refine cr b3 rfl (by simp [encI]) ?_;intro f b4 d z4;have b4:bm f i.size 64 (encI I l c { ez H.kind with e:=H.e }):=b4;have e4:=e3.st d ad;have b1:=b1.af d (by simp; omega);refine av b1 ((I,l,c),(H.e.num:Int),()) (ak ?_);refine aH (ti (c:=c) (v.di.af e4).vw (by have:=v.di.many; omega) v.di.names) ?_;rintro _ K ⟨rfl,j⟩;refine ⟨(lB none H.e.ai,()),rfl,ak ?_⟩;have e6:=e4.trans j;refine an ?_ ?_<;>intro r
  ·have r:lB none H.e.ai=false:=by simpa using r
   exact ⟨by rw [r]; rfl,e6⟩
  have r:lB none H.e.ai=true:=by simpa using r
  rw [r];have b1:=b1.af j ah;have b4:=b4.af j ah;have hh:=oy (L:=[]) (h0:=h) (y:={ ez H.kind with e:=H.e }) b1 b4 (v.di.af e6) (v.di.af e6).vw e6;exact hh
 have E:H.kind≠6:=by simpa using q
 refine an ?_ ?_<;>intro q
 ·have q:H.kind=7:=by simpa using q
  rw [Ms q];refine av b1 (H.n,()) (ak ?_);refine cr b3 rfl (by simp [encI]) ?_;intro f b4 d z4;have b4:bm f i.size 64 (encI none 0 0 { ez H.kind with n:=H.n }):=b4;have e4:=e3.st d ad;have b1:=b1.af d (by simp; omega);refine av b1 (H.n,()) (ak ?_);refine aQ ?_ ?_<;>intro r
  ·refine av b1 (H.n,()) (ak ?_);refine an ?_ ?_<;>intro g
   ·have g:¬ H.n<=1048576:=by simpa using g
    exact ⟨by rw [Vx g,Xo]; rfl,e4⟩
   have g:H.n<=1048576:=by simpa using g
   rw [Vw g,Vw (show 0<=H.n from r)];have hh:=oy (L:=[]) (h0:=h) (y:={ ez H.kind with n:=H.n }) b1 b4 (v.di.af e4) (iW.none f) e4;exact hh
  ·exact ⟨by rw [Vx (show ¬ 0<=H.n from r),Xo]; rfl,e4⟩
 have F:H.kind≠7:=by simpa using q
 exact ⟨by rw [G5 u A B C D E F]; rfl,e3⟩
section
variable {α:Type}
def vE (en:α->XB) (D:List (XA × α)):List (XA × XB):=D.map fun p=>(p.1,en p.2)
def gE (D:List (XA × α)) (s:XA):Option α:=(D.find? fun p=>decide (s=p.1)).map (·.2)
def pE (D:List (XA × α)) (s:XA) (v:α):List (XA × α):=if (gE D s).isSome then D.map fun p=>if s=p.1 then (p.1,v) else p else D++[(s,v)]
def lU (en:α->XB) (D:List (XA × α)) (s:XA):look (vE en D) s=(gE D s).map en:=by
 unfold look gE vE
 induction D with
 | nil=>rfl
 | cons p D a =>
  by_cases h:s=p.1
  ·simp [h]
  ·simp only [List.map_cons,List.find?_cons,decide_eq_false h];exact a
def Gc (en:α->XB) (D:List (XA × α)) (s:XA) (v:α):jL (vE en D) s (en v)=vE en (pE D s v):=by
 unfold jL pE;rw [lU];cases h:gE D s with
 | none=>simp [vE]
 | some q =>
  simp only [Option.map_some,Option.isSome_some,if_true,vE,List.map_map];refine V4 fun p a=>?_
  simp only [Function.comp];split <;> simp_all
def wL (D:List (XA × α)) (s:XA) (v:α):(pE D s v).length=if (gE D s).isSome then D.length else D.length+1:=by
 unfold pE;split <;> simp
def wN (D:List (XA × α)) (s t:XA) (v:α):gE (D++[(s,v)]) t=(gE D t).or (if t=s then some v else none):=by
 unfold gE;rw [List.find?_append];cases h:D.find? (fun p=>decide (t=p.1)) with
 | some q=>simp
 | none =>
  simp only [Option.none_or,Option.map_none,List.find?_cons,List.find?_nil]
  by_cases e:t=s
  ·simp [e]
  ·simp [e]
def FH (D:List (XA × α)) (s t:XA) (v:α) (f:(gE D s).isSome):gE (D.map fun p=>if s=p.1 then (p.1,v) else p) t=if t=s then some v else gE D t:=by
 unfold gE at *
 induction D with
 | nil=>simp at f
 | cons p D g =>
  by_cases h:s=p.1
  ·by_cases e:t=s
   ·simp [h,e]
   ·have e2:¬ t=p.1:=fun k=>e (k.trans h.symm)
    have i:∀ l:List (XA × α),(List.find? (fun p=>decide (t=p.1)) (List.map (fun p=>if s=p.1 then (p.1,v) else p) l)).map (·.2)=(List.find? (fun p=>decide (t=p.1)) l).map (·.2):=by
     intro l
     induction l with
     | nil=>rfl
     | cons q l b =>
      by_cases c:s=q.1
      ·have:¬ t=q.1:=fun k=>e (k.trans c.symm)
       simp only [List.map_cons,List.find?_cons,if_pos c,decide_eq_false this];exact b
      ·simp only [List.map_cons,List.find?_cons,if_neg c]
       by_cases a:t=q.1
       ·simp [a]
       ·simp only [decide_eq_false a];exact b
    simp only [List.map_cons,List.find?_cons,if_pos h,decide_eq_false e2,if_neg e];exact i D
  ·have d:(Option.map (fun x=>x.2) (List.find? (fun p=>decide (s=p.1)) D)).isSome:=by
    simpa [List.find?_cons,decide_eq_false h] using f
   simp only [List.map_cons,List.find?_cons,if_neg h]
   by_cases a:t=p.1
   ·have:¬ t=s:=fun k=>h (k.symm.trans a)
    simp [a,if_neg (a▸this)]
   ·simp only [decide_eq_false a];exact g d
def MJ (D:List (XA × α)) (s:XA) (v:α) (t:XA):gE (pE D s v) t=if t=s then some v else gE D t:=by
 unfold pE;split
 ·rename_i h;exact FH D s t v h
 ·rename_i h;rw [wN]
  by_cases e:t=s
  ·subst e
   have:gE D t=none:=by simpa using h
   rw [this]; simp
  ·simp [e]
def dB (f:XA->Option α) (s:XA) (v:α):XA->Option α:=fun t=>if t=s then some v else f t
def dN (en:α->XB) (h:Hp) (g:Nat) (f:XA->Option α) (n:Nat):Prop:=∃ D:List (XA × α),eJ h g (vE en D)/\(∀ s,gE D s=f s)/\D.length=n
def dN.af {en:α->XB} {ws:List Nat} {h h':Hp} {g:Nat} {f:XA->Option α} {n:Nat} (m:dN en h g f n) (k:Ch ws h h') (a:g∉ws):dN en h' g f n:=by
 obtain ⟨D,m,r⟩:=m;exact ⟨D,m.af k a,r⟩
def dN.lt {en:α->XB} {h:Hp} {g:Nat} {f:XA->Option α} {n:Nat} (m:dN en h g f n):g<h.size:=by
 obtain ⟨D,m,r⟩:=m;exact m.lt
def dN.new {en:α->XB} {h:Hp} {g:Nat} (m:eJ h g []):dN en h g (fun _=>none) 0:=⟨[],m,fun s=>rfl,rfl⟩
def dN.jL {en:α->XB} {h':Hp} {g:Nat} {f:XA->Option α} {n:Nat} {D:List (XA × α)} (a:∀ s,gE D s=f s) (hn:D.length=n) {s:XA} {v:α} (m:eJ h' g (Sx.jL (vE en D) s (en v))):dN en h' g (dB f s v) (if (f s).isSome then n else n+1):=by
 rw [Gc] at m;refine ⟨_,m,fun t=>?_,?_⟩
 ·rw [MJ,a t]; rfl
 ·rw [wL,a s,hn]
end
def eB (b:Bool):XB:=.bool b
def Qn:Tryz.prog.underlying 142=some (.map 9 4):=aw
def wW:Tryz.prog.underlying 9=some .string:=aw
def Ma:(Tryz.prog.info? 4).bind (·.zero)=some (.bool false):=aw
def Av (h:Hp) (g:Nat) (D:List XA):Prop:=∃ n,dN eB h g (fun s=>if fH D s then some true else none) n
def Av.af {ws:List Nat} {h h':Hp} {g:Nat} {D:List XA} (m:Av h g D) (k:Ch ws h h') (a:g∉ws):Av h' g D:=by
 obtain ⟨n,m⟩:=m;exact ⟨n,m.af k a⟩
def Av.lt {h:Hp} {g:Nat} {D:List XA} (m:Av h g D):g<h.size:=by
 obtain ⟨n,m⟩:=m;exact m.lt
section
variable {L:Lp} {K:XB->Hp->Prop} {h:Hp} {g:Nat} {D:List XA}
def Mu (m:Av h g D) (s:XA) {k:Bool->T} (hk:k (fH D s) L K h):T.eK YC (Instr.lookup 142 (.map (some g)) (.string s) false) false [(false,[.bool])] k L K h:=by
 obtain ⟨n,b,m,a,hn⟩:=m;refine jj Qn wW Ma m s false _ ?_;refine ⟨(fH D s,()),?_,hk⟩;simp only [Bool.false_eq_true,if_false];rw [lU,a s];dsimp only
 all_goals (cases fH D s <;> rfl)
def fg (m:Av h g D) {s:XA} (a:s.size<=maxLen) {k:T} (hk:∀ h',Av h' g (s::D)->Ch [g] h h'->h'.size=h.size->k L K h') :
  T.ek YC (Instr.mapUpdate 142 (.map (some g)) (.string s) (.bool true)) k L K h:=by
 obtain ⟨n,i,m,b,hn⟩:=m;refine fP Qn wW m a _ _ ?_;intro h' c c' d
 have:=dN.jL (en:=eB) b hn (v:=true) c
 have f:dB (fun t=>if fH D t then some true else none) s true=fun t=>if fH (s::D) t then some true else none:=by
  funext t
  unfold dB fH
  by_cases h1:t=s
  ·rw [VE h1,VE];simp [h1]
  ·rw [Vu h1]
   have:¬ s=t:=fun e=>h1 e.symm
   rw [List.any_cons,Vx this,Xj]
 rw [f] at this;exact hk h' ⟨_,this⟩ c' d
def TG {t:TypeId} {k:Option Nat->T} (hk:∀ h',Av h' h.size []->Ext h h'->h'.size=h.size+1->k (some h.size) L K h'):T.eK YC (Instr.makeMap t none) false [(false,[.map 0 0])] k L K h:=by
 refine lp _ ?_;intro h' m e z;exact ⟨(some h.size,()),rfl,hk h' ⟨0,dN.new m⟩ e z⟩
end
structure Ai (h:Hp) (p:XC) (l:Nat) (us:List cv):Prop where
 len:l=us.length
 many:us.length<=2^60
 cells:∀ i,(hi:i<us.length)->∃ a q m c,p=some a/\aE h (a.add (i*10)) 0 (encI q m c us[i])/\lZ h q m us[i]
def Ai.af {h h':Hp} {p:XC} {l:Nat} {us:List cv} (v:Ai h p l us) (k:Ext h h'):Ai h' p l us :=
 ⟨v.len,v.many,fun i hi=>by
  obtain ⟨a,q,m,c,b,hc,hv⟩:=v.cells i hi;exact ⟨a,q,m,c,b,bh k ah _ _ hc,hv.af k⟩⟩
def ET (p:XC) (l c:Nat) (x:jn):List XB:=[.string x.1,.slice p l c,.int .u32 x.2.num]
structure Ah (h:Hp) (p:XC) (l:Nat) (us:List jn):Prop where
 len:l=us.length
 many:us.length<=2^60
 cells:∀ i,(hi:i<us.length)->∃ a q m c,p=some a/\aE h (a.add (i*3)) 0 (ET q m c us[i])/\nH h q m us[i].2/\us[i].1.size<=maxLen
def Ah.af {h h':Hp} {p:XC} {l:Nat} {us:List jn} (v:Ah h p l us) (k:Ext h h'):Ah h' p l us :=
 ⟨v.len,v.many,fun i hi=>by
  obtain ⟨a,q,m,c,b,hc,hv,d⟩:=v.cells i hi;exact ⟨a,q,m,c,b,bh k ah _ _ hc,hv.af k,d⟩⟩
structure NF (h:Hp) (p:XC) (l:Nat) (us:List XA):Prop where
 len:l=us.length
 many:us.length<=2^60
 cells:∀ i,(hi:i<us.length)->∃ a,p=some a/\aE h (a.add (i*1)) 0 [.string us[i]]/\us[i].size<=maxLen
def NF.af {h h':Hp} {l:Nat} {us:List XA} (v:NF h I l us) (k:Ext h h'):NF h' I l us :=
 ⟨v.len,v.many,fun i hi=>by
  obtain ⟨a,b,hc,c⟩:=v.cells i hi;exact ⟨a,b,bh k ah _ _ hc,c⟩⟩
structure cm where
 p:XC
 l:Nat
 c:Nat
def cm.v (s:cm):XB:=.slice s.p s.l s.c
structure jI (h:Hp) (a b c d:cm) (u:bS):Prop where
 text:Ai h a.p a.l u.text
 data:Ai h b.p b.l u.data
 aS:Ah h c.p c.l u.aS
 aJ:NF h d.p d.l u.aJ
def jI.af {h h':Hp} {a b c d:cm} {u:bS} (v:jI h a b c d u) (k:Ext h h'):jI h' a b c d u:=⟨v.text.af k,v.data.af k,v.aS.af k,v.aJ.af k⟩
def rU (a b c d:cm):XB:=.agg #[a.v,b.v,c.v,d.v]
def Ih:Tryz.prog.underlying 68=some (.slice 26):=aw
def TX:(Tryz.prog.info? 26).map (fun i=>(i.zero,i.size,i.bytes))=some (some (.slice none 0 0),1,24):=aw
def H6 (a:XC) (b c1:Nat) (c:XC) (d e:Nat):Instr.fill (fun j=>some (j*1,1)) ((Array.range (2*1)).map ((Value.slice none 0 0).cells[· % (Value.slice none 0 0).cells.size]!)) [(0,.slice a b c1),(1,.slice c d e)]=some ([.slice a b c1,.slice c d e]:List XB).toArray:=aw
def yf (u:bS) (k:Nat):List cv:=if k=0 then u.text else u.data
def tL (u:bS) (k:Nat):List XA:=if k=0 then [] else if k=1 then cR [] u.text else cR (cR [] u.text) u.data
def zz (u:bS) (k:Nat):Bool:=if k=0 then xS u else if k=1 then (eN 1 (cR [] u.text) u.data && (fR (cR (cR [] u.text) u.data) u.aS && cF u.names dA u.aJ)) else (fR (cR (cR [] u.text) u.data) u.aS && cF u.names dA u.aJ)
def Ip (u:bS) {k:Nat} (hk:k<2):zz u k=(eN k (tL u k) (yf u k) && zz u (k+1)):=by
 have:k=0\/k=1:=ad
 rcases this with rfl | rfl
 ·simp [zz,tL,yf,xS,Bool.and_assoc]
 ·simp [zz,tL,yf]
def IY (u:bS) {k:Nat} (hk:k<2):tL u (k+1)=cR (tL u k) (yf u k):=by
 have:k=0\/k=1:=ad
 rcases this with rfl | rfl <;> rfl
def EC (D:List XA) (l:List cv) {i:Nat} (hi:i<l.length):cR D (l.take (i+1))=sZ (cR D (l.take i)) l[i]:=by
 unfold cR;rw [Vt hi,Ws] <;> rfl
def Ea (D:List XA) (l:List jn) {i:Nat} (hi:i<l.length):aU D (l.take (i+1))=l[i].1::aU D (l.take i):=by
 unfold aU;rw [Vt hi,Ws] <;> rfl
def Cf (sec:Nat) (D:List XA) (l:List cv) {i:Nat} (hi:i<l.length):eN sec D (l.drop i)=(xy sec D l[i] && eN sec (sZ D l[i]) (l.drop (i+1))):=by
 rw [VU hi,eN]
def Ek (D:List XA) (l:List jn) {i:Nat} (hi:i<l.length):fR D (l.drop i)=(BD D l[i] && fR (l[i].1::D) (l.drop (i+1))):=by
 rw [VU hi,fR]
def nk (l:List XA) (i:Nat):XA:=if i=0 then dA else l.getD (i-1) dA
def uN (D l:List XA) {i:Nat} (hi:i<l.length):cF D (nk l i) (l.drop i)=(NC D (nk l i) l[i] && cF D (nk l (i+1)) (l.drop (i+1))):=by
 rw [VU hi,cF]
 congr 2
 unfold nk;rw [Vu ad,Nat.add_sub_cancel,V3,VC hi] <;> rfl
def EO (h:Hp) (g:Nat) (D:List XA):Prop:=Av h g D/\∀ s,s∈D->cn s.data.toList=true
def EO.af {ws:List Nat} {h h':Hp} {g:Nat} {D:List XA} (m:EO h g D) (k:Ch ws h h') (a:g∉ws):EO h' g D:=⟨m.1.af k a,m.2⟩
def Dq {s:XA} (h:cn s.data.toList=true):iB dA s:=by
 unfold cn at h;simp only [Bool.and_eq_true,decide_eq_true_eq] at h;have h2:=h.1.1.1.1;show (dA.data.toList:List UInt8)<s.data.toList
 have:(dA.data.toList:List UInt8)=[]:=rfl
 rw [this];cases b:s.data.toList with
 | nil=>rw [b] at h2; simp at h2
 | cons a l=>exact List.Lex.nil
def fw {D:List XA} {s:XA} (h:fH D s=true):s∈D:=by
 unfold fH at h;simp only [List.any_eq_true,decide_eq_true_eq] at h;obtain ⟨y,a,rfl⟩:=h;exact a
def Ol {h:Hp} (t:AE h) {l c k:Nat} (v:lZ h I l H) (hk:k<2) :
  HC YC 78 #[pK I l c H,vI (k:Int)] h fun w h'=>w=CH (bY H k)/\Ext h h':=by
 have:k=0\/k=1:=ad
 rcases this with rfl | rfl
 ·exact MS t v
 ·exact JU t v
def u6 {h:Hp} (t:AE h) {a b c d:cm} {u:bS} (v:jI h a b c d u):HC YC 42 #[rU a b c d] h fun w h'=>w=vI (ee u:Nat)/\Ext h h':=by
 refine aZ (args:=[rU a b c d]) mixed Tryz.func42 aw (ye a.p a.l a.c b.p b.l b.c c.p c.l c.c d.p d.l d.c) ?_;unfold vL aT bo bC ay aP dh eh aR bR bf ar aM ct aK;refine br ?_;intro Q b1 e1 z1;have b1:bm Q h.size 30 [a.v,b.v,c.v,d.v]:=b1;have m1:=v.text.many;have m2:=v.data.many;have m3:=v.aS.many;have m4:=v.aJ.many;have n1:=v.text.len;have n2:=v.data.len;have n3:=v.aS.len;have n4:=v.aJ.len;have s1:=e1.size;simp only [ax];refine av b1 ((a.p,a.l,a.c),()) (ak ?_);refine av b1 ((b.p,b.l,b.c),()) (ak ?_);rw [wrap_i64 ad ad];unfold ee lW;refine an ?_ ?_<;>intro q
 ·have q:=Vv q;exact ⟨by rw [Vw (show 8192<u.text.length+u.data.length from ad)]; rfl,e1⟩
 have q:=VI q;rw [Vx (show ¬ 8192<u.text.length+u.data.length from ad),Xj];refine av b1 ((c.p,c.l,c.c),()) (ak ?_);refine an ?_ ?_<;>intro q
 ·have q:=Vv q;exact ⟨by rw [Vw (show 8192<u.aS.length from ad)]; rfl,e1⟩
 have q:=VI q;rw [Vx (show ¬ 8192<u.aS.length from ad),Vu ah];refine TG ?_;intro g2 m e2 z2;have b2:=b1.af e2 ah;refine av b2 ((a.p,a.l,a.c),()) (ak ?_);refine av b2 ((b.p,b.l,b.c),()) (ak ?_);refine sW Ih TX ad ad (H6 a.p a.l a.c b.p b.l b.c) ?_;intro g3 b3 Z z3;have m:=m.af Z (by have:=m.lt; simp);have e03:=(e1.trans e2).trans Z;have b3':=b2.af Z ah;have s2:=e2.size;clear b1 b2;have S:∀ k,k<2->∃ s:cm,([a.v,b.v]:List XB).drop k=s.v::([a.v,b.v]:List XB).drop (k+1)/\Ai h s.p s.l (yf u k):=by
  intro k hk
  have:k=0\/k=1:=ad
  rcases this with rfl | rfl
  ·exact ⟨a,rfl,v.text⟩
  ·exact ⟨b,rfl,v.data⟩
 have s3:=Z.size;have b3:bm g3 g2.size 26 [a.v,b.v]:=b3;generalize hU:xS u=U;refine aY (cs:=jc) (fun y w h'=>∃ k:Nat,y.2.1=(k:Int)/\k<=2/\w=2-k/\Ext h h'/\bm h' h.size 30 [a.v,b.v,c.v,d.v]/\bm h' g2.size 26 [a.v,b.v]/\EO h' Q.size (tL u k)/\U=zz u k) ((0:Int),(0:Int),()) 2 rfl
  ⟨0,rfl,ad,ad,e03,b3',b3,⟨m,by simp [tL]⟩,hU.symm⟩ ?_
 rintro ⟨V,n22,⟨⟩⟩ w h4 ⟨k,hk,hk2,rfl,e4,b1,b2,m,f⟩;simp only at hk;subst hk;refine ak ?_;refine aQ ?_ ?_<;>intro q
 ·have hk:k<2:=ad
  obtain ⟨sl,hsl,vs⟩:=S k hk;refine cC rfl ?_;rw [ax];refine bj b2 ((sl.p,sl.l,sl.c),()) (by rw [show 0+(k:Int).toNat*1=k from ad,hsl]; rfl) ?_;refine ak ?_;have lk:=vs.len;have mk:=vs.many;generalize hl:yf u k=l at vs lk mk;have j:U=(eN k (cR (tL u k) (l.take 0)) (l.drop 0) && zz u (k+1)):=by
   rw [f,Ip u hk,hl] <;> rfl
  refine aY (cs:=jc) (fun y w h'=>∃ i:Nat,y.2.1=(i:Int)/\i<=l.length/\w=l.length-i/\Ext h h'/\bm h' h.size 30 [a.v,b.v,c.v,d.v]/\bm h' g2.size 26 [a.v,b.v]/\EO h' Q.size (cR (tL u k) (l.take i))/\U=(eN k (cR (tL u k) (l.take i)) (l.drop i) && zz u (k+1))) (V,(0:Int),()) l.length rfl
   ⟨0,rfl,ad,ad,e4,b1,b2,m,j⟩ ?_
  clear f j m b1 b2 e4;rintro ⟨z,n28,⟨⟩⟩ w W ⟨i,hi,K,rfl,B,b1,b2,m,f⟩;simp only at hi;subst hi;refine ak ?_;refine aQ ?_ ?_<;>intro q2
  ·have g:i<l.length:=ad
   obtain ⟨aa,pp,L,H,rfl',hc,I⟩:=(vs.af B).cells i g;rw [Cf k _ l g] at f;have hnt:=EC (tL u k) l g;generalize l[i]=x at hc I f hnt;refine fJ (bk rfl' ?_);rw [cX i];refine aC (x.kind,x.name,x.inst.op,x.inst.a,x.inst.b,x.inst.n,x.inst.form,(pp,L,H),(x.e.num:Int),x.n,()) hc (ak ?_);refine br ?_;intro h6 b6 C z6;refine bT b6 ?_;intro h7 F k7 z7;have F:bm h7 W.size 64 (encI pp L H x):=F;have o:Ext W h7:=C.st k7 (VL _);have e7:=B.trans o;simp only [ax];refine av F (x.kind,x.name,x.inst.op,x.inst.a,x.inst.b,x.inst.n,x.inst.form,(pp,L,H),(x.e.num:Int),x.n,()) (ak ?_);refine aH (Ol (c:=H) (t.af e7 ah) (I.af o) hk) ?_;rintro _ h8 ⟨rfl,M⟩;refine ⟨((if bY x k then 0 else 31:Int),()),rfl,ak ?_⟩;have e58:=o.trans M;have e08:=B.trans e58;have b1:=b1.af e58 ah;have b2:=b2.af e58 ah;have m:=m.af e58 ah;have b8:=F.af M ah;refine an ?_ ?_<;>intro r
   ·have r:bY x k=false:=by
     cases hr:bY x k with
     | false=>rfl
     | true=>rw [hr] at r; simp at r
    exact ⟨by rw [f,xy,r]; rfl,e08⟩
   have r:bY x k=true:=by
    cases hr:bY x k with
    | true=>rfl
    | false=>rw [hr] at r; simp at r
   have hno:∀ D,xy k D x=!(decide (x.kind=1) && fH D x.name):=fun D=>by rw [xy,r]; rfl
   rw [hno] at f;refine av b8 (x.kind,()) (ak ?_);refine an ?_ ?_<;>intro A
   ·have A:x.kind=1:=by simpa using A
    rw [Vw A,VZ] at f;have J:cn x.name.data.toList=true:=by
     rw [Cn A,VJ] at r;exact r.1
    refine av b8 (x.name,()) (ak ?_);refine Mu m.1 x.name ?_;refine an ?_ ?_<;>intro X
    ·exact ⟨by rw [f,X]; rfl,e08⟩
    rw [X] at f;refine av b8 (x.kind,()) (ak ?_);refine cy (by simpa using A) ?_;refine av b8 (x.name,()) (ak ?_);refine fg m.1 I.name ?_;intro h9 m9 R z9;have N:Ext h h9:=e08.st R ad;have s5:=B.size;have G:sZ (cR (tL u k) (l.take i)) x=x.name::cR (tL u k) (l.take i):=by unfold sZ; rw [VE A]
    refine aD (cs:=jc) (z,((i+1:Nat):Int),()) (l.length-(i+1)) rfl ad (by rw [wrap_i64 ad ad]; rfl) ?_;refine ⟨i+1,rfl,ad,rfl,N,b1.af R (by simp; omega),b2.af R (by simp; omega),by rw [hnt,G]; exact ⟨m9,fun s hs=>(VK.1 hs).elim (fun e=>by rw [e]; exact J) (m.2 s)⟩,by rw [f,hnt]; rfl⟩
   ·have A:¬ x.kind=1:=by simpa using A
    rw [Vx A] at f;refine av b8 (x.kind,()) (ak ?_);refine bX (by simpa using A) ?_;have G:sZ (cR (tL u k) (l.take i)) x=cR (tL u k) (l.take i):=by unfold sZ; rw [Vu A]
    refine aD (cs:=jc) (z,((i+1:Nat):Int),()) (l.length-(i+1)) rfl ad (by rw [wrap_i64 ad ad]; rfl) ?_;refine ⟨i+1,rfl,ad,rfl,e08,b1,b2,by rw [hnt,G]; exact m,by rw [f,hnt]; rfl⟩
  ·have g:i=l.length:=ad
   subst g;rw [V1] at m f;rw [Wn,eN,VZ] at f;refine aD (cs:=jc) (z,((k+1:Nat):Int),()) (2-(k+1)) rfl ad (by rw [wrap_i64 ad ad]; rfl) ?_;refine ⟨k+1,rfl,ad,rfl,B,b1,b2,by rw [IY u hk,hl]; exact m,f⟩
 ·have hk:k=2:=ad
  subst hk;have f:U=(fR (cR (cR [] u.text) u.data) u.aS && cF u.names dA u.aJ):=f;have m:EO h4 Q.size (cR (cR [] u.text) u.data):=m;generalize hD:cR (cR [] u.text) u.data=D at f m;have hN:u.names=aU D u.aS:=by rw [<- hD]; rfl
  rw [hN] at f;refine av b1 ((c.p,c.l,c.c),()) (ak ?_);have j:U=(fR (aU D (u.aS.take 0)) (u.aS.drop 0) && cF (aU D u.aS) dA u.aJ):=f;refine aY (cs:=jc) (fun y w h'=>∃ i:Nat,y.2.1=(i:Int)/\i<=u.aS.length/\w=u.aS.length-i/\Ext h h'/\bm h' h.size 30 [a.v,b.v,c.v,d.v]/\EO h' Q.size (aU D (u.aS.take i))/\U=(fR (aU D (u.aS.take i)) (u.aS.drop i) && cF (aU D u.aS) dA u.aJ)) (V,(0:Int),()) u.aS.length rfl
   ⟨0,rfl,ad,ad,e4,b1,m,j⟩ ?_
  clear f j m b1 b2 e4;rintro ⟨z,n28,⟨⟩⟩ w W ⟨i,hi,K,rfl,B,b1,m,f⟩;simp only at hi;subst hi;refine ak ?_;have s5:=B.size;refine an ?_ ?_<;>intro q2
  ·have q2:=Vv q2;have g:i<u.aS.length:=ad
   obtain ⟨aa,pp,L,H,rfl',hc,I,vn⟩:=(v.aS.af B).cells i g;rw [Ek _ _ g] at f;have hnt:=Ea D u.aS g;generalize u.aS[i]=x at hc I vn f hnt;refine fJ (bk rfl' ?_);rw [cX i];refine aC (x.1,(pp,L,H),(x.2.num:Int),()) hc (ak ?_);refine br ?_;intro h6 b6 C z6;refine bT b6 ?_;intro h7 F k7 z7;have F:bm h7 W.size 88 (ET pp L H x):=F;have o:Ext W h7:=C.st k7 (VL _);have e7:=B.trans o;simp only [ax];have b1:=b1.af o ah;have m:=m.af o ah;unfold BD at f;refine av F (x.1,()) (ak ?_);refine Mu m.1 x.1 ?_;refine an ?_ ?_<;>intro r
   ·exact ⟨by rw [f,r]; rfl,e7⟩
   rw [r] at f;refine av F (x.1,()) (ak ?_);refine aF (tU x.1 h7 (by have:maxLen=9223372036854775807:=rfl; omega)) ?_;refine an ?_ ?_<;>intro r
   ·have r:cn x.1.data.toList=false:=by simpa using r
    exact ⟨by rw [f,r]; rfl,e7⟩
   have J:cn x.1.data.toList=true:=by simpa using r
   rw [J] at f;refine av F ((pp,L,H),(x.2.num:Int),()) (ak ?_);refine aH (ti (c:=H) (I.af o).vw (by have:=I.many; omega) I.names) ?_;rintro _ h8 ⟨rfl,M⟩;refine ⟨(lB none x.2.ai,()),rfl,ak ?_⟩;have e08:=e7.trans M;have b1:=b1.af M ah;have m:=m.af M ah;have b8:=F.af M ah;refine an ?_ ?_<;>intro r
   ·have r:lB none x.2.ai=false:=by simpa using r
    exact ⟨by rw [f,r]; rfl,e08⟩
   have r:lB none x.2.ai=true:=by simpa using r
   rw [r] at f;refine av b8 (x.1,()) (ak ?_);refine fg m.1 vn ?_;intro h9 m9 R z9;have N:Ext h h9:=e08.st R ad;refine aD (cs:=jc) (z,((i+1:Nat):Int),()) (u.aS.length-(i+1)) rfl ad (by rw [wrap_i64 ad ad]; rfl) ?_;refine ⟨i+1,rfl,ad,rfl,N,b1.af R (by simp; omega),by rw [hnt]; exact ⟨m9,fun s hs=>(VK.1 hs).elim (fun e=>by rw [e]; exact J) (m.2 s)⟩,by rw [f,hnt]; rfl⟩
  have q2:=VI q2;have g:i=u.aS.length:=ad
  subst g;rw [V1] at m f;rw [Wn,fR,VZ] at f;generalize hE:aU D u.aS=E at m f;refine av b1 ((d.p,d.l,d.c),()) (ak ?_);have j:U=cF E (nk u.aJ 0) (u.aJ.drop 0):=f;refine aY (cs:=jc) (fun y w h'=>∃ i:Nat,y.2.1=(i:Int)/\i<=u.aJ.length/\w=u.aJ.length-i/\Ext h h'/\bm h' h.size 30 [a.v,b.v,c.v,d.v]/\EO h' Q.size E/\U=cF E (nk u.aJ i) (u.aJ.drop i)) (z,(0:Int),()) u.aJ.length rfl
   ⟨0,rfl,ad,ad,B,b1,m,j⟩ ?_
  clear f j m b1 B s5;rintro ⟨Y,n32,⟨⟩⟩ w h6 ⟨i,hi,K,rfl,C,b1,m,f⟩;simp only at hi;subst hi;refine ak ?_;refine aQ ?_ ?_<;>intro q3
  ·have g:i<u.aJ.length:=ad
   obtain ⟨aa,rfl',hc,I⟩:=(v.aJ.af C).cells i g;rw [uN _ _ g] at f;unfold NC at f;refine fJ (bk rfl' ?_);rw [cX i];refine aC (u.aJ[i],()) hc (ak ?_);refine Mu m.1 _ ?_;refine an ?_ ?_<;>intro r
   ·have r:fH E u.aJ[i]=false:=by simpa using r
    exact ⟨by rw [f,r]; rfl,C⟩
   have r:fH E u.aJ[i]=true:=by simpa using r
   rw [r,VZ] at f;refine aQ ?_ ?_<;>intro X
   ·refine av b1 ((d.p,d.l,d.c),()) (ak ?_);rw [wrap_i64 ad ad];obtain ⟨ab,O,hc',va'⟩:=(v.aJ.af C).cells (i-1) ad;refine fJ (bk O ?_);rw [show Int.toNat ((i:Int)-1)=i-1 from ad];refine aC (u.aJ[i-1],()) hc' (ak ?_);have hla:nk u.aJ i=u.aJ[i-1]:=by
     unfold nk;rw [Vu ad,V3,VC ad] <;> rfl
    rw [leB];rw [hla] at f;refine an ?_ ?_<;>intro P
    ·have P:decide (iB u.aJ[i-1] u.aJ[i])=false:=by simpa using P
     exact ⟨by rw [f,P]; rfl,C⟩
    ·have P:decide (iB u.aJ[i-1] u.aJ[i])=true:=by simpa using P
     rw [P,VZ] at f;refine aD (cs:=jc) (Y,((i+1:Nat):Int),()) (u.aJ.length-(i+1)) rfl ad (by rw [wrap_i64 ad ad]; rfl) ?_;exact ⟨i+1,rfl,ad,rfl,C,b1,m,f⟩
   ·have hi0:i=0:=ad
    subst hi0;have hg:decide (iB (nk u.aJ 0) u.aJ[0])=true:=Vw (Dq (m.2 _ (fw r)));rw [hg,VZ] at f;refine aD (cs:=jc) (Y,((0+1:Nat):Int),()) (u.aJ.length-(0+1)) rfl ad (by rw [wrap_i64 ad ad]; rfl) ?_;exact ⟨0+1,rfl,ad,rfl,C,b1,m,f⟩
  ·have g:i=u.aJ.length:=ad
   subst g;rw [Wn] at f;exact ⟨by rw [f]; rfl,C⟩
def SL.cu {h:Hp} {b:Nat} {e:TypeId} {sz l c:Nat} {xs:List (List XB)} (s:SL h b e sz I l c xs):∀ i,i∈aG I->b<=i/\i<h.size:=by
 intro i hi;cases I with
 | none=>simp [aG] at hi
 | some a =>
  obtain ⟨g,f,rest,rfl,j,_,d,_⟩:=s.2.2;simp [aG] at hi;exact ⟨ad,by rw [hi]; exact d.lt⟩
abbrev St:=Except (Nat × Nat) Bt
def UW {k c:Nat} (h:k≠c):(((k:Nat):Int)==(c:Int))=false:=by
 simp only [beq_eq_false_iff_ne,ne_eq];omega
def iz:List XB:=[vI (0:Int),.string ⟨#[]⟩,vI (0:Int),vI (0:Int),vI (0:Int),.int .i32 (0:Int),vI (0:Int),.slice none 0 0,.int .u32 (0:Int),vI (0:Int)]
structure Ls {α:Type} (e:TypeId) (sz:Nat) (enc:cm->α->List XB) (tm:α->dt) (ok:α->Prop) (h:Hp) (b:Nat) (p:XC) (l c:Nat) (us:List (cm × α)):Prop where
 sl:SL h b e sz p l c (us.map fun u=>enc u.1 u.2)
 own:∀ u,u∈us->SL h b 66 2 u.1.p u.1.l u.1.c ((tm u.2).map cg)
 ok:∀ u,u∈us->ok u.2
section
variable {α:Type} {e:TypeId} {sz:Nat} {enc:cm->α->List XB} {tm:α->dt} {ok:α->Prop} {h h':Hp} {b b':Nat} {p:XC} {l c:Nat} {us:List (cm × α)}
def Ls.nil (h:Hp) (b:Nat):Ls e sz enc tm ok h b none 0 0 []:=⟨SL.nil _ _ _ _,ah,ah⟩
def SL.vJ {ws:List Nat} {h h':Hp} {b:Nat} {e:TypeId} {sz:Nat} {p:XC} {l c:Nat} {xs:List (List XB)} (s:SL h b e sz p l c xs) (k:Ch ws h h') (a:∀ i,i∈ws->i<h.size->i<b):SL h' b e sz p l c xs :=
 Sx.SL.bH s k (fun i hi d=>by have:=Sx.SL.cu s hi; have:=a i d this.2; omega)
def Ls.af {ws:List Nat} (s:Ls e sz enc tm ok h b p l c us) (k:Ch ws h h') (a:∀ i,i∈ws->i<h.size->i<b):Ls e sz enc tm ok h' b p l c us :=
 ⟨SL.vJ s.sl k a,fun u d=>SL.vJ (s.own u d) k a,s.ok⟩
def Ls.mono (s:Ls e sz enc tm ok h b p l c us) (a:b'<=b):Ls e sz enc tm ok h b' p l c us :=
 ⟨Sx.SL.mono s.sl a,fun u d=>Sx.SL.mono (s.own u d) a,s.ok⟩
def Ls.len (s:Ls e sz enc tm ok h b p l c us):l=us.length:=by rw [s.sl.1,Vr]
end
abbrev ptr (g:Nat):XB:=.pointer (some ⟨g,0,none⟩)
def Qo:Tryz.prog.underlying 26=some (.slice 64):=aw
def Qa:Tryz.prog.underlying 27=some (.slice 88):=aw
def xp:Tryz.prog.underlying 28=some (.slice 9):=aw
def Jc:(Tryz.prog.info? 88).map (fun i=>(i.zero,i.size,i.bytes))=some (some (.agg #[.string ⟨#[]⟩,.slice none 0 0,.int .u32 (0:Int)]),3,48):=aw
def N0:(Tryz.prog.info? 9).map (fun i=>(i.zero,i.size,i.bytes))=some (some (.string ⟨#[]⟩),1,16):=aw
def SL.fO {h:Hp} {b:Nat} {e:TypeId} {sz l c:Nat} {xs:List (List XB)} (s:SL h b e sz I l c xs):∀ i,i∈aG I->∃ xs,bm h i e xs:=by
 intro i hi;cases I with
 | none=>simp [aG] at hi
 | some a =>
  obtain ⟨g,f,rest,rfl,j,_,d,_⟩:=s.2.2;simp [aG] at hi;subst hi;exact ⟨_,d⟩
def SL.eU {ws:List Nat} {h h':Hp} {b:Nat} {e e':TypeId} {sz l c:Nat} {xs:List (List XB)} (s:SL h b e sz I l c xs) (k:Ch ws h h') (d:∀ i,i∈ws->∃ a,bm h i e' a) (f:e≠e'):SL h' b e sz I l c xs:=by
 refine Sx.SL.bH s k (fun i hi g=>?_);obtain ⟨a,b1⟩:=SL.fO s i hi;obtain ⟨zs,b2⟩:=d i g;unfold bm at b1 b2;rw [b1] at b2;simp only [Option.some.injEq,Obj.cells.injEq] at b2;exact f b2.2.1
section
variable {h0 h:Hp} {g gm:Nat} {bp:XC} {bl bc:Nat} {full:Bt} {st:St} {D:List XA}
end
def HI (a b:cm):Prop:=∀ i,i∈aG a.p->i∉aG b.p
def nZ:cm:=⟨none,0,0⟩
def zU:List XB:=[.slice none 0 0,.slice none 0 0,.slice none 0 0,.slice none 0 0]
def yi {h:Hp} {l:Nat} {us:dt} (v:iW h I l us):(I=none/\us.map cg=[])\/∃ a,I=some a/\aE h a 0 (us.map cg).flatten:=by
 cases I with
 | none =>
  left
  refine ⟨rfl,?_⟩;cases us with
  | nil=>rfl
  | cons u us =>
   obtain ⟨a,b,_⟩:=v.cells 0 ah;cases b
 | some a=>exact .inr ⟨a,rfl,v.flat⟩
def zC (us:dt):∀ y,y∈us.map cg->y.length=2:=by
 intro y a;obtain ⟨u,_,rfl⟩:=Vy.1 a;rfl
def yJ {h:Hp} {l c:Nat} {x:cL} (v:iW h I l x.ai) (hl:x.ai.length<=2^40) :
  HC YC 57 #[iX I l c x] h fun w h'=>(∃ p' l' c',w=iX p' l' c' x/\SL h' h.size 66 2 p' l' c' (x.ai.map cg))/\Ext h h':=by
 refine aZ (args:=[iX I l c x]) mixed Tryz.func57 aw (lF I l c x.num) ?_;unfold ik aR ar aM;have hll:=v.len;refine br ?_;intro h1 b1 e1 z1;refine br ?_;intro h2 b2 e2 z2;have b12:=b1.af e2 ah;have e02:=e1.trans e2;refine av b12 ((I,l,c),()) (ak ?_);rw [ax];refine av b12 ((x.num:Int),()) (ak ?_);have v2:=v.af e02 ah;refine Cc (e:=66) (z:=.agg #[.string ⟨#[]⟩,.int .u32 0]) (sz:=2) (by':=24) AJ za ?_;intro O A d;have b13:=b12.af d ah;refine ⟨⟨b13.cells _ rfl,b13.cells _ rfl,trivial⟩,?_⟩;have hz3:=d.size
 have f:∀ (p':XC) (c':Nat) (h':Hp),SL h' h2.size 66 2 p' l c' (x.ai.map cg)->Ext h2 h'->T.az [(⟨h.size,0+1,none⟩,[.int .u32 (x.num:Int)])] (T.ao ⟨h1.size,0,none⟩ [.slice p' l c',.int .u32 (x.num:Int)] (T.ae ⟨h1.size,0,none⟩ [.slice 66,.int .u32] fun (k:XC) (m n:Nat) (o:Int) =>
   T.ret (.agg #[.slice k m n,.int .u32 o]))) [] (fun w h'=>(∃ p' l' c',w=iX p' l' c' x/\SL h' h.size 66 2 p' l' c' (x.ai.map cg))/\Ext h h') h':=by
  intro p' c' h' B q;have b1':=b12.af q ah;refine ⟨⟨b1'.cells _ rfl,trivial⟩,?_⟩;refine bT (b2.af q ah) ?_;intro F r C P;have r:bm F h1.size 60 [.slice p' l c',.int .u32 (x.num:Int)]:=r;refine av r ((p',l,c'),(x.num:Int),()) ?_;exact ⟨⟨p',l,c',rfl,(B.bH C (fun j s=>by have:=(B.cu s).1; simp; omega)).mono ad⟩,bZ (e02.trans q) C⟩
 obtain ⟨i,hi,G,b,t⟩:=kq za;rcases yi v2 with ⟨H,g⟩ | ⟨a,J,hc⟩
 ·subst H;have u:l=0:=by
   have:=VO List.length g
   rw [Vr,List.length_nil] at this;omega
  subst u;refine dc ?_;simp [Builtin.append_,al,au AJ,bF hi,Builtin.lenOf,Builtin.firstCells,storeCells];exact ⟨_,_,_,rfl,f _ _ _ (by rw [g]; exact A) d⟩
 ·subst J;refine dc ?_;refine jh (ys:=x.ai.map cg) AJ hi G (by rw [b]; rfl) (by rw [b]; exact A) (by rw [Vr]; omega) (fun y K=>by rw [b]; exact zC _ y K) (bh d ah _ _ hc) (yY _) (by rw [t]; omega) ad ad ?_;intro p' c' L D M N;rw [V9,WM] at *;rw [b] at D;exact ⟨p',l,c',rfl,f p' c' L D (Ch.trans d M fun j s hl=>by simp [aG] at s; omega)⟩
abbrev Nz:=Ls 64 10 (fun s x=>encI s.p s.l s.c x) (fun x:cv=>x.e.ai) (fun _=>True)
abbrev Ug:=Ls 88 3 (fun s (x:jn)=>ET s.p s.l s.c x) (fun x=>x.2.ai) (fun _=>True)
def xi:Tryz.prog.underlying 26=some (.slice 64):=aw
def AT:(Tryz.prog.info? 64).map (fun i=>(i.zero,i.size,i.bytes))=some (some (.agg iz.toArray),10,104):=aw
def Lz (p:XC) (l c:Nat) (x:cv):(encI p l c x).length=10:=rfl
def fQ (u:cm × cv):List XB:=encI u.1.p u.1.l u.1.c u.2
def JO (us:List (cm × cv)):(us.map fQ).flatten.length=us.length*10:=by
 rw [dY (us.map fQ) (sz:=10) (fun y a=>by obtain ⟨u,_,rfl⟩:=Vy.1 a; rfl),Vr]
def uo {h:Hp} {l c:Nat} {us:List cv} (v:Ai h I l us) (hn:us.length<=2^20) (ht:∀ x,x∈us->x.e.ai.length<=2^40) :
  HC YC 52 #[.slice I l c] h fun w h'=>(∃ p' c' ws,w=.slice p' l c'/\Nz h' h.size p' l c' ws/\ws.map (·.2)=us)/\Ext h h':=by
 refine aZ (args:=[.slice I l c]) mixed Tryz.func52 aw (kj I l c) ?_;unfold fX aT bo bC ay bq aR ar aK;have hlen:=v.len;obtain ⟨Y,O,P,Q,R⟩:=kq AT;refine dc (oT (l:=l) (c:=l) xi O P (VL _) (by rw [R]; omega) ad ?_);intro h1 b1 e1 z1;refine ⟨_,_,_,rfl,?_⟩;have r:((List.range (l*Y.size)).map ((Value.agg iz.toArray).cells[· % (Value.agg iz.toArray).cells.size]!)).length=l*10:=by rw [Vr,List.length_range,Q]
 generalize (List.range (l*Y.size)).map ((Value.agg iz.toArray).cells[· % (Value.agg iz.toArray).cells.size]!)=Z at b1 r;refine aY (cs:=cU) (fun y m h'=>∃ (i:Nat) (ws:List (cm × cv)) (Z:List XB),y.1=(i:Int)/\i<=l/\m=l-i/\Ext h h'/\h1.size<=h'.size/\ws.map (·.2)=us.take i/\ws.length=i/\Z.length=(l-i)*10/\bm h' h.size 64 ((ws.map fQ).flatten++Z)/\∀ u,u∈ws->SL h' h1.size 66 2 u.1.p u.1.l u.1.c (u.2.e.ai.map cg)) ((0:Int),()) l rfl
  ⟨0,[],Z,rfl,ad,ad,e1,VL _,rfl,rfl,by simpa using r,b1,ah⟩ ?_
 clear b1 r;rintro ⟨n4,⟨⟩⟩ m h2 ⟨i,ws,Z,hi,hil,rfl,e2,z2,s,d,L,b2,own⟩;simp only at hi;subst hi;refine ak ?_;refine aQ ?_ ?_<;>intro q
 ·have t:i<us.length:=ad
  obtain ⟨aa,pp,g,f,rfl',A,B⟩:=v.cells i t;have C:us.take (i+1)=us.take i++[us[i]]:=Vt t;have htx:=ht us[i] (VA t);generalize us[i]=x at A B C htx;have D:∀ h',Ext h h'->aE h' (aa.add (i*10)) 0 (encI pp g f x):=fun h' e=>bh e ah _ _ A
  have hc:=D h2 e2;refine fJ (bk rfl' ?_);rw [cX i];refine aC (x.kind,x.name,x.inst.op,x.inst.a,x.inst.b,x.inst.n,x.inst.form,(pp,g,f),(x.e.num:Int),x.n,()) hc (ak ?_);refine cC rfl ?_;rw [ax];have hD:=JO ws;have S:Z=Z.take 10++Z.drop 10:=(We 10 Z).symm;have E:(Z.take 10).length=10:=by
   have h1:1<=l-i:=ad
   have h2:=Wq 10 h1;rw [VQ,L,WD ad]
  have F:(0+i*10)=((ws.map fQ).flatten).length:=by rw [hD,d]; omega
  have U:(Z.drop 10).length=(l-(i+1))*10:=by rw [V6,L,show l-i=(l-(i+1))+1 from ad,Wx]; omega
  refine cr (off:=0+i*10) b2 rfl (by rw [Vs,hD,L,d]; show 0+i*10+10<=_; have:i+(l-i)=l:=ad; rw [<- Wx,this]; have:=Wq 10 (show i+1<=l from ad); omega) ?_;intro h3 b3 G z3;have b3:bm h3 h.size 64 ((ws.map fQ).flatten++(encI pp g f x++Z.drop 10)):=by
   have b3:bm h3 h.size 64 (gW ((ws.map fQ).flatten++Z) (0+i*10) (encI pp g f x)):=b3;rw [F,S,pR (by rw [E]; rfl)] at b3;simpa using b3
  have V:Ext h h3:=e2.st G (VL _);have hc3:=D h3 V;refine fJ (bk rfl' ?_);refine aC ((pp,g,f),(x.e.num:Int),()) ⟨by rw [add_add]; exact hc3.2.2.2.2.2.2.2.1,by rw [add_add]; exact hc3.2.2.2.2.2.2.2.2.1,trivial⟩ ?_;refine ak ?_;have va3:=B.af V;refine aH (yJ (c:=f) va3.di.vw htx) ?_;rintro _ h4 ⟨⟨H,J,k,rfl,sc⟩,M⟩;refine ⟨((H,J,k),(x.e.num:Int),()),rfl,ak ?_⟩;refine cC rfl ?_;rw [ax];have b4:=b3.af M ah;refine cr (off:=0+i*10+7) b4 rfl ?_ ?_
  ·rw [Vs,hD,Vs,Lz,d];show 0+i*10+7+2<=_;omega
  intro h5 z N z5;have z:bm h5 h.size 64 (((ws++[((⟨H,J,k⟩:cm),x)]).map fQ).flatten++Z.drop 10):=by
   have z:bm h5 h.size 64 (gW ((ws.map fQ).flatten++(encI pp g f x++Z.drop 10)) (0+i*10+7) [.slice H J k,.int .u32 (x.e.num:Int)]):=z;rw [show (ws.map fQ).flatten++(encI pp g f x++Z.drop 10)=((ws.map fQ).flatten++(encI pp g f x).take 7)++([.slice pp g f,.int .u32 (x.e.num:Int)]++([vI x.n]++Z.drop 10)) by simp [encI],
    show 0+i*10+7=((ws.map fQ).flatten++(encI pp g f x).take 7).length by rw [Vs,hD,d]; simp [encI],pR (X:=[.slice pp g f,.int .u32 (x.e.num:Int)]) (vs:=[.slice H J k,.int .u32 (x.e.num:Int)]) rfl] at z
   simpa [encI,fQ] using z
  have hz3:=e1.size;have hz4:=M.size;rw [wrap_i64 ad ad];refine aD (cs:=cU) (((i+1:Nat):Int),()) (l-(i+1)) rfl ad rfl ?_;refine ⟨i+1,ws++[((⟨H,J,k⟩:cm),x)],Z.drop 10,rfl,ad,rfl,(V.trans M).st N (VL _),by have:=G.size; have:=N.size; omega,by rw [VB,s,C]; rfl,by simp [d],U,z,?_⟩;intro u o;rcases VG.1 o with o | o
  ·have hb:=Ob.SL.cu (own u o);exact SL.vJ (SL.vJ (SL.vJ (own u o) G (fun j K _=>by simp at K; omega)) M ah) N (fun j K _=>by simp at K; omega)
  ·rw [VH.1 o];exact Sx.SL.mono (SL.vJ sc N (fun j K _=>by simp at K; have:=G.size; omega)) (by have:=G.size; omega)
 ·have:i=l:=ad
  subst this;rw [V0 ad] at s;refine ⟨⟨_,_,ws,rfl,⟨?_,fun u o=>Sx.SL.mono (own u o) (by have:=e1.size; omega),fun _ _=>trivial⟩,s⟩,e2⟩;have W:Z=[]:=List.length_eq_zero_iff.1 (by rw [L,W1,Nat.zero_mul]);subst W;refine ⟨by rw [Vr]; exact d.symm,fun y hy=>by obtain ⟨u,_,rfl⟩:=Vy.1 hy; rfl,h.size,[],[],rfl,VL _,⟨VL _,ad⟩,b2,ah⟩
def Ls.ig {α:Type} {e:TypeId} {sz:Nat} {enc:cm->α->List XB} {tm:α->dt} {ok:α->Prop} {h h':Hp} {b l c:Nat} {us:List (cm × α)} {ws:List Nat} (s:Ls e sz enc tm ok h b I l c us) (k:Ch ws h h') (j:∀ i,i∈ws->i<h.size->i<b\/∃ a f,bm h i a f/\a≠e/\a≠66):Ls e sz enc tm ok h' b I l c us:=by
 have g:∀ {d:TypeId} {z:Nat} {I:XC} {l c:Nat} {xs:List (List XB)},SL h b d z I l c xs->(d=e\/d=66)->SL h' b d z I l c xs:=by
  intro d z I l c xs s m;refine Sx.SL.bH s k (fun i hi n=>?_);have hb:=Sx.SL.cu s hi;rcases j i n hb.2 with h1 | ⟨a,f,b2,h2,o⟩
  ·omega
  ·obtain ⟨zs,b1⟩:=SL.fO s i hi;unfold bm at b1 b2;rw [b1] at b2;simp only [Option.some.injEq,Obj.cells.injEq] at b2;rcases m with rfl | rfl
   ·exact h2 b2.2.1.symm
   ·exact o b2.2.1.symm
 exact ⟨g s.sl (.inl rfl),fun u q=>g (s.own u q) (.inr rfl),s.ok⟩
def Bm {a b:Nat} (h:(((a:Nat):Int)==((b:Nat):Int))=true):a=b:=by
 have:=eq_of_beq h
 omega
def Ew {a b:Nat} (h:(((a:Nat):Int)==((b:Nat):Int))=false):¬ a=b:=by
 rintro rfl;simp at h
end Go.Sx.Ob
