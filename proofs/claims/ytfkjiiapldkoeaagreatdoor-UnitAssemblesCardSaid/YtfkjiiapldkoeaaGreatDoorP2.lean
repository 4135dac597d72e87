/- Contracts over heaps, part 2. Condition: as each statement says. -/
import Derived.Test.YtfkjiiapldkoeaaGreatDoorP1
import Derived.Test.YtfkjiiapldkoeaaGreatDoorARngA
import Derived.Test.YtfkjiiapldkoeaaGreatDoorAShelf
import Derived.Test.YtfkjiiapldkoeaaGreatDoorSxG
import Derived.Test.YtfkjiiapldkoeaaGreatDoorBtD
import Derived.Test.YtfkjiiapldkoeaaGreatDoorBtE
set_option linter.all false
set_option maxRecDepth 100000
set_option maxHeartbeats 4000000
namespace Go.Sx
open Go.Proofs
variable {K:XB->Hp->Prop} {ws:List Nat} {h':Hp} {r:XA × Nat}
def ee:List UInt8->List UInt8->List (List UInt8)
 | dJ,[]=>if dJ=[] then [] else [dJ]
 | dJ,b::l=>if b=10 then dJ::ee [] l else ee (dJ++[b]) l
def yP (dJ:List UInt8):ee dJ []=if dJ=[] then [] else [dJ]:=rfl
def jF (dJ:List UInt8) (b:UInt8) (l:List UInt8):ee dJ (b::l)=if b=10 then dJ::ee [] l else ee (dJ++[b]) l:=rfl
theorem yD:∀ (l dJ:List UInt8),ee dJ l=if Lib.index l [10]=-1 then (if dJ++l=[] then [] else [dJ++l]) else (dJ++l.take (Lib.index l [10]).toNat)::ee [] (l.drop ((Lib.index l [10]).toNat+1))
 | [],dJ=>by simp [ee,Lib.index]
 | b::l,dJ=>by
  have ih:=yD l (dJ++[b]);have e1:ee dJ (b::l)=if b=10 then dJ::ee [] l else ee (dJ++[b]) l:=rfl
  have e2:Lib.index (b::l) [10]=if List.isPrefixOf [10] (b::l) then 0 else if Lib.index l [10]==-1 then -1 else Lib.index l [10]+1:=rfl
  rw [e1,e2]
  by_cases hb:b=10
  ·subst hb
   simp
  ·have hp:List.isPrefixOf [10] (b::l)=false:=by
    simp [List.isPrefixOf]; exact fun h=>hb h.symm
   rw [OG hb,ih,hp]
   by_cases hi:Lib.index l [10]=-1
   ·simp [hi]
   ·have hg:=Lib.index_ge l [10];have h1:(Lib.index l [10]==-1)=false:=by simpa using hi
    have h2:¬ Lib.index l [10]+1=-1:=ae
    have h3:(Lib.index l [10]+1).toNat=(Lib.index l [10]).toNat+1:=ae
    simp only [hi,h1,if_false,Bool.false_eq_true,h2,h3,List.take_succ_cons,List.drop_succ_cons,List.append_assoc,List.singleton_append]
def Bg (t:XA) (ht:t.size≠0):(pU t).size<t.size:=by
 have hsz:t.data.toList.length=t.size:=aj
 have:(pU t).size=(Lib.cut t.data.toList [10]).2.1.length:=by simp [pU,ByteArray.size]
 rw [this];unfold Lib.cut;split
 ·rw [OR]; simp; omega
 ·simp; omega
theorem tN:∀ (f n:Nat) (s:XA),s.size<f->(bK f n s).map (fun x=>x.2.data.toList)=ee [] s.data.toList
 | 0,_,_,h=>ae
 | f+1,n,s,h=>by
  unfold bK
  by_cases h0:s.size=0
  ·have:s.data.toList=[]:=OQ (by simpa using h0)
   rw [OH h0,this] <;> rfl
  ·have hne:s.data.toList≠[]:=fun e=>h0 (by have:=O7 List.length e; simpa using this)
   have ih:=tN f (n+1) (pU s) (by have:=Bg s h0; omega);rw [OG h0,P6,ih,yD s.data.toList []];have hg:=Lib.index_ge s.data.toList [10]
   by_cases hi:Lib.index s.data.toList [10]=-1
   ·have:¬ 0<=Lib.index s.data.toList [10]:=ae
    simp [hi,Bb,pU,Lib.cut,ee,hne]
   ·have:0<=Lib.index s.data.toList [10]:=ae
    simp [hi,Bb,pU,Lib.cut,this]
theorem xE:∀ (f n:Nat) (s:XA) (k:Nat) (x:Nat × XA),(bK f n s)[k]?=some x->x.1=n+k
 | 0,_,_,_,_,h=>by simp [bK] at h
 | f+1,n,s,k,x,h=>by
  unfold bK at h;split at h
  ·simp at h
  ·cases k with
   | zero=>simp at h; rw [<- h]; rfl
   | succ k =>
    simp at h;rw [xE f (n+1) (pU s) k x h];omega
def DE (s:XA):List XA:=(bK (s.size+1) 1 s).map (·.2)
def F9 (s:XA):(DE s).map (·.data.toList)=ee [] s.data.toList:=by
 unfold DE;rw [Ph];exact tN _ _ _ ae
def DC {s:XA} {l:List XA} (h:l.map (·.data.toList)=ee [] s.data.toList):l=DE s:=by
 have h2:=h.trans (F9 s).symm
 have:∀ (a b:List XA),a.map (·.data.toList)=b.map (·.data.toList)->a=b:=by
  intro a
  induction a with
  | nil=>intro b hb; cases b with
   | nil=>rfl
   | cons y b=>simp at hb
  | cons x a ih=>intro b hb; cases b with
   | nil=>simp at hb
   | cons y b =>
    simp only [List.map_cons,List.cons.injEq] at hb;rw [ih b hb.2,nL hb.1]
 exact this _ _ h2
def JN:Tryz.prog.underlying 25=some (.slice 9):=aB
def La:(Tryz.prog.info? 9).map (fun i=>(i.zero,i.size,i.bytes))=some (some (.string ⟨#[]⟩),1,16):=aB
def H4 (s:XA) (h:Hp):HC Tryz.prog 32 #[.string s] h fun v h'=>v=.func (.func 62) #[] #[.pointer (some ⟨h.size,0,none⟩)]/\bf h' h.size 9 [.string s]/\Ext h h'/\h'.size=h.size+1:=by
 refine ba (args:=[.string s]) mixed Tryz.func32 aB (zj s) ?_;unfold xr;refine bm ?_;intro h1 b1 e1 z1;exact ⟨rfl,b1,e1,z1⟩
abbrev Oj (x:XA):List XB:=[.string x]
abbrev IG:List fX:=[(false,[.slice 0]),(false,[.int .i64]),(false,[.int .i64])]
def II (s:XA) (h:Hp) (hs:s.size<=2^40):HC Tryz.prog 69 #[.string s] h fun v h'=>(∃ p c,v=.slice p (DE s).length c/\SL h' h.size 9 1 p (DE s).length c ((DE s).map Oj))/\Ext h h':=by
 refine ba (args:=[.string s]) mixed Tryz.func69 aB (mA s) ?_;unfold jy bN aR cz aI aQ gK;have hsl:s.data.toList.length=s.size:=aj
 refine bJ (cs:=IG) (fun x n h'=>∃ (from_ i:Nat) (out:List XA) (p:Option XC) (c:Nat),x=((p,out.length,c),(from_:Int),(i:Int),())/\n=s.size-i/\from_<=i/\i<=s.size/\out.length<=i /\
   SL h' h.size 9 1 p out.length c (out.map Oj)/\Ext h h'/\out.map (·.data.toList)++ee ((s.data.toList.drop from_).take (i-from_)) (s.data.toList.drop i)=ee [] s.data.toList)
  ((none,0,0),(0:Int),(0:Int),()) s.size rfl ⟨0,0,[],none,0,rfl,ae,ae,ae,aj,SL.nil _ _ _ _,Ch.refl _ _,aj⟩ ?_
 rintro ⟨⟨p1,l2,l3⟩,n4,n5,⟨⟩⟩ m h' ⟨from_,i,out,p,c,he,rfl,hfi,his,hoi,sl,ex,hl⟩;obtain ⟨⟨rfl,rfl,rfl⟩,rfl,rfl,_⟩:=he;refine ao ?_;have w:i<s.size->IntKind.wrap .i64 ((i:Int)+1)=((i+1:Nat):Int):=fun hi=>by rw [wrap_i64 ae ae]; omega
 refine ai (fun g=>?_) (fun g=>?_)
 ·have g:=OE g;have hi:i<s.size:=ae
  refine aC ⟨ae,g⟩ ?_;have hdr:s.data.toList.drop i=s.data.toList[i]::s.data.toList.drop (i+1):=by rw [OM]
  have hgd:aU s (i:Int)=((s.data.toList[i]'ae).toNat:Int):=by
   unfold aU;rw [Int.toNat_natCast,OV,OO ae] <;> rfl
  refine ai (fun g1=>?_) (fun g1=>?_)
  ·have h10:s.data.toList[i]'ae=10:=by
    have:=eq_of_beq g1
    rw [hgd] at this;exact PM.1 (by have h:(10:UInt8).toNat=10:=rfl; omega)
   refine aC ⟨ae,ae,ae⟩ ?_;refine fp (vs:=[.string (s.extract (Int.toNat (from_:Int)) (Int.toNat (i:Int)))]) JN La rfl ae ae aB rfl rfl sl (by have:=ex.size; omega) ae ae ?_;intro p' c' h7 s7 k7 hp7;have ex7:Ext h h7:=Ch.trans ex k7 (fun j hj hl=>by have:=(sl.bH hj).1; omega);refine aY (cs:=IG) ((p',out.length+1,c'),((i+1:Nat):Int),((i+1:Nat):Int),()) (s.size-(i+1)) rfl ae (by rw [w hi]; rfl) ⟨i+1,i+1,out++[s.extract (Int.toNat (from_:Int)) (Int.toNat (i:Int))],p',c',by rw [OX]; rfl,rfl,ae,ae,by simp; omega,by simpa using s7,ex7,?_⟩;rw [hdr,h10,jF,OH rfl] at hl;rw [<- hl]
   simp
  ·have h10:¬ s.data.toList[i]'ae=10:=by
    intro e;rw [hgd,e] at g1;revert g1; decide
   refine aY (cs:=IG) ((p1,out.length,l3),(from_:Int),((i+1:Nat):Int),()) (s.size-(i+1)) rfl ae (by rw [w hi]; rfl) ⟨from_,i+1,out,p1,l3,rfl,rfl,ae,ae,ae,sl,ex,?_⟩;rw [hdr,jF,OG h10] at hl;rw [<- hl]
   congr 2
   rw [show i+1-from_=(i-from_)+1 from ae,OT (by rw [OR]; omega)]
   congr 1
   simp [show from_+(i-from_)=i from ae]
 ·have g:=OF g;obtain rfl:i=s.size:=ae
  have hd:s.data.toList.drop s.size=[]:=Pp ae;rw [hd] at hl;refine ai (fun g1=>?_) (fun g1=>?_)
  ·have g1:=OE g1;refine aC ⟨ae,ae,ae⟩ ?_;refine fp (vs:=[.string (s.extract (Int.toNat (from_:Int)) (Int.toNat (s.size:Int)))]) JN La rfl ae ae aB rfl rfl sl (by have:=ex.size; omega) ae ae ?_;intro p' c' h7 s7 k7 hp7;have ex7:Ext h h7:=Ch.trans ex k7 (fun j hj hl=>by have:=(sl.bH hj).1; omega);have hne:¬ (s.data.toList.drop from_).take (s.size-from_)=[]:=fun e=>by have:=O7 List.length e; simp at this; omega
   have hlt:out++[s.extract (Int.toNat (from_:Int)) (Int.toNat (s.size:Int))]=DE s:=by
    refine DC ?_;rw [<- hl,yP,OG hne]
    simp
   refine ⟨⟨p',c',?_,?_⟩,ex7⟩
   ·rw [<- hlt]; simp
   ·rw [<- hlt]; simpa using s7
  ·have g1:=OF g1;have hf:from_=s.size:=ae
   have hlt:out=DE s:=by
    refine DC ?_;rw [<- hl,hf];simp [ee]
   rw [<- hlt];exact ⟨⟨p1,l3,rfl,sl⟩,ex⟩
open Go.Proofs Go.MapKept Go.WideAt Go.WideMaps Go.Maps Go.RowKit Go.WideElems Go.WideElems
def D9:XB->Option (DataW Unit × List MemPlace):=fun _=>some (.nil,[])
def F8:Tryz.prog.underlying 9=some .string:=aB
def KQ:Tryz.prog.underlying 286=some (.map 9 92):=aB
def keysOf (D:List (XA × XB)):List (List UInt8):=(D.map fun p=>p.1.data.toList).mergeSort fun x y=>decide (x<=y)
def HJ {x:MapEntry} {s:XA} (hk:x.key=.string s) (hs:s.size<=maxLen):WideElems.rd Tryz.prog 9 D9 x=some (.string s.data.toList,.nil):=by
 unfold WideElems.rd;rw [hk,keyOf_string_mk F8 hs] <;> rfl
def fZ.owns {W:World} {g:Nat} {D:List (XA × XB)} (m:fZ W.heap g D) (hl:D.length<=maxLen) :
  ∃ D0:DataW Unit,W.ownsMap Tryz.prog 9 D9 g D.length D0/\(strKeys D0).Perm (D.map fun p=>p.1.data.toList)/\Maps.size D0=D.length:=by
 obtain ⟨es,clock,hg,he,hs,hd⟩:=m;have hlen:es.size=D.length:=by
  have:=O7 List.length he
  simpa using this
 have hrd:es.toList.map (WideElems.rg Tryz.prog 9 D9)=D.map fun p=>(Lit.string p.1.data.toList,DataW.nil):=by
  apply PK;intro i;have h1:(es.toList.map (fun e=>(e.key,e.val)))[i]?=(D.map (fun p=>(Value.string p.1,p.2)))[i]?:=by rw [he]
  simp only [List.getElem?_map] at h1 ⊢;rcases Po i D.length with hi | hi
  ·rw [OO hi,OO (show i<es.toList.length by simp; omega)] at h1 ⊢;simp only [Option.map_some,Option.some.injEq,Prod.mk.injEq] at h1 ⊢;exact WideElems.rg_of (HJ h1.1 (hd _ (O2 hi)))
  ·rw [Pf hi,Pf (show es.toList.length<=i by simp; omega)] <;> rfl
 refine ⟨_,⟨es,clock,hg,⟨ae,hs,?_⟩,ae,rfl⟩,?_,?_⟩
 ·intro x hx;obtain ⟨i,hi,rfl⟩:=PA hx;have hi':i<D.length:=by simp at hi; omega
  have h1:(es.toList.map (fun e=>(e.key,e.val)))[i]?=(D.map (fun p=>(Value.string p.1,p.2)))[i]?:=by rw [he]
  simp only [List.getElem?_map,List.getElem?_eq_getElem hi',List.getElem?_eq_getElem hi,Option.map_some,Option.some.injEq,Prod.mk.injEq] at h1;exact ⟨_,HJ h1.1 (hd _ (O2 hi'))⟩
 ·show List.Perm (((es.toList.map (WideElems.rg Tryz.prog 9 D9)).foldr DataW.insert []).map fun p=>strOf p.1) _;rw [hrd];refine ((WideShapes.sorted_perm _).map _).trans ?_;rw [Ph];exact List.Perm.refl _
 ·show ((es.toList.map (WideElems.rg Tryz.prog 9 D9)).foldr DataW.insert []).length=D.length;rw [hrd,length_sorted,OI]
def World.By {W:World} {h:Hp} {o:Obj} (hW:W.heap=h.push o):({ W with heap:=h }:World).alloc o=W:=by
 cases W;simp only at hW;subst hW;rfl
def cY.alloc (w:World) (o:Obj):cY w (w.alloc o):=⟨rfl,rfl,rfl⟩
def JU (r:Option Nat) (h:Hp):HC Tryz.prog 193 #[.map r] h fun v h'=>v=.func (.func 202) #[] #[.pointer (some ⟨h.size,0,none⟩)]/\h'=h.push (.cells #[.map r] 286):=by
 intro W hW;subst hW;exact (callsIn_wide.1 (Tryz.y5 r W)).mono fun e w' ⟨he,hw⟩=>⟨_,he,by rw [hw]; exact cY.alloc _ _,rfl,by rw [hw]; rfl⟩
def SL.He {W:World} {b:Nat} {e:TypeId} {v:XB} {xs:List XB} (r:W.ownsRow b e 1 v xs.length xs):∃ p l c,v=.slice p l c/\SL W.heap b e 1 p l c (xs.map fun x=>[x]):=by
 have hfl:∀ ys:List XB,(ys.map fun x=>[x]).flatten=ys:=by
  intro ys
  induction ys with
  | nil=>rfl
  | cons y ys ih=>simp [ih]
 obtain ⟨h1,h2⟩:=r;rcases h2 with ⟨hv,hn⟩ | ⟨g,cap,dJ,hv,hb,hg,hle,hc,hs,ht⟩
 ·have:xs=[]:=OQ hn
  subst this;exact ⟨none,0,0,hv,SL.nil _ _ _ _⟩
 ·refine ⟨some ⟨g,0,none⟩,xs.length,cap,hv,aj,aj,g,[],dJ.toList.drop xs.length,rfl,hb,⟨hle,by unfold maxLen at hc; omega⟩,?_,?_⟩
  ·rw [hfl,PW]
   have:xs=dJ.toList.take xs.length:=by rw [<- ht]; simp
   unfold bf;rw [hg]
   congr 2
   conv=>lhs; rw [<- Array.toArray_toList (xs:=dJ),<- List.take_append_drop xs.length dJ.toList]
   rw [<- this]
  ·rw [OR,Array.length_toList,hs]; omega
def Gt {h:Hp} {g:Nat} {D:List (XA × XB)} (m:fZ h g D) (hl:D.length<=2^40) :
  HC Tryz.prog 34 #[.func (.func 202) #[] #[.pointer (some ⟨h.size,0,none⟩)]] (h.push (.cells #[.map (some g)] 286)) fun v h'=>∃ p l c,v=.slice p l c/\SL h' (h.size+1) 9 1 p l c ((keysOf D).map fun k=>[encStr k]) /\
   Ext (h.push (.cells #[.map (some g)] 286)) h':=by
 intro W hW;obtain ⟨D0,hown,hperm,hsize⟩:=fZ.owns (W:={ W with heap:=h }) m (by unfold maxLen; omega);have hc:=callsIn_wide.1 (Tryz.kO g D.length D0 D9 { W with heap:=h } hown (by rw [hsize]; unfold maxLen; omega) (by rw [hsize]; omega));rw [World.By hW] at hc;refine hc.mono fun e w' hr=>?_
 obtain ⟨v,ss,he,hp,hrow,_,hb⟩:=hr;have hss:ss.mergeSort (fun x y=>decide (x<=y))=keysOf D:=mergeSort_of_perm (hp.trans hperm);have hlen:ss.length=((ss.mergeSort (fun x y=>decide (x<=y))).map encStr).length:=by rw [OI,List.length_mergeSort]
 rw [hlen,hss] at hrow;obtain ⟨p,l,c,hv,hsl⟩:=SL.He hrow;refine ⟨v,he,⟨hb.os,hb.tape,hb.output⟩,p,l,c,hv,?_,?_⟩
 ·rw [Ph] at hsl
  have:W.heap.size=h.size+1:=by rw [hW]; simp
  rw [this] at hsl;exact hsl
 ·rw [<- hW];exact ⟨hb.size,fun i hi _=>hb.block i hi⟩
abbrev ec:=List (XA × Nat)
def cB (p:XA × Nat):List XB:=[.string p.1,.int .u32 p.2]
def vm (D:ec):List (XA × XB):=D.map fun p=>(p.1,Value.int .u32 p.2)
def eQ (D:ec) (s:XA):Nat:=((D.find? fun p=>decide (s=p.1)).map (·.2)).getD 0
def dy (D:ec) (s:XA) (v:Nat):ec:=if (D.find? fun p=>decide (s=p.1)).isSome then D.map fun p=>if s=p.1 then (p.1,v) else p else D++[(s,v)]
def lI (D:ec) (p:XA × Nat):ec:=dy D p.1 ((eQ D p.1+p.2) % 4294967296)
def GV (D:ec):ec:=(keysOf (vm D)).filterMap fun k=>if eQ D ⟨k.toArray⟩=0 then none else some (⟨k.toArray⟩,eQ D ⟨k.toArray⟩)
def KH (D:ec) (s:XA):(vm D).find? (fun p=>decide (s=p.1))=(D.find? fun p=>decide (s=p.1)).map fun p=>(p.1,Value.int .u32 p.2):=by
 unfold vm
 induction D with
 | nil=>rfl
 | cons p D ih =>
  by_cases h:s=p.1
  ·simp [h]
  ·simp only [List.map_cons,List.find?_cons,decide_eq_false h];exact ih
def EZ (D:ec) (s:XA):look (vm D) s=(D.find? fun p=>decide (s=p.1)).map fun p=>Value.int .u32 p.2:=by
 unfold look;rw [KH,Option.map_map] <;> rfl
def Fw (D:ec) (s:XA):(look (vm D) s).getD (.int .u32 0)=.int .u32 (eQ D s):=by
 rw [EZ];unfold eQ
 all_goals (cases D.find? fun p=>decide (s=p.1) <;> rfl)
def Lo (D:ec) (s:XA) (v:Nat):GG (vm D) s (.int .u32 v)=vm (dy D s v):=by
 unfold GG dy;rw [EZ];cases h:(D.find? fun p=>decide (s=p.1)) with
 | none=>simp [vm]
 | some q =>
  simp only [Option.map_some,Option.isSome_some,if_true,vm,List.map_map];refine List.map_congr_left fun p hp=>?_
  simp only [Function.comp];split <;> simp_all
def wq (D:ec) (s:XA) (v:Nat):(dy D s v).length<=D.length+1:=by
 unfold dy;split <;> simp
def LG:(Tryz.prog.info? 92).bind (·.zero)=some (.int .u32 0):=aB
def xj:Tryz.prog.underlying 91=some (.slice 109):=aB
def xI:(Tryz.prog.info? 109).map (fun i=>(i.zero,i.size,i.bytes))=some (some (.agg #[.string ⟨#[]⟩,.int .u32 0]),2,24):=aB
def wW {L:Lp} {h:Hp} {g:Nat} {D:ec} (m:fZ h g (vm D)) (s:XA) {k:Int->T} (hk:k (eQ D s) L K h):T.fb Tryz.prog (Instr.lookup 286 (.map (some g)) (.string s) false) false [(false,[.int .u32])] k L K h:=by
 refine AG KQ F8 LG m s false _ ?_;refine ⟨((eQ D s:Int),()),?_,hk⟩;simp only [Bool.false_eq_true,if_false];rw [Fw] <;> rfl
def HQ {L:Lp} {h:Hp} {g:Nat} {D:ec} (m:fZ h g (vm D)) {s:XA} (hs:s.size<=maxLen) {v:Int} {n:Nat} (hv:v=(n:Int)) {k:T} (hk:∀ h',fZ h' g (vm (dy D s n))->Ch [g] h h'->h'.size=h.size->k L K h') :
  T.pB Tryz.prog (Instr.mapUpdate 286 (.map (some g)) (.string s) (.int .u32 v)) k L K h:=by
 subst hv;refine uh KQ F8 m hs _ _ ?_;intro h' m' c' z';rw [Lo] at m';exact hk h' m' c' z'
def EL {h:Hp} {g:Nat} {D:ec} (m:fZ h g (vm D)) (hl:D.length<=2^40) (n:Int) :
  HC Tryz.prog 179 #[.map (some g),.int .u32 n] h fun v h'=>Ext h h'/\∃ p l c,v=.agg #[.slice p l c,.int .u32 n]/\SL h' h.size 109 2 p l c ((GV D).map cB):=by
 refine ba (args:=[.map (some g),.int .u32 n]) mixed Tryz.func179 aB (xA (some g) n) ?_;unfold we cv bN dH bW aS aR dh av aI aQ;refine bm ?_;intro h1 b1 e1 z1;refine bm ?_;intro h2 b2 e2 z2;refine ap b2 rfl aj ?_;intro h3 b3 k3 z3;have b3:bf h3 h1.size 94 [.slice none 0 0,.int .u32 n]:=b3;have e3:Ext h h3:=Ch.trans (e1.trans e2) k3 (fun i hi hl=>by simp at hi; omega);have m3:=m.an e3 aj;have c3:bf h3 h.size 94 [.slice none 0 0,.int .u32 0]:=(b1.an e2 aj).an k3 (by simp; omega);refine aK (JU (some g) h3) ?_;rintro _ h4 ⟨rfl,rfl⟩;refine ⟨(.func (.func 202) #[] #[.pointer (some ⟨h3.size,0,none⟩)],()),rfl,ao ?_⟩;have e4:Ext h3 (h3.push (.cells #[.map (some g)] 286)):=Ext.push _ _;have hkl:(vm D).length<=2^40:=by unfold vm; rw [OI]; exact hl
 refine aK (Gt m3 hkl) ?_;rintro _ h5 ⟨pk,lk,ck,rfl,sk,e5⟩;refine ⟨((pk,lk,ck),()),rfl,ao ?_⟩;have e35:=e4.trans e5;have hkeys:(keysOf (vm D)).length<=2^40:=by
  unfold keysOf;rw [List.length_mergeSort,OI];exact hkl
 have hlk:lk=(keysOf (vm D)).length:=by rw [sk.1,OI]
 unfold GV;generalize keysOf (vm D)=ks at sk hkeys hlk ⊢;have b5:=b3.an e35 aj;have c5:=c3.an e35 aj;have m5:=m3.an e35 aj;have e05:=e3.trans e35;have hz3:=e35.size;have hb3:=b3.lt;have hg:=m.lt;refine bJ (cs:=[(false,[.int .i64])]) (fun x w h'=>∃ (i:Nat) (p:Option XC) (l c:Nat),x.1=(i:Int)/\i<=ks.length/\w=ks.length-i/\Ch [h1.size] h5 h'/\bf h' h1.size 94 [.slice p l c,.int .u32 n] /\
  SL h' h5.size 109 2 p l c (((ks.take i).filterMap fun k=>if eQ D ⟨k.toArray⟩=0 then none else some ((⟨k.toArray⟩:XA),eQ D ⟨k.toArray⟩)).map cB)/\l<=i) ((0:Int),()) ks.length rfl
  ⟨0,none,0,0,rfl,ae,ae,Ch.refl _ _,b5,SL.nil _ _ _ _,ae⟩ ?_
 rintro ⟨n8,⟨⟩⟩ w h6 ⟨i,p,l,c,hi,hile,rfl,k6,b6,s6,hli⟩;simp only at hi;subst hi;refine ao ?_;have m6:=m5.an k6 (by simp; omega);have hz6:=k6.size;have e06:Ext h h6:=Ch.trans e05 k6 (fun j hj hl=>by simp at hj; omega);refine ai (fun g1=>?_) (fun g1=>?_)
 ·have g1:=OE g1;have hilt:i<ks.length:=ae
  have sk6:=sk.bd k6 (fun j hj=>by have:=(sk.bH hj).1; simp; omega);obtain ⟨a,rfl,hc⟩:=sk6.cells (i:=i) (by simpa using hilt);rw [O4] at hc;have htk:ks.take (i+1)=ks.take i++[ks[i]]:=OT hilt;generalize ks[i]=k at hc htk;refine aC ⟨ae,ae⟩ (au rfl ?_);rw [show Int.toNat (i:Int)=i from ae];refine aG ((⟨k.toArray⟩:XA),()) hc (ao ?_);have hw:IntKind.wrap .i64 ((i:Int)+1)=((i+1:Nat):Int):=by rw [wrap_i64 ae ae]; omega
  refine wW m6 _ (ai (fun g2=>?_) (fun g2=>?_))
  ·have g2:((eQ D ⟨k.toArray⟩:Nat):Int)≠0:=by simpa using g2
   refine af b6 ((p,l,c),()) rfl (ao ?_);refine wW m6 _ ?_;refine fp (vs:=cB (⟨k.toArray⟩,eQ D ⟨k.toArray⟩)) xj xI rfl ae ae aB rfl rfl s6 hz6 ae ae ?_;intro p' c' h7 s7 k7 hp7;have b7:=b6.an k7 (fun hh=>by have:=(s6.bH hh).1; omega);refine ap b7 rfl aj ?_;intro h8 b8 k8 z8;refine aY (cs:=[(false,[.int .i64])]) (((i+1:Nat):Int),()) (ks.length-(i+1)) rfl ae (O7 (fun z=>[Value.int .i64 z]) hw) ⟨i+1,p',l+1,c',rfl,ae,rfl,?_,b8,?_,ae⟩
   ·exact Ch.trans (Ch.trans k6 k7 (fun j hj hl=>by have:=(s6.bH hj).1; omega)) k8 (fun j hj _=>hj)
   ·rw [htk,PZ,OU];have hf:([k].filterMap fun k=>if eQ D ⟨k.toArray⟩=0 then none else some ((⟨k.toArray⟩:XA),eQ D ⟨k.toArray⟩))=[((⟨k.toArray⟩:XA),eQ D ⟨k.toArray⟩)]:=by
     simp only [List.filterMap_cons,List.filterMap_nil];rw [OG ae]
    rw [hf];exact s7.bd k8 (fun j hj=>by have:=(s7.bH hj).1; simp; omega)
  ·have g2:((eQ D ⟨k.toArray⟩:Nat):Int)=0:=by simpa using g2
   refine aY (cs:=[(false,[.int .i64])]) (((i+1:Nat):Int),()) (ks.length-(i+1)) rfl ae (O7 (fun z=>[Value.int .i64 z]) hw) ⟨i+1,p,l,c,rfl,ae,rfl,k6,b6,?_,ae⟩;rw [htk,PZ];have hf:([k].filterMap fun k=>if eQ D ⟨k.toArray⟩=0 then none else some ((⟨k.toArray⟩:XA),eQ D ⟨k.toArray⟩))=[]:=by
    simp only [List.filterMap_cons,List.filterMap_nil];rw [OH ae]
   rw [hf,Pr];exact s6
 ·have g1:=OF g1;have hi:i=ks.length:=ae
  subst hi;rw [O8] at s6;have c6:=c5.an k6 (by simp; omega);refine af b6 ((p,l,c),n,()) rfl (ao ?_);refine ap c6 rfl aj ?_;intro h7 b7 k7 z7;have b7:bf h7 h.size 94 [.slice p l c,.int .u32 n]:=b7;refine af b7 ((p,l,c),n,()) rfl ?_;have hz5:=e05.size;exact ⟨Ch.trans e06 k7 (fun j hj hl=>by simp at hj; omega),p,l,c,rfl,(s6.bd k7 (fun j hj=>by have:=(s6.bH hj).1; simp; omega)).mono ae⟩
structure tp (h:Hp) (p:Option XC) (l:Nat) (us:ec):Prop where
 len:l=us.length
 cells:∀ i,(hi:i<us.length)->∃ a,p=some a/\bk h (a.add (i*2)) 0 (cB us[i])
def tp.an {h:Hp} {p:Option XC} {l:Nat} {us:ec} (v:tp h p l us) (k:Ch ws h h') (hw:∀ i,i∈aE p->i∉ws):tp h' p l us :=
 ⟨v.len,fun i hi=>by
  obtain ⟨a,ha,hc⟩:=v.cells i hi;exact ⟨a,ha,bF k (by rw [fh]; exact hw _ (by rw [ha]; simp [aE])) _ _ hc⟩⟩
def SL.Dl {h:Hp} {b:Nat} {e:TypeId} {p:Option XC} {l c:Nat} {us:ec} (s:SL h b e 2 p l c (us.map cB)):tp h p l us:=by
 refine ⟨by rw [s.1,OI],fun i hi=>?_⟩;obtain ⟨a,ha,hc⟩:=s.cells (i:=i) (by simpa using hi);rw [O4] at hc;exact ⟨a,ha,hc⟩
structure fG where
 ay:ec
 num:Nat
def lV (p:Option XC) (l c:Nat) (x:fG):XB:=.agg #[.slice p l c,.int .u32 x.num]
def L5 (l:ec):ec:=GV (l.foldl lI [])
def gA (x:fG) (n:Nat):fG:=⟨L5 (x.ay.map fun p=>(p.1,p.2*n % 4294967296)),x.num*n % 4294967296⟩
def yM (x y:fG):fG:=⟨L5 (x.ay++y.ay),(x.num+y.num) % 4294967296⟩
def eW (x:Int):IntKind.wrap .u32 x=x % 4294967296:=by
 simp only [IntKind.wrap] <;> rfl
def kq (a:Nat):((a % 4294967296:Nat):Int)=(a:Int) % 4294967296:=Int.natCast_emod a 4294967296
def uz {h:Hp} {p:Option XC} {l c:Nat} {x:fG} (v:tp h p l x.ay) (hl:x.ay.length<=2^40) (hs:∀ t,t∈x.ay->t.1.size<=maxLen) (n:Nat) :
  HC Tryz.prog 156 #[lV p l c x,.int .u32 n] h fun w h'=>Ext h h'/\∃ p' l' c',w=lV p' l' c' (gA x n)/\SL h' h.size 109 2 p' l' c' ((gA x n).ay.map cB):=by
 refine ba (args:=[.agg #[.slice p l c,.int .u32 x.num],.int .u32 n]) mixed Tryz.func156 aB (wD p l c x.num n) ?_;unfold tz cv bN dH bW aS dh av aI bh aQ;refine bm ?_;intro h1 b1 e1 z1;refine bm ?_;intro h2 b2 e2 z2;refine th _ ?_;intro h3 m3 e3 z3;refine ⟨(some h2.size,()),rfl,ao ?_⟩;have c3:=(b1.an e2 aj).an e3 aj;have b3:=b2.an e3 aj;have e03:=(e1.trans e2).trans e3;have v3:=v.an e03 aj;have hll:=v.len;refine af c3 ((p,l,c),()) rfl (ao ?_);refine bJ (cs:=[(false,[.int .i64])]) (fun y w h'=>∃ (i:Nat),y.1=(i:Int)/\i<=x.ay.length/\w=x.ay.length-i/\Ch [h2.size] h3 h' /\
  fZ h' h2.size (vm (((x.ay.take i).map fun p=>(p.1,p.2*n % 4294967296)).foldl lI []))/\(((x.ay.take i).map fun p=>(p.1,p.2*n % 4294967296)).foldl lI []).length<=i) ((0:Int),()) x.ay.length rfl
  ⟨0,rfl,ae,ae,Ch.refl _ _,m3,aj⟩ ?_
 rintro ⟨n8,⟨⟩⟩ w h4 ⟨i,hi,hile,rfl,k4,m4,hD⟩;simp only at hi;subst hi;refine ao ?_;have hz4:=k4.size;have e04:Ext h h4:=Ch.trans e03 k4 (fun j hj hl=>by simp at hj; omega);refine ai (fun g1=>?_) (fun g1=>?_)
 ·have g1:=OE g1;have hilt:i<x.ay.length:=ae
  obtain ⟨a,rfl,hc⟩:=(v.an e04 aj).cells i hilt;have htk:x.ay.take (i+1)=x.ay.take i++[x.ay[i]]:=OT hilt;have hsz:=hs x.ay[i] (O2 hilt);generalize x.ay[i]=t at hc htk hsz;refine aC ⟨ae,ae⟩ (au rfl ?_);rw [show Int.toNat (i:Int)=i from ae];refine aG (t.1,(t.2:Int),()) hc (ao ?_);refine bm ?_;intro h5 b5 e5 z5;refine ap b5 rfl aj ?_;intro h6 b6 k6 z6;have b6:bf h6 h4.size 109 (cB t):=b6;have e46:Ext h4 h6:=Ch.trans e5 k6 (fun j hj hl=>by simp at hj; omega);have m6:=m4.an e46 aj;have hlt4:=m4.lt;refine af b6 (t.1,()) rfl (ao ?_);refine wW m6 _ ?_;rw [az];refine af b6 ((t.2:Int),()) rfl (ao ?_);generalize hDD:((x.ay.take i).map fun p=>(p.1,p.2*n % 4294967296)).foldl lI []=D at m6 hD;refine HQ (n:=(eQ D t.1+t.2*n % 4294967296) % 4294967296) m6 hsz ?_ ?_
  ·rw [eW,eW,kq,Int.natCast_add,kq,Int.natCast_mul]
  ·intro h7 m7 k7 z7;have hw:IntKind.wrap .i64 ((i:Int)+1)=((i+1:Nat):Int):=by rw [wrap_i64 ae ae]; omega
   have hf:((x.ay.take (i+1)).map fun p=>(p.1,p.2*n % 4294967296)).foldl lI []=dy D t.1 ((eQ D t.1+t.2*n % 4294967296) % 4294967296):=by
    rw [htk,OU,PJ,hDD] <;> rfl
   refine aY (cs:=[(false,[.int .i64])]) (((i+1:Nat):Int),()) (x.ay.length-(i+1)) rfl ae (O7 (fun z=>[Value.int .i64 z]) hw) ⟨i+1,rfl,ae,rfl,?_,by rw [hf]; exact m7,?_⟩
   ·exact Ch.trans (Ch.trans k4 e46 aj) k7 (fun j hj _=>hj)
   ·rw [hf]
    have:=wq D t.1 ((eQ D t.1+t.2*n % 4294967296) % 4294967296)
    omega
 ·have g1:=OF g1;have hi:i=x.ay.length:=ae
  subst hi;rw [O8] at m4 hD;have c4:=c3.an k4 (by simp; omega);have b4:=b3.an k4 (by simp; omega);rw [az];refine af c4 ((x.num:Int),()) rfl (ao ?_);refine aK (EL m4 ae _) ?_;rintro _ h5 ⟨e5,p',l',c',rfl,s5⟩;refine ⟨((p',l',c'),IntKind.wrap .u32 ((x.num:Int)*(n:Int)),()),rfl,ao ?_⟩;refine ap (b4.an e5 aj) rfl aj ?_;intro h6 b6 k6 z6;have b6:bf h6 h1.size 94 [.slice p' l' c',.int .u32 (IntKind.wrap .u32 ((x.num:Int)*(n:Int)))]:=b6;refine af b6 ((p',l',c'),IntKind.wrap .u32 ((x.num:Int)*(n:Int)),()) rfl ?_;have hz5:=e04.size;refine ⟨Ch.trans (e04.trans e5) k6 (fun j hj hl=>by simp at hj; omega),p',l',c',?_,(s5.bd k6 (fun j hj=>by have:=(s5.bH hj).1; simp; omega)).mono ae⟩;unfold lV gA;rw [eW];dsimp only;rw [kq,Int.natCast_mul]
def fQ (a b:XA):Prop:=a.data.toList<b.data.toList
instance (a b:XA):Decidable (fQ a b):=inferInstanceAs (Decidable (a.data.toList<b.data.toList))
def ta (a:XA):¬ fQ a a:=List.lt_irrefl (α:=UInt8) _
def iW {a b c:XA} (h:fQ a b) (k:fQ b c):fQ a c:=List.lt_trans (α:=UInt8) h k
def HD {a b:XA} (h:a.data.toList=b.data.toList):a=b:=by
 cases a; cases b;simp only at h;rw [O5.1 h]
def rf (a b:XA) (h:¬ fQ a b) (k:¬ fQ b a):a=b :=
 HD (List.le_antisymm (α:=UInt8) (List.not_lt.1 k) (List.not_lt.1 h))
def sU {a b:XA} (h:fQ a b):a≠b:=fun e=>by subst e; exact ta _ h
def qS {a b:XA} (h:fQ a b):¬ fQ b a:=fun k=>ta _ (iW h k)
structure Nf (l:ec):Prop where
 Nx:l.Pairwise fun p q=>fQ p.1 q.1
 Ip:∀ p,p∈l->p.2≠0/\p.2<4294967296
def cf:ec->XA->Nat
 | [],_=>0
 | p::l,s=>(if p.1=s then p.2 else 0)+cf l s
def AS (s:XA):cf [] s=0:=rfl
def gI (p:XA × Nat) (l:ec) (s:XA):cf (p::l) s=(if p.1=s then p.2 else 0)+cf l s:=rfl
def Nf.tail {p:XA × Nat} {l:ec} (h:Nf (p::l)):Nf l:=⟨(Pu.1 h.1).2,fun q hq=>h.2 q (OY _ hq)⟩
def Nf.head {p:XA × Nat} {l:ec} (h:Nf (p::l)):∀ q,q∈l->fQ p.1 q.1:=(Pu.1 h.1).1
def Nf.nil:Nf []:=⟨List.Pairwise.nil,aj⟩
def EJ {l:ec} {s:XA} (h:∀ p,p∈l->p.1≠s):cf l s=0:=by
 induction l with
 | nil=>rfl
 | cons p l ih =>
  rw [gI,OG (h p (Pe ..)),ih fun q hq=>h q (OY _ hq)]
def FK (l m:ec) (s:XA):cf (l++m) s=cf l s+cf m s:=by
 induction l with
 | nil=>simp [cf]
 | cons p l ih=>simp only [List.cons_append,cf,ih]; omega
def Nf.rb {p:XA × Nat} {l:ec} (h:Nf (p::l)):cf (p::l) p.1=p.2:=by
 rw [gI,OH rfl,EJ fun q hq=>(sU (h.head q hq)).symm] <;> rfl
def Nf.AY {l:ec} {s:XA} (h:∀ p,p∈l->fQ s p.1):cf l s=0:=EJ fun p hp=>(sU (h p hp)).symm
theorem Nf.J8:∀ {l m:ec},Nf l->Nf m->(∀ s,cf l s % 4294967296=cf m s % 4294967296)->l=m
 | [],[],_,_,_=>rfl
 | [],q::m,_,hm,h=>by
  have:=h q.1
  rw [hm.rb] at this;have hq:=hm.Ip q (Pe ..);simp only [cf] at this;omega
 | p::l,[],hl,_,h=>by
  have:=h p.1
  rw [hl.rb] at this;have hq:=hl.Ip p (Pe ..);simp only [cf] at this;omega
 | p::l,q::m,hl,hm,h=>by
  have hp:=hl.Ip p (Pe ..);have hq:=hm.Ip q (Pe ..)
  by_cases h1:fQ p.1 q.1
  ·exfalso
   have:=h p.1
   rw [hl.rb,Nf.AY (l:=q::m) (s:=p.1) (by
    intro r hr;rcases OZ.1 hr with rfl | hr
    ·exact h1
    ·exact iW h1 (hm.head r hr))] at this
   omega
  ·by_cases h2:fQ q.1 p.1
   ·exfalso
    have:=h q.1
    rw [hm.rb,Nf.AY (l:=p::l) (s:=q.1) (by
     intro r hr;rcases OZ.1 hr with rfl | hr
     ·exact h2
     ·exact iW h2 (hl.head r hr))] at this
    omega
   ·have he:=rf _ _ h1 h2;have h3:=h p.1;rw [hl.rb,he,hm.rb] at h3;have hpq:p=q:=by
     obtain ⟨a,b⟩:=p;obtain ⟨c,d⟩:=q;simp only at he h3 hp hq;subst he
     congr 1
     rw [Nat.mod_eq_of_lt hp.2,Nat.mod_eq_of_lt hq.2] at h3;exact h3
    subst hpq
    congr 1
    refine Nf.J8 hl.tail hm.tail fun s=>?_
    by_cases hs:p.1=s
    ·subst hs;rw [Nf.AY hl.head,Nf.AY hm.head]
    ·have:=h s
     simp only [cf,if_neg hs,Nat.zero_add] at this;exact this
def pV (s:XA):eQ [] s=0:=rfl
def nu (p:XA × Nat) (D:ec) (s:XA):eQ (p::D) s=if s=p.1 then p.2 else eQ D s:=by
 unfold eQ;rw [PN]
 by_cases h:s=p.1
 ·simp [h]
 ·simp [h]
def Cm (D:ec) (s t:XA) (v:Nat):eQ (D++[(t,v)]) s=if (D.find? fun p=>decide (s=p.1)).isSome then eQ D s else if s=t then v else 0:=by
 induction D with
 | nil=>simp [nu,pV]
 | cons p D ih =>
  rw [List.cons_append,nu,nu,ih,PN]
  by_cases h:s=p.1
  ·simp [h]
  ·simp only [decide_eq_false h,if_neg h]
def zR {D:ec} {s:XA} (h:(D.find? fun p=>decide (s=p.1)).isSome=false):eQ D s=0:=by
 unfold eQ;cases hf:(D.find? fun p=>decide (s=p.1)) with
 | none=>rfl
 | some x=>rw [hf] at h; cases h
def GX (D:ec) (t:XA) (v:Nat) (s:XA):eQ (D.map fun p=>if t=p.1 then (p.1,v) else p) s=if s=t/\(D.find? fun p=>decide (t=p.1)).isSome then v else eQ D s:=by
 induction D with
 | nil=>simp [pV]
 | cons p D ih =>
  rw [P6,nu,ih,nu,PN]
  by_cases h:t=p.1
  ·subst h
   by_cases k:s=p.1 <;> simp [k]
  ·rw [OG h]
   by_cases k:s=p.1
   ·subst k
    have:¬ p.1=t:=fun e=>h e.symm
    simp [this]
   ·simp only [decide_eq_false h,if_neg k]
def Aa (D:ec) (t:XA) (v:Nat) (s:XA):eQ (dy D t v) s=if s=t then v else eQ D s:=by
 unfold dy;split
 ·rename_i hh;rw [GX]
  by_cases k:s=t <;> simp [k,hh]
 ·rename_i hh;rw [Cm]
  by_cases k:s=t
  ·subst k;simp [hh]
  ·rw [OG k];split
   ·rfl
   ·rename_i h2;rw [zR (Bool.eq_false_iff.2 h2)]
def DS (l:ec) (s:XA):∀ D:ec,eQ (l.foldl lI D) s % 4294967296=(eQ D s+cf l s) % 4294967296:=by
 induction l with
 | nil=>intro D; simp [cf]
 | cons p l ih =>
  intro D;rw [Pq,ih];unfold lI;rw [gI,Aa]
  by_cases h:s=p.1
  ·subst h;rw [OH rfl,OH rfl,Nat.mod_add_mod]
   congr 1; omega
  ·rw [OG h,OG fun e=>h e.symm]
   congr 1; omega
def DX {D:ec} (h:(D.map (·.1)).Nodup) (t:XA) (v:Nat):((dy D t v).map (·.1)).Nodup:=by
 unfold dy;have h1:(D.find? fun p=>decide (t=p.1)).isSome=true↔t∈D.map (·.1):=by
  rw [List.find?_isSome];simp [eq_comm]
 split
 ·have e:(D.map fun p=>if t=p.1 then (p.1,v) else p).map (·.1)=D.map (·.1):=by
   rw [Ph];refine List.map_congr_left fun p hp=>?_
   simp only [Function.comp];split <;> rfl
  rw [e]; exact h
 ·rename_i hn;rw [OU,List.nodup_append];refine ⟨h,aj,?_⟩;rintro a ha b hb rfl;simp only [List.map_cons,List.map_nil,List.mem_singleton] at hb;subst hb;exact hn (h1.2 ha)
def xD (l:ec):∀ D:ec,(D.map (·.1)).Nodup->((l.foldl lI D).map (·.1)).Nodup:=by
 induction l with
 | nil=>intro D h; exact h
 | cons p l ih =>
  intro D h;rw [Pq];exact ih _ (DX h _ _)
def EP (l:ec):∀ D:ec,(∀ s,eQ D s<4294967296)->∀ s,eQ (l.foldl lI D) s<4294967296:=by
 induction l with
 | nil=>intro D h; exact h
 | cons p l ih =>
  intro D h;rw [Pq];refine ih _ fun s=>?_
  unfold lI;rw [Aa];split
  ·exact Nat.mod_lt _ bO
  ·exact h s
def Jb {D:ec} {s:XA} (h:s∉D.map (·.1)):eQ D s=0:=by
 refine zR ?_;cases hf:(D.find? fun p=>decide (s=p.1)).isSome with
 | false=>rfl
 | true =>
  rw [List.find?_isSome] at hf;obtain ⟨x,hx,hs⟩:=hf;exact absurd (Pa.2 ⟨x,hx,(OE hs).symm⟩) h
def pick (g:XA->Nat) (ks:List (List UInt8)):ec:=ks.filterMap fun k=>if g ⟨k.toArray⟩=0 then none else some (⟨k.toArray⟩,g ⟨k.toArray⟩)
def KD (g:XA->Nat) (s:XA):∀ ks:List (List UInt8),ks.Nodup->cf (pick g ks) s=if s.data.toList∈ks then g s else 0:=by
 intro ks
 induction ks with
 | nil=>intro _; simp [pick,cf]
 | cons k ks ih =>
  intro h;rw [List.nodup_cons] at h;have ih:=ih h.2;unfold pick at ih ⊢;rw [List.filterMap_cons];have e1:(⟨k.toArray⟩:XA)=s↔s.data.toList=k:=by
   constructor
   ·rintro rfl; simp
   ·intro e; exact HD (by simp [e])
  by_cases hk:s.data.toList=k
  ·have hs:=e1.2 hk;rw [hs];split
   ·rename_i hg;split at hg
    ·rename_i h0;rw [ih,h0]
     simp
    ·cases hg
   ·rename_i hg;split at hg
    ·cases hg
    ·cases hg;rw [gI,ih,OH rfl,OG (by rw [hk]; exact h.1),OH (by rw [hk]; simp)] <;> rfl
  ·have hs:¬ (⟨k.toArray⟩:XA)=s:=fun e=>hk (e1.1 e)
   split
   ·rw [ih];simp [hk]
   ·rename_i hg;split at hg
    ·cases hg
    ·cases hg;rw [gI,ih,OG hs];simp [hk]
def KA (g:XA->Nat) (hg:∀ s,g s<4294967296) {ks:List (List UInt8)} (h:ks.Pairwise fun a b=>a<b):Nf (pick g ks):=by
 refine ⟨?_,?_⟩
 ·unfold pick;refine List.Pairwise.filterMap _ ?_ h;intro a b hab p hp q hq;split at hp
  ·cases hp
  ·split at hq
   ·cases hq
   ·cases hp; cases hq;unfold fQ;simpa using hab
 ·intro p hp;unfold pick at hp;rw [Pt] at hp;obtain ⟨k,_,hk⟩:=hp;split at hk
  ·cases hk
  ·rename_i h0;cases hk;exact ⟨h0,hg _⟩
def vQ (D:ec):(keysOf (vm D)).Perm (D.map fun p=>p.1.data.toList):=by
 unfold keysOf vm;rw [Ph];exact List.mergeSort_perm _ _
def rY {D:ec} (h:(D.map (·.1)).Nodup):(keysOf (vm D)).Pairwise fun a b=>a<b:=by
 have hn:(keysOf (vm D)).Nodup:=by
  refine (vQ D).nodup_iff.2 ?_
  have:(D.map fun p=>p.1.data.toList)=(D.map (·.1)).map fun s=>s.data.toList:=by rw [Ph]; rfl
  rw [this];exact List.pairwise_map.2 (h.imp fun hne e=>hne (HD e))
 have hs:(keysOf (vm D)).Pairwise fun a b=>a<=b:=by
  unfold keysOf;refine (List.pairwise_mergeSort ?_ ?_ _).imp ?_
  ·intro a b c h1 h2;exact OK (List.le_trans (α:=UInt8) (OE h1) (OE h2))
  ·intro a b;simp only [Bool.or_eq_true,decide_eq_true_eq];exact List.le_total (α:=UInt8) a b
  ·intro a b hab;exact OE hab
 refine (hs.and hn).imp ?_;rintro a b ⟨h1,h2⟩
 by_cases hlt:a<b
 ·exact hlt
 ·exact absurd (List.le_antisymm (α:=UInt8) h1 (List.not_lt.1 hlt)) h2
def Db (l:ec):L5 l=pick (eQ (l.foldl lI [])) (keysOf (vm (l.foldl lI []))):=rfl
def HT (l:ec):Nf (L5 l):=by
 rw [Db];exact KA _ (EP l [] (fun s=>by rw [pV]; decide)) (rY (xD l [] aj))
def IM (l:ec) (s:XA):cf (L5 l) s=cf l s % 4294967296:=by
 have h1:=DS l s [];rw [pV,PQ,Nat.mod_eq_of_lt (EP l [] (fun s=>by rw [pV]; decide) s)] at h1;rw [Db,KD _ _ _ ((rY (xD l [] aj)).imp fun h e=>by subst e; exact List.lt_irrefl (α:=UInt8) _ h)];split
 ·exact h1
 ·rename_i hn;rw [<- h1,Jb];intro hm;refine hn ((vQ _).mem_iff.2 ?_);obtain ⟨p,hp,rfl⟩:=Pa.1 hm;exact Pa.2 ⟨p,hp,rfl⟩
def dL (n:Nat) (l:ec):ec:=l.filterMap fun p=>if p.2*n % 4294967296=0 then none else some (p.1,p.2*n % 4294967296)
def ek:Nat->ec->ec->ec
 | 0,_,_=>[]
 | n+1,x,y=>match x,y with
  | [],[]=>[]
  | p::x,[]=>p::ek n x []
  | [],q::y=>q::ek n [] y
  | p::x,q::y=>if fQ p.1 q.1 then p::ek n x (q::y) else if fQ q.1 p.1 then q::ek n (p::x) y else if (p.2+q.2) % 4294967296=0 then ek n x y else (p.1,(p.2+q.2) % 4294967296)::ek n x y
def Cc (x y:ec):ec:=ek (x.length+y.length) x y
def uQ {n:Nat} {l:ec} (h:Nf l):Nf (dL n l):=by
 refine ⟨?_,?_⟩
 ·unfold dL;refine List.Pairwise.filterMap _ ?_ h.1;intro a b hab p hp q hq;split at hp
  ·cases hp
  ·split at hq
   ·cases hq
   ·cases hp; cases hq;exact hab
 ·intro p hp;unfold dL at hp;rw [Pt] at hp;obtain ⟨k,_,hk⟩:=hp;split at hk
  ·cases hk
  ·rename_i h0;cases hk;exact ⟨h0,Nat.mod_lt _ bO⟩
def Aj (n:Nat) (l:ec) (s:XA):cf (dL n l) s % 4294967296=cf l s*n % 4294967296:=by
 induction l with
 | nil=>simp [dL,cf]
 | cons p l ih =>
  have hc:cf (dL n (p::l)) s=(if p.1=s then p.2*n % 4294967296 else 0)+cf (dL n l) s:=by
   unfold dL;rw [List.filterMap_cons];split
   ·rename_i hg;split at hg
    ·rename_i h0;rw [h0]; simp
    ·cases hg
   ·rename_i hg;split at hg
    ·cases hg
    ·cases hg;rfl
  rw [hc,Nat.add_mod,ih,gI]
  by_cases h:p.1=s
  ·rw [OH h,OH h,PP,Nat.mod_mod,<- Nat.add_mod]
  ·rw [OG h,OG h,PQ]; simp
def mE {n:Nat} {x y:ec} (h:r∈ek n x y):(∃ p,p∈x/\p.1=r.1)\/(∃ q,q∈y/\q.1=r.1):=by
 induction n generalizing x y with
 | zero=>simp [ek] at h
 | succ n ih =>
  rcases x with _ | ⟨p,x⟩ <;> rcases y with _ | ⟨q,y⟩
  ·simp [ek] at h
  ·simp only [ek,List.mem_cons] at h;rcases h with rfl | h
   ·exact .inr ⟨_,aj,rfl⟩
   ·rcases ih h with ⟨a,ha,e⟩ | ⟨a,ha,e⟩
    ·simp at ha
    ·exact .inr ⟨a,by simp [ha],e⟩
  ·simp only [ek,List.mem_cons] at h;rcases h with rfl | h
   ·exact .inl ⟨_,aj,rfl⟩
   ·rcases ih h with ⟨a,ha,e⟩ | ⟨a,ha,e⟩
    ·exact .inl ⟨a,by simp [ha],e⟩
    ·simp at ha
  ·simp only [ek] at h;split at h
   ·rcases OZ.1 h with rfl | h
    ·exact .inl ⟨_,aj,rfl⟩
    ·rcases ih h with ⟨a,ha,e⟩ | ⟨a,ha,e⟩
     ·exact .inl ⟨a,by simp [ha],e⟩
     ·exact .inr ⟨a,ha,e⟩
   ·split at h
    ·rcases OZ.1 h with rfl | h
     ·exact .inr ⟨_,aj,rfl⟩
     ·rcases ih h with ⟨a,ha,e⟩ | ⟨a,ha,e⟩
      ·exact .inl ⟨a,ha,e⟩
      ·exact .inr ⟨a,by simp [ha],e⟩
    ·split at h
     ·rcases ih h with ⟨a,ha,e⟩ | ⟨a,ha,e⟩
      ·exact .inl ⟨a,by simp [ha],e⟩
      ·exact .inr ⟨a,by simp [ha],e⟩
     ·rcases OZ.1 h with rfl | h
      ·exact .inl ⟨p,aj,rfl⟩
      ·rcases ih h with ⟨a,ha,e⟩ | ⟨a,ha,e⟩
       ·exact .inl ⟨a,by simp [ha],e⟩
       ·exact .inr ⟨a,by simp [ha],e⟩
def Nf.cons {p:XA × Nat} {l:ec} (h:Nf l) (hc:p.2≠0/\p.2<4294967296) (hl:∀ q,q∈l->fQ p.1 q.1):Nf (p::l) :=
 ⟨Pu.2 ⟨hl,h.1⟩,fun q hq=>by rcases OZ.1 hq with rfl | hq; exact hc; exact h.2 q hq⟩
def Kg {n:Nat} {x y:ec} (hx:Nf x) (hy:Nf y):Nf (ek n x y):=by
 induction n generalizing x y with
 | zero=>exact Nf.nil
 | succ n ih =>
  rcases x with _ | ⟨p,x⟩ <;> rcases y with _ | ⟨q,y⟩
  ·exact Nf.nil
  ·simp only [ek];refine (ih Nf.nil hy.tail).cons (hy.2 q aj) fun r hr=>?_
   rcases mE hr with ⟨a,ha,e⟩ | ⟨a,ha,e⟩
   ·simp at ha
   ·rw [<- e]; exact hy.head a ha
  ·simp only [ek];refine (ih hx.tail Nf.nil).cons (hx.2 p aj) fun r hr=>?_
   rcases mE hr with ⟨a,ha,e⟩ | ⟨a,ha,e⟩
   ·rw [<- e]; exact hx.head a ha
   ·simp at ha
  ·simp only [ek];split
   ·rename_i h1;refine (ih hx.tail hy).cons (hx.2 p aj) fun r hr=>?_
    rcases mE hr with ⟨a,ha,e⟩ | ⟨a,ha,e⟩
    ·rw [<- e]; exact hx.head a ha
    ·rw [<- e];rcases OZ.1 ha with rfl | ha
     ·exact h1
     ·exact iW h1 (hy.head a ha)
   ·rename_i h1;split
    ·rename_i h2;refine (ih hx hy.tail).cons (hy.2 q aj) fun r hr=>?_
     rcases mE hr with ⟨a,ha,e⟩ | ⟨a,ha,e⟩
     ·rw [<- e];rcases OZ.1 ha with rfl | ha
      ·exact h2
      ·exact iW h2 (hx.head a ha)
     ·rw [<- e]; exact hy.head a ha
    ·rename_i h2;have he:=rf _ _ h1 h2;split
     ·exact ih hx.tail hy.tail
     ·rename_i h0;refine (ih hx.tail hy.tail).cons ⟨h0,Nat.mod_lt _ bO⟩ fun r hr=>?_
      rcases mE hr with ⟨a,ha,e⟩ | ⟨a,ha,e⟩
      ·rw [<- e]; exact hx.head a ha
      ·rw [<- e];show fQ p.1 a.1;rw [he]; exact hy.head a ha
def JM {n:Nat} {x y:ec} (hn:x.length+y.length<=n) (s:XA):cf (ek n x y) s % 4294967296=(cf x s+cf y s) % 4294967296:=by
 induction n generalizing x y with
 | zero =>
  have h1:x=[]:=Pk.1 ae;have h2:y=[]:=Pk.1 ae;subst h1 h2;rfl
 | succ n ih =>
  rcases x with _ | ⟨p,x⟩ <;> rcases y with _ | ⟨q,y⟩
  ·rfl
  ·simp only [ek,gI,AS]
   have:=ih (x:=[]) (y:=y) (by simp at hn ⊢; omega)
   simp only [AS] at this;omega
  ·simp only [ek,gI,AS]
   have:=ih (x:=x) (y:=[]) (by simp at hn ⊢; omega)
   simp only [AS] at this;omega
  ·simp only [List.length_cons] at hn;simp only [ek];split
   ·have:=ih (x:=x) (y:=q::y) (by simp; omega)
    simp only [gI] at this ⊢;omega
   ·rename_i h1;split
    ·have:=ih (x:=p::x) (y:=y) (by simp; omega)
     simp only [gI] at this ⊢;omega
    ·rename_i h2;have he:=rf _ _ h1 h2
     have:=ih (x:=x) (y:=y) ae
     split
     ·rename_i h0;simp only [gI,<- he];split
      ·omega
      ·omega
     ·simp only [gI,<- he];split
      ·omega
      ·omega
def E1 {x y:ec} (hx:Nf x) (hy:Nf y):Nf (Cc x y):=Kg hx hy
def Ki (x y:ec) (s:XA):cf (Cc x y) s % 4294967296=(cf x s+cf y s) % 4294967296:=JM (OP _) s
def I3 {x y:ec} (hx:Nf x) (hy:Nf y):L5 (x++y)=Cc x y :=
 Nf.J8 (HT _) (E1 hx hy) fun s=>by rw [IM,Ki,FK,Nat.mod_mod]
def AZ (n:Nat) (l:ec) (s:XA):cf (l.map fun p=>(p.1,p.2*n % 4294967296)) s % 4294967296=cf l s*n % 4294967296:=by
 induction l with
 | nil=>simp [cf]
 | cons p l ih =>
  simp only [List.map_cons,cf];rw [Nat.add_mod,ih]
  by_cases h:p.1=s
  ·rw [OH h,OH h,PP,Nat.mod_mod,<- Nat.add_mod]
  ·rw [OG h,OG h,PQ]; simp
def D8 {n:Nat} {l:ec} (h:Nf l):L5 (l.map fun p=>(p.1,p.2*n % 4294967296))=dL n l :=
 Nf.J8 (HT _) (uQ h) fun s=>by rw [IM,Aj,Nat.mod_mod,AZ]
def eI (x:fG) (n:Nat):fG:=⟨dL n x.ay,x.num*n % 4294967296⟩
def fO (x y:fG):fG:=⟨Cc x.ay y.ay,(x.num+y.num) % 4294967296⟩
def lS {x:fG} (h:Nf x.ay) (n:Nat):gA x n=eI x n:=by unfold gA eI; rw [D8 h]
def AB {x y:fG} (h:Nf x.ay) (k:Nf y.ay):yM x y=fO x y:=by unfold yM fO; rw [I3 h k]
def dj (n:Nat) (l:ec):(dL n l).length<=l.length:=List.length_filterMap_le _ _
def Bw (n:Nat) (x y:ec):(ek n x y).length<=x.length+y.length:=by
 induction n generalizing x y with
 | zero=>simp [ek]
 | succ n ih =>
  rcases x with _ | ⟨p,x⟩ <;> rcases y with _ | ⟨q,y⟩
  ·simp [ek]
  ·have:=ih [] y
   simp only [ek,List.length_cons,List.length_nil] at this ⊢; omega
  ·have:=ih x []
   simp only [ek,List.length_cons,List.length_nil] at this ⊢; omega
  ·have h1:=ih x (q::y);have h2:=ih (p::x) y;have h3:=ih x y;simp only [List.length_cons] at h1 h2 ⊢;simp only [ek];split
   ·simp only [List.length_cons]; omega
   ·split
    ·simp only [List.length_cons]; omega
    ·split
     ·omega
     ·simp only [List.length_cons]; omega
def jG (x y:ec):(Cc x y).length<=x.length+y.length:=Bw _ x y
def HF {x y:ec} (h:r∈Cc x y):(∃ p,p∈x/\p.1=r.1)\/(∃ q,q∈y/\q.1=r.1):=mE h
def Dp {n:Nat} {x:ec} (h:r∈dL n x):∃ p,p∈x/\p.1=r.1:=by
 unfold dL at h;rw [Pt] at h;obtain ⟨k,hk,hr⟩:=h;split at hr
 ·cases hr
 ·cases hr;exact ⟨k,hk,rfl⟩
def Mn (r:Option Nat) (p:Option XC) (l lv:Nat) (k:T):T :=
 T.loop [aQ] [.int .i64 (0:Int)] <| fun (n20:Int) =>
 dH n20 l
  (T.need (cz n20 l) <|
  T.aA p <| fun (a21:XC) =>
  T.ah (a21.add (bW n20 2)) [.string,.int .u32] <| fun (s22:XA) (n23:Int) =>
  T.new [bh,av (0:Int)] 109 <| fun (a24:XC) =>
  T.ak a24 [.string s22,av n23] <|
  T.ah a24 [.string] <| fun (s25:XA) =>
  dh (Instr.lookup 286 (.map r) (.string s25) false) false [(false,[.int .u32])] <| fun (n26:Int) =>
  T.ah (a24.add 1) [.int .u32] <| fun (n27:Int) =>
  T.pB Tryz.prog (Instr.mapUpdate 286 (.map r) (.string s25) (av (IntKind.wrap .u32 (n26+n27)))) <|
  T.again lv [.int .i64 (aH (n20+(1:Int)))]) k
def AQ (l:ec):∀ D:ec,(l.foldl lI D).length<=D.length+l.length:=by
 induction l with
 | nil=>intro D; simp
 | cons p l ih =>
  intro D;rw [Pq];have h1:=ih (lI D p);have h2:=wq D p.1 ((eQ D p.1+p.2) % 4294967296);have h3:(lI D p).length<=D.length+1:=h2;simp only [List.length_cons];omega
def E8 {L:Lp} {h:Hp} {g:Nat} {p:Option XC} {l:Nat} {us D:ec} {k:T} {lv:Nat} (hlv:L.length=lv) (v:tp h p l us) (hl:us.length<=2^40) (hs:∀ t,t∈us->t.1.size<=maxLen) (m:fZ h g (vm D)) (hg:g∉aE p)
  (hk:∀ J h',fZ h' g (vm (us.foldl lI D))->Ch [g] h h'->k (L++[J]) K h'):Mn (some g) p l lv k L K h:=by
 have hll:=v.len;have hL:∀ J:List XB->Hp->Prop,(L++[J])[lv]?=some J:=by intro J; subst hlv; simp
 unfold Mn dH bW dh aH cz av bh aQ;refine bJ (cs:=[(false,[.int .i64])]) (fun y w h'=>∃ (i:Nat),y.1=(i:Int)/\i<=us.length/\w=us.length-i/\Ch [g] h h'/\fZ h' g (vm ((us.take i).foldl lI D))) ((0:Int),()) us.length rfl
  ⟨0,rfl,ae,ae,Ch.refl _ _,by simpa using m⟩ ?_
 rintro ⟨n8,⟨⟩⟩ w h4 ⟨i,hi,hile,rfl,k4,m4⟩;simp only at hi;subst hi;refine ao ?_;refine ai (fun g1=>?_) (fun g1=>?_)
 ·have g1:=OE g1;have hilt:i<us.length:=ae
  obtain ⟨a,rfl,hc⟩:=(v.an k4 (by intro j hj hm; rw [OJ] at hm; subst hm; exact hg hj)).cells i hilt;have htk:us.take (i+1)=us.take i++[us[i]]:=OT hilt;have hsz:=hs us[i] (O2 hilt);generalize us[i]=t at hc htk hsz;refine aC ⟨ae,ae⟩ (au rfl ?_);rw [show Int.toNat (i:Int)=i from ae];refine aG (t.1,(t.2:Int),()) hc (ao ?_);refine bm ?_;intro h5 b5 e5 z5;refine ap b5 rfl aj ?_;intro h6 b6 k6 z6;have b6:bf h6 h4.size 109 (cB t):=b6;have e46:Ext h4 h6:=Ch.trans e5 k6 (fun j hj hl=>by simp at hj; omega);have m6:=m4.an e46 aj;refine af b6 (t.1,()) rfl (ao ?_);refine wW m6 _ ?_;rw [az];refine af b6 ((t.2:Int),()) rfl (ao ?_);generalize hDD:(us.take i).foldl lI D=D' at m6;refine HQ (n:=(eQ D' t.1+t.2) % 4294967296) m6 hsz ?_ ?_
  ·rw [eW,kq,Int.natCast_add]
  ·intro h7 m7 k7 z7;have hw:IntKind.wrap .i64 ((i:Int)+1)=((i+1:Nat):Int):=by rw [wrap_i64 ae ae]; omega
   have hf:(us.take (i+1)).foldl lI D=dy D' t.1 ((eQ D' t.1+t.2) % 4294967296):=by
    rw [htk,PJ,hDD] <;> rfl
   refine aY (cs:=[(false,[.int .i64])]) (((i+1:Nat):Int),()) (us.length-(i+1)) (hL _) ae (O7 (fun z=>[Value.int .i64 z]) hw) ⟨i+1,rfl,ae,rfl,?_,by rw [hf]; exact m7⟩;exact Ch.trans (Ch.trans k4 e46 aj) k7 (fun j hj _=>hj)
 ·have g1:=OF g1;have hi:i=us.length:=ae
  subst hi;rw [O8] at m4;exact hk _ _ m4 k4
def MA:Tryz.prog.underlying 288=some (.slice 91):=aB
def MR:(Tryz.prog.info? 91).map (fun i=>(i.zero,i.size,i.bytes))=some (some (.slice none 0 0),1,24):=aB
def Hb {h:Hp} {p q:Option XC} {l c m d:Nat} {x y:fG} (v:tp h p l x.ay) (u:tp h q m y.ay) (hp:∀ i,i∈aE p->i<h.size) (hq:∀ i,i∈aE q->i<h.size)
  (hl:x.ay.length+y.ay.length<=2^40) (hx:∀ t,t∈x.ay->t.1.size<=maxLen) (hy:∀ t,t∈y.ay->t.1.size<=maxLen) :
  HC Tryz.prog 159 #[lV p l c x,lV q m d y] h fun w h'=>Ext h h'/\∃ p' l' c',w=lV p' l' c' (yM x y)/\SL h' h.size 109 2 p' l' c' ((yM x y).ay.map cB):=by
 refine ba (args:=[.agg #[.slice p l c,.int .u32 x.num],.agg #[.slice q m d,.int .u32 y.num]]) mixed Tryz.func159 aB (yZ p l c x.num q m d y.num) ?_;unfold ya cv bN dH bW aS aR dh av aI bh aQ;refine bm ?_;intro h1 b1 e1 z1;refine bm ?_;intro h2 b2 e2 z2;refine bm ?_;intro h3 b3 e3 z3;refine th _ ?_;intro h4 m4 e4 z4;refine ⟨(some h3.size,()),rfl,ao ?_⟩;have b1:=((b1.an e2 aj).an e3 aj).an e4 aj;have b2:=(b2.an e3 aj).an e4 aj;have b3:=b3.an e4 aj;have e04:=((e1.trans e2).trans e3).trans e4;refine af b1 ((p,l,c),()) rfl (ao ?_);refine af b2 ((q,m,d),()) rfl (ao ?_);refine eM (cells:=[.slice p l c,.slice q m d]) MA MR bO bO aB ?_;intro h5 b5 e5 z5;have m5:fZ h5 h3.size (vm []):=m4.an e5 aj;have b1:=b1.an e5 aj;have b2:=b2.an e5 aj;have b3:=b3.an e5 aj;have e05:=e04.trans e5;have hb5:=b5.lt;have hm4:=m4.lt;refine bJ (cs:=[(false,[.int .i64])]) (fun z w h'=>∃ (i:Nat),z.1=(i:Int)/\i<=2/\w=2-i/\Ch [h3.size] h5 h'/\fZ h' h3.size (vm ((([x.ay,y.ay].take i).flatten).foldl lI []))) ((0:Int),()) 2 rfl
  ⟨0,rfl,ae,ae,Ch.refl _ _,m5⟩ ?_
 rintro ⟨n8,⟨⟩⟩ w h6 ⟨i,hi,hile,rfl,k6,m6⟩;simp only at hi;subst hi;refine ao ?_;have b6:=b5.an k6 (by simp; omega);have e06:Ext h h6:=Ch.trans e05 k6 (fun j hj hl=>by simp at hj; omega);refine ai (fun g1=>?_) (fun g1=>?_)
 ·have g1:=OE g1;refine aC ⟨ae,ae⟩ (au rfl ?_);rw [show Int.toNat (i:Int)=i from ae,az];have hw:IntKind.wrap .i64 ((i:Int)+1)=((i+1:Nat):Int):=by rw [wrap_i64 ae ae]; omega
  have hi2:i=0\/i=1:=ae
  rcases hi2 with rfl | rfl
  ·refine af b6 ((p,l,c),()) rfl (ao ?_);refine E8 (us:=x.ay) (D:=[]) rfl (v.an e06 aj) ae hx m6 (fun hh=>by have:=hp _ hh; omega) ?_;intro J h7 m7 k7;refine aY (cs:=[(false,[.int .i64])]) (((0+1:Nat):Int),()) (2-(0+1)) rfl ae (O7 (fun z=>[Value.int .i64 z]) hw) ⟨0+1,rfl,ae,rfl,Ch.trans k6 k7 (fun j hj _=>hj),?_⟩;simpa using m7
  ·refine af b6 ((q,m,d),()) rfl (ao ?_);refine E8 (us:=y.ay) (D:=x.ay.foldl lI []) rfl (u.an e06 aj) ae hy (by simpa using m6) (fun hh=>by have:=hq _ hh; omega) ?_;intro J h7 m7 k7;refine aY (cs:=[(false,[.int .i64])]) (((1+1:Nat):Int),()) (2-(1+1)) rfl ae (O7 (fun z=>[Value.int .i64 z]) hw) ⟨1+1,rfl,ae,rfl,Ch.trans k6 k7 (fun j hj _=>hj),?_⟩;simpa using m7
 ·have g1:=OF g1;have hi:i=2:=ae
  subst hi;have m6:fZ h6 h3.size (vm ((x.ay++y.ay).foldl lI [])):=by simpa using m6
  have b1:=b1.an k6 (by simp; omega);have b2:=b2.an k6 (by simp; omega);have b3:=b3.an k6 (by simp; omega);rw [az,az];refine af b1 ((x.num:Int),()) rfl (ao ?_);refine af b2 ((y.num:Int),()) rfl (ao ?_);refine aK (EL m6 (by have:=AQ (x.ay++y.ay) []; rw [OX,List.length_nil] at this; omega) _) ?_;rintro _ h7 ⟨e7,p',l',c',rfl,s7⟩;refine ⟨((p',l',c'),IntKind.wrap .u32 ((x.num:Int)+(y.num:Int)),()),rfl,ao ?_⟩;refine ap (b3.an e7 aj) rfl aj ?_;intro h8 b8 k8 z8;have b8:bf h8 h2.size 94 [.slice p' l' c',.int .u32 (IntKind.wrap .u32 ((x.num:Int)+(y.num:Int)))]:=b8;refine af b8 ((p',l',c'),IntKind.wrap .u32 ((x.num:Int)+(y.num:Int)),()) rfl ?_;have hz6:=e06.size;have hz2:=(e1.trans e2).size;have hb3:=b3.lt;refine ⟨Ch.trans (e06.trans e7) k8 (fun j hj hl=>by simp at hj; omega),p',l',c',?_,(s7.bd k8 (fun j hj=>by have:=(s7.bH hj).1; simp; omega)).mono ae⟩;unfold lV yM;rw [eW];dsimp only;rw [kq,Int.natCast_add]
abbrev dT:=Except Nat (fG × List Tok)
def yY (b:Bool) (x:fG):fG:=if b=true then eI x 4294967295 else x
def qj:fG:=⟨[],0⟩
def rj (o:Option (List Tok->dT)) (ts:List Tok):dT :=
 match ts with
 | []=>.error 20
 | t::r =>
  if t.kind=1 then if (fJ t.text.data.toList).2.2=true then .error 20 else .ok (⟨[(t.text,1)],0⟩,r)
  else if t.kind=2 then .ok (⟨[],t.num⟩,r)
  else if eE t 40=true then match o with
   | none=>.error 21
   | some f=>match f r with
    | .error e=>.error e
    | .ok (x,r')=>match r' with
     | []=>.error 20
     | t'::r''=>if eE t' 41=true then .ok (x,r'') else .error 20
  else .error 20
def sD (o:Option (List Tok->dT)) (b:Bool) (ts:List Tok):dT :=
 match rj o ts with
 | .error e=>.error e
 | .ok (x,r)=>.ok (yY b x,r)
def yr (o:Option (List Tok->dT)):Bool->List Tok->dT
 | b,[]=>sD o b []
 | b,t::r=>if eE t 45=true then yr o (!b) r else sD o b (t::r)
def xX (o:Option (List Tok->dT)) (ts:List Tok):dT:=yr o false ts
def iH (fac:List Tok->dT):Nat->fG->List Tok->dT
 | 0,x,r=>.ok (x,r)
 | n+1,x,r=>match r with
  | []=>.ok (x,[])
  | t::r'=>if eE t 42=true then match fac r' with
    | .error e=>.error e
    | .ok (y,r'')=>if x.ay≠[]/\y.ay≠[] then .error 21 else if y.ay≠[] then iH fac n (eI y x.num) r'' else iH fac n (eI x y.num) r''
   else .ok (x,t::r')
def lO (fac:List Tok->dT) (ts:List Tok):dT :=
 match fac ts with
 | .error e=>.error e
 | .ok (x,r)=>iH fac r.length x r
def lg (part:List Tok->dT):Nat->fG->List Tok->dT
 | 0,x,r=>.ok (x,r)
 | n+1,x,r=>match r with
  | []=>.ok (x,[])
  | t::r'=>if eE t 43=true then match part r' with
    | .error e=>.error e
    | .ok (y,r'')=>lg part n (fO x y) r''
   else if eE t 45=true then match part r' with
    | .error e=>.error e
    | .ok (y,r'')=>lg part n (fO x (eI y 4294967295)) r''
   else .ok (x,t::r')
def jh (part:List Tok->dT) (ts:List Tok):dT :=
 match part ts with
 | .error e=>.error e
 | .ok (x,r)=>lg part r.length x r
def nw:Nat->List Tok->dT
 | 0=>jh (lO (xX none))
 | k+1=>jh (lO (xX (some (nw k))))
def bL (ts:List Tok):Except Nat fG :=
 match nw 32 ts with
 | .error e=>.error e
 | .ok (x,r)=>if r=[] then .ok x else .error 20
structure Good (x:fG):Prop where
 nf:Nf x.ay
 zM:∀ t,t∈x.ay->bI t.1.data.toList=true
 num:x.num<4294967296
def kU {s:XA} (h:bI s.data.toList=true):s.size<=32:=by
 unfold bI at h;simp only [Bool.and_eq_true,decide_eq_true_eq] at h
 have:s.data.toList.length=s.size:=aj
 omega
def Good.size {x:fG} (g:Good x):∀ t,t∈x.ay->t.1.size<=maxLen:=fun t ht=>by
 have:=kU (g.zM t ht)
 unfold maxLen; omega
def Good.z:Good qj:=⟨Nf.nil,by simp [qj],by simp [qj]⟩
def Good.T {x:fG} (g:Good x) (n:Nat):Good (eI x n) :=
 ⟨uQ g.nf,fun t ht=>by obtain ⟨p,hp,e⟩:=Dp ht; rw [<- e]; exact g.zM p hp,Nat.mod_lt _ bO⟩
def Good.A {x y:fG} (g:Good x) (k:Good y):Good (fO x y) :=
 ⟨E1 g.nf k.nf,fun t ht=>by
  rcases HF ht with ⟨p,hp,e⟩ | ⟨p,hp,e⟩
  ·rw [<- e]; exact g.zM p hp
  ·rw [<- e]; exact k.zM p hp,Nat.mod_lt _ bO⟩
def Good.neg {x:fG} (g:Good x) (b:Bool):Good (yY b x):=by
 unfold yY;split
 ·exact g.T _
 ·exact g
def D4 {l:ec} (h:Nf l):dL 1 l=l :=
 Nf.J8 (uQ h) h fun s=>by rw [Aj,Nat.mul_one]
def Jf {x:fG} (g:Good x):eI x 1=x:=by
 unfold eI;rw [D4 g.nf,Nat.mul_one,Nat.mod_eq_of_lt g.num]
structure NZ (t:Tok):Prop where
 num:t.num<4294967296
 name:t.kind=1->t.num=0/\bI t.text.data.toList=!(fJ t.text.data.toList).2.2
def Wf (ts:List Tok):Prop:=∀ t,t∈ts->NZ t
def Wf.suffix {r ts:List Tok} (w:Wf ts) (h:r <:+ ts):Wf r:=fun t ht=>w t (h.subset ht)
def Wf.tail {t:Tok} {r:List Tok} (w:Wf (t::r)):Wf r:=fun u hu=>w u (OY _ hu)
def jj (ts:List Tok):dT->Prop
 | .error e=>e=20\/e=21
 | .ok (x,r)=>Good x/\r <:+ ts/\r.length<ts.length/\x.ay.length+r.length<=ts.length
def sC {s:XA} (h:bI s.data.toList=true):Good ⟨[(s,1)],0⟩ :=
 ⟨⟨aj,aj⟩,by simpa using h,aj⟩
def vh {o:Option (List Tok->dT)} (ho:∀ f,o=some f->∀ ts,Wf ts->jj ts (f ts)) {ts:List Tok} (w:Wf ts):jj ts (rj o ts):=by
 unfold rj;cases ts with
 | nil=>exact .inl rfl
 | cons t r =>
  simp only;split
  ·rename_i h1;split
   ·exact .inl rfl
   ·rename_i h2;have h3:=((w t (Pe ..)).name h1).2;rw [Bool.not_eq_true] at h2;rw [h2] at h3;exact ⟨sC h3,Pc _ _,aj,by simp; omega⟩
  ·split
   ·exact ⟨⟨Nf.nil,aj,(w t (Pe ..)).num⟩,Pc _ _,aj,aj⟩
   ·split
    ·cases o with
     | none=>exact .inr rfl
     | some f =>
      simp only;have hf:=ho f rfl r w.tail;revert hf;cases f r with
      | error e=>exact id
      | ok q =>
       obtain ⟨x,r'⟩:=q;rintro ⟨g,s,l,n⟩;simp only;cases r' with
       | nil=>exact .inl rfl
       | cons t' r'' =>
        simp only;split
        ·refine ⟨g,((Pc _ _).trans s).trans (Pc _ _),?_,?_⟩
         ·simp only [List.length_cons] at l ⊢; omega
         ·simp only [List.length_cons] at n ⊢; omega
        ·exact .inl rfl
    ·exact .inl rfl
def wj (b:Bool) (x:fG):(yY b x).ay.length<=x.ay.length:=by
 unfold yY;split
 ·exact dj _ _
 ·exact OP _
def zC {o:Option (List Tok->dT)} (ho:∀ f,o=some f->∀ ts,Wf ts->jj ts (f ts)) {ts:List Tok} (w:Wf ts) (b:Bool):jj ts (sD o b ts):=by
 unfold sD
 have:=vh ho w
 revert this;cases rj o ts with
 | error e=>exact id
 | ok q =>
  obtain ⟨x,r⟩:=q;rintro ⟨g,s,l,n⟩
  have:=wj b x
  exact ⟨g.neg b,s,l,ae⟩
def jj.cons {t:Tok} {r:List Tok} {q:dT} (h:jj r q):jj (t::r) q:=by
 cases q with
 | error e=>exact h
 | ok q =>
  obtain ⟨g,s,l,n⟩:=h;exact ⟨g,s.trans (Pc _ _),by simp only [List.length_cons]; omega,by simp only [List.length_cons]; omega⟩
theorem Al {o:Option (List Tok->dT)} (ho:∀ f,o=some f->∀ ts,Wf ts->jj ts (f ts)):∀ {ts:List Tok} (b:Bool),Wf ts->jj ts (yr o b ts)
 | [],b,w=>by unfold yr; exact zC ho w b
 | t::r,b,w=>by
  unfold yr;split
  ·exact (Al ho _ w.tail).cons
  ·exact zC ho w b
def fm {o:Option (List Tok->dT)} (ho:∀ f,o=some f->∀ ts,Wf ts->jj ts (f ts)) (ts:List Tok) (w:Wf ts):jj ts (xX o ts):=Al ho _ w
def K5 (m:Nat) (ts:List Tok):dT->Prop
 | .error e=>e=20\/e=21
 | .ok (x,r)=>Good x/\r <:+ ts/\x.ay.length+r.length<=m
theorem sP {fac:List Tok->dT} (hf:∀ ts,Wf ts->jj ts (fac ts)):∀ (n:Nat) {x:fG} {r:List Tok},Good x->Wf r->K5 (x.ay.length+r.length) r (iH fac n x r)
 | 0,x,r,g,w=>⟨g,PF _,OP _⟩
 | n+1,x,[],g,w=>⟨g,PF _,OP _⟩
 | n+1,x,t::r',g,w=>by
  unfold iH;simp only;split
  ·have h1:=hf r' w.tail;revert h1;cases fac r' with
   | error e=>exact id
   | ok q =>
    obtain ⟨y,r''⟩:=q;rintro ⟨k,s,l,n1⟩;simp only;have hs:=s.trans (Pc t _);split
    ·exact .inr rfl
    ·split
     ·have h2:=sP hf n (k.T x.num) (w.suffix hs);revert h2
      have:=dj x.num y.ay
      cases iH fac n (eI y x.num) r'' with
      | error e=>exact id
      | ok q =>
       rintro ⟨a,b,c⟩;refine ⟨a,b.trans hs,?_⟩;simp only [eI,List.length_cons] at c ⊢;omega
     ·have h2:=sP hf n (g.T y.num) (w.suffix hs);revert h2
      have:=dj y.num x.ay
      cases iH fac n (eI x y.num) r'' with
      | error e=>exact id
      | ok q =>
       rintro ⟨a,b,c⟩;refine ⟨a,b.trans hs,?_⟩;simp only [eI,List.length_cons] at c ⊢;omega
  ·exact ⟨g,PF _,OP _⟩
def iX {fac:List Tok->dT} (hf:∀ ts,Wf ts->jj ts (fac ts)) (ts:List Tok) (w:Wf ts):jj ts (lO fac ts):=by
 unfold lO;have h1:=hf ts w;revert h1;cases fac ts with
 | error e=>exact id
 | ok q =>
  obtain ⟨x,r⟩:=q;rintro ⟨g,s,l,n⟩;have h2:=sP hf r.length g (w.suffix s);revert h2;simp only;cases iH fac r.length x r with
  | error e=>exact id
  | ok q =>
   rintro ⟨a,b,c⟩;exact ⟨a,b.trans s,by have:=b.length_le; omega,ae⟩
theorem uT {part:List Tok->dT} (hf:∀ ts,Wf ts->jj ts (part ts)):∀ (n:Nat) {x:fG} {r:List Tok},Good x->Wf r->K5 (x.ay.length+r.length) r (lg part n x r)
 | 0,x,r,g,w=>⟨g,PF _,OP _⟩
 | n+1,x,[],g,w=>⟨g,PF _,OP _⟩
 | n+1,x,t::r',g,w=>by
  unfold lg;simp only;split
  ·have h1:=hf r' w.tail;revert h1;cases part r' with
   | error e=>exact id
   | ok q =>
    obtain ⟨y,r''⟩:=q;rintro ⟨k,s,l,n1⟩;simp only;have hs:=s.trans (Pc t _);have h2:=uT hf n (g.A k) (w.suffix hs);revert h2
    have:=jG x.ay y.ay
    cases lg part n (fO x y) r'' with
    | error e=>exact id
    | ok q =>
     rintro ⟨a,b,c⟩;refine ⟨a,b.trans hs,?_⟩;simp only [fO,List.length_cons] at c ⊢;omega
  ·split
   ·have h1:=hf r' w.tail;revert h1;cases part r' with
    | error e=>exact id
    | ok q =>
     obtain ⟨y,r''⟩:=q;rintro ⟨k,s,l,n1⟩;simp only;have hs:=s.trans (Pc t _);have h2:=uT hf n (g.A (k.T 4294967295)) (w.suffix hs);revert h2
     have:=jG x.ay (dL 4294967295 y.ay)
     have:=dj 4294967295 y.ay
     cases lg part n (fO x (eI y 4294967295)) r'' with
     | error e=>exact id
     | ok q =>
      rintro ⟨a,b,c⟩;refine ⟨a,b.trans hs,?_⟩;simp only [fO,eI,List.length_cons] at c ⊢;omega
   ·exact ⟨g,PF _,OP _⟩
def zF {part:List Tok->dT} (hf:∀ ts,Wf ts->jj ts (part ts)) (ts:List Tok) (w:Wf ts):jj ts (jh part ts):=by
 unfold jh;have h1:=hf ts w;revert h1;cases part ts with
 | error e=>exact id
 | ok q =>
  obtain ⟨x,r⟩:=q;rintro ⟨g,s,l,n⟩;have h2:=uT hf r.length g (w.suffix s);revert h2;simp only;cases lg part r.length x r with
  | error e=>exact id
  | ok q =>
   rintro ⟨a,b,c⟩;exact ⟨a,b.trans s,by have:=b.length_le; omega,ae⟩
theorem ki:∀ (k:Nat) (ts:List Tok),Wf ts->jj ts (nw k ts)
 | 0,ts,w=>zF (iX (fm (by intro f hf; cases hf))) ts w
 | k+1,ts,w=>zF (iX (fm (by rintro f hf; cases hf; exact ki k))) ts w
def PB (h:Hp) (A:Nat) (ts:List Tok) (d:Int) (e:Nat):Prop :=
 ∃ p l c,bf h A 261 [.slice p l c,.int .i64 d,.int .i64 (e:Int)]/\Vw h p l c ts/\∀ i,i∈aE p->i<A
def PB.an {h:Hp} {A:Nat} {ts:List Tok} {d:Int} {e:Nat} (b:PB h A ts d e) (k:Ch ws h h') (hw:∀ i,i∈ws->A<i):PB h' A ts d e:=by
 obtain ⟨p,l,c,b,v,hp⟩:=b;exact ⟨p,l,c,b.an k (fun hm=>by have:=hw _ hm; omega),v.an k (fun i hi hm=>by have:=hw _ hm; have:=hp _ hi; omega),hp⟩
def PB.lt {h:Hp} {A:Nat} {ts:List Tok} {d:Int} {e:Nat} (b:PB h A ts d e):A<h.size:=by
 obtain ⟨p,l,c,b,v,hp⟩:=b;exact b.lt
abbrev ptr (a:Nat):XB:=.pointer (some ⟨a,0,none⟩)
structure Cl (h:Hp) (A a3 a4 a5 a6:Nat):Prop where
 b3:bf h a3 259 [ptr A]
 b4:bf h a4 262 [.func (.func 158) #[] #[ptr a6,ptr a3]]
 b5:bf h a5 262 [.func (.func 152) #[] #[ptr a3,ptr a4]]
 b6:bf h a6 262 [.func (.func 157) #[] #[ptr a5,ptr a3]]
 n3:A<a3
 n4:A<a4
 n5:A<a5
 n6:A<a6
def Cl.lt {h:Hp} {A a3 a4 a5 a6:Nat} (c:Cl h A a3 a4 a5 a6):a3<h.size/\a4<h.size/\a5<h.size/\a6<h.size:=⟨c.b3.lt,c.b4.lt,c.b5.lt,c.b6.lt⟩
def Cl.an {h:Hp} {A a3 a4 a5 a6:Nat} (c:Cl h A a3 a4 a5 a6) (k:Ch ws h h') (hw:∀ i,i∈ws->i=A\/h.size<=i):Cl h' A a3 a4 a5 a6:=by
 have h3:=c.b3.lt;have h4:=c.b4.lt;have h5:=c.b5.lt;have h6:=c.b6.lt
 have:=c.n3
 have:=c.n4
 have:=c.n5
 have:=c.n6
 exact ⟨c.b3.an k (fun hm=>by have:=hw _ hm; omega),c.b4.an k (fun hm=>by have:=hw _ hm; omega),c.b5.an k (fun hm=>by have:=hw _ hm; omega),c.b6.an k (fun hm=>by have:=hw _ hm; omega),ae,ae,ae,ae⟩
def cV (e:Nat) (ts:List Tok) (c:UInt8):Bool:=decide (e=0) && match ts with
 | []=>false
 | t::_=>eE t c
def fj {h:Hp} {a:XC} {t:Tok} (hc:bk h (a.add (0*4)) 0 (enc t)):bk h a 0 [.int .i64 (t.kind:Int)]/\bk h (a.add 1) 0 [.string t.text]/\bk h a 0 (enc t):=by
 rw [show a.add (0*4)=a by simp [Addr.add]] at hc;obtain ⟨h1,h2,h3⟩:=hc;exact ⟨⟨h1,trivial⟩,⟨by rw [add_add]; exact h2,trivial⟩,h1,h2,h3⟩
def kg {h:Hp} {A:Nat} {ts:List Tok} {d:Int} {e:Nat} (b:PB h A ts d e) (c:UInt8) :
  HC Tryz.prog 153 #[ptr A,.string ⟨#[c]⟩] h fun v h'=>v=.bool (cV e ts c)/\Ch [A] h h'/\h'.size=h.size/\PB h' A (if cV e ts c=true then ts.tail else ts) d e:=by
 obtain ⟨p,l,cc,b,v,hp⟩:=b;refine ba (args:=[ptr A,.string ⟨#[c]⟩]) mixed Tryz.func153 aB (oP (some ⟨A,0,none⟩) ⟨#[c]⟩) ?_;have no:cV e ts c=false->T.ret (.bool false) [] (fun v h'=>v=.bool (cV e ts c)/\Ch [A] h h'/\h'.size=h.size/\PB h' A (if cV e ts c=true then ts.tail else ts) d e) h:=by
  intro hn;refine ⟨by rw [hn],Ch.refl _ _,rfl,?_⟩;rw [OG (by rw [hn]; simp)];exact ⟨p,l,cc,b,v,hp⟩
 unfold jV aZ bE;refine au rfl ?_;rw [az];refine af b ((e:Int),()) rfl (ao ?_);have hlen:=v.len;have hcap:=v.cap;refine ai (fun g1=>?_) (fun g1=>?_)
 ·have g1:¬ e=0:=by simpa using g1
  refine no ?_;unfold cV;rw [OL g1] <;> rfl
 ·have g1:e=0:=by simpa using g1
  subst g1;refine au rfl (af b ((p,l,cc),()) rfl (ao ?_));refine ai (fun g2=>?_) (fun g2=>?_)
  ·have g2:l=0:=by simpa using g2
   have:ts=[]:=Pk.1 ae
   subst this;exact no rfl
  ·have g2:¬ l=0:=by simpa using g2
   cases ts with
   | nil=>simp at hlen; omega
   | cons t r =>
    obtain ⟨a,rfl,hc⟩:=v.cells 0 aj;obtain ⟨c1,c2,c3⟩:=fj (t:=t) hc;refine au rfl (af b ((some a,l,cc),()) rfl (ao ?_));refine aC ⟨ae,ae⟩ (au rfl (aG ((t.kind:Int),()) c1 (ao ?_)));refine ai (fun g3=>?_) (fun g3=>?_)
    ·have g3:¬ (t.kind:Int)=3:=by simpa using g3
     refine no ?_;have g4:¬ t.kind=3:=ae
     simp [cV,eE,g4]
    ·have g3:(t.kind:Int)=3:=by simpa using g3
     refine au rfl (af b ((some a,l,cc),()) rfl (ao ?_));refine aC ⟨ae,ae⟩ (au rfl (aG (t.text,()) c2 (ao ?_)));have e0:cV 0 (t::r) c=(ByteArray.toList t.text==ByteArray.toList ⟨#[c]⟩):=by
      show (true && eE t c)=_;rw [<- wQ,g3] <;> rfl
     refine ai (fun g4=>?_) (fun g4=>?_)
     ·refine no ?_;rw [e0];simpa using g4
     ·have g4:cV 0 (t::r) c=true:=by
       rw [e0];simpa using g4
      refine au rfl (af b ((some a,l,cc),()) rfl (ao ?_));refine aC ⟨ae,ae,ae⟩ (au rfl ?_);refine ap b rfl aj ?_;intro h1 b1 k1 z1;rw [g4];refine ⟨rfl,k1,z1,?_⟩;rw [OH rfl];refine ⟨_,_,_,b1,((v.drop (k:=1) ae).an k1 ?_),?_⟩
      ·intro i hi hm;rw [kD] at hi;rw [OJ] at hm
       have:=hp _ hi
       omega
      ·intro i hi;exact hp _ (by have:=kD (some a) cc 1 4; rw [<- this]; exact hi)
def lP {h:Hp} {A:Nat} {ts:List Tok} {d:Int} {e:Nat} (b:PB h A ts d e) (w:Nat) :
  HC Tryz.prog 154 #[ptr A,.int .i64 (w:Int)] h fun v h'=>v=.tuple #[]/\Ch [A] h h'/\h'.size=h.size/\PB h' A ts d (if e=0 then w else e):=by
 obtain ⟨p,l,cc,b,v,hp⟩:=b;refine ba (args:=[ptr A,.int .i64 (w:Int)]) mixed Tryz.func154 aB (mr (some ⟨A,0,none⟩) w) ?_;unfold iB aw;refine au rfl ?_;rw [az];refine af b ((e:Int),()) rfl (ao ?_);refine ai (fun g1=>?_) (fun g1=>?_)
 ·have g1:e=0:=by simpa using g1
  refine au rfl ?_;rw [az];refine ap b rfl aj ?_;intro h1 b1 k1 z1;refine ⟨rfl,k1,z1,p,l,cc,?_,v.an k1 ?_,hp⟩
  ·rw [OH g1]; exact b1
  ·intro i hi hm;rw [OJ] at hm
   have:=hp _ hi
   omega
 ·have g1:¬ e=0:=by simpa using g1
  exact ⟨rfl,Ch.refl _ _,rfl,p,l,cc,by rw [OG g1]; exact b,v,hp⟩
def Io (s:XA) (h:Hp):HC Tryz.prog 155 #[.string s] h fun w h'=>Ext h h'/\∃ p l c,w=lV p l c ⟨[(s,1)],0⟩/\SL h' h.size 109 2 p l c ([(s,1)].map cB):=by
 refine ba (args:=[.string s]) mixed Tryz.func155 aB (wI s) ?_;unfold ui aR av aI;refine bm ?_;intro h1 b1 e1 z1;refine eM (cells:=[.string s,.int .u32 1]) xj xI bO bO aB ?_;intro h2 b2 e2 z2;refine ap (b1.an e2 aj) rfl aj ?_;intro h3 b3 k3 z3;have b3:bf h3 h.size 94 [.slice (some ⟨h1.size,0,none⟩) 1 1,.int .u32 0]:=b3;refine af b3 ((some ⟨h1.size,0,none⟩,1,1),(0:Int),()) rfl ?_;refine ⟨Ch.trans (e1.trans e2) k3 (fun j hj hl=>by simp at hj; omega),some ⟨h1.size,0,none⟩,1,1,rfl,rfl,by simp [cB],h1.size,[],[],rfl,ae,ae,?_,rfl⟩;exact b2.an k3 (by simp; omega)
def BL (n:Nat) (d:Int) (x:fG) (ts':List Tok) (d':Int) (e':Nat):dT->Prop
 | .error e=>e'=e/\e≠0/\x.ay.length<=n
 | .ok (y,r)=>e'=0/\x=y/\ts'=r/\d'=d
def J5 (h:Hp) (A:Nat) (n:Nat) (d:Int) (res:dT) (v:XB) (h':Hp):Prop :=
 Ch [A] h h'/\∃ x p l c ts' d' e',v=lV p l c x/\SL h' h.size 109 2 p l c (x.ay.map cB)/\Good x/\PB h' A ts' d' e'/\BL n d x ts' d' e' res
def MP:ie Tryz.prog 158=true:=aB
def LB (h:Hp) (A A1 A21:Nat) (n:Nat) (d:Int) (res:dT) (h':Hp):Prop :=
 Ch [A] h h'/\bf h' A1 94 [.slice none 0 0,.int .u32 0]/\∃ x p l c ts' d' e',bf h' A21 94 [.slice p l c,.int .u32 (x.num:Int)]/\SL h' h.size 109 2 p l c (x.ay.map cB)/\Good x/\PB h' A ts' d' e'/\BL n d x ts' d' e' res
def Cl.IB {h:Hp} {A a3 a4 a5 a6:Nat} (c:Cl h A a3 a4 a5 a6) (k:Ch ws h h') (hw:∀ i,i∈ws->i=A\/(a3<i/\a4<i/\a5<i/\a6<i)):Cl h' A a3 a4 a5 a6:=by
 have:=c.n3
 have:=c.n4
 have:=c.n5
 have:=c.n6
 exact ⟨c.b3.an k (fun hm=>by have:=hw _ hm; omega),c.b4.an k (fun hm=>by have:=hw _ hm; omega),c.b5.an k (fun hm=>by have:=hw _ hm; omega),c.b6.an k (fun hm=>by have:=hw _ hm; omega),ae,ae,ae,ae⟩
def yQ (b:Bool):Nat:=if b=true then 4294967295 else 1
def Gq (b:Bool):IntKind.wrap .u32 (0-((yQ b:Nat):Int))=((yQ (!b):Nat):Int):=by cases b <;> decide
def Dd {x:fG} (g:Good x) (b:Bool):gA x (yQ b)=yY b x:=by
 rw [lS g.nf];unfold yQ yY;cases b
 ·exact Jf g
 ·rfl
def SL.zb {h:Hp} {b:Nat} {e:TypeId} {p:Option XC} {l c:Nat} {us:ec} (s:SL h b e 2 p l c (us.map cB)):∀ i,i∈aE p->i<h.size:=fun i hi=>(s.bH hi).2
def H2 {t:Tok} {c:UInt8} (h:eE t c=true):t.kind=3:=by
 unfold eE at h;simp only [Bool.and_eq_true,beq_iff_eq] at h;exact h.1
def wrap_small {d:Int} (h:-1000<=d) (k:d<=1000):IntKind.wrap .i64 d=d:=wrap_i64 ae ae
def Je {A a3 a4 a5 a6 : Nat} {o : Option (List Tok -> dT)} {d : Nat} (hd : d <= 32)
    (ho : match o with
      | none => d = 32
      | some f => d < 32 /\ ∀ h ts, Cl h A a3 a4 a5 a6 -> PB h A ts (d + 1 : Nat) 0 -> Wf ts -> ts.length <= 2 ^ 40 -> HC Tryz.prog 158 #[ptr a6, ptr a3] h (J5 h A ts.length (d + 1 : Nat) (f ts)))
    (hfine : ∀ f, o = some f -> ∀ ts, Wf ts -> jj ts (f ts))
    {h : Hp} {ts : List Tok} (cl : Cl h A a3 a4 a5 a6) (pb : PB h A ts d 0) (w : Wf ts) (hts : ts.length <= 2 ^ 40) :
    HC Tryz.prog 152 #[ptr a3, ptr a4] h (J5 h A ts.length d (xX o ts)) := by
  refine ba (args := [ptr a3, ptr a4]) mixed Tryz.func152 aB (mf ⟨a3, 0, none⟩ ⟨a4, 0, none⟩) ?_;unfold iI bN aN aS aH aZ av aI bh aQ bZ;have hA := pb.lt;have hcl := cl.lt;refine bm ?_;intro h1 b1 e1 z1
  refine bJ (cs := [(false, [.int .u32])]) (fun y m h' => ∃ (b : Bool) (us : List Tok), y.1 = ((yQ b : Nat) : Int) /\ xX o ts = yr o b us /\ Ch [A] h1 h' /\ PB h' A us d 0 /\ us <:+ ts /\ m = us.length) ((1 : Int), ()) ts.length rfl
    ⟨false, ts, rfl, rfl, Ch.refl _ _, pb.an e1 aj, PF _, rfl⟩ ?_
  rintro ⟨n2, ⟨⟩⟩ m h2 ⟨b, us, hn, hg, k2, pb2, hsuf, rfl⟩;simp only at hn;subst hn;refine ao ?_;have hz2 := k2.size;have cl1 := cl.an e1 aj;have cl2 := cl1.an k2 aj;have b12 := b1.an k2 (by simp; omega);have k02 : Ch [A] h h2 := Ch.trans (e1.mono aj) k2 (fun j hj _ => hj);have hus := hsuf.length_le;have wus := w.suffix hsuf;refine af cl2.b3 (some ⟨A, 0, none⟩, ()) rfl (ao ?_);refine aK (kg pb2 45) ?_;rintro _ h3 ⟨rfl, k3, z3, pb3⟩;refine ⟨(cV 0 us 45, ()), rfl, ao ?_⟩;have k03 : Ch [A] h h3 := Ch.trans k02 k3 (fun j hj _ => hj);have cl3 := cl2.an k3 aj;have b13 := b12.an k3 (by simp; omega);refine ai (fun g1 => ?_) (fun g1 => ?_)
  · rw [OH g1] at pb3
    cases us with
    | nil => cases g1
    | cons t r =>
      have g1 : eE t 45 = true := g1;refine aY (cs := [(false, [.int .u32])]) (((yQ (!b) : Nat) : Int), ()) r.length rfl aj (O7 (fun z => [Value.int .u32 z]) (Gq b)) ⟨!b, r, rfl, ?_, Ch.trans k2 k3 (fun j hj _ => hj), pb3, (Pc _ _).trans hsuf, rfl⟩;rw [hg];show (if eE t 45 = true then yr o (!b) r else sD o b (t :: r)) = _;rw [OH g1]
  · rw [OG (by rw [g1]; simp)] at pb3
    have hfs : xX o ts = sD o b us := by
      rw [hg];cases us with
      | nil => rfl
      | cons t r =>
        have g1 : eE t 45 = false := g1;show (if eE t 45 = true then yr o (!b) r else sD o b (t :: r)) = _;rw [OG (by rw [g1]; simp)]
    refine bG (cs := [(false, [.bool])]) (fun y h' => y.1 = decide (us = []) /\ h3 = h') ?_ ?_
    · refine af cl3.b3 (some ⟨A, 0, none⟩, ()) rfl (ao ?_);obtain ⟨p, l, c, bA, v, hp⟩ := pb3;refine au rfl ?_
      try rw [az]
      refine af bA ((0 : Int), ()) rfl (ao ?_);refine aW rfl ?_;refine af cl3.b3 (some ⟨A, 0, none⟩, ()) rfl (ao ?_);refine au rfl ?_;refine af bA ((p, l, c), ()) rfl (ao ?_);refine aO (cs := [(false, [.bool])]) (((l : Int) == 0), ()) rfl rfl ⟨?_, rfl⟩;have := v.len;cases us with
      | nil => simp only [List.length_nil] at this; subst this; rfl
      | cons t r =>
        simp only [List.length_cons] at this;rw [OL aj];show ((l : Int) == 0) = false;exact beq_eq_false_iff_ne.2 ae
    · rintro ⟨b5, ⟨⟩⟩ h3' ⟨hb5, rfl⟩
      simp only at hb5;subst hb5;refine ao ?_;refine ai (fun g2 => ?_) (fun g2 => ?_)
      · have g2 : us = [] := OE g2
        subst g2;refine af cl3.b3 (some ⟨A, 0, none⟩, ()) rfl (ao ?_);refine aK (lP pb3 20) ?_;rintro _ h4 ⟨rfl, k4, z4, pb4⟩;refine ⟨(), rfl, ao ?_⟩;refine ap (b13.an k4 (by simp; omega)) rfl aj ?_;intro h5 b5 k5 z5;have b5 : bf h5 h.size 94 [.slice none 0 0, .int .u32 0] := b5;refine af b5 ((none, 0, 0), (0 : Int), ()) rfl ?_;rw [hfs];exact ⟨Ch.trans (Ch.trans k03 k4 (fun j hj _ => hj)) k5 (fun j hj hl => by simp at hj; omega), qj, none, 0, 0, [], d, 20, rfl, SL.nil _ _ _ _, Good.z, pb4.an k5 (by simp; omega), rfl, aj, by simp [qj]⟩
      · have g2 : us ≠ [] := OF g2
        obtain ⟨t, r, rfl⟩ := List.exists_cons_of_ne_nil g2;have wt := wus t (Pe ..);simp only [List.length_cons] at hus;refine af cl3.b3 (some ⟨A, 0, none⟩, ()) rfl (ao ?_);obtain ⟨p, l, c, bA, v, hp⟩ := pb3;have hlen := v.len;have hcap := v.cap;simp only [List.length_cons] at hlen;obtain ⟨a, rfl, hc⟩ := v.cells 0 aj;obtain ⟨c1, c2, c3⟩ := fj (t := t) hc;refine au rfl (af bA ((some a, l, c), ()) rfl (ao ?_));refine aC ⟨ae, ae⟩ (au rfl (aG ((t.kind : Int), t.text, (t.num : Int), (t.at_ : Int), ()) c3 (ao ?_)));refine bm ?_;intro h4 b4 e4 z4;refine ap b4 rfl aj ?_;intro h5 b5 k5 z5;have b5 : bf h5 h3.size 178 (enc t) := b5;have hz3 := k03.size;have k35 : Ext h3 h5 := Ch.trans e4 k5 (fun j hj hl => by simp at hj; omega)
        try rw [az]
        refine af b5 (t.text, ()) rfl (ao ?_);refine qF (pR t.text h5) ?_;refine bm ?_;intro h6 b6 e6 z6;have k36 := k35.trans e6;have k06 : Ch [A] h h6 := Ch.trans k03 k36 aj;have cl6 := cl3.an k36 aj;have b16 := b13.an k36 aj;have bt6 := b5.an e6 aj;have pb6 : PB h6 A (t :: r) d 0 := PB.an ⟨some a, l, c, bA, v, hp⟩ k36 aj;have hh1 : h.size < h3.size :=ae
        have hh6 : h5.size < h6.size :=ae
        refine bG (cs := []) (fun y h' => LB h A h.size h5.size ts.length d (rj o (t :: r)) h') ?_ ?_
        · refine bG (cs := [(false, [.bool])]) (fun y h' => y.1 = (decide (t.kind = 1) && (fJ t.text.data.toList).2.2) /\ h6 = h') ?_ ?_
          · refine af bt6 ((t.kind : Int), ()) rfl (ao ?_);refine ai (fun g3 => ?_) (fun g3 => ?_)
            · have g3 : (t.kind : Int) = 1 := by simpa using g3
              refine aO (cs := [(false, [.bool])]) ((fJ t.text.data.toList).2.2, ()) rfl rfl ⟨?_, rfl⟩;rw [OK ae] <;> rfl
            · have g3 : ¬ (t.kind : Int) = 1 := by simpa using g3
              refine aO (cs := [(false, [.bool])]) (false, ()) rfl rfl ⟨?_, rfl⟩;rw [OL ae] <;> rfl
          · rintro ⟨b7, ⟨⟩⟩ h6' ⟨hb7, rfl⟩
            simp only at hb7;subst hb7;refine ao ?_
            have refuse : ∀ (e : Nat), rj o (t :: r) = .error e -> e ≠ 0 -> ∀ (hx : Hp) (ts' : List Tok) (d' : Int) (e0 : Nat) (x : fG) (p' : Option XC) (l' c' : Nat) (kk : Nat), Ch [A] h hx -> Cl hx A a3 a4 a5 a6 -> bf hx h.size 94 [.slice none 0 0, .int .u32 0] ->
                bf hx h5.size 94 [.slice p' l' c', .int .u32 (x.num : Int)] -> SL hx h.size 109 2 p' l' c' (x.ay.map cB) -> Good x -> x.ay.length <= ts.length -> PB hx A ts' d' e0 -> (if e0 = 0 then kk else e0) = e -> ∀ (L : Lp) (K : XB -> Hp -> Prop), L[1]? = some (fun vs h' => ∃ y : qu (flat []), vs = parts [] (gb _ y) /\ LB h A h.size h5.size ts.length d (rj o (t :: r)) h') ->
                (T.ah ⟨a3, 0, none⟩ [.pointer 261] fun (p23 : Option XC) => T.call Tryz.prog 154 [.pointer p23, .int .i64 (kk : Int)] true [] (T.again 1 [])) L K hx := by
              intro e he he0 hx ts' d' e0 x p' l' c' kk kx clx b1x b21x sx gx lx pbx hkk L K hL;refine af clx.b3 (some ⟨A, 0, none⟩, ()) rfl (ao ?_);refine aK (lP pbx kk) ?_;rintro _ h7 ⟨rfl, k7, z7, pb7⟩;refine ⟨(), rfl, ao ?_⟩;refine aO (cs := []) () hL rfl ⟨Ch.trans kx k7 (fun j hj _ => hj), b1x.an k7 (by simp; omega), x, p', l', c', ts', d', _, b21x.an k7 (by simp; omega), sx.bd k7 (fun j hj => by have := (sx.bH hj).1; simp; omega), gx, pb7, ?_⟩;rw [he];exact ⟨hkk, he0, lx⟩
            have next : ∀ (x : fG), rj o (t :: r) = .ok (x, r) -> Good x -> ∀ (hx : Hp) (p' : Option XC) (l' c' : Nat), Ch [A] h hx -> Cl hx A a3 a4 a5 a6 -> bf hx h.size 94 [.slice none 0 0, .int .u32 0] -> bf hx h5.size 94 [.slice p' l' c', .int .u32 (x.num : Int)] ->
                SL hx h.size 109 2 p' l' c' (x.ay.map cB) -> PB hx A (t :: r) d 0 -> ∀ (L : Lp) (K : XB -> Hp -> Prop), L[1]? = some (fun vs h' => ∃ y : qu (flat []), vs = parts [] (gb _ y) /\ LB h A h.size h5.size ts.length d (rj o (t :: r)) h') ->
                (T.ah ⟨a3, 0, none⟩ [.pointer 261] fun (p31 : Option XC) => T.ah ⟨a3, 0, none⟩ [.pointer 261] fun (p32 : Option XC) => T.aA p32 fun (a33 : XC) => T.ah a33 [.slice 178] fun (p34 : Option XC) (l35 : Nat) (l36 : Nat) =>
                  T.need (((0 : Int) <= (1 : Int)) /\ (((1 : Int) <= (l35 : Int)) /\ ((l35 : Int) <= (l36 : Int)))) <| T.aA p31 fun (a37 : XC) => T.ak a37 [.slice (if (l36 = 1) then p34 else (Option.map (fun a => Addr.add a 4) p34)) ((Int.toNat (l35 : Int)) - 1) (l36 - 1)] <| T.again 1 []) L K hx := by
              intro x he gx hx p' l' c' kx clx b1x b21x sx pbx L K hL;obtain ⟨q, m, cq, bQ, vq, hq⟩ := pbx;have hm := vq.len;have hmc := vq.cap;simp only [List.length_cons] at hm;refine af clx.b3 (some ⟨A, 0, none⟩, ()) rfl (ao ?_);refine af clx.b3 (some ⟨A, 0, none⟩, ()) rfl (ao ?_);refine au rfl (af bQ ((q, m, cq), ()) rfl (ao ?_));refine aC ⟨ae, ae, ae⟩ (au rfl ?_);refine ap bQ rfl aj ?_;intro h7 b7 k7 z7;refine aO (cs := []) () hL rfl ⟨Ch.trans kx k7 (fun j hj _ => hj), b1x.an k7 (by simp; omega), x, p', l', c', r, d, 0, b21x.an k7 (by simp; omega), sx.bd k7 (fun j hj => by have := (sx.bH hj).1; simp; omega), gx, ?_, ?_⟩
              · refine ⟨_, _, _, b7, ((vq.drop (k := 1) ae).an k7 ?_), ?_⟩
                · intro i hi hm
                  rw [kD] at hi;rw [OJ] at hm;have := hq _ hi;omega
                · intro i hi
                  exact hq _ (by have := kD q cq 1 4; rw [<- this]; exact hi)
              · rw [he]
                exact ⟨rfl, rfl, rfl, rfl⟩
            have fH : ∀ q, (if t.kind = 1 then if (fJ t.text.data.toList).2.2 = true then (.error 20 : dT) else .ok (⟨[(t.text, 1)], 0⟩, r)
                else if t.kind = 2 then .ok (⟨[], t.num⟩, r)
                else if eE t 40 = true then match o with
                  | none => .error 21
                  | some f => match f r with
                    | .error e => .error e
                    | .ok (x, r') => match r' with
                      | [] => .error 20
                      | t' :: r'' => if eE t' 41 = true then .ok (x, r'') else .error 20
                else .error 20) = q -> rj o (t :: r) = q := fun q hq => hq
            refine ai (fun g3 => ?_) (fun g3 => ?_)
            · simp only [Bool.and_eq_true, decide_eq_true_eq] at g3
              exact refuse 20 (fH _ (by rw [OH g3.1, OH g3.2])) ae h6 (t :: r) d 0 qj none 0 0 20 k06 cl6 b16 b6 (SL.nil _ _ _ _) Good.z (by simp [qj]) pb6 rfl _ _ rfl
            · simp only [Bool.and_eq_false_iff, decide_eq_false_iff_not] at g3
              refine af bt6 ((t.kind : Int), ()) rfl (ao ?_);refine ai (fun g4 => ?_) (fun g4 => ?_)
              · have g4 : t.kind = 1 := by have : (t.kind : Int) = 1 := by simpa using g4
                                           omega
                have g5 : (fJ t.text.data.toList).2.2 = false := by
                  rcases g3 with g3 | g3
                  · exact absurd g4 g3
                  · exact g3
                obtain ⟨hn0, hlg⟩ := wt.name g4;rw [g5] at hlg
                try rw [az]
                refine af bt6 (t.text, ()) rfl (ao ?_);refine aK (Io t.text h6) ?_;rintro _ h7 ⟨e7, p', l', c', rfl, s7⟩;refine ⟨((p', l', c'), (0 : Int), ()), rfl, ao ?_⟩;refine ap (b6.an e7 aj) rfl aj ?_;intro h8 b8 k8 z8;have b8 : bf h8 h5.size 94 [.slice p' l' c', .int .u32 0] := b8
                try rw [az]
                refine af b8 ((0 : Int), ()) rfl (ao ?_)
                try rw [az]
                refine af ((bt6.an e7 aj).an k8 (by simp; omega)) ((t.num : Int), ()) rfl ?_;refine ao ?_;refine ap b8 rfl aj ?_;intro h9 b9 k9 z9;have b9 : bf h9 h5.size 94 [.slice p' l' c', .int .u32 (IntKind.wrap .u32 (0 + (t.num : Int)))] := b9;rw [hn0] at b9;have k69 : Ch [h5.size] h6 h9 := Ch.trans (Ch.trans (e7.mono aj) k8 (fun j hj _ => hj)) k9 (fun j hj _ => hj);have k79 : Ch [h5.size] h7 h9 := Ch.trans k8 k9 (fun j hj _ => hj);refine next ⟨[(t.text, 1)], 0⟩ (fH _ (by rw [OH g4, OG (by rw [g5]; simp)])) (sC hlg) h9 p' l' c' (Ch.trans k06 k69 (fun j hj hl => by simp at hj; omega)) (cl6.IB k69 (by simp; omega)) (b16.an k69 (by simp; omega)) b9 ?_ (pb6.an k69 (by simp; omega)) _ _ rfl
                exact (s7.bd k79 (fun j hj => by have := (s7.bH hj).1; simp; omega)).mono ae
              · have g4 : ¬ t.kind = 1 := by have : ¬ (t.kind : Int) = 1 := by simpa using g4
                                             omega
                refine af bt6 ((t.kind : Int), ()) rfl (ao ?_);refine ai (fun g5 => ?_) (fun g5 => ?_)
                · have g5 : t.kind = 2 := by have : (t.kind : Int) = 2 := by simpa using g5
                                             omega
                  try rw [az]
                  refine af b6 ((0 : Int), ()) rfl (ao ?_)
                  try rw [az]
                  refine af bt6 ((t.num : Int), ()) rfl (ao ?_);refine ap b6 rfl aj ?_;intro h9 b9 k9 z9;have b9 : bf h9 h5.size 94 [.slice none 0 0, .int .u32 (IntKind.wrap .u32 (0 + (t.num : Int)))] := b9;rw [Int.zero_add, wrap_u32 ae (by have := wt.num; omega)] at b9;exact next ⟨[], t.num⟩ (fH _ (by rw [OG g4, OH g5])) ⟨Nf.nil, aj, wt.num⟩ h9 none 0 0 (Ch.trans k06 k9 (fun j hj hl => by simp at hj; omega)) (cl6.IB k9 (by simp; omega)) (b16.an k9 (by simp; omega)) b9 (SL.nil _ _ _ _) (pb6.an k9 (by simp; omega)) _ _ rfl
                · have g5 : ¬ t.kind = 2 := by have : ¬ (t.kind : Int) = 2 := by simpa using g5
                                               omega
                  refine af cl6.b3 (some ⟨A, 0, none⟩, ()) rfl (ao ?_);refine aK (kg pb6 40) ?_;rintro _ h7 ⟨rfl, k7, z7, pb7⟩;refine ⟨(cV 0 (t :: r) 40, ()), rfl, ao ?_⟩;have k07 : Ch [A] h h7 := Ch.trans k06 k7 (fun j hj _ => hj);have cl7 := cl6.an k7 aj;have b17 := b16.an k7 (by simp; omega);have b217 := b6.an k7 (by simp; omega);refine ai (fun g6 => ?_) (fun g6 => ?_)
                  · rw [OH g6] at pb7
                    have g6 : eE t 40 = true := g6;have pb7 : PB h7 A r d 0 := pb7;obtain ⟨q, m, cq, bQ, vq, hq⟩ := pb7;refine af cl7.b3 (some ⟨A, 0, none⟩, ()) rfl (ao ?_);refine au rfl ?_
                    try rw [az]
                    refine af bQ ((d : Int), ()) rfl (ao ?_);refine au rfl ?_
                    try rw [az]
                    refine ap bQ rfl aj ?_;intro h8 b8 k8 z8;have b8 : bf h8 A 261 [.slice q m cq, .int .i64 (IntKind.wrap .i64 ((d : Int) + 1)), .int .i64 (0 : Int)] := b8;rw [wrap_small ae ae] at b8;have cl8 := cl7.an k8 aj;have b18 := b17.an k8 (by simp; omega);have b218 := b217.an k8 (by simp; omega);have k08 : Ch [A] h h8 := Ch.trans k07 k8 (fun j hj _ => hj);have pb8 : PB h8 A r (d + 1 : Nat) 0 := ⟨q, m, cq, b8, vq.an k8 (fun i hi hm => by rw [OJ] at hm; have := hq _ hi; omega), hq⟩
                    refine af cl8.b3 (some ⟨A, 0, none⟩, ()) rfl (ao ?_);refine au rfl ?_
                    try rw [az]
                    refine af b8 (((d : Int) + 1), ()) rfl (ao ?_);refine ai (fun g7 => ?_) (fun g7 => ?_)
                    · have g7 := OE g7
                      cases o with
                      | some f => simp only at ho; omega
                      | none =>
                        exact refuse 21 (fH _ (by rw [OG g4, OG g5, OH g6])) ae h8 r (d + 1 : Nat) 0 qj none 0 0 21 k08 cl8 b18 b218 (SL.nil _ _ _ _) Good.z (by simp [qj]) pb8 rfl _ _ rfl
                    · have g7 := OF g7
                      cases o with
                      | none => simp only at ho; omega
                      | some f =>
                        simp only at ho;obtain ⟨hd', hs⟩ := ho;refine af cl8.b4 (.func (.func 158) #[] #[ptr a6, ptr a3], ()) rfl (ao ?_);have wr : Wf r := wus.tail;have hff := hfine f rfl r wr;have hrl : r.length + 1 <= ts.length := hus;refine kR (cap := [ptr a6, ptr a3]) MP rfl (hs h8 r cl8 pb8 wr ae) ?_;rintro _ h9 ⟨k9, x, p', l', c', ts', d', e', rfl, s9, gx, pb9, post⟩;refine ⟨((p', l', c'), (x.num : Int), ()), rfl, ao ?_⟩;have cl9 := cl8.an k9 aj;have b19 := b18.an k9 (by simp; omega);have hz8 := k08.size;have hb218 := b218.lt;refine ap (b218.an k9 (by simp; omega)) rfl aj ?_;intro h10 b10 k10 z10;have b10 : bf h10 h5.size 94 [.slice p' l' c', .int .u32 (x.num : Int)] := b10;have cl10 := cl9.IB k10 (by simp; omega);have b110 := b19.an k10 (by simp; omega);have pb10 := pb9.an k10 (by simp; omega);have s10 : SL h10 h.size 109 2 p' l' c' (x.ay.map cB) := (s9.bd k10 (fun j hj => by have := (s9.bH hj).1; simp; omega)).mono hz8;have k010 : Ch [A] h h10 := Ch.trans (Ch.trans k08 k9 (fun j hj _ => hj)) k10 (fun j hj hl => by simp at hj; omega);refine af cl10.b3 (some ⟨A, 0, none⟩, ()) rfl (ao ?_);obtain ⟨q2, m2, cq2, bQ2, vq2, hq2⟩ := pb10;refine au rfl ?_
                        try rw [az]
                        refine af bQ2 (d', ()) rfl (ao ?_);refine au rfl ?_
                        try rw [az]
                        refine ap bQ2 rfl aj ?_;intro h11 b11 k11 z11;have b11 : bf h11 A 261 [.slice q2 m2 cq2, .int .i64 (IntKind.wrap .i64 (d' - 1)), .int .i64 (e' : Int)] := b11;have pb11 : PB h11 A ts' (IntKind.wrap .i64 (d' - 1)) e' := ⟨q2, m2, cq2, b11, vq2.an k11 (fun i hi hm => by rw [OJ] at hm; have := hq2 _ hi; omega), hq2⟩
                        have cl11 := cl10.an k11 aj;refine af cl11.b3 (some ⟨A, 0, none⟩, ()) rfl (ao ?_);refine aK (kg pb11 41) ?_;rintro _ h12 ⟨rfl, k12, z12, pb12⟩;refine ⟨(cV e' ts' 41, ()), rfl, ao ?_⟩;have k1012 : Ch [A] h10 h12 := Ch.trans k11 k12 (fun j hj _ => hj);have k012 : Ch [A] h h12 := Ch.trans k010 k1012 (fun j hj _ => hj);have cl12 := cl11.an k12 aj;have b112 := b110.an k1012 (by simp; omega);have b12' := b10.an k1012 (by simp; omega);have s12 := s10.bd k1012 (fun j hj => by have := (s10.bH hj).1; simp; omega);refine ai (fun g8 => ?_) (fun g8 => ?_)
                        · have g8 : cV e' ts' 41 = false := by simpa using g8
                          rw [OG (by rw [g8]; simp)] at pb12;revert post hff;cases hfr : f r with
                          | error e =>
                            rintro hff ⟨rfl, he0, hxl⟩;exact refuse e' (fH _ (by rw [OG g4, OG g5, OH g6]; simp only [hfr])) he0 h12 ts' _ e' x p' l' c' 20 k012 cl12 b112 b12' s12 gx ae pb12 (by rw [OG he0]) _ _ rfl
                          | ok z =>
                            obtain ⟨y, r'⟩ := z;rintro ⟨_, _, _, hxl⟩ ⟨rfl, rfl, rfl, rfl⟩;refine refuse 20 (fH _ ?_) ae h12 ts' _ 0 x p' l' c' 20 k012 cl12 b112 b12' s12 gx ae pb12 rfl _ _ rfl;rw [OG g4, OG g5, OH g6];simp only [hfr];cases ts' with
                            | nil => rfl
                            | cons t' r'' =>
                              have g8 : eE t' 41 = false := g8;simp only;rw [OG (by rw [g8]; simp)]
                        · have g8 : cV e' ts' 41 = true := by simpa using g8
                          rw [OH g8] at pb12
                          have he0 : e' = 0 := by
                            unfold cV at g8;simp only [Bool.and_eq_true, decide_eq_true_eq] at g8;exact g8.1
                          revert post hff;cases hfr : f r with
                          | error e =>
                            rintro hff ⟨rfl, he, hxl⟩;exact absurd he0 he
                          | ok z =>
                            obtain ⟨y, r'⟩ := z;rintro ⟨_, _, _, hxl⟩ ⟨_, rfl, rfl, rfl⟩;subst he0;cases ts' with
                            | nil => cases g8
                            | cons t' r'' =>
                              have g8 : eE t' 41 = true := g8;refine aO (cs := []) () rfl rfl ⟨k012, b112, x, p', l', c', r'', _, 0, b12', s12, gx, pb12, ?_⟩;rw [fH (.ok (x, r'')) (by rw [OG g4, OG g5, OH g6]; simp only [hfr]; rw [OH g8])];refine ⟨rfl, rfl, rfl, ?_⟩;rw [wrap_small ae ae];omega
                  · rw [OG (by rw [g6]; simp)] at pb7
                    have g6 : eE t 40 = false := g6;exact refuse 20 (fH _ (by rw [OG g4, OG g5, OG (by rw [g6]; simp)])) ae h7 (t :: r) d 0 qj none 0 0 20 k07 cl7 b17 b217 (SL.nil _ _ _ _) Good.z (by simp [qj]) pb7 rfl _ _ rfl
        · rintro ⟨⟩ h7 ⟨k7, b17, x, p', l', c', ts', d', e', b217, s7, gx, pb7, post⟩
          refine ao ?_
          have hxl : x.ay.length <= ts.length := by
            have hf := vh hfine wus;revert post hf;cases rj o (t :: r) with
            | error e => exact fun hp hf => hp.2.2
            | ok q =>
              obtain ⟨y, r'⟩ := q;rintro ⟨_, rfl, _, _⟩ ⟨_, _, _, hl⟩;simp only [List.length_cons] at hl;omega
          refine af b217 ((p', l', c'), (x.num : Int), ()) rfl (ao ?_);refine aK (uz s7.Dl ae gx.size (yQ b)) ?_;rintro _ h8 ⟨e8, q, m, cq, rfl, s8⟩;refine ⟨((q, m, cq), ((gA x (yQ b)).num : Int), ()), rfl, ao ?_⟩;refine ap (b17.an e8 aj) rfl aj ?_;intro h9 b9 k9 z9;have b9 : bf h9 h.size 94 [.slice q m cq, .int .u32 ((gA x (yQ b)).num : Int)] := b9;refine af b9 ((q, m, cq), ((gA x (yQ b)).num : Int), ()) rfl ?_;have hz7 := k7.size;refine ⟨Ch.trans (Ch.trans k7 e8 aj) k9 (fun j hj hl => by simp at hj; omega), gA x (yQ b), q, m, cq, ts', d', e', rfl, ?_, ?_, ?_, ?_⟩
          · exact (s8.bd k9 (fun j hj => by have := (s8.bH hj).1; have := b17.lt; simp; omega)).mono hz7
          · rw [Dd gx]; exact gx.neg b
          · exact (pb7.an e8 aj).an k9 (by simp; omega)
          · rw [hfs, Dd gx]
            unfold sD;revert post;cases rj o (t :: r) with
            | error e => exact fun ⟨p1, p2, p3⟩ => ⟨p1, p2, Pb (wj b x) p3⟩
            | ok q =>
              obtain ⟨y, r'⟩ := q;rintro ⟨p1, rfl, p3, p4⟩;exact ⟨p1, rfl, p3, p4⟩
def An (h:Hp) (A A1 A7:Nat) (d:Int) (ts:List Tok) (q:dT) (rest:Nat->fG->List Tok->dT) (m:Nat) (h':Hp):Prop :=
 Ch [A] h h'/\bf h' A1 94 [.slice none 0 0,.int .u32 0]/\∃ x p l c ts' d' e',bf h' A7 94 [.slice p l c,.int .u32 (x.num:Int)]/\SL h' (A1+1) 109 2 p l c (x.ay.map cB)/\Good x/\PB h' A ts' d' e' /\
  ((e'=0/\d'=d/\∃ n,q=rest n x ts'/\ts'.length<=n/\ts' <:+ ts/\x.ay.length+ts'.length<=ts.length/\m=n+1)\/(e'≠0/\q=.error e'/\x.ay.length<=ts.length/\m=0))
def xJ {fac:List Tok->dT} {n:Nat} {x:fG} {ts:List Tok} (h:cV 0 ts 42=false):iH fac n x ts=.ok (x,ts):=by
 cases n with
 | zero=>rfl
 | succ n =>
  cases ts with
  | nil=>rfl
  | cons t r =>
   have h:eE t 42=false:=h;unfold iH;simp only;rw [OG (by rw [h]; simp)]
def Ih (P:Program) (f:FuncId) (cap:List XB) (A a3 a4 a5 a6 d:Nat) (g:List Tok->dT):Prop :=
 ∀ h ts,Cl h A a3 a4 a5 a6->PB h A ts d 0->Wf ts->ts.length<=2^40->HC P f cap.toArray h (J5 h A ts.length d (g ts))
def MI:ie Tryz.prog 152=true:=aB
def LD:ie Tryz.prog 157=true:=aB
def E2 {A a3 a4 a5 a6 d:Nat} {fac:List Tok->dT} (hfac:Ih Tryz.prog 152 [ptr a3,ptr a4] A a3 a4 a5 a6 d fac) (hfine:∀ ts,Wf ts->jj ts (fac ts)) :
  Ih Tryz.prog 157 [ptr a5,ptr a3] A a3 a4 a5 a6 d (lO fac):=by
 intro h ts cl pb w hts;refine ba (args:=[ptr a5,ptr a3]) mixed Tryz.func157 aB (nO ⟨a5,0,none⟩ ⟨a3,0,none⟩) ?_;unfold jZ aN aS av aI bZ;have hA:=pb.lt;have hcl:=cl.lt;refine bm ?_;intro h1 b1 e1 z1;have cl1:=cl.an e1 aj;refine af cl1.b5 (.func (.func 152) #[] #[ptr a3,ptr a4],()) rfl (ao ?_);refine kR (cap:=[ptr a3,ptr a4]) MI rfl (hfac h1 ts cl1 (pb.an e1 aj) w hts) ?_;rintro _ h2 ⟨k2,x,p,l,c,ts',d',e',rfl,s2,gx,pb2,post⟩;refine ⟨((p,l,c),(x.num:Int),()),rfl,ao ?_⟩;refine bm ?_;intro h3 b3 e3 z3;refine ap b3 rfl aj ?_;intro h4 b4 k4 z4;have b4:bf h4 h2.size 94 [.slice p l c,.int .u32 (x.num:Int)]:=b4;have hz2:=k2.size;have e24:Ext h2 h4:=Ch.trans e3 k4 (fun j hj hl=>by simp at hj; omega);have k04:Ch [A] h h4:=Ch.trans (Ch.trans (e1.mono aj) k2 (fun j hj _=>hj)) e24 aj;have b14:=(b1.an k2 (by simp; omega)).an e24 aj;have hrest:∀ h',Ch [A] h h'->Cl h' A a3 a4 a5 a6:=fun h' k=>cl.an k aj
 have hmid:∀ e0,e0∈[(0:Nat)]->True:=fun _ _=>trivial
 have start:∃ m,An h A h.size h2.size d ts (lO fac ts) (iH fac) m h4:=by
  have hf:=hfine ts w;revert post hf;unfold lO;cases hfr:fac ts with
  | error e =>
   rintro ⟨he,he0,hxl⟩ _;exact ⟨0,k04,b14,x,p,l,c,ts',d',e',b4,(s2.bd e24 aj).mono ae,gx,pb2.an e24 aj,.inr ⟨ae,by rw [he],hxl,rfl⟩⟩
  | ok z =>
   obtain ⟨y,r⟩:=z;rintro ⟨rfl,rfl,rfl,rfl⟩ ⟨_,hs,hl,hn⟩;exact ⟨_,k04,b14,x,p,l,c,ts',_,0,b4,(s2.bd e24 aj).mono ae,gx,pb2.an e24 aj,.inl ⟨rfl,rfl,ts'.length,rfl,OP _,hs,hn,rfl⟩⟩
 obtain ⟨m0,start⟩:=start;refine bJ (cs:=[]) (fun y m h'=>An h A h.size h2.size d ts (lO fac ts) (iH fac) m h') () m0 rfl start ?_;rintro ⟨⟩ m h5 ⟨k5,b15,x,p,l,c,ts',d',e',b5,s5,gx,pb5,cas⟩;refine ao ?_;have cl5:=hrest h5 k5;have hh2:h2.size<h5.size:=b5.lt;have hz5:=k5.size;refine af cl5.b3 (some ⟨A,0,none⟩,()) rfl (ao ?_);refine aK (kg pb5 42) ?_;rintro _ h6 ⟨rfl,k6,z6,pb6⟩;refine ⟨(cV e' ts' 42,()),rfl,ao ?_⟩;have k06:Ch [A] h h6:=Ch.trans k5 k6 (fun j hj _=>hj);have cl6:=hrest h6 k06;have b16:=b15.an k6 (by simp; omega);have b6:=b5.an k6 (by simp; omega);have s6:=s5.bd k6 (fun j hj=>by have:=(s5.bH hj).1; simp; omega);refine ai (fun g1=>?_) (fun g1=>?_)
 ·rw [OH g1] at pb6;have he0:e'=0:=by
   unfold cV at g1;simp only [Bool.and_eq_true,decide_eq_true_eq] at g1;exact g1.1
  rcases cas with ⟨_,rfl,n,hq,hn,hsuf,hxn,rfl⟩ | ⟨h0,_⟩
  case inr=>exact absurd he0 h0
  subst he0;cases ts' with
  | nil=>cases g1
  | cons t r =>
   have g1:eE t 42=true:=g1;simp only [List.length_cons] at hn hxn;obtain ⟨n',rfl⟩:∃ n',n=n'+1:=⟨n-1,ae⟩
   have pb6:PB h6 A r d 0:=pb6;have wr:Wf r:=(w.suffix hsuf).tail;have hpl:lO fac ts=match fac r with
    | .error e=>.error e
    | .ok (y,r'')=>if x.ay≠[]/\y.ay≠[] then .error 21 else if y.ay≠[] then iH fac n' (eI y x.num) r'' else iH fac n' (eI x y.num) r'':=by
    rw [hq];show (if eE t 42=true then _ else _)=_;rw [OH g1]
    all_goals (cases fac r <;> rfl)
   refine af cl6.b5 (.func (.func 152) #[] #[ptr a3,ptr a4],()) rfl (ao ?_);refine kR (cap:=[ptr a3,ptr a4]) MI rfl (hfac h6 r cl6 pb6 wr ae) ?_;rintro _ h7 ⟨k7,y,p',l',c',ts',d',e',rfl,s7,gy,pb7,post⟩;refine ⟨((p',l',c'),(y.num:Int),()),rfl,ao ?_⟩;have hz7:=k7.size;refine bm ?_;intro h8 b8 e8 z8;refine ap b8 rfl aj ?_;intro h9 b9 k9 z9;have b9:bf h9 h7.size 94 [.slice p' l' c',.int .u32 (y.num:Int)]:=b9;have e79:Ext h7 h9:=Ch.trans e8 k9 (fun j hj hl=>by simp at hj; omega);have k69:Ch [A] h6 h9:=Ch.trans k7 e79 aj;have k09:Ch [A] h h9:=Ch.trans k06 k69 (fun j hj _=>hj);have cl9:=hrest h9 k09;have pb9:=pb7.an e79 aj;have b19:=b16.an k69 (by simp; omega);have bx9:=b6.an k69 (by simp; omega);have sx9:=s6.bd k69 (fun j hj=>by have:=(s6.bH hj).1; simp; omega);have sy9:=(s7.bd e79 aj).mono (b':=h.size+1) ae;refine af cl9.b3 (some ⟨A,0,none⟩,()) rfl (ao ?_);obtain ⟨q,mq,cq,bQ,vq,hqq⟩:=pb9;have pb9:PB h9 A ts' d' e':=⟨q,mq,cq,bQ,vq,hqq⟩
   refine au rfl ?_;rw [az];refine af bQ ((e':Int),()) rfl (ao ?_);refine ai (fun g2=>?_) (fun g2=>?_)
   ·have g2:¬ e'=0:=by simpa using g2
    refine aY (cs:=[]) () 0 rfl ae rfl ⟨k09,b19,x,p,l,c,ts',d',e',bx9,sx9,gx,pb9,.inr ⟨g2,?_,ae,rfl⟩⟩;rw [hpl];revert post;cases fac r with
    | error e=>rintro ⟨he,_,_⟩; rw [he]
    | ok z=>obtain ⟨_,_⟩:=z; rintro ⟨he,_,_,_⟩; exact absurd he g2
   ·have g2:e'=0:=by simpa using g2
    subst g2;have hff:=hfine r wr;revert post hff;cases hfr:fac r with
    | error e=>rintro ⟨rfl,he,_⟩ _; exact absurd rfl he
    | ok z =>
     obtain ⟨y',r''⟩:=z;rintro ⟨_,rfl,rfl,rfl⟩ ⟨_,hs2,hl2,hn2⟩;rw [hfr] at hpl;simp only at hpl;have hlx:l=x.ay.length:=by rw [sx9.1,OI]
     have hly:l'=y.ay.length:=by rw [sy9.1,OI]
     have hsuf2:ts' <:+ ts:=(hs2.trans (Pc _ _)).trans hsuf;refine bG (cs:=[(false,[.bool])]) (fun z h'=>z.1=(decide (x.ay≠[]) && decide (y.ay≠[]))/\h9=h') ?_ ?_
     ·refine af bx9 ((p,l,c),()) rfl (ao ?_);refine ai (fun g3=>?_) (fun g3=>?_)
      ·have g3:=OE g3;refine af b9 ((p',l',c'),()) rfl (ao ?_);refine aO (cs:=[(false,[.bool])]) (decide ((l':Int)>0),()) rfl rfl ⟨?_,rfl⟩;have hx0:x.ay≠[]:=fun hh=>by rw [hh] at hlx; simp at hlx; omega
       rw [OK hx0,O3];cases hy0:y.ay with
       | nil=>rw [hy0] at hly; simp at hly; subst hly; rfl
       | cons a b =>
        rw [hy0] at hly;simp only [List.length_cons] at hly;show decide ((l':Int)>0)=decide (a::b≠[]);rw [OK ae,OK aj]
      ·have g3:=OF g3;refine aO (cs:=[(false,[.bool])]) (false,()) rfl rfl ⟨?_,rfl⟩;have hx0:x.ay=[]:=Pk.1 ae;rw [hx0] <;> rfl
     ·rintro ⟨b10,⟨⟩⟩ h9' ⟨hb10,rfl⟩;simp only at hb10;subst hb10;refine ao ?_;refine ai (fun g3=>?_) (fun g3=>?_)
      ·simp only [Bool.and_eq_true,decide_eq_true_eq] at g3;rw [OH g3] at hpl;refine af cl9.b3 (some ⟨A,0,none⟩,()) rfl (ao ?_);refine aK (lP pb9 21) ?_;rintro _ h10 ⟨rfl,k10,z10,pb10⟩;refine ⟨(),rfl,ao ?_⟩;refine aY (cs:=[]) () 0 rfl ae rfl ⟨Ch.trans k09 k10 (fun j hj _=>hj),b19.an k10 (by simp; omega),x,p,l,c,ts',_,21,bx9.an k10 (by simp; omega),sx9.bd k10 (fun j hj=>by have:=(sx9.bH hj).1; simp; omega),gx,pb10,.inr ⟨ae,hpl,ae,rfl⟩⟩
      ·rw [OG (by intro hh; rw [OK hh.1,OK hh.2] at g3; cases g3)] at hpl;refine af b9 ((p',l',c'),()) rfl (ao ?_);have hh9:=b9.lt;refine ai (fun g4=>?_) (fun g4=>?_)
       ·have g4:=OE g4;rw [OH (by intro hh; rw [hh] at hly; simp at hly; omega)] at hpl;refine af b9 ((p',l',c'),(y.num:Int),()) rfl (ao ?_);rw [az];refine af bx9 ((x.num:Int),()) rfl (ao ?_);refine aK (uz sy9.Dl ae gy.size x.num) ?_;rintro _ h10 ⟨e10,q',m',cq',rfl,s10⟩;rw [lS gy.nf] at s10 ⊢;refine ⟨((q',m',cq'),((eI y x.num).num:Int),()),rfl,ao ?_⟩;refine ap (bx9.an e10 aj) rfl aj ?_;intro h11 b11 k11 z11;have b11:bf h11 h2.size 94 [.slice q' m' cq',.int .u32 ((eI y x.num).num:Int)]:=b11;have hz9:=k09.size;have hz69:=k69.size;have k911:Ch [h2.size] h9 h11:=Ch.trans (e10.mono aj) k11 (fun j hj _=>hj);have htl:=dj x.num y.ay;refine aY (cs:=[]) () (n'+1) rfl ae rfl ⟨Ch.trans k09 k911 (fun j hj hl=>by simp at hj; omega),b19.an k911 (by simp; omega),eI y x.num,q',m',cq',ts',_,0,b11,(s10.bd k11 (fun j hj=>by have:=(s10.bH hj).1; simp; omega)).mono ae,gy.T _,pb9.an k911 (by simp; omega),
         .inl ⟨rfl,rfl,n',hpl,ae,hsuf2,?_,rfl⟩⟩
        show (dL x.num y.ay).length+ts'.length<=ts.length;omega
       ·have g4:=OF g4;rw [OG (by intro hh; exact hh (Pk.1 ae))] at hpl;refine af bx9 ((p,l,c),(x.num:Int),()) rfl (ao ?_);rw [az];refine af b9 ((y.num:Int),()) rfl (ao ?_);refine aK (uz sx9.Dl ae gx.size y.num) ?_;rintro _ h10 ⟨e10,q',m',cq',rfl,s10⟩;rw [lS gx.nf] at s10 ⊢;refine ⟨((q',m',cq'),((eI x y.num).num:Int),()),rfl,ao ?_⟩;refine ap (bx9.an e10 aj) rfl aj ?_;intro h11 b11 k11 z11;have b11:bf h11 h2.size 94 [.slice q' m' cq',.int .u32 ((eI x y.num).num:Int)]:=b11;have hz9:=k09.size;have hz69:=k69.size;have k911:Ch [h2.size] h9 h11:=Ch.trans (e10.mono aj) k11 (fun j hj _=>hj);have htl:=dj y.num x.ay;refine aY (cs:=[]) () (n'+1) rfl ae rfl ⟨Ch.trans k09 k911 (fun j hj hl=>by simp at hj; omega),b19.an k911 (by simp; omega),eI x y.num,q',m',cq',ts',_,0,b11,(s10.bd k11 (fun j hj=>by have:=(s10.bH hj).1; simp; omega)).mono ae,gx.T _,pb9.an k911 (by simp; omega),
         .inl ⟨rfl,rfl,n',hpl,ae,hsuf2,?_,rfl⟩⟩
        show (dL y.num x.ay).length+ts'.length<=ts.length;omega
 ·rw [OG (by rw [g1]; simp)] at pb6;refine af b6 ((p,l,c),(x.num:Int),()) rfl (ao ?_);refine ap b16 rfl aj ?_;intro h7 b7 k7 z7;have b7:bf h7 h.size 94 [.slice p l c,.int .u32 (x.num:Int)]:=b7;refine af b7 ((p,l,c),(x.num:Int),()) rfl ?_;refine ⟨Ch.trans k06 k7 (fun j hj hl=>by simp at hj; omega),x,p,l,c,ts',d',e',rfl,?_,gx,pb6.an k7 (by simp; omega),?_⟩
  ·exact (s6.bd k7 (fun j hj=>by have:=(s6.bH hj).1; simp; omega)).mono ae
  ·rcases cas with ⟨rfl,rfl,n,hq,hn,hsuf,hxn,rfl⟩ | ⟨h0,hq,hxl,rfl⟩
   ·rw [hq,xJ g1];exact ⟨rfl,rfl,rfl,rfl⟩
   ·rw [hq];exact ⟨rfl,h0,hxl⟩
def zD {part:List Tok->dT} {n:Nat} {x:fG} {ts:List Tok} (h:cV 0 ts 43=false) (k:cV 0 ts 45=false):lg part n x ts=.ok (x,ts):=by
 cases n with
 | zero=>rfl
 | succ n =>
  cases ts with
  | nil=>rfl
  | cons t r =>
   have h:eE t 43=false:=h;have k:eE t 45=false:=k;unfold lg;simp only;rw [OG (by rw [h]; simp),OG (by rw [k]; simp)]
def HU {A a3 a4 a5 a6 d:Nat} {part:List Tok->dT} (hpart:Ih Tryz.prog 157 [ptr a5,ptr a3] A a3 a4 a5 a6 d part) (hfine:∀ ts,Wf ts->jj ts (part ts)) :
  Ih Tryz.prog 158 [ptr a6,ptr a3] A a3 a4 a5 a6 d (jh part):=by
 intro h ts cl pb w hts;refine ba (args:=[ptr a6,ptr a3]) mixed Tryz.func158 aB (pL ⟨a6,0,none⟩ ⟨a3,0,none⟩) ?_;unfold lj aN aS av aI;have hA:=pb.lt;have hcl:=cl.lt;refine bm ?_;intro h1 b1 e1 z1;have cl1:=cl.an e1 aj;refine af cl1.b6 (.func (.func 157) #[] #[ptr a5,ptr a3],()) rfl (ao ?_);refine kR (cap:=[ptr a5,ptr a3]) LD rfl (hpart h1 ts cl1 (pb.an e1 aj) w hts) ?_;rintro _ h2 ⟨k2,x,p,l,c,ts',d',e',rfl,s2,gx,pb2,post⟩;refine ⟨((p,l,c),(x.num:Int),()),rfl,ao ?_⟩;refine bm ?_;intro h3 b3 e3 z3;refine ap b3 rfl aj ?_;intro h4 b4 k4 z4;have b4:bf h4 h2.size 94 [.slice p l c,.int .u32 (x.num:Int)]:=b4;have hz2:=k2.size;have e24:Ext h2 h4:=Ch.trans e3 k4 (fun j hj hl=>by simp at hj; omega);have k04:Ch [A] h h4:=Ch.trans (Ch.trans (e1.mono aj) k2 (fun j hj _=>hj)) e24 aj;have b14:=(b1.an k2 (by simp; omega)).an e24 aj;have hrest:∀ h',Ch [A] h h'->Cl h' A a3 a4 a5 a6:=fun h' k=>cl.an k aj
 have start:∃ m,An h A h.size h2.size d ts (jh part ts) (lg part) m h4:=by
  have hf:=hfine ts w;revert post hf;unfold jh;cases hfr:part ts with
  | error e =>
   rintro ⟨he,he0,hxl⟩ _;exact ⟨0,k04,b14,x,p,l,c,ts',d',e',b4,(s2.bd e24 aj).mono ae,gx,pb2.an e24 aj,.inr ⟨ae,by rw [he],hxl,rfl⟩⟩
  | ok z =>
   obtain ⟨y,r⟩:=z;rintro ⟨rfl,rfl,rfl,rfl⟩ ⟨_,hs,hl,hn⟩;exact ⟨_,k04,b14,x,p,l,c,ts',_,0,b4,(s2.bd e24 aj).mono ae,gx,pb2.an e24 aj,.inl ⟨rfl,rfl,ts'.length,rfl,OP _,hs,hn,rfl⟩⟩
 obtain ⟨m0,start⟩:=start;refine bJ (cs:=[]) (fun y m h'=>An h A h.size h2.size d ts (jh part ts) (lg part) m h') () m0 rfl start ?_;rintro ⟨⟩ m h5 ⟨k5,b15,x,p,l,c,ts',d',e',b5,s5,gx,pb5,cas⟩;refine ao ?_;have cl5:=hrest h5 k5;have hh2:h2.size<h5.size:=b5.lt;have hz5:=k5.size
 have out:∀ hx,Ch [A] h5 hx->PB hx A ts' d' e'->BL ts.length d x ts' d' e' (jh part ts)->∀ L,(T.ah ⟨h2.size,0,none⟩ [.slice 109,.int .u32] fun (p15:Option XC) (l16:Nat) (l17:Nat) (n18:Int) =>
   T.ak ⟨h.size,0,none⟩ [.slice p15 l16 l17,.int .u32 n18] <| T.ah ⟨h.size,0,none⟩ [.slice 109,.int .u32] <| fun (p19:Option XC) (l20:Nat) (l21:Nat) (n22:Int)=>T.ret (.agg #[.slice p19 l20 l21,.int .u32 n22])) L (J5 h A ts.length d (jh part ts)) hx:=by
  intro hx kx pbx post L;have hzx:=kx.size;refine af (b5.an kx (by simp; omega)) ((p,l,c),(x.num:Int),()) rfl ?_;refine ao ?_;refine ap (b15.an kx (by simp; omega)) rfl aj ?_;intro h7 b7 k7 z7;have b7:bf h7 h.size 94 [.slice p l c,.int .u32 (x.num:Int)]:=b7;refine af b7 ((p,l,c),(x.num:Int),()) rfl ?_;have sx:=s5.bd kx (fun j hj=>by have:=(s5.bH hj).1; simp; omega);refine ⟨Ch.trans (Ch.trans k5 kx (fun j hj _=>hj)) k7 (fun j hj hl=>by simp at hj; omega),x,p,l,c,ts',d',e',rfl,(sx.bd k7 (fun j hj=>by have:=(sx.bH hj).1; simp; omega)).mono ae,gx,pbx.an k7 (by simp; omega),post⟩
 refine af cl5.b3 (some ⟨A,0,none⟩,()) rfl (ao ?_);obtain ⟨q,mq,cq,bQ,vq,hqq⟩:=pb5;have pb5:PB h5 A ts' d' e':=⟨q,mq,cq,bQ,vq,hqq⟩
 refine au rfl ?_;rw [az];refine af bQ ((e':Int),()) rfl (ao ?_);refine ai (fun g0=>?_) (fun g0=>?_)
 case refine_2 =>
  have g0:¬ e'=0:=by simpa using g0
  rcases cas with ⟨h0,_⟩ | ⟨_,hq,hxl,rfl⟩
  ·exact absurd h0 g0
  ·exact out h5 (Ch.refl _ _) pb5 (by rw [hq]; exact ⟨rfl,g0,hxl⟩) _
 have g0:e'=0:=by simpa using g0
 rcases cas with ⟨_,rfl,n,hq,hn,hsuf,hxn,rfl⟩ | ⟨h0,_⟩
 case inr=>exact absurd g0 h0
 subst g0;refine af cl5.b3 (some ⟨A,0,none⟩,()) rfl (ao ?_);refine aK (kg pb5 43) ?_;rintro _ h6 ⟨rfl,k6,z6,pb6⟩;refine ⟨(cV 0 ts' 43,()),rfl,ao ?_⟩;refine ai (fun g1=>?_) (fun g1=>?_)
 ·rw [OH g1] at pb6;have k06:Ch [A] h h6:=Ch.trans k5 k6 (fun j hj _=>hj);have cl6:=hrest h6 k06;have b16:=b15.an k6 (by simp; omega);have b6:=b5.an k6 (by simp; omega);have s6:=s5.bd k6 (fun j hj=>by have:=(s5.bH hj).1; simp; omega);cases ts' with
  | nil=>cases g1
  | cons t r =>
   have g1:eE t 43=true:=g1;simp only [List.length_cons] at hn hxn;obtain ⟨n',rfl⟩:∃ n',n=n'+1:=⟨n-1,ae⟩
   have pb6:PB h6 A r d 0:=pb6;have wr:Wf r:=(w.suffix hsuf).tail;have hpl:jh part ts=match part r with
    | .error e=>.error e
    | .ok (y,r'')=>lg part n' (fO x y) r'':=by
    rw [hq];show (if eE t 43=true then _ else _)=_;rw [OH g1]
    all_goals (cases part r <;> rfl)
   refine af b6 ((p,l,c),(x.num:Int),()) rfl (ao ?_);refine af cl6.b6 (.func (.func 157) #[] #[ptr a5,ptr a3],()) rfl (ao ?_);refine kR (cap:=[ptr a5,ptr a3]) LD rfl (hpart h6 r cl6 pb6 wr ae) ?_;rintro _ h7 ⟨k7,y,p',l',c',ts',d',e',rfl,s7,gy,pb7,post⟩;refine ⟨((p',l',c'),(y.num:Int),()),rfl,ao ?_⟩;have hz7:=k7.size;have k07:Ch [A] h h7:=Ch.trans k06 k7 (fun j hj _=>hj);have cl7:=hrest h7 k07;have b17:=b16.an k7 (by simp; omega);have bx7:=b6.an k7 (by simp; omega);have sx7:=s6.bd k7 (fun j hj=>by have:=(s6.bH hj).1; simp; omega);have hyl:y.ay.length<=r.length:=by
    have hff:=hfine r wr;revert post hff;cases part r with
    | error e=>rintro ⟨_,_,hl⟩ _; exact hl
    | ok z =>
     obtain ⟨y',r''⟩:=z;rintro ⟨_,rfl,_,_⟩ ⟨_,_,_,hl⟩;omega
   refine ⟨⟨bx7.cells _ rfl,trivial⟩,?_⟩;refine aK (Hb sx7.Dl s7.Dl sx7.zb s7.zb ae gx.size gy.size) ?_;rintro _ h10 ⟨e10,q',m',cq',rfl,s10⟩;rw [AB gx.nf gy.nf] at s10 ⊢;refine ⟨((q',m',cq'),((fO x y).num:Int),()),rfl,ao ?_⟩;refine ⟨⟨(cl7.an e10 aj).b6.cells _ rfl,trivial⟩,?_⟩;have hb7:=bx7.lt;have hz07:=k07.size;refine ap (bx7.an e10 aj) rfl aj ?_;intro h11 b11 k11 z11;have b11:bf h11 h2.size 94 [.slice q' m' cq',.int .u32 ((fO x y).num:Int)]:=b11;have k711:Ch [h2.size] h7 h11:=Ch.trans (e10.mono aj) k11 (fun j hj _=>hj);have hal:=jG x.ay y.ay;have hall:(fO x y).ay.length<=x.ay.length+y.ay.length:=hal
   have mk:∀ m,((e'=0/\d'=d/\∃ n,jh part ts=lg part n (fO x y) ts'/\ts'.length<=n/\ts' <:+ ts/\(fO x y).ay.length+ts'.length<=ts.length/\m=n+1)\/(e'≠0/\jh part ts=.error e'/\(fO x y).ay.length<=ts.length/\m=0)) ->
     An h A h.size h2.size d ts (jh part ts) (lg part) m h11:=fun m hc =>
    ⟨Ch.trans k07 k711 (fun j hj hl=>by simp at hj; omega),b17.an k711 (by simp; omega),fO x y,q',m',cq',ts',d',e',b11,(s10.bd k11 (fun j hj=>by have:=(s10.bH hj).1; simp; omega)).mono ae,gx.A gy,pb7.an k711 (by simp; omega),hc⟩
   have hff:=hfine r wr;revert post hff;cases hfr:part r with
   | error e =>
    rintro ⟨he,he0,_⟩ _;refine aY (cs:=[]) () 0 rfl ae rfl (mk 0 (.inr ⟨ae,?_,ae,rfl⟩));rw [hpl,hfr,he]
   | ok z =>
    obtain ⟨y',r''⟩:=z;rintro ⟨he,rfl,rfl,hd'⟩ ⟨_,hs2,hl2,hn2⟩;rw [hfr] at hpl;exact aY (cs:=[]) () (n'+1) rfl ae rfl (mk _ (.inl ⟨he,hd',n',hpl,ae,(hs2.trans (Pc _ _)).trans hsuf,ae,rfl⟩))
 ·rw [OG (by rw [g1]; simp)] at pb6;have k06:Ch [A] h h6:=Ch.trans k5 k6 (fun j hj _=>hj);have cl6:=hrest h6 k06;refine af cl6.b3 (some ⟨A,0,none⟩,()) rfl (ao ?_);refine aK (kg pb6 45) ?_;rintro _ h6' ⟨rfl,k6',z6',pb6'⟩;refine ⟨(cV 0 ts' 45,()),rfl,ao ?_⟩;have k56:Ch [A] h5 h6':=Ch.trans k6 k6' (fun j hj _=>hj);refine ai (fun g2=>?_) (fun g2=>?_)
  ·rw [OH g2] at pb6';have k06':Ch [A] h h6':=Ch.trans k5 k56 (fun j hj _=>hj);have cl6':=hrest h6' k06';have b16:=b15.an k56 (by simp; omega);have b6:=b5.an k56 (by simp; omega);have s6:=s5.bd k56 (fun j hj=>by have:=(s5.bH hj).1; simp; omega);cases ts' with
   | nil=>cases g2
   | cons t r =>
    have g1:eE t 43=false:=g1;have g2:eE t 45=true:=g2;simp only [List.length_cons] at hn hxn;obtain ⟨n',rfl⟩:∃ n',n=n'+1:=⟨n-1,ae⟩
    have pb6':PB h6' A r d 0:=pb6';have wr:Wf r:=(w.suffix hsuf).tail;have hpl:jh part ts=match part r with
     | .error e=>.error e
     | .ok (y,r'')=>lg part n' (fO x (eI y 4294967295)) r'':=by
     rw [hq];show (if eE t 43=true then _ else if eE t 45=true then _ else _)=_;rw [OG (by rw [g1]; simp),OH g2]
     all_goals (cases part r <;> rfl)
    refine af b6 ((p,l,c),(x.num:Int),()) rfl (ao ?_);refine af cl6'.b6 (.func (.func 157) #[] #[ptr a5,ptr a3],()) rfl (ao ?_);refine kR (cap:=[ptr a5,ptr a3]) LD rfl (hpart h6' r cl6' pb6' wr ae) ?_;rintro _ h7 ⟨k7,y,p',l',c',ts',d',e',rfl,s7,gy,pb7,post⟩;refine ⟨((p',l',c'),(y.num:Int),()),rfl,ao ?_⟩;have hz7:=k7.size;have k07:Ch [A] h h7:=Ch.trans k06' k7 (fun j hj _=>hj);have cl7:=hrest h7 k07;have b17:=b16.an k7 (by simp; omega);have bx7:=b6.an k7 (by simp; omega);have sx7:=s6.bd k7 (fun j hj=>by have:=(s6.bH hj).1; simp; omega);have hyl:y.ay.length<=r.length:=by
     have hff:=hfine r wr;revert post hff;cases part r with
     | error e=>rintro ⟨_,_,hl⟩ _; exact hl
     | ok z =>
      obtain ⟨y',r''⟩:=z;rintro ⟨_,rfl,_,_⟩ ⟨_,_,_,hl⟩;omega
    refine ⟨⟨bx7.cells _ rfl,trivial⟩,?_⟩;refine aK (uz s7.Dl ae gy.size 4294967295) ?_;rintro _ h8 ⟨e8,q8,m8,c8,rfl,s8⟩;rw [lS gy.nf] at s8 ⊢;refine ⟨((q8,m8,c8),((eI y 4294967295).num:Int),()),rfl,ao ?_⟩;have gt:=gy.T 4294967295;have htl:(eI y 4294967295).ay.length<=y.ay.length:=dj _ _;generalize hy2:eI y 4294967295=y2 at s8 gt htl ⊢;have hz8:=e8.size;have bx8:=bx7.an e8 aj;have sx8:=sx7.bd e8 aj;refine ⟨⟨(cl7.an e8 aj).b6.cells _ rfl,bx8.cells _ rfl,trivial⟩,?_⟩;refine aK (Hb sx8.Dl s8.Dl sx8.zb s8.zb ae gx.size gt.size) ?_;rintro _ h10 ⟨e10,q',m',cq',rfl,s10⟩;rw [AB gx.nf gt.nf] at s10 ⊢;refine ⟨((q',m',cq'),((fO x y2).num:Int),()),rfl,ao ?_⟩;refine ⟨⟨((cl7.an e8 aj).an e10 aj).b6.cells _ rfl,trivial⟩,?_⟩;have hb7:=bx7.lt;have hz07:=k07.size;refine ap (bx8.an e10 aj) rfl aj ?_;intro h11 b11 k11 z11;have b11:bf h11 h2.size 94 [.slice q' m' cq',.int .u32 ((fO x y2).num:Int)]:=b11;have k711:Ch [h2.size] h7 h11:=Ch.trans ((e8.trans e10).mono aj) k11 (fun j hj _=>hj);have hall:(fO x y2).ay.length<=x.ay.length+y2.ay.length:=jG x.ay y2.ay
    have mk:∀ m,((e'=0/\d'=d/\∃ n,jh part ts=lg part n (fO x y2) ts'/\ts'.length<=n/\ts' <:+ ts/\(fO x y2).ay.length+ts'.length<=ts.length/\m=n+1)\/(e'≠0/\jh part ts=.error e'/\(fO x y2).ay.length<=ts.length/\m=0)) ->
      An h A h.size h2.size d ts (jh part ts) (lg part) m h11:=fun m hc =>
     ⟨Ch.trans k07 k711 (fun j hj hl=>by simp at hj; omega),b17.an k711 (by simp; omega),fO x y2,q',m',cq',ts',d',e',b11,(s10.bd k11 (fun j hj=>by have:=(s10.bH hj).1; simp; omega)).mono ae,gx.A gt,pb7.an k711 (by simp; omega),hc⟩
    have hff:=hfine r wr;revert post hff;cases hfr:part r with
    | error e =>
     rintro ⟨he,he0,_⟩ _;refine aY (cs:=[]) () 0 rfl ae rfl (mk 0 (.inr ⟨ae,?_,ae,rfl⟩));rw [hpl,hfr,he]
    | ok z =>
     obtain ⟨y',r''⟩:=z;rintro ⟨he,rfl,rfl,hd'⟩ ⟨_,hs2,hl2,hn2⟩;rw [hfr] at hpl;simp only at hpl;rw [hy2] at hpl;exact aY (cs:=[]) () (n'+1) rfl ae rfl (mk _ (.inl ⟨he,hd',n',hpl,ae,(hs2.trans (Pc _ _)).trans hsuf,ae,rfl⟩))
  ·rw [OG (by rw [g2]; simp)] at pb6';refine out h6' k56 pb6' ?_ _;rw [hq,zD g1 g2];exact ⟨rfl,rfl,rfl,rfl⟩
def Kk (A a3 a4 a5 a6:Nat):∀ k d:Nat,d+k=32->Ih Tryz.prog 158 [ptr a6,ptr a3] A a3 a4 a5 a6 d (nw k):=by
 intro k
 induction k with
 | zero =>
  intro d hd;refine HU (E2 (fac:=xX none) ?_ (fm (by intro f hf; cases hf))) (iX (fm (by intro f hf; cases hf)));intro h ts cl pb w hts;exact Je (o:=none) ae (by show d=32; omega) (by intro f hf; cases hf) cl pb w hts
 | succ k ih =>
  intro d hd;have hfine:∀ f,some (nw k)=some f->∀ ts,Wf ts->jj ts (f ts):=by
   intro f hf;cases hf;exact ki k
  refine HU (E2 (fac:=xX (some (nw k))) ?_ (fm hfine)) (iX (fm hfine));intro h ts cl pb w hts;exact Je (o:=some (nw k)) ae ⟨ae,fun h ts c p w l=>ih (d+1) ae h ts c p w l⟩ hfine cl pb w hts
def uS (h:Hp) (res:Except Nat fG) (v:XB) (h':Hp):Prop :=
 Ext h h'/\match res with
 | .error e=>v=.tuple #[.agg #[.slice none 0 0,.int .u32 0],.int .i64 (e:Int)]
 | .ok x=>∃ p l c,v=.tuple #[lV p l c x,.int .i64 0]/\SL h' h.size 109 2 p l c (x.ay.map cB)/\Good x
def kG {h:Hp} {p:Option XC} {l c:Nat} {ts:List Tok} (v:Vw h p l c ts) (hp:∀ i,i∈aE p->i<h.size) (w:Wf ts) (hts:ts.length<=2^40) :
  HC Tryz.prog 130 #[.slice p l c] h (uS h (bL ts)):=by
 refine ba (args:=[.slice p l c]) mixed Tryz.func130 aB (wx p l c) ?_;unfold uc aS av aw aI;refine bm ?_;intro h1 b1 e1 z1;refine bm ?_;intro h2 b2 e2 z2;refine bm ?_;intro h3 b3 e3 z3;refine ap b3 rfl aj ?_;intro h4 b4 k4 z4;have b4:bf h4 h2.size 259 [ptr h1.size]:=b4;refine bm ?_;intro h5 b5 e5 z5;refine bm ?_;intro h6 b6 e6 z6;refine ap b6 rfl aj ?_;intro h7 b7 k7 z7;have b7:bf h7 h5.size 262 [.func (.func 152) #[] #[ptr h2.size,ptr h4.size]]:=b7;refine bm ?_;intro h8 b8 e8 z8;refine ap b8 rfl aj ?_;intro h9 b9 k9 z9;have b9:bf h9 h7.size 262 [.func (.func 157) #[] #[ptr h5.size,ptr h2.size]]:=b9;have e23:Ext h2 h4:=Ch.trans e3 k4 (fun j hj hl=>by simp at hj; omega);have e57:Ext h4 h7:=Ch.trans (e5.trans e6) k7 (fun j hj hl=>by simp at hj; omega);have e79:Ext h7 h9:=Ch.trans e8 k9 (fun j hj hl=>by simp at hj; omega);have b5':bf h7 h4.size 262 [.nilFunc]:=(b5.an e6 aj).an k7 (by simp; omega);refine ap (b5'.an e79 aj) rfl aj ?_;intro h10 b10 k10 z10;have b10:bf h10 h4.size 262 [.func (.func 158) #[] #[ptr h7.size,ptr h2.size]]:=b10;have e49:Ext h4 h9:=e57.trans e79;have k210:Ch [] h2 h10:=Ch.trans (e23.trans e49) k10 (fun j hj hl=>by simp at hj; omega);have e010:Ext h h10:=(e1.trans e2).trans k210;have cl:Cl h10 h1.size h2.size h4.size h5.size h7.size:=⟨(b4.an e49 aj).an k10 (by simp; omega),b10,((b7.an e79 aj)).an k10 (by simp; omega),b9.an k10 (by simp; omega),ae,ae,ae,ae⟩
 have pb:PB h10 h1.size ts ((0:Nat):Int) 0:=⟨p,l,c,b2.an k210 aj,v.an e010 aj,fun i hi=>by have:=hp i hi; omega⟩
 have br:=(b1.an e2 aj).an k210 aj;refine af cl.b4 (.func (.func 158) #[] #[ptr h7.size,ptr h2.size],()) rfl (ao ?_);refine kR (cap:=[ptr h7.size,ptr h2.size]) MP rfl (Kk h1.size h2.size h4.size h5.size h7.size 32 0 rfl h10 ts cl pb w hts) ?_;rintro _ h11 ⟨k11,x,p',l',c',ts',d',e',rfl,s11,gx,pb11,post⟩;refine ⟨((p',l',c'),(x.num:Int),()),rfl,ao ?_⟩;have hz11:=k11.size;have hz10:=e010.size;refine bm ?_;intro h12 b12 e12 z12;refine ap b12 rfl aj ?_;intro h13 b13 k13 z13;have b13:bf h13 h11.size 94 [.slice p' l' c',.int .u32 (x.num:Int)]:=b13;have e1113:Ext h11 h13:=Ch.trans e12 k13 (fun j hj hl=>by simp at hj; omega);have k1013:Ch [h1.size] h10 h13:=Ch.trans k11 e1113 aj;have cl13:=cl.an k1013 aj;have pb13:=pb11.an e1113 aj;have br13:=br.an k1013 (by simp; omega);have e013:Ext h h13:=Ch.trans e010 k1013 (fun j hj hl=>by simp at hj; omega);have s13:=s11.bd e1113 aj;refine af cl13.b3 (some ⟨h1.size,0,none⟩,()) rfl (ao ?_)
 have tail:∀ (hx:Hp) (e0:Nat) (ts'':List Tok),Ch [h1.size] h13 hx->PB hx h1.size ts'' d' e0->(e0≠0->bL ts=.error e0)->(e0=0->bL ts=.ok x)->∀ L,(T.ah ⟨h2.size,0,none⟩ [.pointer 261] fun (p18:Option XC) =>
   T.aA p18 <| fun (a19:XC) =>
   T.ah (a19.add 2) [.int .i64] <| fun (n20:Int) =>
   cond (n20 != (0:Int))
    (T.ah ⟨h2.size,0,none⟩ [.pointer 261] <| fun (p21:Option XC) =>
    T.aA p21 <| fun (a22:XC) =>
    T.ah (a22.add 2) [.int .i64] <| fun (n23:Int) =>
    T.ak ⟨h.size,0,none⟩ [.slice none 0 0,.int .u32 (0:Int)] <|
    T.aT [((a22.add 2),[.int .i64 n23]),(⟨h2.size,0,none⟩,[.pointer p21])] <|
    T.ah ⟨h.size,0,none⟩ [.slice 109,.int .u32] <| fun (p24:Option XC) (l25:Nat) (l26:Nat) (n27:Int) =>
    T.ret (.tuple #[.agg #[.slice p24 l25 l26,.int .u32 n27],.int .i64 n23]))
    (T.ah ⟨h11.size,0,none⟩ [.slice 109,.int .u32] <| fun (p21:Option XC) (l22:Nat) (l23:Nat) (n24:Int) =>
    T.ak ⟨h.size,0,none⟩ [.slice p21 l22 l23,.int .u32 n24] <|
    T.ah ⟨h.size,0,none⟩ [.slice 109,.int .u32] <| fun (p25:Option XC) (l26:Nat) (l27:Nat) (n28:Int) =>
    T.ret (.tuple #[.agg #[.slice p25 l26 l27,.int .u32 n28],.int .i64 (0:Int)]))) L (uS h (bL ts)) hx:=by
  intro hx e0 ts'' kx pbx hp1 hp2 L;have clx:=cl13.an kx aj;have brx:=br13.an kx (by simp; omega);have hzx:=kx.size;have e0x:Ext h hx:=Ch.trans e013 kx (fun j hj hl=>by simp at hj; omega);obtain ⟨q,m,cq,bQ,vq,hq⟩:=pbx;refine af clx.b3 (some ⟨h1.size,0,none⟩,()) rfl (ao ?_);refine au rfl ?_;rw [az];refine af bQ ((e0:Int),()) rfl (ao ?_);refine ai (fun g=>?_) (fun g=>?_)
  ·have g:¬ e0=0:=by simpa using g
   refine af clx.b3 (some ⟨h1.size,0,none⟩,()) rfl (ao ?_);refine au rfl ?_;rw [az];refine af bQ ((e0:Int),()) rfl (ao ?_);refine ap brx rfl aj ?_;intro hy by' ky zy
   have by':bf hy h.size 94 [.slice none 0 0,.int .u32 0]:=by'
   refine ⟨⟨(bQ.an ky (by simp; omega)).cells _ rfl,(clx.b3.an ky (by simp; omega)).cells _ rfl,trivial⟩,?_⟩;refine af by' ((none,0,0),(0:Int),()) rfl ?_
   refine ⟨Ch.trans e0x ky (fun j hj hl=>by simp at hj; omega),?_⟩;rw [hp1 g]
  ·have g:e0=0:=by simpa using g
   refine af (b13.an kx (by simp; omega)) ((p',l',c'),(x.num:Int),()) rfl ?_;refine ao ?_;refine ap brx rfl aj ?_;intro hy by' ky zy
   have by':bf hy h.size 94 [.slice p' l' c',.int .u32 (x.num:Int)]:=by'
   refine af by' ((p',l',c'),(x.num:Int),()) rfl ?_
   refine ⟨Ch.trans e0x ky (fun j hj hl=>by simp at hj; omega),?_⟩;rw [hp2 g];have sx:=s13.bd kx (fun j hj=>by have:=(s13.bH hj).1; simp; omega);exact ⟨p',l',c',rfl,(sx.bd ky (fun j hj=>by have:=(sx.bH hj).1; simp; omega)).mono ae,gx⟩
 obtain ⟨q,m,cq,bQ,vq,hq⟩:=pb13;have pb13:PB h13 h1.size ts' d' e':=⟨q,m,cq,bQ,vq,hq⟩
 refine au rfl ?_;refine af bQ ((q,m,cq),()) rfl (ao ?_);have hm:=vq.len;have hpx:bL ts=match nw 32 ts with
  | .error e=>.error e
  | .ok (x,r)=>if r=[] then .ok x else .error 20:=rfl
 refine ai (fun g=>?_) (fun g=>?_)
 ·have g:=OE g;refine af cl13.b3 (some ⟨h1.size,0,none⟩,()) rfl (ao ?_);refine aK (lP pb13 20) ?_;rintro _ h14 ⟨rfl,k14,z14,pb14⟩;refine ⟨(),rfl,ao ?_⟩;refine tail h14 _ ts' k14 pb14 ?_ ?_ _
  ·intro hne;revert post hpx;cases nw 32 ts with
   | error e =>
    rintro ⟨he,he0,_⟩ hpx;rw [hpx,he,OG he0]
   | ok z =>
    obtain ⟨y,r⟩:=z;rintro ⟨he,_,hr,_⟩ hpx;rw [hpx,he];simp only;rw [OG (by rw [<- hr]; intro hh; rw [hh] at hm; simp at hm; omega)] <;> rfl
  ·intro h0;exfalso;split at h0 <;> omega
 ·have g:=OF g;have hts':ts'=[]:=Pk.1 ae;refine tail h13 e' ts' (Ch.refl _ _) pb13 ?_ ?_ _
  ·intro hne;revert post hpx;cases nw 32 ts with
   | error e =>
    rintro ⟨he,he0,_⟩ hpx;rw [hpx,he]
   | ok z =>
    obtain ⟨y,r⟩:=z;rintro ⟨he,_,hr,_⟩ hpx;exact absurd he hne
  ·intro h0;revert post hpx;cases nw 32 ts with
   | error e =>
    rintro ⟨he,he0,_⟩ hpx;exact absurd (he.symm.trans h0) he0
   | ok z =>
    obtain ⟨y,r⟩:=z;rintro ⟨he,hx,hr,_⟩ hpx;rw [hpx,<- hr,hts',hx] <;> rfl
def dX {h:Hp} {b:XC} {t:XA × Nat} (hc:bk h b 0 (cB t)):bk h b 0 [.string t.1]/\bk h (b.add 1) 0 [.int .u32 (t.2:Int)]:=by
 obtain ⟨h1,h2,h3⟩:=hc;exact ⟨⟨h1,trivial⟩,⟨by rw [add_add]; exact h2,trivial⟩⟩
def RB (h:Hp) (A:Nat) (us:List Tok) (k:Nat) (d:Int) (e:Nat):Prop :=
 ∃ p l c,bf h A 292 [.slice p l c,.int .i64 (k:Int),.int .i64 d,.int .i64 (e:Int)]/\Vw h p l c us/\(∀ i,i∈aE p->i<A)/\k<=us.length/\us.length<=2^40
def RB.an {h:Hp} {A k:Nat} {us:List Tok} {d:Int} {e:Nat} (b:RB h A us k d e) (c:Ch ws h h') (hw:∀ i,i∈ws->A<i):RB h' A us k d e:=by
 obtain ⟨p,l,cc,b,v,hp,hk⟩:=b;exact ⟨p,l,cc,b.an c (fun hm=>by have:=hw _ hm; omega),v.an c (fun i hi hm=>by have:=hw _ hm; have:=hp _ hi; omega),hp,hk⟩
def RB.lt {h:Hp} {A k:Nat} {us:List Tok} {d:Int} {e:Nat} (b:RB h A us k d e):A<h.size:=by
 obtain ⟨p,l,cc,b,v,hp,hk⟩:=b;exact b.lt
def Kb {h:Hp} {A k:Nat} {us:List Tok} {d:Int} {e:Nat} (b:RB h A us k d e) (c:UInt8) :
  pO Tryz.prog 195 [ptr A,.string ⟨#[c]⟩] h (.bool (cV e (us.drop k) c)):=by
 obtain ⟨p,l,cc,b,v,hp,hk,hu⟩:=b;refine dk mixed Tryz.func195 aB (jN (some ⟨A,0,none⟩) ⟨#[c]⟩) ?_;have no:cV e (us.drop k) c=false->T.ret (.bool false) [] (fun v' h'=>v'=.bool (cV e (us.drop k) c)/\h'=h) h:=fun hn=>⟨by rw [hn],rfl⟩
 unfold fY cv dH bW bE;have hlen:=v.len;refine au rfl ?_;rw [az];refine af b ((e:Int),()) rfl (ao ?_);refine ai (fun g1=>?_) (fun g1=>?_)
 ·have g1:e=0:=by simpa using g1
  subst g1;refine au rfl ?_;rw [az];refine af b ((k:Int),()) rfl (ao ?_);refine au rfl (af b ((p,l,cc),()) rfl (ao ?_));refine ai (fun g2=>?_) (fun g2=>?_)
  ·have g2:=OE g2;have hkl:k<us.length:=ae
   have hdr:us.drop k=us[k]::us.drop (k+1):=OM hkl;obtain ⟨a,rfl,hc⟩:=v.cells k hkl;rw [hdr] at no ⊢;generalize us[k]=t at no hc ⊢;obtain ⟨h1,h2,h3⟩:=hc;refine au rfl (af b ((some a,l,cc),()) rfl (ao ?_));refine au rfl ?_;rw [az];refine af b ((k:Int),()) rfl (ao ?_);refine aC ⟨ae,ae⟩ (au rfl ?_);rw [show Int.toNat (k:Int)=k from ae];refine aG ((t.kind:Int),()) ⟨h1,trivial⟩ (ao ?_);refine ai (fun g3=>?_) (fun g3=>?_)
   ·have g3:(t.kind:Int)=3:=by simpa using g3
    refine au rfl (af b ((some a,l,cc),()) rfl (ao ?_));refine au rfl ?_;rw [az];refine af b ((k:Int),()) rfl (ao ?_);refine aC ⟨ae,ae⟩ (au rfl ?_);rw [show Int.toNat (k:Int)=k from ae];refine aG (t.text,()) ⟨by rw [add_add]; exact h2,trivial⟩ ?_;refine ao ?_;refine ⟨?_,rfl⟩;have e0:cV 0 (t::us.drop (k+1)) c=(ByteArray.toList t.text==ByteArray.toList ⟨#[c]⟩):=by
     show (true && eE t c)=_;rw [<- wQ,g3] <;> rfl
    rw [e0]
   ·have g3:¬ (t.kind:Int)=3:=by simpa using g3
    refine no ?_;have g4:¬ t.kind=3:=ae
    simp [cV,eE,g4]
  ·have g2:=OF g2;refine no ?_;rw [OW ae] <;> rfl
 ·have g1:¬ e=0:=by simpa using g1
  refine no ?_;unfold cV;rw [OL g1] <;> rfl
def CX {h:Hp} {A k:Nat} {us:List Tok} {d:Int} {e:Nat} (b:RB h A us k d e) (w:Nat) :
  HC Tryz.prog 182 #[ptr A,.int .i64 (w:Int)] h fun v h'=>v=.tuple #[]/\Ch [A] h h'/\h'.size=h.size/\RB h' A us k d (if e=0 then w else e):=by
 obtain ⟨p,l,cc,b,v,hp,hk⟩:=b;refine ba (args:=[ptr A,.int .i64 (w:Int)]) mixed Tryz.func182 aB (hM (some ⟨A,0,none⟩) w) ?_;unfold eT aw;refine au rfl ?_;rw [az];refine af b ((e:Int),()) rfl (ao ?_);refine ai (fun g1=>?_) (fun g1=>?_)
 ·have g1:e=0:=by simpa using g1
  refine au rfl ?_;rw [az];refine ap b rfl aj ?_;intro h1 b1 k1 z1;refine ⟨rfl,k1,z1,p,l,cc,?_,v.an k1 ?_,hp,hk⟩
  ·rw [OH g1]; exact b1
  ·intro i hi hm;rw [OJ] at hm
   have:=hp _ hi
   omega
 ·have g1:¬ e=0:=by simpa using g1
  exact ⟨rfl,Ch.refl _ _,rfl,p,l,cc,by rw [OG g1]; exact b,v,hp,hk⟩
def ER (a n:Nat):IntKind.wrap .u32 ((a:Int)*(n:Int))=((a*n % 4294967296:Nat):Int):=by rw [eW,kq,Int.natCast_mul]
def EQ (a n:Nat):IntKind.wrap .u32 ((a:Int)+(n:Int))=(((a+n) % 4294967296:Nat):Int):=by rw [eW,kq,Int.natCast_add]
def ov {h:Hp} {p:Option XC} {l c:Nat} {x:fG} (v:tp h p l x.ay) (hl:x.ay.length<=2^40) (hp:∀ i,i∈aE p->i<h.size) (n:Nat) :
  HC Tryz.prog 196 #[lV p l c x,.int .u32 n] h fun w h'=>Ext h h'/\∃ p' l' c',w=lV p' l' c' (eI x n)/\SL h' h.size 109 2 p' l' c' ((eI x n).ay.map cB):=by
 refine ba (args:=[.agg #[.slice p l c,.int .u32 x.num],.int .u32 n]) mixed Tryz.func196 aB (mT p l c x.num n) ?_;unfold jz cv bN dH bW aR av aI aQ;have hll:=v.len;refine bm ?_;intro h1 b1 e1 z1;refine bm ?_;intro h2 b2 e2 z2;have b1:=b1.an e2 aj;rw [az];refine af b1 ((x.num:Int),()) rfl (ao ?_);refine bm ?_;intro h3 b3 e3 z3;refine ap b3 rfl aj ?_;intro h4 b4 k4 z4;rw [ER] at b4;have b4:bf h4 h2.size 94 [.slice none 0 0,.int .u32 ((x.num*n % 4294967296:Nat):Int)]:=b4;have e24:Ext h2 h4:=Ch.trans e3 k4 (fun j hj hl=>by simp at hj; omega);have b1:=b1.an e24 aj;have b2:=b2.an e24 aj;have e04:=(e1.trans e2).trans e24;have hb4:=b4.lt;refine bJ (cs:=[(false,[.int .i64])]) (fun y w h'=>∃ (i:Nat) (q:Option XC) (m d:Nat),y.1=(i:Int)/\i<=x.ay.length/\w=x.ay.length-i/\Ch [h2.size] h4 h'/\bf h' h2.size 94 [.slice q m d,.int .u32 ((x.num*n % 4294967296:Nat):Int)] /\
  SL h' h4.size 109 2 q m d ((dL n (x.ay.take i)).map cB)/\m<=i) ((0:Int),()) x.ay.length rfl ⟨0,none,0,0,rfl,ae,ae,Ch.refl _ _,b4,SL.nil _ _ _ _,ae⟩ ?_
 rintro ⟨n8,⟨⟩⟩ w h5 ⟨i,q,m,d,hi,hile,rfl,k5,b5,s5,hm⟩;simp only at hi;subst hi;refine ao ?_;have b15:=b1.an k5 (by simp; omega);have hz5:=k5.size;have e05:Ext h h5:=Ch.trans e04 k5 (fun j hj hl=>by simp at hj; omega);have v5:=v.an e05 aj;refine af b15 ((p,l,c),()) rfl (ao ?_);have hw:IntKind.wrap .i64 ((i:Int)+1)=((i+1:Nat):Int):=by rw [wrap_i64 ae ae]; omega
 refine ai (fun g1=>?_) (fun g1=>?_)
 ·have g1:=OE g1;have hilt:i<x.ay.length:=ae
  have htk:x.ay.take (i+1)=x.ay.take i++[x.ay[i]]:=OT hilt;obtain ⟨a,rfl,hc⟩:=v5.cells i hilt;generalize x.ay[i]=t at hc htk;obtain ⟨c1,c2⟩:=dX hc;refine af b15 ((some a,l,c),()) rfl (ao ?_);refine aC ⟨ae,ae⟩ (au rfl ?_);rw [show Int.toNat (i:Int)=i from ae];refine aG ((t.2:Int),()) c2 (ao ?_);rw [ER];refine ai (fun g2=>?_) (fun g2=>?_)
  ·have g2:¬ t.2*n % 4294967296=0:=by
    intro hh;rw [hh] at g2;cases g2
   refine af b5 ((q,m,d),()) rfl (ao ?_);refine af b15 ((some a,l,c),()) rfl (ao ?_);refine aC ⟨ae,ae⟩ (au rfl ?_);refine aG (t.1,()) c1 (ao ?_);have hab:=hp a.block (by simp [aE]);refine lL (vs:=cB (t.1,t.2*n % 4294967296)) xj xI rfl ae ae aB rfl rfl s5 hz5 ae ae (fun h' e=>⟨bF e aj _ _ c1,(b15.an e aj).cells _ rfl,(b5.an e aj).cells _ rfl,trivial⟩) ?_;intro p' c' h7 s7 k7 hp7;have hnot:∀ j,j<h4.size->j∉aE q:=fun j hj hm=>by have:=(s5.bH hm).1; omega
   refine ⟨⟨bF k7 (by rw [fh]; exact hnot _ (by have:=e04.size; omega)) _ _ c1,(b15.an k7 (hnot _ ae)).cells _ rfl,trivial⟩,?_⟩;refine ap (b5.an k7 (hnot _ ae)) rfl aj ?_;intro h8 b8 k8 z8;refine aY (cs:=[(false,[.int .i64])]) (((i+1:Nat):Int),()) (x.ay.length-(i+1)) rfl ae (O7 (fun z=>[Value.int .i64 z]) hw) ⟨i+1,p',m+1,c',rfl,ae,rfl,?_,b8,?_,ae⟩
   ·exact Ch.trans (Ch.trans k5 k7 (fun j hj hl=>by have:=(s5.bH hj).1; omega)) k8 (fun j hj _=>hj)
   ·have hf:dL n (x.ay.take (i+1))=dL n (x.ay.take i)++[(t.1,t.2*n % 4294967296)]:=by
     unfold dL;rw [htk,PZ]
     congr 1
     simp only [List.filterMap_cons,List.filterMap_nil];rw [OG g2]
    rw [hf,OU];exact s7.bd k8 (fun j hj=>by have:=(s7.bH hj).1; simp; omega)
  ·have g2:t.2*n % 4294967296=0:=by
    have:((t.2*n % 4294967296:Nat):Int)=0:=by simpa using g2
    omega
   refine aY (cs:=[(false,[.int .i64])]) (((i+1:Nat):Int),()) (x.ay.length-(i+1)) rfl ae (O7 (fun z=>[Value.int .i64 z]) hw) ⟨i+1,q,m,d,rfl,ae,rfl,k5,b5,?_,ae⟩;have hf:dL n (x.ay.take (i+1))=dL n (x.ay.take i):=by
    unfold dL;rw [htk,PZ];simp only [List.filterMap_cons,List.filterMap_nil];rw [OH g2,Pr]
   rw [hf];exact s5
 ·have g1:=OF g1;have hi:i=x.ay.length:=ae
  subst hi;rw [O8] at s5;refine af b5 ((q,m,d),((x.num*n % 4294967296:Nat):Int),()) rfl (ao ?_);refine ap (b2.an k5 (by simp; omega)) rfl aj ?_;intro h7 b7 k7 z7;have b7:bf h7 h1.size 94 [.slice q m d,.int .u32 ((x.num*n % 4294967296:Nat):Int)]:=b7;refine af b7 ((q,m,d),((x.num*n % 4294967296:Nat):Int),()) rfl ?_;have hz4:=e04.size;exact ⟨Ch.trans e05 k7 (fun j hj hl=>by simp at hj; omega),q,m,d,rfl,(s5.bd k7 (fun j hj=>by have:=(s5.bH hj).1; simp; omega)).mono ae⟩
def leB (a b:XA):(Op.bytesLess (ByteArray.toList a) (ByteArray.toList b) || (ByteArray.toList a==ByteArray.toList b))=!decide (fQ b a):=by
 rw [ByteArray.toList_eq,ByteArray.toList_eq,Proofs.bytesLess_eq]
 by_cases h:fQ b a
 ·rw [OK h];have h1:¬ a.data.toList<b.data.toList:=qS h;have h2:¬ a.data.toList=b.data.toList:=fun e=>sU h (nL e).symm
  have h3:¬ a.data=b.data:=fun e=>h2 (by rw [e])
  simp [h1,h3]
 ·rw [OL h]
  by_cases h1:fQ a b
  ·have h1:a.data.toList<b.data.toList:=h1;simp [h1]
  ·have:=rf a b h1 h
   subst this
   simp
def vN:Option XA->ec->Bool
 | _,[]=>true
 | o,t::r=>bI t.1.data.toList && decide (t.2≠0) && (match o with
  | none=>true
  | some s=>decide (fQ s t.1)) && vN (some t.1) r
def Lx (l:ec) (i:Nat):Option XA:=if i=0 then none else (l[i-1]?).map (·.1)
def LM {o:Option XA} {l:ec} (h1:∀ t,t∈l->bI t.1.data.toList=true/\t.2≠0) (h2:l.Pairwise fun p q=>fQ p.1 q.1) (h3:∀ s,o=some s->∀ t,t∈l->fQ s t.1):vN o l=true:=by
 induction l generalizing o with
 | nil=>rfl
 | cons t r ih =>
  obtain ⟨a,b⟩:=h1 t (Pe ..);obtain ⟨c,d⟩:=Pu.1 h2;unfold vN;rw [a,OK b,ih (o:=some t.1) (fun u hu=>h1 u (OY _ hu)) d (by rintro s ⟨⟩ u hu; exact c u hu)];cases o with
  | none=>rfl
  | some s =>
   show (true && true && decide (fQ s t.1) && true)=true;rw [OK (h3 s rfl t (Pe ..))] <;> rfl
def Fc {x:fG} (h:Good x):vN none x.ay=true:=LM (fun t ht=>⟨h.zM t ht,(h.nf.2 t ht).1⟩) h.nf.1 aj
def sL {h : Hp} {p : Option XC} {l c : Nat} {x : fG} (v : tp h p l x.ay) (hl : x.ay.length <= 9223372036854775807) (hs : ∀ t, t ∈ x.ay -> t.1.size <= maxLen) :
    HC Tryz.prog 46 #[lV p l c x] h fun w h' => w = .bool (vN none x.ay) /\ Ext h h' := by
  refine ba (args := [.agg #[.slice p l c, .int .u32 x.num]]) mixed Tryz.func46 aB (wE p l c x.num) ?_;unfold tA cv bN dH bW aN aH av bE pj bh aQ bZ;have hll := v.len;refine bm ?_;intro h1 b1 e1 z1;refine af b1 ((p, l, c), ()) rfl (ao ?_)
  refine bJ (cs := [(false, [.bool]), (false, [.int .i64])]) (fun y w h' => ∃ (i : Nat), y.2.1 = (i : Int) /\ i <= x.ay.length /\ w = x.ay.length - i /\ Ext h1 h' /\ vN none x.ay = vN (Lx x.ay i) (x.ay.drop i)) (false, (0 : Int), ()) x.ay.length rfl
    ⟨0, rfl, ae, ae, Ch.refl _ _, rfl⟩ ?_
  rintro ⟨b8, n8, ⟨⟩⟩ w h2 ⟨i, hi, hile, rfl, e2, hq⟩;simp only at hi;subst hi;refine ao ?_;have e02 := e1.trans e2;refine ai (fun g1 => ?_) (fun g1 => ?_)
  · have g1 := OE g1
    have hilt : i < x.ay.length :=ae
    have v2 := v.an e02 aj;obtain ⟨a, rfl, hc⟩ := v2.cells i hilt;have hdr : x.ay.drop i = x.ay[i] :: x.ay.drop (i + 1) := OM hilt
    have hpv : Lx x.ay (i + 1) = some x.ay[i].1 := by
      unfold Lx;rw [OG ae, Nat.add_sub_cancel, OO hilt] <;> rfl
    have hsz := hs x.ay[i] (O2 hilt);rw [hdr] at hq;generalize x.ay[i] = t at hc hq hpv hsz;refine aC ⟨ae, ae⟩ (au rfl ?_);rw [show Int.toNat (i : Int) = i from ae];refine aG (t.1, (t.2 : Int), ()) hc (ao ?_);refine bm ?_;intro h3 b3 e3 z3;refine ap b3 rfl aj ?_;intro h4 b4 k4 z4;have b4 : bf h4 h2.size 109 [.string t.1, .int .u32 t.2] := b4;have e24 : Ext h2 h4 := Ch.trans e3 k4 (fun j hj hl => by simp at hj; omega);have e04 := e02.trans e24;rw [az];refine af b4 ((t.2 : Int), ()) rfl (ao ?_);refine ai (fun g2 => ?_) (fun g2 => ?_)
    · have g2 : t.2 = 0 := by have : (t.2 : Int) = 0 := by simpa using g2
                              omega
      refine ⟨?_, e04⟩;rw [hq];unfold vN;rw [OL ae]
      simp
    · have g2 : t.2 ≠ 0 := by have : ¬ (t.2 : Int) = 0 := by simpa using g2
                              omega
      refine af b4 (t.1, ()) rfl (ao ?_);refine aM (my t.1 h4 (by have : maxLen = 9223372036854775807 := rfl; omega)) ?_;refine ⟨⟨b4.cells _ rfl, trivial⟩, ?_⟩;refine ai (fun g3 => ?_) (fun g3 => ?_)
      · have g3 : bI t.1.data.toList = false := by simpa using g3
        refine ⟨?_, e04⟩;rw [hq];unfold vN;rw [g3]
        simp
      · have g3 : bI t.1.data.toList = true := by simpa using g3
        have hw : IntKind.wrap .i64 ((i : Int) + 1) = ((i + 1 : Nat) : Int) := by rw [wrap_i64 ae ae]; omega
        have hgo : (match Lx x.ay i with
            | none => true
            | some s => decide (fQ s t.1)) = true -> vN none x.ay = vN (Lx x.ay (i + 1)) (x.ay.drop (i + 1)) := by
          intro hm;rw [hq, hpv]
          conv => lhs; unfold vN
          rw [g3, OK g2, hm] <;> rfl
        refine ai (fun g4 => ?_) (fun g4 => ?_)
        · have g4 := OE g4
          have hw1 : IntKind.wrap .i64 ((i : Int) - 1) = ((i - 1 : Nat) : Int) := by rw [wrap_i64 ae ae]; omega
          have hi1 : i - 1 < x.ay.length :=ae
          obtain ⟨a', ha', hc'⟩ := (v.an e04 aj).cells (i - 1) hi1;cases ha'
          have hpi : Lx x.ay i = some x.ay[i - 1].1 := by
            unfold Lx;rw [OG ae, OO hi1] <;> rfl
          rw [hpi] at hgo hq;generalize x.ay[i - 1] = u at hc' hpi hgo hq;refine af b4 (t.1, ()) rfl (ao ?_);refine af ((b1.an e2 aj).an e24 aj) ((some a, l, c), ()) rfl (ao ?_);rw [hw1];refine aC ⟨ae, ae⟩ (au rfl ?_);rw [show Int.toNat ((i - 1 : Nat) : Int) = i - 1 from ae];refine aG (u.1, ()) (dX hc').1 (ao ?_);rw [leB];refine ai (fun g5 => ?_) (fun g5 => ?_)
          · have g5 : ¬ fQ u.1 t.1 := by simpa using g5
            refine ⟨?_, e04⟩;rw [hq];unfold vN;dsimp only;rw [OL g5]
            simp
          · have g5 : fQ u.1 t.1 := by simpa using g5
            exact aY (cs := [(false, [.bool]), (false, [.int .i64])]) (b8, ((i + 1 : Nat) : Int), ()) (x.ay.length - (i + 1)) rfl ae (O7 (fun z => [Value.bool b8, Value.int .i64 z]) hw) ⟨i + 1, rfl, ae, rfl, e2.trans e24, hgo (OK g5)⟩
        · have g4 := OF g4
          have hi0 : i = 0 :=ae
          subst hi0;exact aY (cs := [(false, [.bool]), (false, [.int .i64])]) (b8, ((0 + 1 : Nat) : Int), ()) (x.ay.length - (0 + 1)) rfl ae (O7 (fun z => [Value.bool b8, Value.int .i64 z]) hw) ⟨0 + 1, rfl, ae, rfl, e2.trans e24, hgo rfl⟩
  · have g1 := OF g1
    have hi : i = x.ay.length :=ae
    subst hi;refine ⟨?_, e02⟩;rw [hq, PU] <;> rfl
end Go.Sx
namespace Go.Sx.Ob
abbrev Bt:=List UInt8
abbrev Rd (α:Type):=Except (Nat × Nat) (α × Bt)
def NB {α β:Type} (a:Rd α) (f:α->Bt->Rd β):Rd β :=
 match a with
 | .ok p=>f p.1 p.2
 | .error e=>.error e
structure Ins where
 op:Int
 a:Int
 b:Int
 n:Int
 form:Int
deriving DecidableEq
structure cd where
 kind:Int
 name:XA
 inst:Ins
 e:fG
 n:Int
def lm:Ins:=⟨0,0,0,0,0⟩
def fB:fG:=⟨[],0⟩
def ct:XA:=⟨#[]⟩
def dA (k:Int):cd:=⟨k,ct,lm,fB,0⟩
def cP:List Nat:=[1,1,1,2,2,2,2,2,2,2,3,3,4,4,4,4,4,4,4,4,4,4,4,4,4,4,4,4,5,5,5,5,6,6,7,8,9,10,11,12,12,13,13]
def dB (op:Int):Nat:=if op<1 then 0 else cP.getD (op-1).toNat 0
def re (n m:Int):Bool:=decide (0<=n) && decide (n<m)
def cj (s:Nat) (a b n:Int):Bool :=
 if s=1\/s=9\/s=12 then decide (a=0) && decide (b=0)
 else if s=2\/s=8\/s=10\/s=11\/s=13 then re a 8 && decide (b=0)
 else if s=3 then re a 4 && decide (b=0)
 else if s=4 then re a 8 && re b 8
 else if s=5 then re a 4 && re b 4
 else if s=6 then re a 8 && re b 4
 else re a 4 && re b 8 && re n 8
def qH (n form:Int):Bool :=
 if form=1 then decide (-128<=n) && decide (n<=127)
 else if form=2 then decide (-32768<=n) && decide (n<=32767)
 else decide (form=4)
def nR (s:Nat) (n form:Int):Bool :=
 if s=8 then qH n 1
 else if s=9 then decide (0<=n) && decide (n<=255)
 else if s=10\/s=7 then true
 else if s=11 then decide (0<=n) && decide (n<=4095)
 else if s=12\/s=13 then qH n form
 else decide (n=0)
def Ei (op:Int):Bool:=decide (12<=dB op)
def Jg (op:Int):Bool:=decide (10<=dB op)
def ru (i:Ins):Int :=
 if dB i.op=0 then 11
 else if cj (dB i.op) i.a i.b i.n=false then 12
 else if (!Ei i.op && decide (i.form≠0) || !nR (dB i.op) i.n i.form)=true then 13
 else 0
def Le (x:fG):Bool:=decide (x.ay=[]) && decide (x.num=0)
def AJ (i:Ins) (e:fG):Bool :=
 decide (dB i.op≠0) && decide (i.form=0) && (if Jg i.op then decide (i.n=0) && decide (ru { i with form:=if Ei i.op then 1 else 0 }=0) && vN none e.ay
  else decide (ru i=0) && Le e)
def mv (n:Int):Bool:=decide (n=1) || decide (n=2) || decide (n=4) || decide (n=8) || decide (n=16) || decide (n=32) || decide (n=64) || decide (n=128) || decide (n=256)
def z1 (x:cd):Bool:=decide (x.name=ct)
def z2 (x:cd):Bool:=decide (x.inst=lm)
def z3 (x:cd):Bool:=Le x.e
def z4 (x:cd):Bool:=decide (x.n=0)
def dY (x:cd) (sec:Nat):Bool :=
 if x.kind=1 then bI x.name.data.toList && z2 x && z3 x && z4 x
 else if x.kind=2 then decide (sec=0) && AJ x.inst x.e && z1 x && z4 x
 else if x.kind=3 then mv x.n && z1 x && z2 x && z3 x
 else if x.kind=4 then decide (sec=0) && z1 x && z2 x && z3 x && z4 x
 else if x.kind=5 then decide (sec=1) && decide (-128<=x.n) && decide (x.n<=255) && z1 x && z2 x && z3 x
 else if x.kind=6 then decide (sec=1) && vN none x.e.ay && z1 x && z2 x && z4 x
 else if x.kind=7 then decide (sec=1) && decide (0<=x.n) && decide (x.n<=1048576) && z1 x && z2 x && z3 x
 else false
def u32 (n:Int):Nat:=(n % 4294967296).toNat
def Bm (n:Nat):Int:=if n<2147483648 then (n:Int) else (n:Int)-4294967296
def at_ {α:Type} (r:Bt) (why:Nat) (ok:α->Bool) (a:Rd α):Rd α:=NB a fun x r'=>if ok x then .ok (x,r') else .error (r.length,why)
def fT (D:List XA) (s:XA):Bool:=D.any fun t=>decide (t=s)
def B7 (sec:Nat) (D:List XA) (x:cd):Bool:=dY x sec && !(decide (x.kind=1) && fT D x.name)
def Ca (D:List XA) (x:cd):List XA:=if x.kind=1 then x.name::D else D
def Gp:Le fB=true:=rfl
def DK (op:Int) (h:dB op≠0):1<=op/\op<=43:=by
 unfold dB at h;split at h
 ·exact absurd rfl h
 ·refine ⟨ae,?_⟩
  by_cases g:op<=43
  ·exact g
  ·exfalso;apply h;rw [OV,Pf (by simp [cP]; omega)] <;> rfl
def uR (op:Int):dB op=0\/(1<=dB op/\dB op<=13):=by
 by_cases h:dB op=0
 ·exact .inl h
 ·right
  have h1:=DK op h;unfold dB;rw [OG ae];have h2:(op-1).toNat<43:=ae
  generalize (op-1).toNat=k at h2
  have:∀ k:Fin 43,1<=cP.getD k.1 0/\cP.getD k.1 0<=13:=bO
  exact this ⟨k,h2⟩
abbrev pP:=XA × fG
structure pN where
 text:List cd
 data:List cd
 bU:List pP
 aP:List XA
def vz:pN:=⟨[],[],[],[]⟩
def IK (D:List XA) (p:pP):Bool:=!(fT D p.1) && bI p.1.data.toList && vN none p.2.ay
def N3 (D:List XA) (last g:XA):Bool:=fT D g && decide (fQ last g)
def di (D:List XA) (l:List cd):List XA:=l.foldl Ca D
def ko (D:List XA) (l:List pP):List XA:=l.foldl (fun D p=>p.1::D) D
def ij (sec:Nat):List XA->List cd->Bool
 | _,[]=>true
 | D,x::l=>B7 sec D x && ij sec (Ca D x) l
def kV:List XA->List pP->Bool
 | _,[]=>true
 | D,x::l=>IK D x && kV (x.1::D) l
def gH (D:List XA):XA->List XA->Bool
 | _,[]=>true
 | last,x::l=>N3 D last x && gH D x l
def pN.names (u:pN):List XA:=ko (di (di [] u.text) u.data) u.bU
def E' (u:pN):Bool:=ij 0 [] u.text && ij 1 (di [] u.text) u.data && kV (di (di [] u.text) u.data) u.bU && gH u.names ct u.aP
def ES (u:pN):Bool:=decide (8192<u.text.length+u.data.length) || decide (8192<u.bU.length)
def D3 (u:pN):Nat:=if ES u then 4 else if E' u then 0 else 31
end Go.Sx.Ob
namespace Go.Sx
open Go.Proofs
def M4:Tryz.prog.underlying 109=some (.struct (G0 Tryz.prog 109)):=aB
def IF (x y:Operand) (a:XA) (b:Int) (a':XA) (b':Int) (h:Hp) (K:XB->Hp->Prop) (hk:K (.bool !(a==a' && b==b')) h) :
  aV Tryz.prog (Sx.df (BinOp.neq) 109 x y (.agg #[.string a,.int .u32 b]) (.agg #[.string a',.int .u32 b'])) h K:=by
 refine Bx M4 aB aB aB K ?_;have he:(G0 Tryz.prog 109).all (Jc #[.string a,.int .u32 b] #[.string a',.int .u32 b'])=(a==a' && (b==b' && true)):=by
  rw [<- P5]
  kernel_rfl
 rw [he,Pz];exact hk
def G2 (t u:XA × Nat):(!(t.1==u.1 && (t.2:Int)==(u.2:Int)))=decide (t≠u):=by
 obtain ⟨a,b⟩:=t;obtain ⟨a',b'⟩:=u
 by_cases h1:a=a'
 ·subst h1;rw [bytes_beq]
  by_cases h2:b=b'
  ·subst h2
   simp
  ·have h3:¬ ((b:Int)=(b':Int)):=ae
   have h4:((b:Int)==(b':Int))=false:=by simpa using h3
   simp [h2,h4]
 ·have h3:(a==a')=false:=by
   obtain ⟨d⟩:=a;obtain ⟨d'⟩:=a';show (d==d')=false;have h4:¬ d=d':=fun e=>h1 (by rw [e])
   simpa using h4
  simp [h1,h3]
def x8 {α:Type} {l m:List α} {i:Nat} (hi:i<l.length) (hj:i<m.length) (h:l[i]≠m[i]):l≠m:=by
 rintro rfl;exact h rfl
def uC {α:Type} {l m:List α} {i:Nat} (hi:i<l.length) (hj:i<m.length) (h:l[i]=m[i]):(l.drop i=m.drop i)↔(l.drop (i+1)=m.drop (i+1)):=by
 rw [OM hi,OM hj,h];exact ⟨fun e=>(List.cons.inj e).2,fun e=>by rw [e]⟩
instance:DecidableEq ec:=inferInstance
def Dm {h:Hp} {p q:Option XC} {l m c d:Nat} {us vs:ec} (v:tp h p l us) (w:tp h q m vs) (hl:us.length<=2^60):pO Tryz.prog 117 [.slice p l c,.slice q m d] h (.bool (decide (us=vs))):=by
 refine dk mixed Tryz.func117 aB (fK p l c q m d) ?_;unfold dV cv bN dH bW bR av bE pj aQ bZ;have h1:=v.len;have h2:=w.len;refine ai (fun g1=>?_) (fun g1=>?_)
 ·have g1:¬ (l:Int)=(m:Int):=by simpa using g1
  exact ⟨by rw [OL (fun e=>by rw [e] at h1; omega)],rfl⟩
 ·have g1:(l:Int)=(m:Int):=by simpa using g1
  refine bJ (cs:=[(false,[.bool]),(false,[.int .i64])]) (fun y n h'=>∃ (i:Nat),y.2.1=(i:Int)/\i<=us.length/\n=us.length-i/\h=h'/\(us=vs↔us.drop i=vs.drop i)) (false,(0:Int),()) us.length rfl
   ⟨0,rfl,ae,ae,rfl,Iff.rfl⟩ ?_
  rintro ⟨b8,n8,⟨⟩⟩ n h2 ⟨i,hi,hile,rfl,rfl,hq⟩;simp only at hi;subst hi;refine ao ?_;refine ai (fun g2=>?_) (fun g2=>?_)
  ·have g2:=OE g2;have hi1:i<us.length:=ae
   have hi2:i<vs.length:=ae
   obtain ⟨a,rfl,hc⟩:=v.cells i hi1;obtain ⟨a',rfl,hc'⟩:=w.cells i hi2;have hst:=uC hi1 hi2;have hno:=x8 hi1 hi2;generalize us[i]=t at hc hst hno;generalize vs[i]=u at hc' hst hno;refine aC ⟨ae,ae⟩ (au rfl ?_);rw [show Int.toNat (i:Int)=i from ae];refine aG (t.1,(t.2:Int),()) hc (ao ?_);refine aC ⟨ae,ae⟩ (au rfl ?_);refine aG (u.1,(u.2:Int),()) hc' (ao ?_);refine cI (b:=decide (t≠u)) (fun K' hk=>IF _ _ _ _ _ _ _ _ (by rw [G2]; exact hk)) ?_;refine ai (fun g3=>?_) (fun g3=>?_)
   ·exact ⟨by rw [OL (hno (OE g3))],rfl⟩
   ·have g3:t=u:=by simpa using g3
    have hw:IntKind.wrap .i64 ((i:Int)+1)=((i+1:Nat):Int):=by rw [wrap_i64 ae ae]; omega
    exact aY (cs:=[(false,[.bool]),(false,[.int .i64])]) (b8,((i+1:Nat):Int),()) (us.length-(i+1)) rfl ae (O7 (fun z=>[Value.bool b8,Value.int .i64 z]) hw) ⟨i+1,rfl,ae,rfl,rfl,hq.trans (hst g3)⟩
  ·have g2:=OF g2;refine ⟨?_,rfl⟩;rw [OK (hq.2 (by rw [OW ae,OW ae]))]
def kC (x y:fG):Bool:=decide (x.num=y.num) && decide (x.ay=y.ay)
def Fm (x:fG):kC x x=true:=by unfold kC; simp
def zn {h : Hp} {p q : Option XC} {l m c d : Nat} {x y : fG} (v : tp h p l x.ay) (w : tp h q m y.ay) (hl : x.ay.length <= 2 ^ 60) :
    HC Tryz.prog 80 #[lV p l c x, lV q m d y] h fun r h' => r = .bool (kC x y) /\ Ext h h' := by
  refine ba (args := [.agg #[.slice p l c, .int .u32 x.num], .agg #[.slice q m d, .int .u32 y.num]]) mixed Tryz.func80 aB (x5 p l c x.num q m d y.num) ?_;unfold vT aN av bE;refine bm ?_;intro h1 b1 e1 z1;refine bm ?_;intro h2 b2 e2 z2;have b1 := b1.an e2 aj;have e02 := e1.trans e2;rw [az, az];refine af b1 ((x.num : Int), ()) rfl (ao ?_);refine af b2 ((y.num : Int), ()) rfl (ao ?_);refine ai (fun g1 => ?_) (fun g1 => ?_)
  · have g1 : x.num = y.num := by have : (x.num : Int) = y.num := by simpa using g1
                                  omega
    refine af b1 ((p, l, c), ()) rfl (ao ?_);refine af b2 ((q, m, d), ()) rfl (ao ?_);refine aM (Dm (v.an e02 aj) (w.an e02 aj) hl) ?_;refine ⟨?_, e02⟩;unfold kC;rw [OK g1] <;> rfl
  · have g1 : ¬ x.num = y.num := by have : ¬ (x.num : Int) = y.num := by simpa using g1
                                    omega
    refine ⟨?_, e02⟩;unfold kC;rw [OL g1] <;> rfl
def zB {h : Hp} {p q : Option XC} {l m c d : Nat} {x y : fG} (v : tp h p l x.ay) (w : tp h q m y.ay) (hl : x.ay.length <= 2 ^ 60) :
    HC Tryz.prog 75 #[lV p l c x, lV q m d y] h fun r h' => r = .bool (kC x y) /\ Ext h h' := by
  refine ba (args := [.agg #[.slice p l c, .int .u32 x.num], .agg #[.slice q m d, .int .u32 y.num]]) mixed Tryz.func75 aB (nP p l c x.num q m d y.num) ?_;unfold jW cv bN dH bW bR av bE pj aQ bZ;refine bm ?_;intro h1 b1 e1 z1;refine bm ?_;intro h2 b2 e2 z2;have b1 := b1.an e2 aj;have e02 := e1.trans e2;have v := v.an e02 aj;have w := w.an e02 aj;have hv := v.len;have hw := w.len;rw [az, az];refine af b1 ((x.num : Int), ()) rfl (ao ?_);refine af b2 ((y.num : Int), ()) rfl (ao ?_);refine ai (fun g1 => ?_) (fun g1 => ?_)
  · have g1 : ¬ x.num = y.num := by have : ¬ (x.num : Int) = y.num := by simpa using g1
                                    omega
    refine ⟨?_, e02⟩;unfold kC;rw [OL g1] <;> rfl
  · have g1 : x.num = y.num := by have : (x.num : Int) = y.num := by simpa using g1
                                  omega
    have hB : kC x y = decide (x.ay = y.ay) := by
      unfold kC;rw [OK g1] <;> rfl
    rw [hB];refine af b1 ((p, l, c), ()) rfl (ao ?_);refine af b2 ((q, m, d), ()) rfl (ao ?_);refine ai (fun g2 => ?_) (fun g2 => ?_)
    · have g2 : ¬ (l : Int) = (m : Int) := by simpa using g2
      exact ⟨by rw [OL (fun e => by rw [e] at hv; omega)], e02⟩
    · have g2 : (l : Int) = (m : Int) := by simpa using g2
      refine bJ (cs := [(false, [.bool]), (false, [.int .i64])]) (fun z n h' => ∃ (i : Nat), z.2.1 = (i : Int) /\ i <= x.ay.length /\ n = x.ay.length - i /\ h2 = h' /\ (x.ay = y.ay ↔ x.ay.drop i = y.ay.drop i)) (false, (0 : Int), ()) x.ay.length rfl
        ⟨0, rfl, ae, ae, rfl, Iff.rfl⟩ ?_
      rintro ⟨b8, n8, ⟨⟩⟩ n h3 ⟨i, hi, hile, rfl, rfl, hq⟩;simp only at hi;subst hi;refine ao ?_;refine af b1 ((p, l, c), ()) rfl (ao ?_);refine ai (fun g2 => ?_) (fun g2 => ?_)
      · have g2 := OE g2
        have hi1 : i < x.ay.length :=ae
        have hi2 : i < y.ay.length :=ae
        obtain ⟨a, rfl, hc⟩ := v.cells i hi1;obtain ⟨a', rfl, hc'⟩ := w.cells i hi2;have hst := uC hi1 hi2;have hno := x8 hi1 hi2;generalize x.ay[i] = t at hc hst hno;generalize y.ay[i] = u at hc' hst hno;refine af b1 ((some a, l, c), ()) rfl (ao ?_);refine aC ⟨ae, ae⟩ (au rfl ?_);rw [show Int.toNat (i : Int) = i from ae];refine aG (t.1, (t.2 : Int), ()) hc (ao ?_);refine af b2 ((some a', m, d), ()) rfl (ao ?_);refine aC ⟨ae, ae⟩ (au rfl ?_);refine aG (u.1, (u.2 : Int), ()) hc' (ao ?_);refine cI (b := decide (t ≠ u)) (fun K' hk => IF _ _ _ _ _ _ _ _ (by rw [G2]; exact hk)) ?_;refine ⟨⟨b2.cells _ rfl, b1.cells _ rfl, trivial⟩, ?_⟩;refine ai (fun g3 => ?_) (fun g3 => ?_)
        · exact ⟨by rw [OL (hno (OE g3))], e02⟩
        · have g3 : t = u := by simpa using g3
          have hw : IntKind.wrap .i64 ((i : Int) + 1) = ((i + 1 : Nat) : Int) := by rw [wrap_i64 ae ae]; omega
          exact aY (cs := [(false, [.bool]), (false, [.int .i64])]) (b8, ((i + 1 : Nat) : Int), ()) (x.ay.length - (i + 1)) rfl ae (O7 (fun z => [Value.bool b8, Value.int .i64 z]) hw) ⟨i + 1, rfl, ae, rfl, rfl, hq.trans (hst g3)⟩
      · have g2 := OF g2
        refine ⟨?_, e02⟩;rw [OK (hq.2 (by rw [OW ae, OW ae]))]
def JC {P:Program} {L:Lp} {K:XB->Hp->Prop} {h:Hp} {k:Option XC->Nat->Nat->T} {t e:TypeId} {z:XB} {sz by':Nat} (ht:P.underlying t=some (.slice e)) (hinf:(P.info? e).map (fun i=>(i.zero,i.size,i.bytes))=some (some z,sz,by'))
  (hk:∀ h' ,SL h' h.size e sz (some ⟨h.size,0,none⟩) 0 0 []->Ext h h'->k (some ⟨h.size,0,none⟩) 0 0 L K h'):T.fb P (Instr.buildSlice t 0 #[]) false [(false,[.slice 0])] k L K h:=by
 obtain ⟨i,hi,hz,rfl,rfl⟩:=nI hinf;refine dE ?_;unfold Instr.buildSlice;rw [aD,aL ht];simp only;rw [aD,bV hi];simp only [Nat.zero_mul];rw [OG ae];have h0:∀ f:Nat->XB,Array.map f (Array.range 0)=#[]:=fun f=>aj
 simp only [h0];refine ⟨_,_,_,rfl,hk _ ?_ (Ext.push h _)⟩;exact ⟨rfl,aj,h.size,[],[],rfl,OP _,⟨OP _,ae⟩,by simpa using bf.new h e [],aj⟩
end Go.Sx
namespace Go.Sx.Ob
open Go.Proofs
def _root_.Go.Sx.Ch.st {h a b:Hp} {g:Nat} (e:Ext h a) (k:Ch [g] a b) (hg:h.size<=g):Ext h b:=Ch.trans e k (fun i hi hl=>by simp at hi; omega)
def gM (nm:Nat->XA) (by_:Nat->Int):List XB:=(List.range 43).flatMap fun k=>[.string (nm k),.int .u8 (by_ k),.int .i64 (cP.getD k 0:Nat)]
def Bs (h:Hp):Prop:=∃ nm by_ e f,h[1]?=some (.cells (gM nm by_).toArray e f)
def Bs.an {ws:List Nat} {h h':Hp} (t:Bs h) (k:Ch ws h h') (hw:1∉ws):Bs h':=by
 obtain ⟨nm,by_,e,f,ht⟩:=t;exact ⟨nm,by_,e,f,k.get ht hw⟩
theorem qw {α β:Type} (f:α->List β) (m:Nat) (hf:∀ x,(f x).length=m):∀ (l:List α) (i j:Nat),j<m->(l.flatMap f)[i*m+j]?=(l[i]?).bind fun x=>(f x)[j]?
 | [],i,j,hj=>aj
 | x::l,0,j,hj=>by
  rw [List.flatMap_cons,List.getElem?_append_left (by rw [hf]; omega)]
  simp
 | x::l,i+1,j,hj=>by
  rw [List.flatMap_cons,List.getElem?_append_right (by rw [hf,PP]; omega),hf,show (i+1)*m+j-m=i*m+j by rw [PP]; omega,qw f m hf l i j hj]
  simp
def Bs.cells {h:Hp} (t:Bs h) {k:Nat} (hk:k<43):∃ (s:XA) (b:Int),bk h ((⟨1,0,none⟩:XC).add (k*3)) 0 [.string s,.int .u8 b,.int .i64 (cP.getD k 0:Nat)]:=by
 obtain ⟨nm,by_,e,f,ht⟩:=t;refine ⟨nm k,by_ k,?_⟩;have hg:∀ j,j<3->(gM nm by_)[k*3+j]?=([.string (nm k),.int .u8 (by_ k),.int .i64 (cP.getD k 0:Nat)]:List XB)[j]?:=by
  intro j hj;unfold gM;rw [qw _ 3 aj _ _ _ hj];simp [hk]
 rw [az];refine ⟨?_,?_,?_,trivial⟩
 ·rw [az,mJ ht]
  have:=hg 0 ae
  simpa using this
 ·rw [az,mJ ht]
  have:=hg 1 ae
  simpa using this
 ·rw [az,mJ ht]
  have:=hg 2 ae
  simpa using this
def EW {h:Hp} (t:Bs h) (op:Int) (h1:-9223372036854775808<=op) (h2:op<=9223372036854775807) :
  HC Tryz.prog 90 #[.int .i64 op] h fun w h'=>∃ (s:XA) (b:Int),w=.tuple #[.agg #[.string s,.int .u8 b,.int .i64 (dB op:Nat)],.bool (decide (dB op≠0))]/\Ext h h':=by
 refine ba (args:=[.int .i64 op]) mixed Tryz.func90 aB (C8 op) ?_;unfold BT aH aw bh;refine bm ?_;intro g1 b1 e1 z1;have hz:∀ (hh:dB op=0),(∃ (s:XA) (b:Int),(Value.tuple #[.agg #[.string ⟨#[]⟩,.int .u8 0,.int .i64 0],.bool false])=.tuple #[.agg #[.string s,.int .u8 b,.int .i64 (dB op:Nat)],.bool (decide (dB op≠0))]) :=
  fun hh=>⟨⟨#[]⟩,0,by rw [hh]; rfl⟩
 refine ai (fun q=>?_) (fun q=>?_)
 ·have q:=OE q;refine ap b1 rfl aj ?_;intro g2 b2 k2 z2;refine af b2 ((⟨#[]⟩:XA),(0:Int),(0:Int),()) rfl ?_;obtain ⟨s,b,e⟩:=hz (by unfold dB; rw [OH q]);exact ⟨s,b,e,Ch.trans e1 k2 (fun i hi hl=>by simp at hi; omega)⟩
 refine ai (fun r=>?_) (fun r=>?_)
 ·have r:=OE r;refine ap b1 rfl aj ?_;intro g2 b2 k2 z2;refine af b2 ((⟨#[]⟩:XA),(0:Int),(0:Int),()) rfl ?_;obtain ⟨s,b,e⟩:=hz (by
   by_cases g:dB op=0
   ·exact g
   ·have:=DK op g
    omega)
  exact ⟨s,b,e,Ch.trans e1 k2 (fun i hi hl=>by simp at hi; omega)⟩
 ·have q:=OF q;have r:=OF r;rw [wrap_i64 ae ae];refine aC ⟨ae,ae⟩ ?_;obtain ⟨s,b,hc⟩:=(t.an e1 aj).cells (k:=(op-1).toNat) ae;refine aG (s,b,((cP.getD (op-1).toNat 0:Nat):Int),()) hc (ao ?_);refine ap b1 rfl aj ?_;intro g2 b2 k2 z2;refine af b2 (s,b,((cP.getD (op-1).toNat 0:Nat):Int),()) rfl ?_;refine ⟨s,b,?_,Ch.trans e1 k2 (fun i hi hl=>by simp at hi; omega)⟩;have h3:dB op=cP.getD (op-1).toNat 0:=by unfold dB; rw [OG ae]
  have h4:dB op≠0:=by
   rw [h3]
   have:∀ k:Fin 43,cP.getD k.1 0≠0:=bO
   exact this ⟨(op-1).toNat,ae⟩
  rw [OK h4,h3]
def Cv {h:Hp} (t:Bs h) (op:Int) (h1:-9223372036854775808<=op) (h2:op<=9223372036854775807) :
  HC Tryz.prog 51 #[.int .i64 op] h fun w h'=>w=.bool (Ei op)/\Ext h h':=by
 refine ba (args:=[.int .i64 op]) mixed Tryz.func51 aB (xB op) ?_;unfold vV aS pj bh bZ;refine aK (EW t op h1 h2) ?_;rintro _ g1 ⟨s,b,rfl,e1⟩;refine ⟨(s,b,((dB op:Nat):Int),decide (dB op≠0),()),rfl,ao ?_⟩;refine bm ?_;intro g2 b2 e2 z2;refine ap b2 rfl aj ?_;intro g3 b3 k3 z3;have e3:=(e1.trans e2).st k3 (by have:=e1.size; omega);have b3:bf g3 g1.size 158 [.string s,.int .u8 b,.int .i64 (dB op:Nat)]:=b3;rw [az];refine af b3 (((dB op:Nat):Int),()) rfl (ao ?_);have hc:=uR op;refine ai (fun q=>?_) (fun q=>?_)
 ·have q:((dB op:Nat):Int)=12:=by simpa using q
  refine ⟨?_,e3⟩;unfold Ei;rw [OK ae]
 ·have q:¬ ((dB op:Nat):Int)=12:=by simpa using q
  refine af b3 (((dB op:Nat):Int),()) rfl ?_;refine ⟨?_,e3⟩;unfold Ei
  by_cases r:dB op=13
  ·rw [r]; rfl
  ·rw [OL ae]
   congr 1
   simp
   omega
end Go.Sx.Ob
