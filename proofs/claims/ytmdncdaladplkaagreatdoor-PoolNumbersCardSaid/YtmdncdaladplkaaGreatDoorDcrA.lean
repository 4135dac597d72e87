/- Contracts over heaps, and plain laws, for the functions that the laws of chapter 9 call, part 1: Sums of names, in plain words: lists of terms with rising names are one where ea Condition: as each statement says. -/
import Derived.Test.YtmdncdaladplkaaGreatDoorDShelf
import Derived.Test.YtmdncdaladplkaaGreatDoorSxZ
import Derived.KernelRfl
import Derived.Test.YtmdncdaladplkaaGreatDoorRows
import Derived.ProofKit
import Derived.LaidMore
import Derived.LaidLaws
import Derived.OpenShut
import Derived.ChangeSame
import Derived.ChangeStays
import Derived.ChangeOld
import Derived.ChangeSlices
import Derived.ChangeMaps5
import Derived.JoinedCond
import Derived.Lib.LaidTab
import Derived.Stop.Joined
import Derived.Shelf.Strings.OnBuilder
import Derived.Shelf.Strconv.Itoa1
import Derived.Shelf.LaysM
import Derived.Shelf.Strconv.Itoa2
import Derived.Shelf.Strings.Cut
import Derived.Lib.ItoaMem
import Derived.LaidEql
import Derived.Stop.Asserts
import Derived.RowKitTokens
import Derived.Shelf.Strconv.Itoa3
import Derived.Lib.ItoaLen
import Derived.RangeFuncNested
import Derived.RangeFuncBound
import Derived.RangeFuncCalls
import Derived.RangeFuncLeaves
import Derived.Shelf.Abstract
import Derived.Shelf.RegionOpen
import Derived.OwnWalkIn
import Derived.TacticsInMore
import Derived.LoopNIn
import Derived.LoopIn
import Derived.HandedShaped
import Derived.Shelf.Vars
import Derived.Test.YtmdncdaladplkaaGreatDoorTie
import Derived.Test.YtmdncdaladplkaaGreatDoorCards
import Derived.SevenTiedAt
set_option linter.unusedVariables false
set_option maxRecDepth 100000
namespace Go.Sx
open Go.Proofs
theorem mixed:Tryz.prog.follows .mixedOrders=true:=by kernel_rfl
theorem nm106 : (Tryz.f157.name == "runtime.NumGoroutine") = false := by kernel_rfl
theorem nb106:Tryz.f157.body.isNone=true:=by kernel_rfl
theorem en106:Extern.findNext Tryz.f157=none:=by kernel_rfl
theorem ef106:Extern.find Tryz.f157=some Extern.BytealgIndexByte.indexByte:=by kernel_rfl
/-! Bytes: letters and digits. -/
def isDig (c:UInt8):Bool:=48≤c.toNat && c.toNat≤57
open Go.Proofs Go.MapKept Go.WideAt Go.WideMaps Go.Maps Go.RowKit Go.WideElems Go.WideElems
def anyR:Value→Option (DataW Unit × List MemPlace):=fun _=>some (.nil,[])
theorem und9:Tryz.prog.underlying 9=some .string:=by kernel_rfl
theorem rd_str {x:MapEntry} {s:ByteArray} (hk:x.key=.string s) (hs:s.size≤maxLen):WideElems.rd Tryz.prog 9 anyR x=some (.string s.data.toList,.nil):=by
 unfold WideElems.rd
 rw [hk,keyOf_string_mk und9 hs]
 rfl
theorem MapB.owns {W:World} {g:Nat} {D:List (ByteArray × Value)} (m:MapB W.heap g D) (hl:D.length≤maxLen) :
  ∃ D0:DataW Unit,W.ownsMap Tryz.prog 9 anyR g D.length D0∧(strKeys D0).Perm (D.map fun p=>p.1.data.toList)∧Maps.size D0=D.length:=by
 obtain ⟨es,clock,hg,he,hs,hd⟩:=m
 have hlen:es.size=D.length:=by
  have:=congrArg List.length he
  simpa using this
 have hrd:es.toList.map (WideElems.rg Tryz.prog 9 anyR)=D.map fun p=>(Lit.string p.1.data.toList,DataW.nil):=by
  apply List.ext_getElem?
  intro i
  have h1:(es.toList.map (fun e=>(e.key,e.val)))[i]?=(D.map (fun p=>(Value.string p.1,p.2)))[i]?:=by rw [he]
  simp only [List.getElem?_map] at h1 ⊢
  rcases Nat.lt_or_ge i D.length with hi | hi
  ·rw [List.getElem?_eq_getElem hi,List.getElem?_eq_getElem (show i<es.toList.length by simp; omega)] at h1 ⊢
   simp only [Option.map_some,Option.some.injEq,Prod.mk.injEq] at h1 ⊢
   exact WideElems.rg_of (rd_str h1.1 (hd _ (List.getElem_mem hi)))
  ·rw [List.getElem?_eq_none hi,List.getElem?_eq_none (show es.toList.length≤i by simp; omega)]
   rfl
 refine ⟨_,⟨es,clock,hg,⟨by omega,hs,?_⟩,by omega,rfl⟩,?_,?_⟩
 ·intro x hx
  obtain ⟨i,hi,rfl⟩:=List.getElem_of_mem hx
  have hi':i<D.length:=by simp at hi; omega
  have h1:(es.toList.map (fun e=>(e.key,e.val)))[i]?=(D.map (fun p=>(Value.string p.1,p.2)))[i]?:=by rw [he]
  simp only [List.getElem?_map,List.getElem?_eq_getElem hi',List.getElem?_eq_getElem hi,Option.map_some,Option.some.injEq,Prod.mk.injEq] at h1
  exact ⟨_,rd_str h1.1 (hd _ (List.getElem_mem hi'))⟩
 ·show List.Perm (((es.toList.map (WideElems.rg Tryz.prog 9 anyR)).foldr DataW.insert []).map fun p=>strOf p.1) _
  rw [hrd]
  refine ((WideShapes.sorted_perm _).map _).trans ?_
  rw [List.map_map]
  exact List.Perm.refl _
 ·show ((es.toList.map (WideElems.rg Tryz.prog 9 anyR)).foldr DataW.insert []).length=D.length
  rw [hrd,length_sorted,List.length_map]
abbrev Tms:=List (ByteArray × Nat)
structure Lin where
 terms:Tms
 num:Nat
def ltN (a b:ByteArray):Prop:=a.data.toList<b.data.toList
instance (a b:ByteArray):Decidable (ltN a b):=inferInstanceAs (Decidable (a.data.toList<b.data.toList))
/-! What 'made' makes. -/
/-! The reference's sums and products. -/
def dv (c:UInt8):Nat:=if c.toNat<58 then c.toNat-48 else c.toNat-87
def isHex (c:UInt8):Bool:=isDig c || (97≤c.toNat && c.toNat≤102)
structure Tok where
 kind:Nat
 text:ByteArray
 num:Nat
 at_:Nat
def enc (t:Tok):List Value:=[.int .i64 t.kind,.string t.text,.int .u32 t.num,.int .i64 t.at_]
def flds (P:Program) (t:TypeId):Array Field :=
 match P.underlying t with
 | some (.struct fs)=>fs
 | _=>#[]
def hv (c:UInt8):Int:=if isHex c=true then (dv c:Int) else -1
theorem ba_ext {s t:ByteArray} (h:s.data.toList=t.data.toList):s=t:=by
 cases s; cases t
 simp only at h
 congr 1
 exact Array.toList_inj.1 h
end Go.Sx
set_option linter.unusedVariables false
set_option maxRecDepth 100000
namespace Go.Sx.Ob
abbrev Bt:=List UInt8
/-! Readers: what is read,and what is behind it; or a refusal: how many bytes are behind its place,and why. -/
/-! Writers. -/
structure Ins where
 op:Int
 a:Int
 b:Int
 n:Int
 form:Int
deriving DecidableEq
structure Itm where
 kind:Int
 name:ByteArray
 inst:Ins
 e:Lin
 n:Int
def nam0:ByteArray:=⟨#[]⟩
def shpL:List Nat:=[1,1,1,2,2,2,2,2,2,2,3,3,4,4,4,4,4,4,4,4,4,4,4,4,4,4,4,4,5,5,5,5,6,6,7,8,9,10,11,12,12,13,13]
/-! Bytes. -/
def u32 (n:Int):Nat:=(n % 4294967296).toNat
def inN (D:List ByteArray) (s:ByteArray):Bool:=D.any fun t=>decide (t=s)
abbrev Eqn:=ByteArray × Lin
/-! Right units. -/
end Go.Sx.Ob
set_option linter.unusedVariables false
set_option linter.unusedSimpArgs false
set_option maxRecDepth 100000
namespace Go.Sx
open Go.Proofs
instance:DecidableEq Tms:=inferInstance
end Go.Sx
set_option linter.unusedVariables false
set_option linter.unusedSimpArgs false
set_option maxRecDepth 100000
namespace Go.Sx.Ob
open Go.Proofs
def rowsV (nm:Nat→ByteArray) (by_:Nat→Int):List Value:=(List.range 43).flatMap fun k=>[.string (nm k),.int .u8 (by_ k),.int .i64 (shpL.getD k 0:Nat)]
theorem flat_get {α β:Type} (f:α→List β) (m:Nat) (hf:∀ x,(f x).length=m):∀ (l:List α) (i j:Nat),j<m→(l.flatMap f)[i*m+j]?=(l[i]?).bind fun x=>(f x)[j]?
 | [],i,j,hj=>by simp
 | x::l,0,j,hj=>by
  rw [List.flatMap_cons,List.getElem?_append_left (by rw [hf]; omega)]
  simp
 | x::l,i+1,j,hj=>by
  rw [List.flatMap_cons,List.getElem?_append_right (by rw [hf,Nat.add_mul]; omega),hf,show (i+1)*m+j-m=i*m+j by rw [Nat.add_mul]; omega,flat_get f m hf l i j hj]
  simp
section
variable {α:Type}
end
section
variable {L:Lp} {K:Value→Hp→Prop} {h:Hp} {g:Nat} {D:List ByteArray}
end
/-! Lists in memory. -/
structure Sli where
 p:Option Addr
 l:Nat
 c:Nat
abbrev St:=Except (Nat × Nat) Bt
open Go.Proofs Go.Proofs.YtmdncdaladplkaaGreatDoor
open Go.ChangeShapes Go.WideShapes Go.ChangeAt Go.WideMaps Go.WideElems Go.RowKit
def flds2 (P:Program) (t:TypeId):Option (List (TypeId × Nat)):=(P.underlying t).bind fun d=>match d with | .struct fs=>some (fs.toList.map fun f=>(f.type,f.offset)) | _=>none
section
variable {H:Type} {enc:TypeId × Value→H} {P:Program} {W:World} {base fuel:Nat} {sp:Nat→Bool} {held:Bool} {t:TypeId} {cs:List Value} {y:DataW H × List MemPlace}
theorem open_struct {l:List (TypeId × Nat)} (hu:flds2 P t=some l) (h:DataW.trod enc P W base sp held fuel t cs=some y) :
  ∃ (xs:List (DataW H × List MemPlace)) (n:Nat),y.1=.agg (xs.map (·.1))∧cs.length=P.cellsOf t∧xs.length=l.length∧∀ (i:Nat) (p:TypeId × Nat),l[i]?=some p→∃ x,xs[i]?=some x∧DataW.trod enc P W base sp held n p.1 ((cs.drop p.2).take (P.cellsOf p.1))=some x:=by
 unfold flds2 at hu
 cases hd:P.underlying t with
 | none=>rw [hd] at hu; cases hu
 | some d =>
  rw [hd] at hu
  simp only [Option.bind_some] at hu
  split at hu
  ·rename_i fs
   simp only [Option.some.injEq] at hu
   obtain ⟨xs,n,_,hy,hl,hlen,hf⟩:=DataW.trod_struct hd h
   refine ⟨xs,n,by rw [hy],hl,by rw [← hu,List.length_map,hlen,Array.length_toList],fun i p hp=>?_⟩
   rw [← hu,List.getElem?_map,Option.map_eq_some_iff] at hp
   obtain ⟨f,hf1,rfl⟩:=hp
   rw [Array.getElem?_toList] at hf1
   have h1:=hf i f hf1
   cases hx:xs[i]? with
   | none =>
    rw [List.getElem?_eq_none_iff] at hx
    have:i<fs.size:=by
     by_cases g:i<fs.size
     ·exact g
     ·rw [Array.getElem?_eq_none (by omega)] at hf1
      cases hf1
    omega
   | some x=>rw [hx] at h1; exact ⟨x,rfl,h1⟩
  ·cases hu
end
theorem calls_of {P:Program} {f:FuncId} {args:Array Value} {W:World} {R:Value→Hp→Prop} (h:HC P f args W.heap R) (he:∀ v h',R v h'→Ext W.heap h'):Calls P f args W fun e w'=>∃ v,e=.returned v∧Below W.heap.size W w'∧R v w'.heap:=by
 refine (h W rfl).mono fun e w' ⟨v,hv,hs,hr⟩=>⟨v,hv,⟨hs.os,hs.tape,hs.output,(he v _ hr).size,fun k hk=>(he v _ hr).same k hk (by simp)⟩,hr⟩
theorem below_same {W W':World} (hB:Below W.heap.size W W') {p:MemPlace} (hp:p.block<W.heap.size):W.sameAt W' p:=by
 cases p with
 | cell b off =>
  show W'.cell? _=W.cell? _
  unfold World.cell?
  rw [hB.block b hp]
 | map b=>exact hB.block b hp
def opsP:Array (Nat × Value):=#[(0,.agg #[.string ⟨#[110,111,112]⟩,.int .u8 (0:Int),.int .i64 (1:Int)]),(1,.agg #[.string ⟨#[104,97,108,116]⟩,.int .u8 (1:Int),.int .i64 (1:Int)]),(2,.agg #[.string ⟨#[114,101,116]⟩,.int .u8 (2:Int),.int .i64 (1:Int)]),(3,.agg #[.string ⟨#[112,114,105,110,116]⟩,.int .u8 (3:Int),.int .i64 (2:Int)]),(4,.agg #[.string ⟨#[105,110]⟩,.int .u8 (4:Int),.int .i64 (2:Int)]),(5,.agg #[.string ⟨#[112,117,115,104]⟩,.int .u8 (5:Int),.int .i64 (2:Int)]),(6,.agg #[.string ⟨#[112,111,112]⟩,.int .u8 (6:Int),.int .i64 (2:Int)]),(7,.agg #[.string ⟨#[106,114]⟩,.int .u8 (7:Int),.int .i64 (2:Int)]),(8,.agg #[.string ⟨#[110,101,103]⟩,.int .u8 (8:Int),.int .i64 (2:Int)]),(9,.agg #[.string ⟨#[110,111,116]⟩,.int .u8 (9:Int),.int .i64 (2:Int)]),(10,.agg #[.string ⟨#[122,116,117,114,110]⟩,.int .u8 (10:Int),.int .i64 (3:Int)]),(11,.agg #[.string ⟨#[122,99,111,110,106]⟩,.int .u8 (11:Int),.int .i64 (3:Int)]),(12,.agg #[.string ⟨#[109,111,118]⟩,.int .u8 (16:Int),.int .i64 (4:Int)]),(13,.agg #[.string ⟨#[97,100,100]⟩,.int .u8 (17:Int),.int .i64 (4:Int)]),(14,.agg #[.string ⟨#[115,117,98]⟩,.int .u8 (18:Int),.int .i64 (4:Int)]),(15,.agg #[.string ⟨#[109,117,108]⟩,.int .u8 (19:Int),.int .i64 (4:Int)]),(16,.agg #[.string ⟨#[100,105,118]⟩,.int .u8 (20:Int),.int .i64 (4:Int)]),(17,.agg #[.string ⟨#[97,110,100]⟩,.int .u8 (21:Int),.int .i64 (4:Int)]),(18,.agg #[.string ⟨#[111,114]⟩,.int .u8 (22:Int),.int .i64 (4:Int)]),(19,.agg #[.string ⟨#[120,111,114]⟩,.int .u8 (23:Int),.int .i64 (4:Int)]),(20,.agg #[.string ⟨#[115,104,108]⟩,.int .u8 (24:Int),.int .i64 (4:Int)]),(21,.agg #[.string ⟨#[115,104,114]⟩,.int .u8 (25:Int),.int .i64 (4:Int)]),(22,.agg #[.string ⟨#[108,116]⟩,.int .u8 (26:Int),.int .i64 (4:Int)]),(23,.agg #[.string ⟨#[101,113]⟩,.int .u8 (27:Int),.int .i64 (4:Int)]),(24,.agg #[.string ⟨#[108,100,98]⟩,.int .u8 (28:Int),.int .i64 (4:Int)]),(25,.agg #[.string ⟨#[108,100,119]⟩,.int .u8 (29:Int),.int .i64 (4:Int)]),(26,.agg #[.string ⟨#[108,100,109]⟩,.int .u8 (30:Int),.int .i64 (4:Int)]),(27,.agg #[.string ⟨#[115,116,109]⟩,.int .u8 (31:Int),.int .i64 (4:Int)]),(28,.agg #[.string ⟨#[122,109,111,118]⟩,.int .u8 (32:Int),.int .i64 (5:Int)]),(29,.agg #[.string ⟨#[122,97,100,100]⟩,.int .u8 (33:Int),.int .i64 (5:Int)]),(30,.agg #[.string ⟨#[122,115,117,98]⟩,.int .u8 (34:Int),.int .i64 (5:Int)]),(31,.agg #[.string ⟨#[122,109,117,108]⟩,.int .u8 (35:Int),.int .i64 (5:Int)]),(32,.agg #[.string ⟨#[122,114,101]⟩,.int .u8 (36:Int),.int .i64 (6:Int)]),(33,.agg #[.string ⟨#[122,105,109]⟩,.int .u8 (37:Int),.int .i64 (6:Int)]),(34,.agg #[.string ⟨#[122,115,101,116]⟩,.int .u8 (38:Int),.int .i64 (7:Int)]),(35,.agg #[.string ⟨#[108,105,115]⟩,.int .u8 (48:Int),.int .i64 (8:Int)]),(36,.agg #[.string ⟨#[116,114,97,112]⟩,.int .u8 (49:Int),.int .i64 (9:Int)]),(37,.agg #[.string ⟨#[108,105]⟩,.int .u8 (50:Int),.int .i64 (10:Int)]),(38,.agg #[.string ⟨#[108,100,112]⟩,.int .u8 (51:Int),.int .i64 (11:Int)]),(39,.agg #[.string ⟨#[106,109,112]⟩,.int .u8 (64:Int),.int .i64 (12:Int)]),(40,.agg #[.string ⟨#[99,97,108,108]⟩,.int .u8 (67:Int),.int .i64 (12:Int)]),(41,.agg #[.string ⟨#[106,122]⟩,.int .u8 (70:Int),.int .i64 (13:Int)]),(42,.agg #[.string ⟨#[106,110,122]⟩,.int .u8 (73:Int),.int .i64 (13:Int)])]
def opsN (k:Nat):ByteArray:=match opsP[k]? with | some (_,.agg #[.string s,_,_])=>s | _=>⟨#[]⟩
def opsB (k:Nat):Int:=match opsP[k]? with | some (_,.agg #[_,.int _ b,_])=>b | _=>0
end Go.Sx.Ob
set_option linter.unusedVariables false
set_option maxRecDepth 100000
namespace Go.Sx
open Go.Proofs
structure EqM where
 name:ByteArray
 p:Option Addr
 l:Nat
 c:Nat
 x:Lin
structure TS where
 num:ByteArray→Option Nat
 cnt:Nat
 low:ByteArray→Option Nat
 on:ByteArray→Option Bool
 back:ByteArray→Option Bool
 way:List ByteArray
structure TF where
 E:Nat
 gA:Nat
 A:Nat
 gB:Nat
 B:Nat
 gN:Nat
 gL:Nat
 N:Nat
 L:Nat
 W:Nat
 gO:Nat
 O:Nat
 V:Nat
section
variable {L:Lp} {K:Value→Hp→Prop} {h:Hp} {r:TF} {st:TS} {p:Option Addr} {l c:Nat}
end
section
variable {L:Lp} {K:Value→Hp→Prop} {h:Hp} {r:TF} {st:TS} {p:Option Addr} {l c:Nat} {es:List EqM} {p0:Option Addr} {l0 c0:Nat}
end
end Go.Sx
set_option linter.unusedVariables false
set_option linter.unusedSimpArgs false
set_option maxRecDepth 100000
namespace Go.Sx.Ob
open Go.Proofs
abbrev Ky:=Nat × ByteArray
def kyV (k:Ky):Value:=.agg #[.int .i64 (k.1:Int),.string k.2]
theorem ky_check (b:Bool) (n:Int) (s:ByteArray) (h:Hp) (K:Unit→Hp→Prop):semW Tryz.prog (Instr.checkKey b 10000 121 (.agg #[.int .i64 n,.string s])) h K=K () h:=by kernel_rfl
theorem ky_und:Tryz.prog.underlying 121=some (.struct (flds Tryz.prog 121)):=by kernel_rfl
theorem ky_hst:Tryz.prog.stoodInHeld 121=false:=by kernel_rfl
theorem ky_ok (n m:Int) (s t:ByteArray):(flds Tryz.prog 121).all (okF Tryz.prog #[.int .i64 n,.string s] #[.int .i64 m,.string t])=true:=by kernel_rfl
theorem ky_eqF (n m:Int) (s t:ByteArray):(flds Tryz.prog 121).all (eqF #[.int .i64 n,.string s] #[.int .i64 m,.string t])=(n==m && (s==t && true)):=by
 rw [← Array.all_toList]
 kernel_rfl
theorem kyT:KeyT Tryz.prog 121 kyV where
 check b a h K hk:=by rw [show kyV a=.agg #[.int .i64 (a.1:Int),.string a.2] from rfl,ky_check]; exact hk
 kind:=⟨_,ky_und,fun a b=>rfl⟩
 eqv a b h K hk:=by
  show semW Tryz.prog (Op.equal 121 (.agg #[.int .i64 (a.1:Int),.string a.2]) (.agg #[.int .i64 (b.1:Int),.string b.2])) h K
  rw [equal_struct ky_und ky_hst (ky_ok _ _ _ _),ky_eqF]
  have e:decide (a=b)=(((a.1:Nat):Int)==((b.1:Nat):Int) && (a.2==b.2 && true)):=by
   obtain ⟨a1,a2⟩:=a
   obtain ⟨b1,b2⟩:=b
   show decide ((a1,a2)=(b1,b2))=(((a1:Nat):Int)==((b1:Nat):Int) && (a2==b2 && true))
   rw [ba_beq,Bool.and_true]
   simp only [Prod.mk.injEq]
   by_cases h1:a1=b1
   ·by_cases h2:a2=b2
    ·simp [h1,h2]
    ·simp [h1,h2]
   ·have:¬ ((a1:Nat):Int)=b1:=by omega
    simp only [h1,false_and,decide_false]
    have:(((a1:Nat):Int)==((b1:Nat):Int))=false:=by simpa using this
    rw [this,Bool.false_and]
  rw [← e]
  exact hk
 bits a:=by
  show ((2:Nat)==2 && _)=true
  simp [Instr.sameBits,kyV,ba_beq]
 inj a b h:=by
  obtain ⟨a1,a2⟩:=a
  obtain ⟨b1,b2⟩:=b
  simp only [kyV,Value.agg.injEq,Array.mk.injEq,List.cons.injEq,Value.int.injEq,Value.string.injEq,and_true,true_and] at h
  rw [Prod.mk.injEq]
  exact ⟨by omega,h.2⟩
theorem kz_check (b:Bool) (n:Int) (s:ByteArray) (h:Hp) (K:Unit→Hp→Prop):semW Tryz.prog (Instr.checkKey b 10000 131 (.agg #[.int .i64 n,.string s])) h K=K () h:=by kernel_rfl
theorem kz_und:Tryz.prog.underlying 131=some (.struct (flds Tryz.prog 131)):=by kernel_rfl
theorem kz_hst:Tryz.prog.stoodInHeld 131=false:=by kernel_rfl
theorem kz_ok (n m:Int) (s t:ByteArray):(flds Tryz.prog 131).all (okF Tryz.prog #[.int .i64 n,.string s] #[.int .i64 m,.string t])=true:=by kernel_rfl
theorem kz_eqF (n m:Int) (s t:ByteArray):(flds Tryz.prog 131).all (eqF #[.int .i64 n,.string s] #[.int .i64 m,.string t])=(n==m && (s==t && true)):=by
 rw [← Array.all_toList]
 kernel_rfl
theorem kzT:KeyT Tryz.prog 131 kyV where
 check b a h K hk:=by rw [show kyV a=.agg #[.int .i64 (a.1:Int),.string a.2] from rfl,kz_check]; exact hk
 kind:=⟨_,kz_und,fun a b=>rfl⟩
 eqv a b h K hk:=by
  show semW Tryz.prog (Op.equal 131 (.agg #[.int .i64 (a.1:Int),.string a.2]) (.agg #[.int .i64 (b.1:Int),.string b.2])) h K
  rw [equal_struct kz_und kz_hst (kz_ok _ _ _ _),kz_eqF]
  have e:decide (a=b)=(((a.1:Nat):Int)==((b.1:Nat):Int) && (a.2==b.2 && true)):=by
   obtain ⟨a1,a2⟩:=a
   obtain ⟨b1,b2⟩:=b
   show decide ((a1,a2)=(b1,b2))=(((a1:Nat):Int)==((b1:Nat):Int) && (a2==b2 && true))
   rw [ba_beq,Bool.and_true]
   simp only [Prod.mk.injEq]
   by_cases h1:a1=b1
   ·by_cases h2:a2=b2
    ·simp [h1,h2]
    ·simp [h1,h2]
   ·have:¬ ((a1:Nat):Int)=b1:=by omega
    simp only [h1,false_and,decide_false]
    have:(((a1:Nat):Int)==((b1:Nat):Int))=false:=by simpa using this
    rw [this,Bool.false_and]
  rw [← e]
  exact hk
 bits a:=by
  show ((2:Nat)==2 && _)=true
  simp [Instr.sameBits,kyV,ba_beq]
 inj a b h:=by
  obtain ⟨a1,a2⟩:=a
  obtain ⟨b1,b2⟩:=b
  simp only [kyV,Value.agg.injEq,Array.mk.injEq,List.cons.injEq,Value.int.injEq,Value.string.injEq,and_true,true_and] at h
  rw [Prod.mk.injEq]
  exact ⟨by omega,h.2⟩
theorem ki_check (b : Bool) (n m : Int) (h : Hp) (K : Unit → Hp → Prop) : semW Tryz.prog (Instr.checkKey b 10000 89 (.agg #[.int .i64 n, .int .i64 m])) h K = K () h := by kernel_rfl
theorem ki_und : Tryz.prog.underlying 89 = some (.struct (flds Tryz.prog 89)) := by kernel_rfl
theorem ki_hst : Tryz.prog.stoodInHeld 89 = false := by kernel_rfl
theorem ki_ok (n m s t : Int) : (flds Tryz.prog 89).all (okF Tryz.prog #[.int .i64 n, .int .i64 s] #[.int .i64 m, .int .i64 t]) = true := by kernel_rfl
theorem ki_eqF (n m s t : Int) : (flds Tryz.prog 89).all (eqF #[.int .i64 n, .int .i64 s] #[.int .i64 m, .int .i64 t]) = (n == m && (s == t && true)) := by
  rw [← Array.all_toList]
  kernel_rfl
theorem kiT : KeyT Tryz.prog 89 Cr.keyI where
  check b a h K hk := by rw [show Cr.keyI a = .agg #[.int .i64 (a.1 : Int), .int .i64 (a.2 : Int)] from rfl, ki_check]; exact hk
  kind := ⟨_, ki_und, fun a b => rfl⟩
  eqv a b h K hk := by
    show semW Tryz.prog (Op.equal 89 (.agg #[.int .i64 (a.1 : Int), .int .i64 (a.2 : Int)]) (.agg #[.int .i64 (b.1 : Int), .int .i64 (b.2 : Int)])) h K
    rw [equal_struct ki_und ki_hst (ki_ok _ _ _ _), ki_eqF]
    have e : decide (a = b) = (((a.1 : Nat) : Int) == ((b.1 : Nat) : Int) && (((a.2 : Nat) : Int) == ((b.2 : Nat) : Int) && true)) := by
      obtain ⟨a1, a2⟩ := a
      obtain ⟨b1, b2⟩ := b
      show decide ((a1, a2) = (b1, b2)) = (((a1 : Nat) : Int) == ((b1 : Nat) : Int) && (((a2 : Nat) : Int) == ((b2 : Nat) : Int) && true))
      rw [Bool.and_true, Bool.eq_iff_iff]
      simp only [Prod.mk.injEq, decide_eq_true_eq, Bool.and_eq_true, beq_iff_eq]
      omega
    rw [← e]
    exact hk
  bits a := by
    show ((2 : Nat) == 2 && _) = true
    simp [Instr.sameBits, Cr.keyI]
  inj a b h := by
    obtain ⟨a1, a2⟩ := a
    obtain ⟨b1, b2⟩ := b
    simp only [Cr.keyI, Value.agg.injEq, Array.mk.injEq, List.cons.injEq, Value.int.injEq, and_true, true_and] at h
    rw [Prod.mk.injEq]
    omega
structure Lb where
 u:Nat
 s:Nat
 i:Nat
 n:ByteArray
deriving DecidableEq
structure LW where
 lb:List Lb
 num:Ky→Option Nat
 nn:Nat
 equ:Ky→Option Nat
 ne:Nat
 gl:ByteArray→Option Nat
 ng:Nat
section
variable {h:Hp} {g gN gE gG:Nat} {us lb:Sli} {sp:Int} {w:LW}
end
end Go.Sx.Ob
set_option linter.unusedVariables false
set_option linter.unusedSimpArgs false
set_option maxRecDepth 100000
namespace Go.Sx.Lk
open Go.Proofs Go.Sx.Ob
structure Sec where
 s:Sli
 ws:List (Sli × Itm)
end Go.Sx.Lk
set_option linter.unusedVariables false
set_option linter.unusedSimpArgs false
set_option maxRecDepth 100000
namespace Go.Sx.Ob
open Go.Proofs
structure Thg where
 kind:Nat
 items:List Itm
 name:ByteArray
 e:Lin
 sec:Nat
def opNm (k:Nat):List UInt8:=(opsN k).data.toList
/-! What is read is right. -/
structure Wld where
 text:List Itm
 data:List Itm
 equs:List Eqn
 names:List ByteArray
 globs:List (ByteArray × Nat)
 sec:Nat
def dupW (w:Wld) (lab:ByteArray) (t:Thg):Prop:=(lab≠nam0∧inN w.names lab=true)∨(t.kind=3∧(inN w.names t.name=true∨t.name=lab))
instance (w:Wld) (lab:ByteArray) (t:Thg):Decidable (dupW w lab t):=by unfold dupW; infer_instance
/-! What is put is right. -/
/-! No line's own items are labels. -/
open Go.Proofs Go.Proofs.YtmdncdaladplkaaGreatDoor
open Go.ChangeShapes Go.WideShapes Go.ChangeAt Go.WideMaps Go.WideElems Go.RowKit
theorem ownK:ownKnob Tryz.prog.godebug=none:=by kernel_rfl
theorem u9:Tryz.prog.underlying 9=some .string:=by kernel_rfl
theorem u4:Tryz.prog.underlying 4=some .bool:=by kernel_rfl
theorem u3:Tryz.prog.underlying 3=some (.int .i64):=by kernel_rfl
theorem u5:Tryz.prog.underlying 5=some (.int .u8):=by kernel_rfl
theorem u127:Tryz.prog.underlying 202=some (.array 43 171):=by kernel_rfl
theorem c106:Tryz.prog.cellsOf 171=3:=by kernel_rfl
theorem c127:Tryz.prog.cellsOf 202=129:=by kernel_rfl
theorem c9:Tryz.prog.cellsOf 9=1:=by kernel_rfl
theorem c5:Tryz.prog.cellsOf 5=1:=by kernel_rfl
theorem c3:Tryz.prog.cellsOf 3=1:=by kernel_rfl
theorem s106:flds2 Tryz.prog 171=some [(9,0),(5,1),(3,2)]:=by kernel_rfl
def tabL:List (DataW Unit):=match (Rows.laid_spandrel_isa_table:DataW Unit) with | .agg l=>l | _=>[]
def shpOf:DataW Unit→Int
 | .agg [_,_,.lit (.int _ n)]=>n
 | _=>0
theorem tabL_eq:(Rows.laid_spandrel_isa_table:DataW Unit)=.agg tabL:=by kernel_rfl
theorem tabL_shp:tabL.map shpOf=(List.range 43).map fun k=>((shpL.getD k 0:Nat):Int):=by kernel_rfl
theorem flat_len {α β:Type} (f:α→List β) (m:Nat) (hf:∀ x,(f x).length=m):∀ l:List α,(l.flatMap f).length=l.length*m
 | []=>by simp
 | x::l=>by rw [List.flatMap_cons,List.length_append,hf,flat_len f m hf l,List.length_cons,Nat.succ_mul,Nat.add_comm]
theorem rowsV_length (nm:Nat→ByteArray) (by_:Nat→Int):(rowsV nm by_).length=129:=by
 unfold rowsV
 rw [flat_len _ 3 (fun x=>rfl),List.length_range]
def nmOf:DataW Unit→List UInt8
 | .agg [.lit (.string s),_,_]=>s
 | _=>[]
def byOf:DataW Unit→Int
 | .agg [_,.lit (.int _ n),_]=>n
 | _=>0
theorem tabL_nm:tabL.map nmOf=(List.range 43).map fun k=>opNm k:=by kernel_rfl
theorem tabL_by:tabL.map byOf=(List.range 43).map fun k=>opsB k:=by kernel_rfl
theorem tab_cells {enc:TypeId × Value→Unit} {W:World} {base fuel:Nat} {sp:Nat→Bool} {held:Bool} {cs:List Value} {p:List MemPlace}
  (h:DataW.trod enc Tryz.prog W base sp held fuel 202 cs=some (Rows.laid_spandrel_isa_table,p)):cs=rowsV opsN opsB:=by
 obtain ⟨xs,m,_,hx,hl,hlen,hf⟩:=DataW.trod_array u127 h
 rw [c127] at hl
 have hxs:xs.map (·.1)=tabL:=by
  have:=congrArg Prod.fst hx
  rw [show (Rows.laid_spandrel_isa_table,p).1=DataW.agg tabL from tabL_eq] at this
  simpa using this.symm
 have each:∀ i,i<43→(cs.drop (i*3)).take 3=[.string (opsN i),.int .u8 (opsB i),.int .i64 ((shpL.getD i 0:Nat):Int)]:=by
  intro i hi
  have h1:=hf i hi
  rw [c106] at h1
  rw [List.getElem?_eq_getElem (by omega)] at h1
  obtain ⟨ys,n,hy,hyl,hyn,hys⟩:=open_struct s106 h1
  obtain ⟨y0,g0,t0⟩:=hys 0 _ rfl
  obtain ⟨y1,g1,t1⟩:=hys 1 _ rfl
  obtain ⟨y2,g2,t2⟩:=hys 2 _ rfl
  rw [c106] at hyl
  generalize hc:(cs.drop (i*3)).take 3=c at *
  match c,hyl with
  | [v0,v1,v2],_ =>
   rw [show Tryz.prog.cellsOf (9,0).1=1 from c9] at t0
   rw [show Tryz.prog.cellsOf (5,1).1=1 from c5] at t1
   rw [show Tryz.prog.cellsOf (3,2).1=1 from c3] at t2
   obtain ⟨s,e0,r0,_⟩:=DataW.trod_string u9 t0
   obtain ⟨b,e1,r1,_⟩:=DataW.trod_int u5 t1
   obtain ⟨k,e2,r2,_⟩:=DataW.trod_int u3 t2
   cases e0; cases e1; cases e2
   have hys3:ys=[y0,y1,y2]:=by
    apply List.ext_getElem?
    intro j
    match j with
    | 0=>exact g0
    | 1=>exact g1
    | 2=>exact g2
    | j+3=>rw [List.getElem?_eq_none (by rw [hyn]; simp),List.getElem?_eq_none (by simp)]
   have h2:(xs.map (·.1))[i]?=some (xs[i]'(by omega)).1:=by rw [List.getElem?_map,List.getElem?_eq_getElem (by omega)]; rfl
   rw [hxs] at h2
   have hk:k=((shpL.getD i 0:Nat):Int):=by
    have h3:(tabL.map shpOf)[i]?=some (shpOf (xs[i]'(by omega)).1):=by rw [List.getElem?_map,h2]; rfl
    rw [tabL_shp,List.getElem?_map,List.getElem?_range hi] at h3
    rw [hy,hys3,r0,r1,r2] at h3
    exact (Option.some.inj h3).symm
   have hb:b=opsB i:=by
    have h3:(tabL.map byOf)[i]?=some (byOf (xs[i]'(by omega)).1):=by rw [List.getElem?_map,h2]; rfl
    rw [tabL_by,List.getElem?_map,List.getElem?_range hi] at h3
    rw [hy,hys3,r0,r1,r2] at h3
    exact (Option.some.inj h3).symm
   have hs:s=opsN i:=by
    have h3:(tabL.map nmOf)[i]?=some (nmOf (xs[i]'(by omega)).1):=by rw [List.getElem?_map,h2]; rfl
    rw [tabL_nm,List.getElem?_map,List.getElem?_range hi] at h3
    rw [hy,hys3,r0,r1,r2] at h3
    exact ba_ext (Option.some.inj h3).symm
   rw [hk,hb,hs]
 apply List.ext_getElem?
 intro j
 by_cases hj:j<129
 ·obtain ⟨a,b,hab,hb⟩:∃ a b,j=a*3+b∧b<3:=⟨j / 3,j % 3,by omega,by omega⟩
  subst hab
  unfold rowsV
  rw [flat_get (fun k=>[Value.string (opsN k),.int .u8 (opsB k),.int .i64 (shpL.getD k 0:Nat)]) 3 (fun x=>rfl) _ a b hb,List.getElem?_range (by omega)]
  show cs[a*3+b]?=[Value.string (opsN a),.int .u8 (opsB a),.int .i64 ((shpL.getD a 0:Nat):Int)][b]?
  have:=each a (by omega)
  rw [← this,List.getElem?_take,if_pos hb,List.getElem?_drop]
 ·have hr:(rowsV opsN opsB).length=129:=rowsV_length _ _
  rw [List.getElem?_eq_none (by omega),List.getElem?_eq_none (by omega)]
theorem var_obj {P:Program} {W:World} {name:String} {g:Nat} {cs:Array Value} (hg:P.globalNamed name=some g) (hv:W.var? P name=some cs):∃ e f,W.heap[g]?=some (.cells cs e f):=by
 unfold World.var? at hv
 rw [hg] at hv
 have hv:(match (W.heap[g]?:Option Obj) with | some (.cells cs _ _)=>some cs | _=>none)=some cs:=hv
 split at hv
 ·rename_i cs' e f hh
  cases hv
  exact ⟨e,f,hh⟩
 ·cases hv
theorem door_met (os:Os) (args:Array Value):laidMetH Tryz.prog Rows.poolNumbersRow.laid ((World.doorLaid Tryz.prog 400 os).forCall (fun _ _=>0) ⟨#[],args,[]⟩).memory :=
 laidMetH_of_parts3 (fuel:=8) (laidMet_of_run' 8 (by kernel_rfl) (by kernel_rfl)) (by kernel_rfl) (by kernel_rfl)
end Go.Sx.Ob
set_option linter.unusedVariables false
set_option linter.unusedSimpArgs false
set_option maxRecDepth 100000
namespace Go.Sx.Cr
open Go.Proofs Go.MapKept Go.WideAt Go.WideMaps Go.Maps Go.RowKit Go.WideElems Go.Sort Go.Shelf
theorem sorted_any {h:Hp} {q b:Nat} {D:List (ByteArray × Value)} {cs:Array Value} {e:TypeId} {f:Nat × Nat} (hq:h[q]?=some (.cells cs e f)) (hc:cs[0]?=some (.map (some b))) (m:MapB h b D) (hl:D.length≤1024) :
  HC Tryz.prog 89 #[.func (.func 117) #[] #[.pointer (some ⟨q,0,none⟩)]] h fun v h'=>∃ ss:List (List UInt8),ss.Perm (D.map fun p=>p.1.data.toList)∧(v=.slice none 0 0↔ss=[])∧Ext h h' ∧
   ss.length=((ss.mergeSort fun x y=>decide (x≤y)).map encStr).length ∧
   ((v=.slice none 0 0∧ss.length=0)∨∃ g cap cur,v=.slice (some ⟨g,0,none⟩) ss.length cap∧h.size≤g∧h'[g]?=some (.cells cur 9 (0,0))∧ss.length≤cap∧cap≤maxLen∧cur.size=cap*1∧cur.toList.take (ss.length*1)=(ss.mergeSort fun x y=>decide (x≤y)).map encStr):=by
 intro W hW
 subst hW
 obtain ⟨D0,hown,hperm,hsize⟩:=MapB.owns m (by unfold maxLen; omega)
 have hcell:W.cell? ⟨q,0,none⟩=some (.map (some b)):=by
  unfold World.cell?
  rw [hq]
  exact hc
 have hseq:SeqGives Fence.wide 2 Tryz.prog 117 #[.pointer (some ⟨q,0,none⟩)] encStr (fun ss=>ss.Perm (strKeys D0)) (Maps.size D0) W :=
  AnyZ.keys_gives (ρ:=Tryz.keys101_ren) { Tryz.keys101 with } Fence.wide _ trivial rfl (by omega) q b D.length D0 _ (lt_of_get hq) hcell hown
 have hmax:Maps.size D0≤maxLen:=by rw [hsize]; unfold maxLen; omega
 have hbytes:Maps.size D0*16≤140737488355328:=by rw [hsize]; omega
 have:=AnyZ.sorted_in Tryz.sorted100 Fence.wide 5 trivial trivial trivial trivial rfl (by omega) (Tryz.sorts100 _) (enters_of Tryz.func116 (by kernel_rfl) rfl) 117 #[.pointer (some ⟨q,0,none⟩)] trivial (enters_of Tryz.func117 (by kernel_rfl) rfl) _ _ hmax hbytes _ hseq
 refine (callsIn_wide.1 this).mono fun e w' hr=>?_
 obtain ⟨v,ss,he,hp,hrow,hnil,hb⟩:=hr
 obtain ⟨h1,h2⟩:=hrow
 exact ⟨v,he,⟨hb.os,hb.tape,hb.output⟩,ss,hp.trans hperm,hnil,⟨hb.size,fun i hi _=>hb.block i hi⟩,by rw [h1]; simp,h2⟩
theorem insS_perm (x:ByteArray):∀ l,(insS x l).Perm (x::l)
 | []=>List.Perm.refl _
 | y::l=>by
  unfold insS
  split
  ·exact List.Perm.refl _
  ·exact ((insS_perm x l).cons y).trans (List.Perm.swap x y l)
theorem sortS_perm:∀ l,(sortS l).Perm l
 | []=>List.Perm.refl _
 | x::l=>(insS_perm x (sortS l)).trans ((sortS_perm l).cons x)
theorem insS_sorted (x:ByteArray):∀ l:List ByteArray,(l.Pairwise fun a b=>a.data.toList≤b.data.toList)→((insS x l).Pairwise fun a b=>a.data.toList≤b.data.toList)
 | [],_=>by simp [insS]
 | y::l,h=>by
  rw [List.pairwise_cons] at h
  unfold insS
  rw [Proofs.bytesLess_eq]
  by_cases hlt:x.data.toList<y.data.toList
  ·rw [decide_eq_true hlt]
   have hxy:x.data.toList≤y.data.toList:=List.le_of_lt hlt
   refine List.pairwise_cons.2 ⟨fun b hb=>?_,List.pairwise_cons.2 h⟩
   rcases List.mem_cons.1 hb with rfl | hb
   ·exact hxy
   ·exact List.le_trans hxy (h.1 b hb)
  ·rw [decide_eq_false hlt]
   refine List.pairwise_cons.2 ⟨fun b hb=>?_,insS_sorted x l h.2⟩
   rcases List.mem_cons.1 ((insS_perm x l).mem_iff.1 hb) with rfl | hb
   ·exact List.not_lt.1 hlt
   ·exact h.1 b hb
theorem sortS_sorted:∀ l,(sortS l).Pairwise fun a b=>a.data.toList≤b.data.toList
 | []=>List.Pairwise.nil
 | x::l=>insS_sorted x _ (sortS_sorted l)
theorem sortS_keys {ss:List (List UInt8)} {ks:List ByteArray} (hp:ss.Perm (ks.map fun k=>k.data.toList)):(ss.mergeSort fun x y=>decide (x≤y)).map encStr=(sortS ks).map Value.string:=by
 have h1:ss.mergeSort (fun x y=>decide (x≤y))=(sortS ks).map fun k=>k.data.toList:=by
  have tr:∀ a b c:List UInt8,decide (a≤b)=true→decide (b≤c)=true→decide (a≤c)=true:=fun a b c h1 h2=>by simp only [decide_eq_true_eq] at *; exact List.le_trans h1 h2
  have to:∀ a b:List UInt8,(decide (a≤b) || decide (b≤a))=true:=fun a b=>by simp only [Bool.or_eq_true,decide_eq_true_eq]; exact List.le_total a b
  refine List.Perm.eq_of_pairwise (le:=fun a b=>decide (a≤b)=true) (fun a b _ _ h1 h2=>?_) (List.pairwise_mergeSort tr to ss) ?_ ((List.mergeSort_perm ss _).trans (hp.trans ((sortS_perm ks).map _).symm))
  ·simp only [decide_eq_true_eq] at h1 h2
   exact List.le_antisymm h1 h2
  ·rw [List.pairwise_map]
   exact (sortS_sorted ks).imp fun h=>by simpa using h
 rw [h1,List.map_map]
 refine List.map_congr_left fun k _=>?_
 show encStr k.data.toList=.string k
 unfold encStr
 congr 1
noncomputable def crx (tab:List Value):Cx:=⟨Tryz.prog,121,131,89,89,117,157,3,fun | 0=>some tab | _=>none⟩
theorem cells9:Tryz.prog.cellsOf 9=1:=by kernel_rfl
theorem crx_ok (tab:List Value):Ok (crx tab) where
 kt k hk:=by
  have hk:(Nat.beq k 121 || Nat.beq k 131)=true:=hk
  rw [Bool.or_eq_true] at hk
  rcases hk with hk | hk
  · have e:k=121:=Nat.eq_of_beq_eq_true hk
    subst e
    exact Ob.kyT
  · have e:k=131:=Nat.eq_of_beq_eq_true hk
    subst e
    exact Ob.kzT
 ki k hk:=by
  have hk:(true && Nat.beq k 89)=true:=hk
  have e:k=89:=Nat.eq_of_beq_eq_true hk
  subst e
  exact Ob.kiT
 idx x n h K hk:=by
  show semW Tryz.prog (extS 157 #[.string x,.int .u8 n]) h K
  refine semW_ext (e:=Extern.BytealgIndexByte.indexByte) Tryz.func157 nm106 nb106 en106 ef106 ?_
  rw [semW_indexByte]
  exact hk
 srt h q b D cs e f hq hc m hl:=by
  show HC Tryz.prog 89 #[.func (.func 117) #[] #[.pointer (some ⟨q,0,none⟩)]] h _
  refine HC.mono (sorted_any hq hc m hl) fun v h' hr=>?_
  obtain ⟨ss,hp,hnil,hext,hlen,hrow⟩:=hr
  refine ⟨hext,?_⟩
  have hsl:ss.length=D.length:=by rw [hp.length_eq]; simp
  cases D with
  | nil =>
   have:ss=[]:=List.eq_nil_of_length_eq_zero (by rw [hsl]; rfl)
   exact hnil.2 this
  | cons p D =>
   rcases hrow with ⟨_,h0⟩ | ⟨g,cap,cur,hv,hg,hcur,hle,hcap,hsz,htk⟩
   ·rw [hsl] at h0; simp at h0
   ·have hk:=sortS_keys (ss:=ss) (ks:=(p::D).map (·.1)) (by rw [List.map_map]; exact hp)
    rw [hk] at htk
    refine ⟨g,cur.toList.drop ss.length,cap,hg,by rw [← hsl]; exact hv,by unfold maxLen at hcap; omega,?_,by rw [← hsl]; exact hle,?_⟩
    ·have h9:cur.toList.length=cap*1:=by rw [Array.length_toList]; exact hsz
     rw [show (crx tab).P.cellsOf 9=1 from cells9,List.length_drop,h9,← hsl]; omega
    ·unfold Box
     rw [hcur,← htk,Nat.mul_one,List.take_append_drop]
open Go.Proofs
def opsV:List Value:=Ob.rowsV Ob.opsN Ob.opsB
noncomputable def cx:Cx:=crx opsV
theorem cx_ok:Ok cx:=crx_ok opsV
theorem opsV_flat:opsV.all (flatV 9)=true:=by kernel_rfl
theorem cx_ro {h:Hp} (ht:∃ e f,h[0]?=some (.cells opsV.toArray e f)):∀ b c,cx.ro b=some c→b<cx.ng∧∃ cs e f,h[b]?=some (.cells cs e f)∧∀ (i:Nat) (v:Value),c[i]?=some v→cs[i]?=some v∧flatV 9 v=true:=by
 obtain ⟨e,f,ht⟩:=ht
 intro b c hb
 cases b with
 | succ b=>cases (show none=some c from hb)
 | zero =>
  cases (show some opsV=some c from hb)
  refine ⟨show 0<3 by omega,opsV.toArray,e,f,ht,fun i v hv=>⟨by rw [List.getElem?_toArray]; exact hv,?_⟩⟩
  exact List.all_eq_true.1 opsV_flat v (List.mem_of_getElem? hv)
theorem piece_to {h0:Hp} {n:Nat} {q':Cut} {Q:Exit→Act→Hp→Prop} {k:Nat} {c c':Code} {e:Ev} {s:CS} (hx:cpiece cx (cfun cx 60) n q'.el q'.ol k c e s=true) (hc:c'=behind k c) (hg:GoesOn cx h0 n q' c' Q) :
  ∀ ρ e' a h,Rel cx h0 ρ s.σ h→ER ρ e e'→Agr ⟨n,[]⟩ e' a→cW cx.P c Q a h:=piece_ok cx_ok mixed (cfun_ok cx_ok mixed 60) k hx (hc▸hg)
end Go.Sx.Cr
