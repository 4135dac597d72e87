/- Contracts over heaps, and plain laws, for the functions that the laws of chapter 9 call, part 2: The library's contracts on strings.Join, on decimal numerals and on strings.Cut, Condition: as each statement says. -/
import Derived.Test.YtfkjiiapldkoeaaGreatDoorP1
import Derived.Test.YtfkjiiapldkoeaaGreatDoorAShelf
import Derived.Test.YtfkjiiapldkoeaaGreatDoorSxG
import Derived.Test.YtfkjiiapldkoeaaGreatDoorAExprT
import Derived.Test.YtfkjiiapldkoeaaGreatDoorAExprU
import Derived.Shelf.Strings.OnBuilder
import Derived.Shelf.Strconv.Itoa1
import Derived.Shelf.LaysM
import Derived.Shelf.Strconv.Itoa2
import Derived.Shelf.Strings.Cut
import Derived.RangeFuncNested
import Derived.RangeFuncBound
import Derived.RangeFuncCalls
import Derived.RangeFuncLeaves
import Derived.Shelf.Abstract
import Derived.Shelf.RegionOpen
import Derived.OwnWalkIn
import Derived.TacticsInMore
import Derived.LoopNIn
import Derived.LoopIn
set_option linter.unusedVariables false
set_option linter.unusedSimpArgs false
set_option linter.deprecated false
set_option maxRecDepth 100000
namespace Go.Sx
open Go.Proofs
theorem argsS_bound (n N:Nat):∀ (ts:List Tok) (done:List (List Tok)) (cur:List Tok) (r:List (List Tok)),argsS n ts done cur=.ok r→(∀ l,l∈done→l.length≤N)→cur.length+ts.length≤N →
  (∀ l,l∈r→l.length≤N)∧r.length≤done.length+1+ts.length
 | [],done,cur,r,h,hd,hc=>by
  simp only [argsS] at h
  split at h
  ·cases h
  ·injection h with h
   subst h
   refine ⟨fun l hl=>?_,by simp⟩
   rcases List.mem_append.1 hl with hl | hl
   ·exact hd l hl
   ·have:l=cur:=by simpa using hl
    subst this
    simpa using hc
 | t::ts,done,cur,r,h,hd,hc=>by
  simp only [argsS] at h
  simp only [List.length_cons] at hc
  split at h
  ·cases h
  ·split at h
   ·have:=argsS_bound n N ts (done++[cur]) [] r h (fun l hl=>by
     rcases List.mem_append.1 hl with hl | hl
     ·exact hd l hl
     ·have:l=cur:=by simpa using hl
      subst this
      omega) (by simp; omega)
    refine ⟨this.1,?_⟩
    have h2:=this.2
    simp at h2 ⊢
    omega
   ·have:=argsS_bound n N ts done (cur++[t]) r h hd (by simp; omega)
    refine ⟨this.1,?_⟩
    have h2:=this.2
    simp at h2 ⊢
    omega
theorem parseT_bound (n N:Nat) (lb:ByteArray) (us:List Tok) (h:us.length≤N):(∀ l,l∈(parseT n lb us).1.args→l.length≤N)∧(parseT n lb us).1.args.length≤N+1:=by
 cases us with
 | nil=>simp [parseT]
 | cons t us =>
  simp only [List.length_cons] at h
  simp only [parseT]
  split
  ·simp [lnNil]
  ·cases hA:argsA n us with
   | error a=>simp [lnNil]
   | ok l =>
    unfold argsA at hA
    split at hA
    ·injection hA with hA
     subst hA
     simp
    ·have:=argsS_bound n N us [] [] l hA (by simp) (by simp; omega)
     refine ⟨this.1,?_⟩
     have h2:=this.2
     simp at h2 ⊢
     omega
theorem parseS_bound (s:ByteArray):(∀ l,l∈(parseS s).1.args→l.length≤s.size)∧(parseS s).1.args.length≤s.size+1:=by
 have hlen:=lexS_len s
 unfold parseS
 split
 ·simp [lnNil]
 ·unfold parseL
  split
  ·exact parseT_bound _ _ _ _ (by rw [List.length_drop]; omega)
  ·exact parseT_bound _ _ _ _ hlen
def t_line_All (s0:ByteArray):T :=
 T.new [.string s0] 9 <| fun (a1:Addr) =>
 T.ret (.func (Fn.func 62) #[] #[.pointer (some a1)])
theorem t_line_All_eq (s0:ByteArray):xfun Tryz.prog [] Tryz.f32 [.string s0]=t_line_All s0:=by kernel_rfl
end Go.Sx
set_option linter.unusedVariables false
set_option maxRecDepth 100000
namespace Go.Proofs
open Go.Shelf
open Go.Lib in
open Go.RowKit Go.Sort Go.Lib in
def Tryz.lays145_ren:Go.Shelf.Ren:=⟨fun | 145=>63 | 220=>94 | 219=>122 | 217=>145 | 225=>146 | 224=>147 | 267=>148 | 266=>174 | 314=>175 | n=>n,fun | 9=>9 | 4=>4 | 59=>126 | 3=>3 | 5=>5 | 46=>111 | 146=>283 | 51=>92 | n=>n,fun | 1=>2 | n=>n⟩
theorem Tryz.lays145:Go.Proofs.Lays.n145 Tryz.prog Tryz.lays145_ren:={
 mixed:=by kernel_rfl
 f145:=Tryz.func63.trans (congrArg some (by kernel_rfl))
 f217:=Tryz.func145.trans (congrArg some (by kernel_rfl))
 f219:=Tryz.func122.trans (congrArg some (by kernel_rfl))
 f220:=Tryz.func94.trans (congrArg some (by kernel_rfl))
 f224:=Tryz.func147.trans (congrArg some (by kernel_rfl))
 f225:=Tryz.func146.trans (congrArg some (by kernel_rfl))
 f266:=Tryz.func174.trans (congrArg some (by kernel_rfl))
 f267:=Tryz.func148.trans (congrArg some (by kernel_rfl))
 f314:=Tryz.func175.trans (congrArg some (by kernel_rfl))
 t3:=Tryz.underlying3
 a3:=Tryz.isAgg3
 z3:=Tryz.sizeOf3
 v3:=Tryz.zeroValue3
 t4:=Tryz.underlying4
 a4:=Tryz.isAgg4
 z4:=Tryz.sizeOf4
 v4:=Tryz.zeroValue4
 t5:=Tryz.underlying5
 a5:=Tryz.isAgg5
 z5:=Tryz.sizeOf5
 v5:=Tryz.zeroValue5
 t9:=Tryz.underlying9
 a9:=Tryz.isAgg9
 z9:=Tryz.sizeOf9
 v9:=Tryz.zeroValue9
 t46:=Tryz.underlying111
 a46:=Tryz.isAgg111
 z46:=Tryz.sizeOf111
 v46:=Tryz.zeroValue111
 t51:=Tryz.underlying92
 a51:=Tryz.isAgg92
 z51:=Tryz.sizeOf92
 v51:=Tryz.zeroValue92
 t59:=Tryz.underlying126
 a59:=Tryz.isAgg126
 z59:=Tryz.sizeOf126
 v59:=Tryz.zeroValue126
 t146:=Tryz.underlying283
 a146:=Tryz.isAgg283
 z146:=Tryz.sizeOf283
 v146:=Tryz.zeroValue283
 g1:=by kernel_rfl }
open Go.RowKit Go.Lib in
theorem Tryz.strings_Cut (s sep:ByteArray) (m:Int) (w:World) (hs:s.size<4294967281) (hm:w.cell? ⟨2,0,none⟩=some (.int .i64 m)) :
  Calls Tryz.prog 63 #[.string s,.string sep] w fun e w'=>e=.returned (.tuple #[.string ⟨(Lib.cut s.data.toList sep.data.toList).1.toArray⟩,.string ⟨(Lib.cut s.data.toList sep.data.toList).2.1.toArray⟩,.bool (Lib.cut s.data.toList sep.data.toList).2.2])∧∃ n,w'=w.drewN n:=Any.strings_Cut Tryz.lays145 s sep m w hs hm
end Go.Proofs
set_option linter.unusedVariables false
set_option maxRecDepth 100000
namespace Go.Proofs
open Go.RowKit Go.Shelf
attribute [local go_sem] Oper.semAt_some
def cutA (s:ByteArray):ByteArray:=⟨(Lib.cut s.data.toList [10]).1.toArray⟩
def cutB (s:ByteArray):ByteArray:=⟨(Lib.cut s.data.toList [10]).2.1.toArray⟩
def linesF:Nat→Nat→ByteArray→List (Nat × ByteArray)
 | 0,_,_=>[]
 | f+1,n,s=>if s.size=0 then [] else (n,cutA s)::linesF f (n+1) (cutB s)
def encL (x:Nat × ByteArray):Array Value:=#[.int .i64 x.1,.string x.2]
theorem all76_in (l B n0:Nat) (s:ByteArray) (hs:s.size<2^31) (N:Nat) (J Jx:List (Nat × ByteArray)→World→Prop)
  (hcut:∀ t:ByteArray,t.size≠0→(cutB t).size<t.size)
  (hY:∀ pre x W,J pre W→pre++[x] <+: linesF (s.size+1) 1 s→pre.length<N→YieldAt Fence.wide 5 Tryz.prog l (encL x) W fun e W' =>
   (e=.returned (.bool true)∧J (pre++[x]) W'∧Below n0 W W')∨(e=.returned (.bool false)∧Jx (pre++[x]) W'))
  (hN:(linesF (s.size+1) 1 s).length≤N)
  (hJ:∀ pre W k,J pre W→J pre (W.drewN k))
  (m:Int) (W:World) (hm:W.cell? ⟨2,0,none⟩=some (.int .i64 m)) (hn0:2<n0) (hB:W.cell? ⟨B,0,none⟩=some (.string s)) (h0:J [] W) :
  CallsIn Fence.wide 6 Tryz.prog 62 #[.func (.yield l) #[] #[],.pointer (some ⟨B,0,none⟩)] W fun e W'=>(∃ v,e=.returned v) ∧
   ((∃ ys,ys=linesF (s.size+1) 1 s∧J ys W')∨(∃ pre,pre <+: linesF (s.size+1) 1 s∧Jx pre W')):=by
 refine callsIn_of_wp Tryz.func62 rfl trivial ?_ rfl
 simp only [Tryz.ntmps62,List.size_toArray,List.length_cons,List.length_nil,Nat.reduceAdd,Nat.reduceSub,Array.replicate_succ,Array.replicate_zero,List.push_toArray,List.append_toArray,List.nil_append,List.cons_append]
 gi_wp2
 gi_loopw [3,4] (fun vl vn wr=>∃ (pre:List (Nat × ByteArray)) (k f:Nat) (t:ByteArray),vl=.string t∧vn=.int .i64 (k:Int)∧k+t.size≤s.size+1∧1≤k∧t.size<f∧linesF (s.size+1) 1 s=pre++linesF f k t∧J pre wr∧Below n0 W wr)
  (fun vl _ _=>match vl with | .string t=>t.size | _=>0)
 case atStart=>exact ⟨[],1,s.size+1,s,rfl,rfl,by omega,by omega,by omega,rfl,h0,Below.refl _ _⟩
 case round =>
  obtain ⟨pre,k,f,t,rfl,rfl,hk,hk1,hf,hl,hJs,hb⟩:=hrel
  by_cases h0:t.size=0
  ·have ht:t=⟨#[]⟩:=by
    obtain ⟨a⟩:=t
    have:a.size=0:=h0
    rw [Array.size_eq_zero_iff.1 this]
   subst ht
   gi_wp2
   go_end0
   refine ⟨⟨_,rfl⟩,.inl ⟨pre,?_,hJs⟩⟩
   rw [hl]
   have:linesF f k (⟨#[]⟩:ByteArray)=[]:=by
    cases f with
    | zero=>rfl
    | succ f=>unfold linesF; rw [if_pos h0]
   rw [this,List.append_nil]
  ·have hne:¬ t=⟨#[]⟩:=fun e=>h0 (by rw [e]; rfl)
   obtain ⟨f,rfl⟩:∃ g,f=g+1:=⟨f-1,by omega⟩
   have hlt:linesF (f+1) k t=(k,cutA t)::linesF f (k+1) (cutB t):=by
    conv=>lhs; unfold linesF
    rw [if_neg h0]
   have hcell:wr.cell? ⟨2,0,none⟩=some (.int .i64 m):=(hb.cell (p:=⟨2,0,none⟩) hn0).trans hm
   have hlen:pre.length<N:=by
    have:=congrArg List.length hl
    rw [hlt,List.length_append,List.length_cons] at this
    omega
   have hsz:=hcut t h0
   have hemp:t.toList.isEmpty=false:=by
    rw [ByteArray.toList_eq]
    cases hh:t.data.toList with
    | nil=>exfalso; apply h0; show t.data.size=0; rw [← Array.length_toList,hh]; rfl
    | cons a b=>rfl
   gi_wp2_with (refine ⟨trivial,?_⟩; gi_at_call 63; refine (callsIn_wide.2 (Tryz.strings_Cut t ⟨#[10]⟩ m _ (by omega) hcell)).mono ?_; rintro e w' ⟨rfl,n1,rfl⟩; obtain ⟨fn,tmps,assign,body,hy,hR⟩:=hY pre (k,cutA t) (wr.drewN n1) (hJ _ _ _ hJs) ⟨linesF f (k+1) (cutB t),by rw [hl,hlt]; simp⟩ hlen; dsimp only [encL,cutA] at hy)
   refine hR.mono ?_
   rintro e W3 (⟨rfl,hJ3,hk3⟩ | ⟨rfl,hJx3⟩)
   ·gi_wp2
    go_roundw
    case rel =>
     refine ⟨pre++[(k,cutA t)],k+1,f,cutB t,rfl,?_,by omega,by omega,by omega,by rw [hl,hlt]; simp,hJ3,?_⟩
     ·simp
     ·exact (hb.trans (⟨rfl,rfl,rfl,Nat.le_refl _,fun _ _=>rfl⟩:Below n0 wr (wr.drewN n1))).trans hk3
    case measure=>exact hsz
   ·gi_wp2
    refine bodyPost_ret (results_none rfl _ _ _) rfl ?_
    exact ⟨⟨_,rfl⟩,.inr ⟨pre++[(k,cutA t)],⟨linesF f (k+1) (cutB t),by rw [hl,hlt]; simp⟩,hJx3⟩⟩
theorem all76_stops (B n0:Nat) (s:ByteArray) (hs:s.size<2^31) (hcut:∀ t:ByteArray,t.size≠0→(cutB t).size<t.size) (m:Int) (w:World) (hm:w.cell? ⟨2,0,none⟩=some (.int .i64 m)) (hn0:2<n0) (hn1:n0≤w.heap.size) (hB:w.cell? ⟨B,0,none⟩=some (.string s)) :
  SeqStopsK Fence.wide 6 Tryz.prog 62 #[.pointer (some ⟨B,0,none⟩)] encL (Below n0) (fun xs=>xs=linesF (s.size+1) 1 s) (fun pre=>pre <+: linesF (s.size+1) 1 s) (linesF (s.size+1) 1 s).length w:=by
 intro l J Jx W hW hJ hJx hY h0
 have hlt:∀ (a:Addr) (v:Value),w.cell? a=some v→a.block<w.heap.size:=by
  intro a v h
  unfold World.cell? at h
  split at h
  ·rename_i hg; exact (Array.getElem?_eq_some_iff.1 hg).1
  ·cases h
 exact all76_in l B n0 s hs _ J Jx hcut (fun pre x W h _ h'=>hY pre x W h h') (Nat.le_refl _) (fun pre W k h=>hJ pre W _ none h ⟨rfl,rfl,rfl,Nat.le_refl _,fun _ _ _=>rfl⟩ (fun r e=>by cases e)) m W ((hW.cell (p:=⟨2,0,none⟩) (hlt _ _ hm)).trans hm) hn0 ((hW.cell (p:=⟨B,0,none⟩) (hlt _ _ hB)).trans hB) h0
theorem all76_sub (B n0:Nat) (s:ByteArray) (hs:s.size<2^31) (hcut:∀ t:ByteArray,t.size≠0→(cutB t).size<t.size) (m:Int) (w:World) (hm:w.cell? ⟨2,0,none⟩=some (.int .i64 m)) (hn0:2<n0) (hn1:n0≤w.heap.size) (hB:w.cell? ⟨B,0,none⟩=some (.string s)) :
  SeqStopsK Fence.wide 6 Tryz.prog 62 #[.pointer (some ⟨B,0,none⟩)] (fun x:{ x // x∈linesF (s.size+1) 1 s }=>encL x.1) (Below n0) (fun xs=>xs.map (·.1)=linesF (s.size+1) 1 s) (fun pre=>pre.map (·.1) <+: linesF (s.size+1) 1 s) (linesF (s.size+1) 1 s).length w:=by
 intro l J Jx W hW hJ hJx hY h0
 have hlt:∀ (a:Addr) (v:Value),w.cell? a=some v→a.block<w.heap.size:=by
  intro a v h
  unfold World.cell? at h
  split at h
  ·rename_i hg; exact (Array.getElem?_eq_some_iff.1 hg).1
  ·cases h
 refine (all76_in l B n0 s hs _ (fun pre W=>∃ q:List { x // x∈linesF (s.size+1) 1 s },q.map (·.1)=pre∧J q W) (fun pre W=>∃ q:List { x // x∈linesF (s.size+1) 1 s },q.map (·.1)=pre∧Jx q W) hcut ?_ (Nat.le_refl _) ?_ m W ((hW.cell (p:=⟨2,0,none⟩) (hlt _ _ hm)).trans hm) hn0 ((hW.cell (p:=⟨B,0,none⟩) (hlt _ _ hB)).trans hB) ⟨[],rfl,h0⟩).mono ?_
 ·rintro pre x W' ⟨q,rfl,hq⟩ ⟨t,ht⟩ hl
  have hx:x∈linesF (s.size+1) 1 s:=by rw [← ht]; simp
  refine (hY q ⟨x,hx⟩ W' hq (by simpa using hl)).mono ?_
  rintro e W2 (⟨rfl,h1,h2⟩ | ⟨rfl,h1⟩)
  ·exact .inl ⟨rfl,⟨q++[⟨x,hx⟩],by simp,h1⟩,h2⟩
  ·exact .inr ⟨rfl,⟨q++[⟨x,hx⟩],by simp,h1⟩⟩
 ·rintro pre W' k ⟨q,rfl,hq⟩
  exact ⟨q,rfl,hJ q W' _ none hq ⟨rfl,rfl,rfl,Nat.le_refl _,fun _ _ _=>rfl⟩ (fun r e=>by cases e)⟩
 ·rintro e W' ⟨hv,h⟩
  refine ⟨hv,?_⟩
  rcases h with ⟨ys,rfl,q,hq,hJq⟩ | ⟨pre,hp,q,rfl,hJq⟩
  ·exact .inl ⟨q,hq,hJq⟩
  ·exact .inr ⟨q,hp,hJq⟩
end Go.Proofs
set_option linter.unusedVariables false
set_option maxRecDepth 100000
namespace Go.Sx
open Go.Proofs
def linesB:List UInt8→List UInt8→List (List UInt8)
 | cur,[]=>if cur=[] then [] else [cur]
 | cur,b::l=>if b=10 then cur::linesB [] l else linesB (cur++[b]) l
theorem linesB_end (cur:List UInt8):linesB cur []=if cur=[] then [] else [cur]:=rfl
theorem linesB_cons (cur:List UInt8) (b:UInt8) (l:List UInt8):linesB cur (b::l)=if b=10 then cur::linesB [] l else linesB (cur++[b]) l:=rfl
theorem linesB_cut:∀ (l cur:List UInt8),linesB cur l=if Lib.index l [10]=-1 then (if cur++l=[] then [] else [cur++l]) else (cur++l.take (Lib.index l [10]).toNat)::linesB [] (l.drop ((Lib.index l [10]).toNat+1))
 | [],cur=>by simp [linesB,Lib.index]
 | b::l,cur=>by
  have ih:=linesB_cut l (cur++[b])
  have e1:linesB cur (b::l)=if b=10 then cur::linesB [] l else linesB (cur++[b]) l:=rfl
  have e2:Lib.index (b::l) [10]=if List.isPrefixOf [10] (b::l) then 0 else if Lib.index l [10]==-1 then -1 else Lib.index l [10]+1:=rfl
  rw [e1,e2]
  by_cases hb:b=10
  ·subst hb
   simp
  ·have hp:List.isPrefixOf [10] (b::l)=false:=by
    simp [List.isPrefixOf]; exact fun h=>hb h.symm
   rw [if_neg hb,ih,hp]
   by_cases hi:Lib.index l [10]=-1
   ·simp [hi]
   ·have hg:=Lib.index_ge l [10]
    have h1:(Lib.index l [10]==-1)=false:=by simpa using hi
    have h2:¬ Lib.index l [10]+1=-1:=by omega
    have h3:(Lib.index l [10]+1).toNat=(Lib.index l [10]).toNat+1:=by omega
    simp only [hi,h1,if_false,Bool.false_eq_true,h2,h3,List.take_succ_cons,List.drop_succ_cons,List.append_assoc,List.singleton_append]
theorem cutB_lt (t:ByteArray) (ht:t.size≠0):(cutB t).size<t.size:=by
 have hsz:t.data.toList.length=t.size:=by simp
 have:(cutB t).size=(Lib.cut t.data.toList [10]).2.1.length:=by simp [cutB,ByteArray.size]
 rw [this]
 unfold Lib.cut
 split
 ·rw [List.length_drop]; simp; omega
 ·simp; omega
theorem linesF_texts:∀ (f n:Nat) (s:ByteArray),s.size<f→(linesF f n s).map (fun x=>x.2.data.toList)=linesB [] s.data.toList
 | 0,_,_,h=>by omega
 | f+1,n,s,h=>by
  unfold linesF
  by_cases h0:s.size=0
  ·have:s.data.toList=[]:=List.eq_nil_of_length_eq_zero (by simpa using h0)
   rw [if_pos h0,this]
   rfl
  ·have hne:s.data.toList≠[]:=fun e=>h0 (by have:=congrArg List.length e; simpa using this)
   have ih:=linesF_texts f (n+1) (cutB s) (by have:=cutB_lt s h0; omega)
   rw [if_neg h0,List.map_cons,ih,linesB_cut s.data.toList []]
   have hg:=Lib.index_ge s.data.toList [10]
   by_cases hi:Lib.index s.data.toList [10]=-1
   ·have:¬ 0≤Lib.index s.data.toList [10]:=by omega
    simp [hi,cutA,cutB,Lib.cut,linesB,hne]
   ·have:0≤Lib.index s.data.toList [10]:=by omega
    simp [hi,cutA,cutB,Lib.cut,this]
theorem linesF_num:∀ (f n:Nat) (s:ByteArray) (k:Nat) (x:Nat × ByteArray),(linesF f n s)[k]?=some x→x.1=n+k
 | 0,_,_,_,_,h=>by simp [linesF] at h
 | f+1,n,s,k,x,h=>by
  unfold linesF at h
  split at h
  ·simp at h
  ·cases k with
   | zero=>simp at h; rw [← h]; rfl
   | succ k =>
    simp at h
    rw [linesF_num f (n+1) (cutB s) k x h]
    omega
def lnS (s:ByteArray):List ByteArray:=(linesF (s.size+1) 1 s).map (·.2)
theorem lnS_bytes (s:ByteArray):(lnS s).map (·.data.toList)=linesB [] s.data.toList:=by
 unfold lnS
 rw [List.map_map]
 exact linesF_texts _ _ _ (by omega)
theorem lnS_of {s:ByteArray} {l:List ByteArray} (h:l.map (·.data.toList)=linesB [] s.data.toList):l=lnS s:=by
 have h2:=h.trans (lnS_bytes s).symm
 have:∀ (a b:List ByteArray),a.map (·.data.toList)=b.map (·.data.toList)→a=b:=by
  intro a
  induction a with
  | nil=>intro b hb; cases b with
   | nil=>rfl
   | cons y b=>simp at hb
  | cons x a ih=>intro b hb; cases b with
   | nil=>simp at hb
   | cons y b =>
    simp only [List.map_cons,List.cons.injEq] at hb
    rw [ih b hb.2,ba_ext hb.1]
 exact this _ _ h2
theorem all_hc (s:ByteArray) (h:Hp):HC Tryz.prog 32 #[.string s] h fun v h'=>v=.func (.func 62) #[] #[.pointer (some ⟨h.size,0,none⟩)]∧Box h' h.size 9 [.string s]∧Ext h h'∧h'.size=h.size+1:=by
 refine hcr_of (args:=[.string s]) mixed Tryz.func32 (by kernel_rfl) (t_line_All_eq s) ?_
 unfold t_line_All
 refine newB ?_
 intro h1 b1 e1 z1
 exact ⟨rfl,b1,e1,z1⟩
abbrev enS (x:ByteArray):List Value:=[.string x]
open Go.Proofs Go.MapKept Go.WideAt Go.WideMaps Go.Maps Go.RowKit Go.WideElems Go.WideElems
def anyR:Value→Option (DataW Unit × List MemPlace):=fun _=>some (.nil,[])
theorem und9:Tryz.prog.underlying 9=some .string:=by kernel_rfl
theorem und78:Tryz.prog.underlying 286=some (.map 9 92):=by kernel_rfl
def keysOf (D:List (ByteArray × Value)):List (List UInt8):=(D.map fun p=>p.1.data.toList).mergeSort fun x y=>decide (x≤y)
theorem rd_str {x:MapEntry} {s:ByteArray} (hk:x.key=.string s) (hs:s.size≤maxLen):WideElems.rd Tryz.prog 9 anyR x=some (.string s.data.toList,.nil):=by
 unfold WideElems.rd
 rw [hk,keyOf_string_mk und9 hs]
 rfl
theorem MapB.owns {W:World} {g:Nat} {D:List (ByteArray × Value)} (m:MapB W.heap g D) (hl:D.length≤maxLen) :
  ∃ D0:DataW Unit,W.ownsMap Tryz.prog 9 anyR g D.length D0∧(strKeys D0).Perm (D.map fun p=>p.1.data.toList)∧Maps.size D0=D.length:=by
 obtain ⟨es,clock,hg,he,hs,hd⟩:=m
 have hlen:es.size=D.length:=by
  have:=congrArg List.length he
  simpa using this
 have hrd:es.toList.map (WideElems.rg Tryz.prog 9 anyR)=D.map fun p=>(Lit.string p.1.data.toList,DataW.nil):=by
  apply List.ext_getElem?
  intro i
  have h1:(es.toList.map (fun e=>(e.key,e.val)))[i]?=(D.map (fun p=>(Value.string p.1,p.2)))[i]?:=by rw [he]
  simp only [List.getElem?_map] at h1 ⊢
  rcases Nat.lt_or_ge i D.length with hi | hi
  ·rw [List.getElem?_eq_getElem hi,List.getElem?_eq_getElem (show i<es.toList.length by simp; omega)] at h1 ⊢
   simp only [Option.map_some,Option.some.injEq,Prod.mk.injEq] at h1 ⊢
   exact WideElems.rg_of (rd_str h1.1 (hd _ (List.getElem_mem hi)))
  ·rw [List.getElem?_eq_none hi,List.getElem?_eq_none (show es.toList.length≤i by simp; omega)]
   rfl
 refine ⟨_,⟨es,clock,hg,⟨by omega,hs,?_⟩,by omega,rfl⟩,?_,?_⟩
 ·intro x hx
  obtain ⟨i,hi,rfl⟩:=List.getElem_of_mem hx
  have hi':i<D.length:=by simp at hi; omega
  have h1:(es.toList.map (fun e=>(e.key,e.val)))[i]?=(D.map (fun p=>(Value.string p.1,p.2)))[i]?:=by rw [he]
  simp only [List.getElem?_map,List.getElem?_eq_getElem hi',List.getElem?_eq_getElem hi,Option.map_some,Option.some.injEq,Prod.mk.injEq] at h1
  exact ⟨_,rd_str h1.1 (hd _ (List.getElem_mem hi'))⟩
 ·show List.Perm (((es.toList.map (WideElems.rg Tryz.prog 9 anyR)).foldr DataW.insert []).map fun p=>strOf p.1) _
  rw [hrd]
  refine ((WideShapes.sorted_perm _).map _).trans ?_
  rw [List.map_map]
  exact List.Perm.refl _
 ·show ((es.toList.map (WideElems.rg Tryz.prog 9 anyR)).foldr DataW.insert []).length=D.length
  rw [hrd,length_sorted,List.length_map]
theorem World.alloc_of {W:World} {h:Hp} {o:Obj} (hW:W.heap=h.push o):({ W with heap:=h }:World).alloc o=W:=by
 cases W
 simp only at hW
 subst hW
 rfl
theorem SameO.alloc (w:World) (o:Obj):SameO w (w.alloc o):=⟨rfl,rfl,rfl⟩
theorem keys_hc (r:Option Nat) (h:Hp):HC Tryz.prog 193 #[.map r] h fun v h'=>v=.func (.func 202) #[] #[.pointer (some ⟨h.size,0,none⟩)]∧h'=h.push (.cells #[.map r] 286):=by
 intro W hW
 subst hW
 exact (callsIn_wide.1 (Tryz.maps_Keys_101 r W)).mono fun e w' ⟨he,hw⟩=>⟨_,he,by rw [hw]; exact SameO.alloc _ _,rfl,by rw [hw]; rfl⟩
theorem SL.of_row {W:World} {b:Nat} {e:TypeId} {v:Value} {xs:List Value} (r:W.ownsRow b e 1 v xs.length xs):∃ p l c,v=.slice p l c∧SL W.heap b e 1 p l c (xs.map fun x=>[x]):=by
 have hfl:∀ ys:List Value,(ys.map fun x=>[x]).flatten=ys:=by
  intro ys
  induction ys with
  | nil=>rfl
  | cons y ys ih=>simp [ih]
 obtain ⟨h1,h2⟩:=r
 rcases h2 with ⟨hv,hn⟩ | ⟨g,cap,cur,hv,hb,hg,hle,hc,hs,ht⟩
 ·have:xs=[]:=List.eq_nil_of_length_eq_zero hn
  subst this
  exact ⟨none,0,0,hv,SL.nil _ _ _ _⟩
 ·refine ⟨some ⟨g,0,none⟩,xs.length,cap,hv,by simp,by simp,g,[],cur.toList.drop xs.length,rfl,hb,⟨hle,by unfold maxLen at hc; omega⟩,?_,?_⟩
  ·rw [hfl,List.nil_append]
   have:xs=cur.toList.take xs.length:=by rw [← ht]; simp
   unfold Box
   rw [hg]
   congr 2
   conv=>lhs; rw [← Array.toArray_toList (xs:=cur),← List.take_append_drop xs.length cur.toList]
   rw [← this]
  ·rw [List.length_drop,Array.length_toList,hs]; omega
theorem sorted_hc {h:Hp} {g:Nat} {D:List (ByteArray × Value)} (m:MapB h g D) (hl:D.length≤2^40) :
  HC Tryz.prog 34 #[.func (.func 202) #[] #[.pointer (some ⟨h.size,0,none⟩)]] (h.push (.cells #[.map (some g)] 286)) fun v h'=>∃ p l c,v=.slice p l c∧SL h' (h.size+1) 9 1 p l c ((keysOf D).map fun k=>[encStr k]) ∧
   Ext (h.push (.cells #[.map (some g)] 286)) h':=by
 intro W hW
 obtain ⟨D0,hown,hperm,hsize⟩:=MapB.owns (W:={ W with heap:=h }) m (by unfold maxLen; omega)
 have hc:=callsIn_wide.1 (Tryz.slices_Sorted_keys_100_101 g D.length D0 anyR { W with heap:=h } hown (by rw [hsize]; unfold maxLen; omega) (by rw [hsize]; omega))
 rw [World.alloc_of hW] at hc
 refine hc.mono fun e w' hr=>?_
 obtain ⟨v,ss,he,hp,hrow,_,hb⟩:=hr
 have hss:ss.mergeSort (fun x y=>decide (x≤y))=keysOf D:=mergeSort_of_perm (hp.trans hperm)
 have hlen:ss.length=((ss.mergeSort (fun x y=>decide (x≤y))).map encStr).length:=by rw [List.length_map,List.length_mergeSort]
 rw [hlen,hss] at hrow
 obtain ⟨p,l,c,hv,hsl⟩:=SL.of_row hrow
 refine ⟨v,he,⟨hb.os,hb.tape,hb.output⟩,p,l,c,hv,?_,?_⟩
 ·rw [List.map_map] at hsl
  have:W.heap.size=h.size+1:=by rw [hW]; simp
  rw [this] at hsl
  exact hsl
 ·rw [← hW]
  exact ⟨hb.size,fun i hi _=>hb.block i hi⟩
abbrev Tms:=List (ByteArray × Nat)
def encT (p:ByteArray × Nat):List Value:=[.string p.1,.int .u32 p.2]
def vm (D:Tms):List (ByteArray × Value):=D.map fun p=>(p.1,Value.int .u32 p.2)
def getN (D:Tms) (s:ByteArray):Nat:=((D.find? fun p=>decide (s=p.1)).map (·.2)).getD 0
def putN (D:Tms) (s:ByteArray) (v:Nat):Tms:=if (D.find? fun p=>decide (s=p.1)).isSome then D.map fun p=>if s=p.1 then (p.1,v) else p else D++[(s,v)]
def addT (D:Tms) (p:ByteArray × Nat):Tms:=putN D p.1 ((getN D p.1+p.2) % 4294967296)
def madeL (D:Tms):Tms:=(keysOf (vm D)).filterMap fun k=>if getN D ⟨k.toArray⟩=0 then none else some (⟨k.toArray⟩,getN D ⟨k.toArray⟩)
theorem find_vm (D:Tms) (s:ByteArray):(vm D).find? (fun p=>decide (s=p.1))=(D.find? fun p=>decide (s=p.1)).map fun p=>(p.1,Value.int .u32 p.2):=by
 unfold vm
 induction D with
 | nil=>rfl
 | cons p D ih =>
  by_cases h:s=p.1
  ·simp [h]
  ·simp only [List.map_cons,List.find?_cons,decide_eq_false h]
   exact ih
theorem look_vm (D:Tms) (s:ByteArray):look (vm D) s=(D.find? fun p=>decide (s=p.1)).map fun p=>Value.int .u32 p.2:=by
 unfold look
 rw [find_vm,Option.map_map]
 rfl
theorem look_getD (D:Tms) (s:ByteArray):(look (vm D) s).getD (.int .u32 0)=.int .u32 (getN D s):=by
 rw [look_vm]
 unfold getN
 all_goals (cases D.find? fun p=>decide (s=p.1) <;> rfl)
theorem upd_vm (D:Tms) (s:ByteArray) (v:Nat):upd (vm D) s (.int .u32 v)=vm (putN D s v):=by
 unfold upd putN
 rw [look_vm]
 cases h:(D.find? fun p=>decide (s=p.1)) with
 | none=>simp [vm]
 | some q =>
  simp only [Option.map_some,Option.isSome_some,if_true,vm,List.map_map]
  refine List.map_congr_left fun p hp=>?_
  simp only [Function.comp]
  split <;> simp_all
theorem putN_length (D:Tms) (s:ByteArray) (v:Nat):(putN D s v).length≤D.length+1:=by
 unfold putN
 split <;> simp
theorem info33:(Tryz.prog.info? 92).bind (·.zero)=some (.int .u32 0):=by kernel_rfl
theorem und67:Tryz.prog.underlying 91=some (.slice 109):=by kernel_rfl
theorem termZ:(Tryz.prog.info? 109).map (fun i=>(i.zero,i.size,i.bytes))=some (some (.agg #[.string ⟨#[]⟩,.int .u32 0]),2,24):=by kernel_rfl
theorem look_of {L:Lp} {K:Value→Hp→Prop} {h:Hp} {g:Nat} {D:Tms} (m:MapB h g (vm D)) (s:ByteArray) {k:Int→T} (hk:k (getN D s) L K h):T.sem Tryz.prog (Instr.lookup 286 (.map (some g)) (.string s) false) false [(false,[.int .u32])] k L K h:=by
 refine lookup_of und78 und9 info33 m s false _ ?_
 refine ⟨((getN D s:Int),()),?_,hk⟩
 simp only [Bool.false_eq_true,if_false]
 rw [look_getD]
 rfl
theorem put_of {L:Lp} {K:Value→Hp→Prop} {h:Hp} {g:Nat} {D:Tms} (m:MapB h g (vm D)) {s:ByteArray} (hs:s.size≤maxLen) {v:Int} {n:Nat} (hv:v=(n:Int)) {k:T} (hk:∀ h',MapB h' g (vm (putN D s n))→Ch [g] h h'→h'.size=h.size→k L K h') :
  T.semU Tryz.prog (Instr.mapUpdate 286 (.map (some g)) (.string s) (.int .u32 v)) k L K h:=by
 subst hv
 refine mapUpdate_of und78 und9 m hs _ _ ?_
 intro h' m' c' z'
 rw [upd_vm] at m'
 exact hk h' m' c' z'
theorem made_hc {h:Hp} {g:Nat} {D:Tms} (m:MapB h g (vm D)) (hl:D.length≤2^40) (n:Int) :
  HC Tryz.prog 179 #[.map (some g),.int .u32 n] h fun v h'=>Ext h h'∧∃ p l c,v=.agg #[.slice p l c,.int .u32 n]∧SL h' h.size 109 2 p l c ((madeL D).map encT):=by
 refine hcr_of (args:=[.map (some g),.int .u32 n]) mixed Tryz.func179 (by kernel_rfl) (t_expr_made_eq (some g) n) ?_
 unfold t_expr_made
 refine newB ?_
 intro h1 b1 e1 z1
 refine newB ?_
 intro h2 b2 e2 z2
 refine stores_of b2 rfl (by simp) ?_
 intro h3 b3 k3 z3
 have b3:Box h3 h1.size 94 [.slice none 0 0,.int .u32 n]:=b3
 have e3:Ext h h3:=Ch.trans (e1.trans e2) k3 (fun i hi hl=>by simp at hi; omega)
 have m3:=m.keep e3 (by simp)
 have c3:Box h3 h.size 94 [.slice none 0 0,.int .u32 0]:=(b1.keep e2 (by simp)).keep k3 (by simp; omega)
 refine call_of (keys_hc (some g) h3) ?_
 rintro _ h4 ⟨rfl,rfl⟩
 refine ⟨(.func (.func 202) #[] #[.pointer (some ⟨h3.size,0,none⟩)],()),rfl,?_⟩
 dsimp only [flat,unc,unc1,nA,cA]
 have e4:Ext h3 (h3.push (.cells #[.map (some g)] 286)):=Ext.push _ _
 have hkl:(vm D).length≤2^40:=by unfold vm; rw [List.length_map]; exact hl
 refine call_of (sorted_hc m3 hkl) ?_
 rintro _ h5 ⟨pk,lk,ck,rfl,sk,e5⟩
 refine ⟨((pk,lk,ck),()),rfl,?_⟩
 dsimp only [flat,unc,unc1,nA,cA]
 have e35:=e4.trans e5
 have hkeys:(keysOf (vm D)).length≤2^40:=by
  unfold keysOf
  rw [List.length_mergeSort,List.length_map]
  exact hkl
 have hlk:lk=(keysOf (vm D)).length:=by rw [sk.1,List.length_map]
 unfold madeL
 generalize keysOf (vm D)=ks at sk hkeys hlk ⊢
 have b5:=b3.keep e35 (by simp)
 have c5:=c3.keep e35 (by simp)
 have m5:=m3.keep e35 (by simp)
 have e05:=e3.trans e35
 have hz3:=e35.size
 have hb3:=b3.lt
 have hg:=m.lt
 refine loop_of (cs:=[(false,[.int .i64])]) (fun x w h'=>∃ (i:Nat) (p:Option Addr) (l c:Nat),x.1=(i:Int)∧i≤ks.length∧w=ks.length-i∧Ch [h1.size] h5 h'∧Box h' h1.size 94 [.slice p l c,.int .u32 n] ∧
  SL h' h5.size 109 2 p l c (((ks.take i).filterMap fun k=>if getN D ⟨k.toArray⟩=0 then none else some ((⟨k.toArray⟩:ByteArray),getN D ⟨k.toArray⟩)).map encT)∧l≤i) ((0:Int),()) ks.length rfl
  ⟨0,none,0,0,rfl,by omega,by omega,Ch.refl _ _,b5,SL.nil _ _ _ _,by omega⟩ ?_
 rintro ⟨n8,⟨⟩⟩ w h6 ⟨i,p,l,c,hi,hile,rfl,k6,b6,s6,hli⟩
 simp only at hi
 subst hi
 dsimp only [flat,unc,unc1,nA,cA]
 have m6:=m5.keep k6 (by simp; omega)
 have hz6:=k6.size
 have e06:Ext h h6:=Ch.trans e05 k6 (fun j hj hl=>by simp at hj; omega)
 refine cond_mk (fun g1=>?_) (fun g1=>?_)
 ·have g1:=of_decide_eq_true g1
  have hilt:i<ks.length:=by omega
  have sk6:=sk.keep' k6 (fun j hj=>by have:=(sk.blk hj).1; simp; omega)
  obtain ⟨a,rfl,hc⟩:=sk6.cells (i:=i) (by simpa using hilt)
  rw [List.getElem_map] at hc
  have htk:ks.take (i+1)=ks.take i++[ks[i]]:=List.take_succ_eq_append_getElem hilt
  generalize ks[i]=k at hc htk
  refine need_of ⟨by omega,by omega⟩ (osome_mk rfl ?_)
  rw [show Int.toNat (i:Int)=i by omega]
  refine loads_of ((⟨k.toArray⟩:ByteArray),()) hc ?_
  dsimp only [flat,unc,unc1,nA,cA]
  have hw:IntKind.wrap .i64 ((i:Int)+1)=((i+1:Nat):Int):=by rw [wrap_i64 (by omega) (by omega)]; omega
  refine look_of m6 _ (cond_mk (fun g2=>?_) (fun g2=>?_))
  ·have g2:((getN D ⟨k.toArray⟩:Nat):Int)≠0:=by simpa using g2
   refine loads_box b6 ((p,l,c),()) rfl ?_
   dsimp only [flat,unc,unc1,nA,cA]
   refine look_of m6 _ ?_
   refine push_of (vs:=encT (⟨k.toArray⟩,getN D ⟨k.toArray⟩)) und67 termZ rfl (by omega) (by omega) (by kernel_rfl) rfl rfl s6 hz6 (by omega) (by omega) ?_
   intro p' c' h7 s7 k7 hp7
   have b7:=b6.keep k7 (fun hh=>by have:=(s6.blk hh).1; omega)
   refine stores_of b7 rfl (by simp) ?_
   intro h8 b8 k8 z8
   refine again_mk (cs:=[(false,[.int .i64])]) (((i+1:Nat):Int),()) (ks.length-(i+1)) rfl (by omega) (congrArg (fun z=>[Value.int .i64 z]) hw) ⟨i+1,p',l+1,c',rfl,by omega,rfl,?_,b8,?_,by omega⟩
   ·exact Ch.trans (Ch.trans k6 k7 (fun j hj hl=>by have:=(s6.blk hj).1; omega)) k8 (fun j hj _=>hj)
   ·rw [htk,List.filterMap_append,List.map_append]
    have hf:([k].filterMap fun k=>if getN D ⟨k.toArray⟩=0 then none else some ((⟨k.toArray⟩:ByteArray),getN D ⟨k.toArray⟩))=[((⟨k.toArray⟩:ByteArray),getN D ⟨k.toArray⟩)]:=by
     simp only [List.filterMap_cons,List.filterMap_nil]
     rw [if_neg (by omega)]
    rw [hf]
    exact s7.keep' k8 (fun j hj=>by have:=(s7.blk hj).1; simp; omega)
  ·have g2:((getN D ⟨k.toArray⟩:Nat):Int)=0:=by simpa using g2
   refine again_mk (cs:=[(false,[.int .i64])]) (((i+1:Nat):Int),()) (ks.length-(i+1)) rfl (by omega) (congrArg (fun z=>[Value.int .i64 z]) hw) ⟨i+1,p,l,c,rfl,by omega,rfl,k6,b6,?_,by omega⟩
   rw [htk,List.filterMap_append]
   have hf:([k].filterMap fun k=>if getN D ⟨k.toArray⟩=0 then none else some ((⟨k.toArray⟩:ByteArray),getN D ⟨k.toArray⟩))=[]:=by
    simp only [List.filterMap_cons,List.filterMap_nil]
    rw [if_pos (by omega)]
   rw [hf,List.append_nil]
   exact s6
 ·have g1:=of_decide_eq_false g1
  have hi:i=ks.length:=by omega
  subst hi
  rw [List.take_length] at s6
  have c6:=c5.keep k6 (by simp; omega)
  refine loads_box b6 ((p,l,c),n,()) rfl ?_
  dsimp only [flat,unc,unc1,nA,cA]
  refine stores_of c6 rfl (by simp) ?_
  intro h7 b7 k7 z7
  have b7:Box h7 h.size 94 [.slice p l c,.int .u32 n]:=b7
  refine loads_box b7 ((p,l,c),n,()) rfl ?_
  have hz5:=e05.size
  exact ⟨Ch.trans e06 k7 (fun j hj hl=>by simp at hj; omega),p,l,c,rfl,(s6.keep' k7 (fun j hj=>by have:=(s6.blk hj).1; simp; omega)).mono (by omega)⟩
structure VwT (h:Hp) (p:Option Addr) (l:Nat) (us:Tms):Prop where
 len:l=us.length
 cells:∀ i,(hi:i<us.length)→∃ a,p=some a∧cellsAt h (a.add (i*2)) 0 (encT us[i])
theorem VwT.keep {ws:List Nat} {h h':Hp} {p:Option Addr} {l:Nat} {us:Tms} (v:VwT h p l us) (k:Ch ws h h') (hw:∀ i,i∈blkOf p→i∉ws):VwT h' p l us :=
 ⟨v.len,fun i hi=>by
  obtain ⟨a,ha,hc⟩:=v.cells i hi
  exact ⟨a,ha,cellsAt_keep k (by rw [add_block]; exact hw _ (by rw [ha]; simp [blkOf])) _ _ hc⟩⟩
theorem SL.vwT {h:Hp} {b:Nat} {e:TypeId} {p:Option Addr} {l c:Nat} {us:Tms} (s:SL h b e 2 p l c (us.map encT)):VwT h p l us:=by
 refine ⟨by rw [s.1,List.length_map],fun i hi=>?_⟩
 obtain ⟨a,ha,hc⟩:=s.cells (i:=i) (by simpa using hi)
 rw [List.getElem_map] at hc
 exact ⟨a,ha,hc⟩
structure Lin where
 terms:Tms
 num:Nat
def linV (p:Option Addr) (l c:Nat) (x:Lin):Value:=.agg #[.slice p l c,.int .u32 x.num]
def nrm (l:Tms):Tms:=madeL (l.foldl addT [])
def linTimes (x:Lin) (n:Nat):Lin:=⟨nrm (x.terms.map fun p=>(p.1,p.2*n % 4294967296)),x.num*n % 4294967296⟩
def linAdd (x y:Lin):Lin:=⟨nrm (x.terms++y.terms),(x.num+y.num) % 4294967296⟩
theorem wrap_u32_mod (x:Int):IntKind.wrap .u32 x=x % 4294967296:=by
 simp only [IntKind.wrap]
 rfl
theorem cast_mod (a:Nat):((a % 4294967296:Nat):Int)=(a:Int) % 4294967296:=Int.natCast_emod a 4294967296
theorem times_hc {h:Hp} {p:Option Addr} {l c:Nat} {x:Lin} (v:VwT h p l x.terms) (hl:x.terms.length≤2^40) (hs:∀ t,t∈x.terms→t.1.size≤maxLen) (n:Nat) :
  HC Tryz.prog 156 #[linV p l c x,.int .u32 n] h fun w h'=>Ext h h'∧∃ p' l' c',w=linV p' l' c' (linTimes x n)∧SL h' h.size 109 2 p' l' c' ((linTimes x n).terms.map encT):=by
 refine hcr_of (args:=[.agg #[.slice p l c,.int .u32 x.num],.int .u32 n]) mixed Tryz.func156 (by kernel_rfl) (t_expr_Times_eq p l c x.num n) ?_
 unfold t_expr_Times
 refine newB ?_
 intro h1 b1 e1 z1
 refine newB ?_
 intro h2 b2 e2 z2
 refine makeMap_of _ ?_
 intro h3 m3 e3 z3
 refine ⟨(some h2.size,()),rfl,?_⟩
 dsimp only [flat,unc,unc1,nA,cA]
 have c3:=(b1.keep e2 (by simp)).keep e3 (by simp)
 have b3:=b2.keep e3 (by simp)
 have e03:=(e1.trans e2).trans e3
 have v3:=v.keep e03 (by simp)
 have hll:=v.len
 refine loads_box c3 ((p,l,c),()) rfl ?_
 dsimp only [flat,unc,unc1,nA,cA]
 refine loop_of (cs:=[(false,[.int .i64])]) (fun y w h'=>∃ (i:Nat),y.1=(i:Int)∧i≤x.terms.length∧w=x.terms.length-i∧Ch [h2.size] h3 h' ∧
  MapB h' h2.size (vm (((x.terms.take i).map fun p=>(p.1,p.2*n % 4294967296)).foldl addT []))∧(((x.terms.take i).map fun p=>(p.1,p.2*n % 4294967296)).foldl addT []).length≤i) ((0:Int),()) x.terms.length rfl
  ⟨0,rfl,by omega,by omega,Ch.refl _ _,m3,by simp⟩ ?_
 rintro ⟨n8,⟨⟩⟩ w h4 ⟨i,hi,hile,rfl,k4,m4,hD⟩
 simp only at hi
 subst hi
 dsimp only [flat,unc,unc1,nA,cA]
 have hz4:=k4.size
 have e04:Ext h h4:=Ch.trans e03 k4 (fun j hj hl=>by simp at hj; omega)
 refine cond_mk (fun g1=>?_) (fun g1=>?_)
 ·have g1:=of_decide_eq_true g1
  have hilt:i<x.terms.length:=by omega
  obtain ⟨a,rfl,hc⟩:=(v.keep e04 (by simp)).cells i hilt
  have htk:x.terms.take (i+1)=x.terms.take i++[x.terms[i]]:=List.take_succ_eq_append_getElem hilt
  have hsz:=hs x.terms[i] (List.getElem_mem hilt)
  generalize x.terms[i]=t at hc htk hsz
  refine need_of ⟨by omega,by omega⟩ (osome_mk rfl ?_)
  rw [show Int.toNat (i:Int)=i by omega]
  refine loads_of (t.1,(t.2:Int),()) hc ?_
  dsimp only [flat,unc,unc1,nA,cA]
  refine newB ?_
  intro h5 b5 e5 z5
  refine stores_of b5 rfl (by simp) ?_
  intro h6 b6 k6 z6
  have b6:Box h6 h4.size 109 (encT t):=b6
  have e46:Ext h4 h6:=Ch.trans e5 k6 (fun j hj hl=>by simp at hj; omega)
  have m6:=m4.keep e46 (by simp)
  have hlt4:=m4.lt
  refine loads_box b6 (t.1,()) rfl ?_
  dsimp only [flat,unc,unc1,nA,cA]
  refine look_of m6 _ ?_
  rw [add_box]
  refine loads_box b6 ((t.2:Int),()) rfl ?_
  dsimp only [flat,unc,unc1,nA,cA]
  generalize hDD:((x.terms.take i).map fun p=>(p.1,p.2*n % 4294967296)).foldl addT []=D at m6 hD
  refine put_of (n:=(getN D t.1+t.2*n % 4294967296) % 4294967296) m6 hsz ?_ ?_
  ·rw [wrap_u32_mod,wrap_u32_mod,cast_mod,Int.natCast_add,cast_mod,Int.natCast_mul]
  ·intro h7 m7 k7 z7
   have hw:IntKind.wrap .i64 ((i:Int)+1)=((i+1:Nat):Int):=by rw [wrap_i64 (by omega) (by omega)]; omega
   have hf:((x.terms.take (i+1)).map fun p=>(p.1,p.2*n % 4294967296)).foldl addT []=putN D t.1 ((getN D t.1+t.2*n % 4294967296) % 4294967296):=by
    rw [htk,List.map_append,List.foldl_append,hDD]
    rfl
   refine again_mk (cs:=[(false,[.int .i64])]) (((i+1:Nat):Int),()) (x.terms.length-(i+1)) rfl (by omega) (congrArg (fun z=>[Value.int .i64 z]) hw) ⟨i+1,rfl,by omega,rfl,?_,by rw [hf]; exact m7,?_⟩
   ·exact Ch.trans (Ch.trans k4 e46 (by simp)) k7 (fun j hj _=>hj)
   ·rw [hf]
    have:=putN_length D t.1 ((getN D t.1+t.2*n % 4294967296) % 4294967296)
    omega
 ·have g1:=of_decide_eq_false g1
  have hi:i=x.terms.length:=by omega
  subst hi
  rw [List.take_length] at m4 hD
  have c4:=c3.keep k4 (by simp; omega)
  have b4:=b3.keep k4 (by simp; omega)
  rw [add_box]
  refine loads_box c4 ((x.num:Int),()) rfl ?_
  dsimp only [flat,unc,unc1,nA,cA]
  refine call_of (made_hc m4 (by omega) _) ?_
  rintro _ h5 ⟨e5,p',l',c',rfl,s5⟩
  refine ⟨((p',l',c'),IntKind.wrap .u32 ((x.num:Int)*(n:Int)),()),rfl,?_⟩
  dsimp only [flat,unc,unc1,nA,cA]
  refine stores_of (b4.keep e5 (by simp)) rfl (by simp) ?_
  intro h6 b6 k6 z6
  have b6:Box h6 h1.size 94 [.slice p' l' c',.int .u32 (IntKind.wrap .u32 ((x.num:Int)*(n:Int)))]:=b6
  refine loads_box b6 ((p',l',c'),IntKind.wrap .u32 ((x.num:Int)*(n:Int)),()) rfl ?_
  have hz5:=e04.size
  refine ⟨Ch.trans (e04.trans e5) k6 (fun j hj hl=>by simp at hj; omega),p',l',c',?_,(s5.keep' k6 (fun j hj=>by have:=(s5.blk hj).1; simp; omega)).mono (by omega)⟩
  unfold linV linTimes
  rw [wrap_u32_mod]
  dsimp only
  rw [cast_mod,Int.natCast_mul]
def ltN (a b:ByteArray):Prop:=a.data.toList<b.data.toList
instance (a b:ByteArray):Decidable (ltN a b):=inferInstanceAs (Decidable (a.data.toList<b.data.toList))
theorem ltN_irrefl (a:ByteArray):¬ ltN a a:=List.lt_irrefl (α:=UInt8) _
theorem ltN_trans {a b c:ByteArray} (h:ltN a b) (k:ltN b c):ltN a c:=List.lt_trans (α:=UInt8) h k
theorem baExt {a b:ByteArray} (h:a.data.toList=b.data.toList):a=b:=by
 cases a; cases b
 simp only at h
 rw [Array.toList_inj.1 h]
theorem ltN_tri (a b:ByteArray) (h:¬ ltN a b) (k:¬ ltN b a):a=b :=
 baExt (List.le_antisymm (α:=UInt8) (List.not_lt.1 k) (List.not_lt.1 h))
theorem ltN_ne {a b:ByteArray} (h:ltN a b):a≠b:=fun e=>by subst e; exact ltN_irrefl _ h
theorem ltN_asymm {a b:ByteArray} (h:ltN a b):¬ ltN b a:=fun k=>ltN_irrefl _ (ltN_trans h k)
structure Nf (l:Tms):Prop where
 sorted:l.Pairwise fun p q=>ltN p.1 q.1
 coef:∀ p,p∈l→p.2≠0∧p.2<4294967296
def cf:Tms→ByteArray→Nat
 | [],_=>0
 | p::l,s=>(if p.1=s then p.2 else 0)+cf l s
theorem cf_nil (s:ByteArray):cf [] s=0:=rfl
theorem cf_cons (p:ByteArray × Nat) (l:Tms) (s:ByteArray):cf (p::l) s=(if p.1=s then p.2 else 0)+cf l s:=rfl
theorem Nf.tail {p:ByteArray × Nat} {l:Tms} (h:Nf (p::l)):Nf l:=⟨(List.pairwise_cons.1 h.1).2,fun q hq=>h.2 q (List.mem_cons_of_mem _ hq)⟩
theorem Nf.head {p:ByteArray × Nat} {l:Tms} (h:Nf (p::l)):∀ q,q∈l→ltN p.1 q.1:=(List.pairwise_cons.1 h.1).1
theorem Nf.nil:Nf []:=⟨List.Pairwise.nil,by simp⟩
theorem cf_zero {l:Tms} {s:ByteArray} (h:∀ p,p∈l→p.1≠s):cf l s=0:=by
 induction l with
 | nil=>rfl
 | cons p l ih =>
  rw [cf_cons,if_neg (h p (List.mem_cons_self ..)),ih fun q hq=>h q (List.mem_cons_of_mem _ hq)]
theorem cf_append (l m:Tms) (s:ByteArray):cf (l++m) s=cf l s+cf m s:=by
 induction l with
 | nil=>simp [cf]
 | cons p l ih=>simp only [List.cons_append,cf,ih]; omega
theorem Nf.cf_head {p:ByteArray × Nat} {l:Tms} (h:Nf (p::l)):cf (p::l) p.1=p.2:=by
 rw [cf_cons,if_pos rfl,cf_zero fun q hq=>(ltN_ne (h.head q hq)).symm]
 rfl
theorem Nf.cf_low {l:Tms} {s:ByteArray} (h:∀ p,p∈l→ltN s p.1):cf l s=0:=cf_zero fun p hp=>(ltN_ne (h p hp)).symm
theorem Nf.uniq:∀ {l m:Tms},Nf l→Nf m→(∀ s,cf l s % 4294967296=cf m s % 4294967296)→l=m
 | [],[],_,_,_=>rfl
 | [],q::m,_,hm,h=>by
  have:=h q.1
  rw [hm.cf_head] at this
  have hq:=hm.coef q (List.mem_cons_self ..)
  simp only [cf] at this
  omega
 | p::l,[],hl,_,h=>by
  have:=h p.1
  rw [hl.cf_head] at this
  have hq:=hl.coef p (List.mem_cons_self ..)
  simp only [cf] at this
  omega
 | p::l,q::m,hl,hm,h=>by
  have hp:=hl.coef p (List.mem_cons_self ..)
  have hq:=hm.coef q (List.mem_cons_self ..)
  by_cases h1:ltN p.1 q.1
  ·exfalso
   have:=h p.1
   rw [hl.cf_head,Nf.cf_low (l:=q::m) (s:=p.1) (by
    intro r hr
    rcases List.mem_cons.1 hr with rfl | hr
    ·exact h1
    ·exact ltN_trans h1 (hm.head r hr))] at this
   omega
  ·by_cases h2:ltN q.1 p.1
   ·exfalso
    have:=h q.1
    rw [hm.cf_head,Nf.cf_low (l:=p::l) (s:=q.1) (by
     intro r hr
     rcases List.mem_cons.1 hr with rfl | hr
     ·exact h2
     ·exact ltN_trans h2 (hl.head r hr))] at this
    omega
   ·have he:=ltN_tri _ _ h1 h2
    have h3:=h p.1
    rw [hl.cf_head,he,hm.cf_head] at h3
    have hpq:p=q:=by
     obtain ⟨a,b⟩:=p
     obtain ⟨c,d⟩:=q
     simp only at he h3 hp hq
     subst he
     congr 1
     rw [Nat.mod_eq_of_lt hp.2,Nat.mod_eq_of_lt hq.2] at h3
     exact h3
    subst hpq
    congr 1
    refine Nf.uniq hl.tail hm.tail fun s=>?_
    by_cases hs:p.1=s
    ·subst hs
     rw [Nf.cf_low hl.head,Nf.cf_low hm.head]
    ·have:=h s
     simp only [cf,if_neg hs,Nat.zero_add] at this
     exact this
/-! What 'made' makes. -/
theorem getN_nil (s:ByteArray):getN [] s=0:=rfl
theorem getN_cons (p:ByteArray × Nat) (D:Tms) (s:ByteArray):getN (p::D) s=if s=p.1 then p.2 else getN D s:=by
 unfold getN
 rw [List.find?_cons]
 by_cases h:s=p.1
 ·simp [h]
 ·simp [h]
theorem getN_append (D:Tms) (s t:ByteArray) (v:Nat):getN (D++[(t,v)]) s=if (D.find? fun p=>decide (s=p.1)).isSome then getN D s else if s=t then v else 0:=by
 induction D with
 | nil=>simp [getN_cons,getN_nil]
 | cons p D ih =>
  rw [List.cons_append,getN_cons,getN_cons,ih,List.find?_cons]
  by_cases h:s=p.1
  ·simp [h]
  ·simp only [decide_eq_false h,if_neg h]
theorem getN_none {D:Tms} {s:ByteArray} (h:(D.find? fun p=>decide (s=p.1)).isSome=false):getN D s=0:=by
 unfold getN
 cases hf:(D.find? fun p=>decide (s=p.1)) with
 | none=>rfl
 | some x=>rw [hf] at h; cases h
theorem getN_map (D:Tms) (t:ByteArray) (v:Nat) (s:ByteArray):getN (D.map fun p=>if t=p.1 then (p.1,v) else p) s=if s=t∧(D.find? fun p=>decide (t=p.1)).isSome then v else getN D s:=by
 induction D with
 | nil=>simp [getN_nil]
 | cons p D ih =>
  rw [List.map_cons,getN_cons,ih,getN_cons,List.find?_cons]
  by_cases h:t=p.1
  ·subst h
   by_cases k:s=p.1 <;> simp [k]
  ·rw [if_neg h]
   by_cases k:s=p.1
   ·subst k
    have:¬ p.1=t:=fun e=>h e.symm
    simp [this]
   ·simp only [decide_eq_false h,if_neg k]
theorem getN_putN (D:Tms) (t:ByteArray) (v:Nat) (s:ByteArray):getN (putN D t v) s=if s=t then v else getN D s:=by
 unfold putN
 split
 ·rename_i hh
  rw [getN_map]
  by_cases k:s=t <;> simp [k,hh]
 ·rename_i hh
  rw [getN_append]
  by_cases k:s=t
  ·subst k
   simp [hh]
  ·rw [if_neg k]
   split
   ·rfl
   ·rename_i h2
    rw [getN_none (Bool.eq_false_iff.2 h2)]
theorem getN_foldl (l:Tms) (s:ByteArray):∀ D:Tms,getN (l.foldl addT D) s % 4294967296=(getN D s+cf l s) % 4294967296:=by
 induction l with
 | nil=>intro D; simp [cf]
 | cons p l ih =>
  intro D
  rw [List.foldl_cons,ih]
  unfold addT
  rw [cf_cons,getN_putN]
  by_cases h:s=p.1
  ·subst h
   rw [if_pos rfl,if_pos rfl,Nat.mod_add_mod]
   congr 1; omega
  ·rw [if_neg h,if_neg fun e=>h e.symm]
   congr 1; omega
theorem putN_nodup {D:Tms} (h:(D.map (·.1)).Nodup) (t:ByteArray) (v:Nat):((putN D t v).map (·.1)).Nodup:=by
 unfold putN
 have h1:(D.find? fun p=>decide (t=p.1)).isSome=true↔t∈D.map (·.1):=by
  rw [List.find?_isSome]
  simp [eq_comm]
 split
 ·have e:(D.map fun p=>if t=p.1 then (p.1,v) else p).map (·.1)=D.map (·.1):=by
   rw [List.map_map]
   refine List.map_congr_left fun p hp=>?_
   simp only [Function.comp]
   split <;> rfl
  rw [e]; exact h
 ·rename_i hn
  rw [List.map_append,List.nodup_append]
  refine ⟨h,by simp,?_⟩
  rintro a ha b hb rfl
  simp only [List.map_cons,List.map_nil,List.mem_singleton] at hb
  subst hb
  exact hn (h1.2 ha)
theorem foldl_keys (l:Tms):∀ D:Tms,(D.map (·.1)).Nodup→((l.foldl addT D).map (·.1)).Nodup:=by
 induction l with
 | nil=>intro D h; exact h
 | cons p l ih =>
  intro D h
  rw [List.foldl_cons]
  exact ih _ (putN_nodup h _ _)
theorem getN_lt (l:Tms):∀ D:Tms,(∀ s,getN D s<4294967296)→∀ s,getN (l.foldl addT D) s<4294967296:=by
 induction l with
 | nil=>intro D h; exact h
 | cons p l ih =>
  intro D h
  rw [List.foldl_cons]
  refine ih _ fun s=>?_
  unfold addT
  rw [getN_putN]
  split
  ·exact Nat.mod_lt _ (by decide)
  ·exact h s
theorem getN_out {D:Tms} {s:ByteArray} (h:s∉D.map (·.1)):getN D s=0:=by
 refine getN_none ?_
 cases hf:(D.find? fun p=>decide (s=p.1)).isSome with
 | false=>rfl
 | true =>
  rw [List.find?_isSome] at hf
  obtain ⟨x,hx,hs⟩:=hf
  exact absurd (List.mem_map.2 ⟨x,hx,(of_decide_eq_true hs).symm⟩) h
def pick (g:ByteArray→Nat) (ks:List (List UInt8)):Tms:=ks.filterMap fun k=>if g ⟨k.toArray⟩=0 then none else some (⟨k.toArray⟩,g ⟨k.toArray⟩)
theorem cf_pick (g:ByteArray→Nat) (s:ByteArray):∀ ks:List (List UInt8),ks.Nodup→cf (pick g ks) s=if s.data.toList∈ks then g s else 0:=by
 intro ks
 induction ks with
 | nil=>intro _; simp [pick,cf]
 | cons k ks ih =>
  intro h
  rw [List.nodup_cons] at h
  have ih:=ih h.2
  unfold pick at ih ⊢
  rw [List.filterMap_cons]
  have e1:(⟨k.toArray⟩:ByteArray)=s↔s.data.toList=k:=by
   constructor
   ·rintro rfl; simp
   ·intro e; exact baExt (by simp [e])
  by_cases hk:s.data.toList=k
  ·have hs:=e1.2 hk
   rw [hs]
   split
   ·rename_i hg
    split at hg
    ·rename_i h0
     rw [ih,h0]
     simp
    ·cases hg
   ·rename_i hg
    split at hg
    ·cases hg
    ·cases hg
     rw [cf_cons,ih,if_pos rfl,if_neg (by rw [hk]; exact h.1),if_pos (by rw [hk]; simp)]
     rfl
  ·have hs:¬ (⟨k.toArray⟩:ByteArray)=s:=fun e=>hk (e1.1 e)
   split
   ·rw [ih]
    simp [hk]
   ·rename_i hg
    split at hg
    ·cases hg
    ·cases hg
     rw [cf_cons,ih,if_neg hs]
     simp [hk]
theorem pick_nf (g:ByteArray→Nat) (hg:∀ s,g s<4294967296) {ks:List (List UInt8)} (h:ks.Pairwise fun a b=>a<b):Nf (pick g ks):=by
 refine ⟨?_,?_⟩
 ·unfold pick
  refine List.Pairwise.filterMap _ ?_ h
  intro a b hab p hp q hq
  split at hp
  ·cases hp
  ·split at hq
   ·cases hq
   ·cases hp; cases hq
    unfold ltN
    simpa using hab
 ·intro p hp
  unfold pick at hp
  rw [List.mem_filterMap] at hp
  obtain ⟨k,_,hk⟩:=hp
  split at hk
  ·cases hk
  ·rename_i h0
   cases hk
   exact ⟨h0,hg _⟩
theorem keysOf_perm (D:Tms):(keysOf (vm D)).Perm (D.map fun p=>p.1.data.toList):=by
 unfold keysOf vm
 rw [List.map_map]
 exact List.mergeSort_perm _ _
theorem keysOf_sorted {D:Tms} (h:(D.map (·.1)).Nodup):(keysOf (vm D)).Pairwise fun a b=>a<b:=by
 have hn:(keysOf (vm D)).Nodup:=by
  refine (keysOf_perm D).nodup_iff.2 ?_
  have:(D.map fun p=>p.1.data.toList)=(D.map (·.1)).map fun s=>s.data.toList:=by rw [List.map_map]; rfl
  rw [this]
  exact List.pairwise_map.2 (h.imp fun hne e=>hne (baExt e))
 have hs:(keysOf (vm D)).Pairwise fun a b=>a≤b:=by
  unfold keysOf
  refine (List.pairwise_mergeSort ?_ ?_ _).imp ?_
  ·intro a b c h1 h2
   exact decide_eq_true (List.le_trans (α:=UInt8) (of_decide_eq_true h1) (of_decide_eq_true h2))
  ·intro a b
   simp only [Bool.or_eq_true,decide_eq_true_eq]
   exact List.le_total (α:=UInt8) a b
  ·intro a b hab
   exact of_decide_eq_true hab
 refine (hs.and hn).imp ?_
 rintro a b ⟨h1,h2⟩
 by_cases hlt:a<b
 ·exact hlt
 ·exact absurd (List.le_antisymm (α:=UInt8) h1 (List.not_lt.1 hlt)) h2
theorem nrm_pick (l:Tms):nrm l=pick (getN (l.foldl addT [])) (keysOf (vm (l.foldl addT []))):=rfl
theorem nrm_nf (l:Tms):Nf (nrm l):=by
 rw [nrm_pick]
 exact pick_nf _ (getN_lt l [] (fun s=>by rw [getN_nil]; decide)) (keysOf_sorted (foldl_keys l [] (by simp)))
theorem cf_nrm (l:Tms) (s:ByteArray):cf (nrm l) s=cf l s % 4294967296:=by
 have h1:=getN_foldl l s []
 rw [getN_nil,Nat.zero_add,Nat.mod_eq_of_lt (getN_lt l [] (fun s=>by rw [getN_nil]; decide) s)] at h1
 rw [nrm_pick,cf_pick _ _ _ ((keysOf_sorted (foldl_keys l [] (by simp))).imp fun h e=>by subst e; exact List.lt_irrefl (α:=UInt8) _ h)]
 split
 ·exact h1
 ·rename_i hn
  rw [← h1,getN_out]
  intro hm
  refine hn ((keysOf_perm _).mem_iff.2 ?_)
  obtain ⟨p,hp,rfl⟩:=List.mem_map.1 hm
  exact List.mem_map.2 ⟨p,hp,rfl⟩
/-! The reference's sums and products. -/
def timesN (n:Nat) (l:Tms):Tms:=l.filterMap fun p=>if p.2*n % 4294967296=0 then none else some (p.1,p.2*n % 4294967296)
def addF:Nat→Tms→Tms→Tms
 | 0,_,_=>[]
 | n+1,x,y=>match x,y with
  | [],[]=>[]
  | p::x,[]=>p::addF n x []
  | [],q::y=>q::addF n [] y
  | p::x,q::y=>if ltN p.1 q.1 then p::addF n x (q::y) else if ltN q.1 p.1 then q::addF n (p::x) y else if (p.2+q.2) % 4294967296=0 then addF n x y else (p.1,(p.2+q.2) % 4294967296)::addF n x y
def addM (x y:Tms):Tms:=addF (x.length+y.length) x y
theorem timesN_nf {n:Nat} {l:Tms} (h:Nf l):Nf (timesN n l):=by
 refine ⟨?_,?_⟩
 ·unfold timesN
  refine List.Pairwise.filterMap _ ?_ h.1
  intro a b hab p hp q hq
  split at hp
  ·cases hp
  ·split at hq
   ·cases hq
   ·cases hp; cases hq
    exact hab
 ·intro p hp
  unfold timesN at hp
  rw [List.mem_filterMap] at hp
  obtain ⟨k,_,hk⟩:=hp
  split at hk
  ·cases hk
  ·rename_i h0
   cases hk
   exact ⟨h0,Nat.mod_lt _ (by decide)⟩
theorem cf_timesN (n:Nat) (l:Tms) (s:ByteArray):cf (timesN n l) s % 4294967296=cf l s*n % 4294967296:=by
 induction l with
 | nil=>simp [timesN,cf]
 | cons p l ih =>
  have hc:cf (timesN n (p::l)) s=(if p.1=s then p.2*n % 4294967296 else 0)+cf (timesN n l) s:=by
   unfold timesN
   rw [List.filterMap_cons]
   split
   ·rename_i hg
    split at hg
    ·rename_i h0
     rw [h0]; simp
    ·cases hg
   ·rename_i hg
    split at hg
    ·cases hg
    ·cases hg
     rfl
  rw [hc,Nat.add_mod,ih,cf_cons]
  by_cases h:p.1=s
  ·rw [if_pos h,if_pos h,Nat.add_mul,Nat.mod_mod,← Nat.add_mod]
  ·rw [if_neg h,if_neg h,Nat.zero_add]; simp
theorem mem_addF {n:Nat} {x y:Tms} {r:ByteArray × Nat} (h:r∈addF n x y):(∃ p,p∈x∧p.1=r.1)∨(∃ q,q∈y∧q.1=r.1):=by
 induction n generalizing x y with
 | zero=>simp [addF] at h
 | succ n ih =>
  rcases x with _ | ⟨p,x⟩ <;> rcases y with _ | ⟨q,y⟩
  ·simp [addF] at h
  ·simp only [addF,List.mem_cons] at h
   rcases h with rfl | h
   ·exact .inr ⟨_,by simp,rfl⟩
   ·rcases ih h with ⟨a,ha,e⟩ | ⟨a,ha,e⟩
    ·simp at ha
    ·exact .inr ⟨a,by simp [ha],e⟩
  ·simp only [addF,List.mem_cons] at h
   rcases h with rfl | h
   ·exact .inl ⟨_,by simp,rfl⟩
   ·rcases ih h with ⟨a,ha,e⟩ | ⟨a,ha,e⟩
    ·exact .inl ⟨a,by simp [ha],e⟩
    ·simp at ha
  ·simp only [addF] at h
   split at h
   ·rcases List.mem_cons.1 h with rfl | h
    ·exact .inl ⟨_,by simp,rfl⟩
    ·rcases ih h with ⟨a,ha,e⟩ | ⟨a,ha,e⟩
     ·exact .inl ⟨a,by simp [ha],e⟩
     ·exact .inr ⟨a,ha,e⟩
   ·split at h
    ·rcases List.mem_cons.1 h with rfl | h
     ·exact .inr ⟨_,by simp,rfl⟩
     ·rcases ih h with ⟨a,ha,e⟩ | ⟨a,ha,e⟩
      ·exact .inl ⟨a,ha,e⟩
      ·exact .inr ⟨a,by simp [ha],e⟩
    ·split at h
     ·rcases ih h with ⟨a,ha,e⟩ | ⟨a,ha,e⟩
      ·exact .inl ⟨a,by simp [ha],e⟩
      ·exact .inr ⟨a,by simp [ha],e⟩
     ·rcases List.mem_cons.1 h with rfl | h
      ·exact .inl ⟨p,by simp,rfl⟩
      ·rcases ih h with ⟨a,ha,e⟩ | ⟨a,ha,e⟩
       ·exact .inl ⟨a,by simp [ha],e⟩
       ·exact .inr ⟨a,by simp [ha],e⟩
theorem Nf.cons {p:ByteArray × Nat} {l:Tms} (h:Nf l) (hc:p.2≠0∧p.2<4294967296) (hl:∀ q,q∈l→ltN p.1 q.1):Nf (p::l) :=
 ⟨List.pairwise_cons.2 ⟨hl,h.1⟩,fun q hq=>by rcases List.mem_cons.1 hq with rfl | hq; exact hc; exact h.2 q hq⟩
theorem addF_nf {n:Nat} {x y:Tms} (hx:Nf x) (hy:Nf y):Nf (addF n x y):=by
 induction n generalizing x y with
 | zero=>exact Nf.nil
 | succ n ih =>
  rcases x with _ | ⟨p,x⟩ <;> rcases y with _ | ⟨q,y⟩
  ·exact Nf.nil
  ·simp only [addF]
   refine (ih Nf.nil hy.tail).cons (hy.2 q (by simp)) fun r hr=>?_
   rcases mem_addF hr with ⟨a,ha,e⟩ | ⟨a,ha,e⟩
   ·simp at ha
   ·rw [← e]; exact hy.head a ha
  ·simp only [addF]
   refine (ih hx.tail Nf.nil).cons (hx.2 p (by simp)) fun r hr=>?_
   rcases mem_addF hr with ⟨a,ha,e⟩ | ⟨a,ha,e⟩
   ·rw [← e]; exact hx.head a ha
   ·simp at ha
  ·simp only [addF]
   split
   ·rename_i h1
    refine (ih hx.tail hy).cons (hx.2 p (by simp)) fun r hr=>?_
    rcases mem_addF hr with ⟨a,ha,e⟩ | ⟨a,ha,e⟩
    ·rw [← e]; exact hx.head a ha
    ·rw [← e]
     rcases List.mem_cons.1 ha with rfl | ha
     ·exact h1
     ·exact ltN_trans h1 (hy.head a ha)
   ·rename_i h1
    split
    ·rename_i h2
     refine (ih hx hy.tail).cons (hy.2 q (by simp)) fun r hr=>?_
     rcases mem_addF hr with ⟨a,ha,e⟩ | ⟨a,ha,e⟩
     ·rw [← e]
      rcases List.mem_cons.1 ha with rfl | ha
      ·exact h2
      ·exact ltN_trans h2 (hx.head a ha)
     ·rw [← e]; exact hy.head a ha
    ·rename_i h2
     have he:=ltN_tri _ _ h1 h2
     split
     ·exact ih hx.tail hy.tail
     ·rename_i h0
      refine (ih hx.tail hy.tail).cons ⟨h0,Nat.mod_lt _ (by decide)⟩ fun r hr=>?_
      rcases mem_addF hr with ⟨a,ha,e⟩ | ⟨a,ha,e⟩
      ·rw [← e]; exact hx.head a ha
      ·rw [← e]
       show ltN p.1 a.1
       rw [he]; exact hy.head a ha
theorem cf_addF {n:Nat} {x y:Tms} (hn:x.length+y.length≤n) (s:ByteArray):cf (addF n x y) s % 4294967296=(cf x s+cf y s) % 4294967296:=by
 induction n generalizing x y with
 | zero =>
  have h1:x=[]:=List.length_eq_zero_iff.1 (by omega)
  have h2:y=[]:=List.length_eq_zero_iff.1 (by omega)
  subst h1 h2
  rfl
 | succ n ih =>
  rcases x with _ | ⟨p,x⟩ <;> rcases y with _ | ⟨q,y⟩
  ·rfl
  ·simp only [addF,cf_cons,cf_nil]
   have:=ih (x:=[]) (y:=y) (by simp at hn ⊢; omega)
   simp only [cf_nil] at this
   omega
  ·simp only [addF,cf_cons,cf_nil]
   have:=ih (x:=x) (y:=[]) (by simp at hn ⊢; omega)
   simp only [cf_nil] at this
   omega
  ·simp only [List.length_cons] at hn
   simp only [addF]
   split
   ·have:=ih (x:=x) (y:=q::y) (by simp; omega)
    simp only [cf_cons] at this ⊢
    omega
   ·rename_i h1
    split
    ·have:=ih (x:=p::x) (y:=y) (by simp; omega)
     simp only [cf_cons] at this ⊢
     omega
    ·rename_i h2
     have he:=ltN_tri _ _ h1 h2
     have:=ih (x:=x) (y:=y) (by omega)
     split
     ·rename_i h0
      simp only [cf_cons,← he]
      split
      ·omega
      ·omega
     ·simp only [cf_cons,← he]
      split
      ·omega
      ·omega
theorem addM_nf {x y:Tms} (hx:Nf x) (hy:Nf y):Nf (addM x y):=addF_nf hx hy
theorem cf_addM (x y:Tms) (s:ByteArray):cf (addM x y) s % 4294967296=(cf x s+cf y s) % 4294967296:=cf_addF (Nat.le_refl _) s
theorem nrm_addM {x y:Tms} (hx:Nf x) (hy:Nf y):nrm (x++y)=addM x y :=
 Nf.uniq (nrm_nf _) (addM_nf hx hy) fun s=>by rw [cf_nrm,cf_addM,cf_append,Nat.mod_mod]
theorem cf_map_times (n:Nat) (l:Tms) (s:ByteArray):cf (l.map fun p=>(p.1,p.2*n % 4294967296)) s % 4294967296=cf l s*n % 4294967296:=by
 induction l with
 | nil=>simp [cf]
 | cons p l ih =>
  simp only [List.map_cons,cf]
  rw [Nat.add_mod,ih]
  by_cases h:p.1=s
  ·rw [if_pos h,if_pos h,Nat.add_mul,Nat.mod_mod,← Nat.add_mod]
  ·rw [if_neg h,if_neg h,Nat.zero_add]; simp
theorem nrm_timesN {n:Nat} {l:Tms} (h:Nf l):nrm (l.map fun p=>(p.1,p.2*n % 4294967296))=timesN n l :=
 Nf.uniq (nrm_nf _) (timesN_nf h) fun s=>by rw [cf_nrm,cf_timesN,Nat.mod_mod,cf_map_times]
def linT (x:Lin) (n:Nat):Lin:=⟨timesN n x.terms,x.num*n % 4294967296⟩
def linA (x y:Lin):Lin:=⟨addM x.terms y.terms,(x.num+y.num) % 4294967296⟩
theorem linTimes_eq {x:Lin} (h:Nf x.terms) (n:Nat):linTimes x n=linT x n:=by unfold linTimes linT; rw [nrm_timesN h]
theorem linAdd_eq {x y:Lin} (h:Nf x.terms) (k:Nf y.terms):linAdd x y=linA x y:=by unfold linAdd linA; rw [nrm_addM h k]
theorem timesN_length (n:Nat) (l:Tms):(timesN n l).length≤l.length:=List.length_filterMap_le _ _
theorem addF_length (n:Nat) (x y:Tms):(addF n x y).length≤x.length+y.length:=by
 induction n generalizing x y with
 | zero=>simp [addF]
 | succ n ih =>
  rcases x with _ | ⟨p,x⟩ <;> rcases y with _ | ⟨q,y⟩
  ·simp [addF]
  ·have:=ih [] y
   simp only [addF,List.length_cons,List.length_nil] at this ⊢; omega
  ·have:=ih x []
   simp only [addF,List.length_cons,List.length_nil] at this ⊢; omega
  ·have h1:=ih x (q::y)
   have h2:=ih (p::x) y
   have h3:=ih x y
   simp only [List.length_cons] at h1 h2 ⊢
   simp only [addF]
   split
   ·simp only [List.length_cons]; omega
   ·split
    ·simp only [List.length_cons]; omega
    ·split
     ·omega
     ·simp only [List.length_cons]; omega
theorem addM_length (x y:Tms):(addM x y).length≤x.length+y.length:=addF_length _ x y
theorem mem_addM {x y:Tms} {r:ByteArray × Nat} (h:r∈addM x y):(∃ p,p∈x∧p.1=r.1)∨(∃ q,q∈y∧q.1=r.1):=mem_addF h
theorem mem_timesN {n:Nat} {x:Tms} {r:ByteArray × Nat} (h:r∈timesN n x):∃ p,p∈x∧p.1=r.1:=by
 unfold timesN at h
 rw [List.mem_filterMap] at h
 obtain ⟨k,hk,hr⟩:=h
 split at hr
 ·cases hr
 ·cases hr
  exact ⟨k,hk,rfl⟩
def sumT (r:Option Nat) (p:Option Addr) (l lv:Nat) (k:T):T :=
 T.loop [(false,[.int .i64])] [.int .i64 (0:Int)] <| fun (n20:Int) =>
 cond (decide (n20<(l:Int)))
  (T.need (((0:Int)≤n20)∧(n20<(l:Int))) <|
  T.osome p <| fun (a21:Addr) =>
  T.loads (a21.add ((Int.toNat n20)*2)) [.string,.int .u32] <| fun (s22:ByteArray) (n23:Int) =>
  T.new [.string ⟨#[]⟩,.int .u32 (0:Int)] 109 <| fun (a24:Addr) =>
  T.stores a24 [.string s22,.int .u32 n23] <|
  T.loads a24 [.string] <| fun (s25:ByteArray) =>
  T.sem Tryz.prog (Instr.lookup 286 (.map r) (.string s25) false) false [(false,[.int .u32])] <| fun (n26:Int) =>
  T.loads (a24.add 1) [.int .u32] <| fun (n27:Int) =>
  T.semU Tryz.prog (Instr.mapUpdate 286 (.map r) (.string s25) (.int .u32 (IntKind.wrap .u32 (n26+n27)))) <|
  T.again lv [.int .i64 (IntKind.wrap .i64 (n20+(1:Int)))]) k
theorem foldl_length (l:Tms):∀ D:Tms,(l.foldl addT D).length≤D.length+l.length:=by
 induction l with
 | nil=>intro D; simp
 | cons p l ih =>
  intro D
  rw [List.foldl_cons]
  have h1:=ih (addT D p)
  have h2:=putN_length D p.1 ((getN D p.1+p.2) % 4294967296)
  have h3:(addT D p).length≤D.length+1:=h2
  simp only [List.length_cons]
  omega
theorem sumT_of {L:Lp} {K:Value→Hp→Prop} {h:Hp} {g:Nat} {p:Option Addr} {l:Nat} {us D:Tms} {k:T} {lv:Nat} (hlv:L.length=lv) (v:VwT h p l us) (hl:us.length≤2^40) (hs:∀ t,t∈us→t.1.size≤maxLen) (m:MapB h g (vm D)) (hg:g∉blkOf p)
  (hk:∀ J h',MapB h' g (vm (us.foldl addT D))→Ch [g] h h'→k (L++[J]) K h'):sumT (some g) p l lv k L K h:=by
 have hll:=v.len
 have hL:∀ J:List Value→Hp→Prop,(L++[J])[lv]?=some J:=by intro J; subst hlv; simp
 unfold sumT
 refine loop_of (cs:=[(false,[.int .i64])]) (fun y w h'=>∃ (i:Nat),y.1=(i:Int)∧i≤us.length∧w=us.length-i∧Ch [g] h h'∧MapB h' g (vm ((us.take i).foldl addT D))) ((0:Int),()) us.length rfl
  ⟨0,rfl,by omega,by omega,Ch.refl _ _,by simpa using m⟩ ?_
 rintro ⟨n8,⟨⟩⟩ w h4 ⟨i,hi,hile,rfl,k4,m4⟩
 simp only at hi
 subst hi
 dsimp only [flat,unc,unc1,nA,cA]
 refine cond_mk (fun g1=>?_) (fun g1=>?_)
 ·have g1:=of_decide_eq_true g1
  have hilt:i<us.length:=by omega
  obtain ⟨a,rfl,hc⟩:=(v.keep k4 (by intro j hj hm; rw [List.mem_singleton] at hm; subst hm; exact hg hj)).cells i hilt
  have htk:us.take (i+1)=us.take i++[us[i]]:=List.take_succ_eq_append_getElem hilt
  have hsz:=hs us[i] (List.getElem_mem hilt)
  generalize us[i]=t at hc htk hsz
  refine need_of ⟨by omega,by omega⟩ (osome_mk rfl ?_)
  rw [show Int.toNat (i:Int)=i by omega]
  refine loads_of (t.1,(t.2:Int),()) hc ?_
  dsimp only [flat,unc,unc1,nA,cA]
  refine newB ?_
  intro h5 b5 e5 z5
  refine stores_of b5 rfl (by simp) ?_
  intro h6 b6 k6 z6
  have b6:Box h6 h4.size 109 (encT t):=b6
  have e46:Ext h4 h6:=Ch.trans e5 k6 (fun j hj hl=>by simp at hj; omega)
  have m6:=m4.keep e46 (by simp)
  refine loads_box b6 (t.1,()) rfl ?_
  dsimp only [flat,unc,unc1,nA,cA]
  refine look_of m6 _ ?_
  rw [add_box]
  refine loads_box b6 ((t.2:Int),()) rfl ?_
  dsimp only [flat,unc,unc1,nA,cA]
  generalize hDD:(us.take i).foldl addT D=D' at m6
  refine put_of (n:=(getN D' t.1+t.2) % 4294967296) m6 hsz ?_ ?_
  ·rw [wrap_u32_mod,cast_mod,Int.natCast_add]
  ·intro h7 m7 k7 z7
   have hw:IntKind.wrap .i64 ((i:Int)+1)=((i+1:Nat):Int):=by rw [wrap_i64 (by omega) (by omega)]; omega
   have hf:(us.take (i+1)).foldl addT D=putN D' t.1 ((getN D' t.1+t.2) % 4294967296):=by
    rw [htk,List.foldl_append,hDD]
    rfl
   refine again_mk (cs:=[(false,[.int .i64])]) (((i+1:Nat):Int),()) (us.length-(i+1)) (hL _) (by omega) (congrArg (fun z=>[Value.int .i64 z]) hw) ⟨i+1,rfl,by omega,rfl,?_,by rw [hf]; exact m7⟩
   exact Ch.trans (Ch.trans k4 e46 (by simp)) k7 (fun j hj _=>hj)
 ·have g1:=of_decide_eq_false g1
  have hi:i=us.length:=by omega
  subst hi
  rw [List.take_length] at m4
  exact hk _ _ m4 k4
theorem und87:Tryz.prog.underlying 288=some (.slice 91):=by kernel_rfl
theorem slZ67:(Tryz.prog.info? 91).map (fun i=>(i.zero,i.size,i.bytes))=some (some (.slice none 0 0),1,24):=by kernel_rfl
theorem add_hc {h:Hp} {p q:Option Addr} {l c m d:Nat} {x y:Lin} (v:VwT h p l x.terms) (u:VwT h q m y.terms) (hp:∀ i,i∈blkOf p→i<h.size) (hq:∀ i,i∈blkOf q→i<h.size)
  (hl:x.terms.length+y.terms.length≤2^40) (hx:∀ t,t∈x.terms→t.1.size≤maxLen) (hy:∀ t,t∈y.terms→t.1.size≤maxLen) :
  HC Tryz.prog 159 #[linV p l c x,linV q m d y] h fun w h'=>Ext h h'∧∃ p' l' c',w=linV p' l' c' (linAdd x y)∧SL h' h.size 109 2 p' l' c' ((linAdd x y).terms.map encT):=by
 refine hcr_of (args:=[.agg #[.slice p l c,.int .u32 x.num],.agg #[.slice q m d,.int .u32 y.num]]) mixed Tryz.func159 (by kernel_rfl) (t_expr_Add_eq p l c x.num q m d y.num) ?_
 unfold t_expr_Add
 refine newB ?_
 intro h1 b1 e1 z1
 refine newB ?_
 intro h2 b2 e2 z2
 refine newB ?_
 intro h3 b3 e3 z3
 refine makeMap_of _ ?_
 intro h4 m4 e4 z4
 refine ⟨(some h3.size,()),rfl,?_⟩
 dsimp only [flat,unc,unc1,nA,cA]
 have b1:=((b1.keep e2 (by simp)).keep e3 (by simp)).keep e4 (by simp)
 have b2:=(b2.keep e3 (by simp)).keep e4 (by simp)
 have b3:=b3.keep e4 (by simp)
 have e04:=((e1.trans e2).trans e3).trans e4
 refine loads_box b1 ((p,l,c),()) rfl ?_
 dsimp only [flat,unc,unc1,nA,cA]
 refine loads_box b2 ((q,m,d),()) rfl ?_
 dsimp only [flat,unc,unc1,nA,cA]
 refine lit_of (cells:=[.slice p l c,.slice q m d]) und87 slZ67 (by decide) (by decide) (by kernel_rfl) ?_
 intro h5 b5 e5 z5
 have m5:MapB h5 h3.size (vm []):=m4.keep e5 (by simp)
 have b1:=b1.keep e5 (by simp)
 have b2:=b2.keep e5 (by simp)
 have b3:=b3.keep e5 (by simp)
 have e05:=e04.trans e5
 have hb5:=b5.lt
 have hm4:=m4.lt
 refine loop_of (cs:=[(false,[.int .i64])]) (fun z w h'=>∃ (i:Nat),z.1=(i:Int)∧i≤2∧w=2-i∧Ch [h3.size] h5 h'∧MapB h' h3.size (vm ((([x.terms,y.terms].take i).flatten).foldl addT []))) ((0:Int),()) 2 rfl
  ⟨0,rfl,by omega,by omega,Ch.refl _ _,m5⟩ ?_
 rintro ⟨n8,⟨⟩⟩ w h6 ⟨i,hi,hile,rfl,k6,m6⟩
 simp only at hi
 subst hi
 dsimp only [flat,unc,unc1,nA,cA]
 have b6:=b5.keep k6 (by simp; omega)
 have e06:Ext h h6:=Ch.trans e05 k6 (fun j hj hl=>by simp at hj; omega)
 refine cond_mk (fun g1=>?_) (fun g1=>?_)
 ·have g1:=of_decide_eq_true g1
  refine need_of ⟨by omega,by omega⟩ (osome_mk rfl ?_)
  rw [show Int.toNat (i:Int)=i by omega,add_box]
  have hw:IntKind.wrap .i64 ((i:Int)+1)=((i+1:Nat):Int):=by rw [wrap_i64 (by omega) (by omega)]; omega
  have hi2:i=0∨i=1:=by omega
  rcases hi2 with rfl | rfl
  ·refine loads_box b6 ((p,l,c),()) rfl ?_
   dsimp only [flat,unc,unc1,nA,cA]
   refine sumT_of (us:=x.terms) (D:=[]) rfl (v.keep e06 (by simp)) (by omega) hx m6 (fun hh=>by have:=hp _ hh; omega) ?_
   intro J h7 m7 k7
   refine again_mk (cs:=[(false,[.int .i64])]) (((0+1:Nat):Int),()) (2-(0+1)) rfl (by omega) (congrArg (fun z=>[Value.int .i64 z]) hw) ⟨0+1,rfl,by omega,rfl,Ch.trans k6 k7 (fun j hj _=>hj),?_⟩
   simpa using m7
  ·refine loads_box b6 ((q,m,d),()) rfl ?_
   dsimp only [flat,unc,unc1,nA,cA]
   refine sumT_of (us:=y.terms) (D:=x.terms.foldl addT []) rfl (u.keep e06 (by simp)) (by omega) hy (by simpa using m6) (fun hh=>by have:=hq _ hh; omega) ?_
   intro J h7 m7 k7
   refine again_mk (cs:=[(false,[.int .i64])]) (((1+1:Nat):Int),()) (2-(1+1)) rfl (by omega) (congrArg (fun z=>[Value.int .i64 z]) hw) ⟨1+1,rfl,by omega,rfl,Ch.trans k6 k7 (fun j hj _=>hj),?_⟩
   simpa using m7
 ·have g1:=of_decide_eq_false g1
  have hi:i=2:=by omega
  subst hi
  have m6:MapB h6 h3.size (vm ((x.terms++y.terms).foldl addT [])):=by simpa using m6
  have b1:=b1.keep k6 (by simp; omega)
  have b2:=b2.keep k6 (by simp; omega)
  have b3:=b3.keep k6 (by simp; omega)
  rw [add_box,add_box]
  refine loads_box b1 ((x.num:Int),()) rfl ?_
  dsimp only [flat,unc,unc1,nA,cA]
  refine loads_box b2 ((y.num:Int),()) rfl ?_
  dsimp only [flat,unc,unc1,nA,cA]
  refine call_of (made_hc m6 (by have:=foldl_length (x.terms++y.terms) []; rw [List.length_append,List.length_nil] at this; omega) _) ?_
  rintro _ h7 ⟨e7,p',l',c',rfl,s7⟩
  refine ⟨((p',l',c'),IntKind.wrap .u32 ((x.num:Int)+(y.num:Int)),()),rfl,?_⟩
  dsimp only [flat,unc,unc1,nA,cA]
  refine stores_of (b3.keep e7 (by simp)) rfl (by simp) ?_
  intro h8 b8 k8 z8
  have b8:Box h8 h2.size 94 [.slice p' l' c',.int .u32 (IntKind.wrap .u32 ((x.num:Int)+(y.num:Int)))]:=b8
  refine loads_box b8 ((p',l',c'),IntKind.wrap .u32 ((x.num:Int)+(y.num:Int)),()) rfl ?_
  have hz6:=e06.size
  have hz2:=(e1.trans e2).size
  have hb3:=b3.lt
  refine ⟨Ch.trans (e06.trans e7) k8 (fun j hj hl=>by simp at hj; omega),p',l',c',?_,(s7.keep' k8 (fun j hj=>by have:=(s7.blk hj).1; simp; omega)).mono (by omega)⟩
  unfold linV linAdd
  rw [wrap_u32_mod]
  dsimp only
  rw [cast_mod,Int.natCast_add]
abbrev PRes:=Except Nat (Lin × List Tok)
def negB (b:Bool) (x:Lin):Lin:=if b=true then linT x 4294967295 else x
def linZ:Lin:=⟨[],0⟩
def facH (o:Option (List Tok→PRes)) (ts:List Tok):PRes :=
 match ts with
 | []=>.error 20
 | t::r =>
  if t.kind=1 then if (regL t.text.data.toList).2.2=true then .error 20 else .ok (⟨[(t.text,1)],0⟩,r)
  else if t.kind=2 then .ok (⟨[],t.num⟩,r)
  else if isS t 40=true then match o with
   | none=>.error 21
   | some f=>match f r with
    | .error e=>.error e
    | .ok (x,r')=>match r' with
     | []=>.error 20
     | t'::r''=>if isS t' 41=true then .ok (x,r'') else .error 20
  else .error 20
def facS (o:Option (List Tok→PRes)) (b:Bool) (ts:List Tok):PRes :=
 match facH o ts with
 | .error e=>.error e
 | .ok (x,r)=>.ok (negB b x,r)
def facN (o:Option (List Tok→PRes)):Bool→List Tok→PRes
 | b,[]=>facS o b []
 | b,t::r=>if isS t 45=true then facN o (!b) r else facS o b (t::r)
def facG (o:Option (List Tok→PRes)) (ts:List Tok):PRes:=facN o false ts
def partL (fac:List Tok→PRes):Nat→Lin→List Tok→PRes
 | 0,x,r=>.ok (x,r)
 | n+1,x,r=>match r with
  | []=>.ok (x,[])
  | t::r'=>if isS t 42=true then match fac r' with
    | .error e=>.error e
    | .ok (y,r'')=>if x.terms≠[]∧y.terms≠[] then .error 21 else if y.terms≠[] then partL fac n (linT y x.num) r'' else partL fac n (linT x y.num) r''
   else .ok (x,t::r')
def partG (fac:List Tok→PRes) (ts:List Tok):PRes :=
 match fac ts with
 | .error e=>.error e
 | .ok (x,r)=>partL fac r.length x r
def sumL (part:List Tok→PRes):Nat→Lin→List Tok→PRes
 | 0,x,r=>.ok (x,r)
 | n+1,x,r=>match r with
  | []=>.ok (x,[])
  | t::r'=>if isS t 43=true then match part r' with
    | .error e=>.error e
    | .ok (y,r'')=>sumL part n (linA x y) r''
   else if isS t 45=true then match part r' with
    | .error e=>.error e
    | .ok (y,r'')=>sumL part n (linA x (linT y 4294967295)) r''
   else .ok (x,t::r')
def sumG (part:List Tok→PRes) (ts:List Tok):PRes :=
 match part ts with
 | .error e=>.error e
 | .ok (x,r)=>sumL part r.length x r
def sumD:Nat→List Tok→PRes
 | 0=>sumG (partG (facG none))
 | k+1=>sumG (partG (facG (some (sumD k))))
def parseX (ts:List Tok):Except Nat Lin :=
 match sumD 32 ts with
 | .error e=>.error e
 | .ok (x,r)=>if r=[] then .ok x else .error 20
structure Good (x:Lin):Prop where
 nf:Nf x.terms
 legal:∀ t,t∈x.terms→legalL t.1.data.toList=true
 num:x.num<4294967296
theorem legal_size {s:ByteArray} (h:legalL s.data.toList=true):s.size≤32:=by
 unfold legalL at h
 simp only [Bool.and_eq_true,decide_eq_true_eq] at h
 have:s.data.toList.length=s.size:=by simp
 omega
theorem Good.size {x:Lin} (g:Good x):∀ t,t∈x.terms→t.1.size≤maxLen:=fun t ht=>by
 have:=legal_size (g.legal t ht)
 unfold maxLen; omega
theorem Good.z:Good linZ:=⟨Nf.nil,by simp [linZ],by simp [linZ]⟩
theorem Good.T {x:Lin} (g:Good x) (n:Nat):Good (linT x n) :=
 ⟨timesN_nf g.nf,fun t ht=>by obtain ⟨p,hp,e⟩:=mem_timesN ht; rw [← e]; exact g.legal p hp,Nat.mod_lt _ (by decide)⟩
theorem Good.A {x y:Lin} (g:Good x) (k:Good y):Good (linA x y) :=
 ⟨addM_nf g.nf k.nf,fun t ht=>by
  rcases mem_addM ht with ⟨p,hp,e⟩ | ⟨p,hp,e⟩
  ·rw [← e]; exact g.legal p hp
  ·rw [← e]; exact k.legal p hp,Nat.mod_lt _ (by decide)⟩
theorem Good.neg {x:Lin} (g:Good x) (b:Bool):Good (negB b x):=by
 unfold negB
 split
 ·exact g.T _
 ·exact g
theorem timesN_one {l:Tms} (h:Nf l):timesN 1 l=l :=
 Nf.uniq (timesN_nf h) h fun s=>by rw [cf_timesN,Nat.mul_one]
theorem linT_one {x:Lin} (g:Good x):linT x 1=x:=by
 unfold linT
 rw [timesN_one g.nf,Nat.mul_one,Nat.mod_eq_of_lt g.num]
structure WfT (t:Tok):Prop where
 num:t.num<4294967296
 name:t.kind=1→t.num=0∧legalL t.text.data.toList=!(regL t.text.data.toList).2.2
def Wf (ts:List Tok):Prop:=∀ t,t∈ts→WfT t
theorem Wf.suffix {r ts:List Tok} (w:Wf ts) (h:r <:+ ts):Wf r:=fun t ht=>w t (h.subset ht)
theorem Wf.tail {t:Tok} {r:List Tok} (w:Wf (t::r)):Wf r:=fun u hu=>w u (List.mem_cons_of_mem _ hu)
def Fine (ts:List Tok):PRes→Prop
 | .error e=>e=20∨e=21
 | .ok (x,r)=>Good x∧r <:+ ts∧r.length<ts.length∧x.terms.length+r.length≤ts.length
theorem good_named {s:ByteArray} (h:legalL s.data.toList=true):Good ⟨[(s,1)],0⟩ :=
 ⟨⟨by simp,by simp⟩,by simpa using h,by simp⟩
theorem facH_fine {o:Option (List Tok→PRes)} (ho:∀ f,o=some f→∀ ts,Wf ts→Fine ts (f ts)) {ts:List Tok} (w:Wf ts):Fine ts (facH o ts):=by
 unfold facH
 cases ts with
 | nil=>exact .inl rfl
 | cons t r =>
  simp only
  split
  ·rename_i h1
   split
   ·exact .inl rfl
   ·rename_i h2
    have h3:=((w t (List.mem_cons_self ..)).name h1).2
    rw [Bool.not_eq_true] at h2
    rw [h2] at h3
    exact ⟨good_named h3,List.suffix_cons _ _,by simp,by simp; omega⟩
  ·split
   ·exact ⟨⟨Nf.nil,by simp,(w t (List.mem_cons_self ..)).num⟩,List.suffix_cons _ _,by simp,by simp⟩
   ·split
    ·cases o with
     | none=>exact .inr rfl
     | some f =>
      simp only
      have hf:=ho f rfl r w.tail
      revert hf
      cases f r with
      | error e=>exact id
      | ok q =>
       obtain ⟨x,r'⟩:=q
       rintro ⟨g,s,l,n⟩
       simp only
       cases r' with
       | nil=>exact .inl rfl
       | cons t' r'' =>
        simp only
        split
        ·refine ⟨g,((List.suffix_cons _ _).trans s).trans (List.suffix_cons _ _),?_,?_⟩
         ·simp only [List.length_cons] at l ⊢; omega
         ·simp only [List.length_cons] at n ⊢; omega
        ·exact .inl rfl
    ·exact .inl rfl
theorem negB_length (b:Bool) (x:Lin):(negB b x).terms.length≤x.terms.length:=by
 unfold negB
 split
 ·exact timesN_length _ _
 ·exact Nat.le_refl _
theorem facS_fine {o:Option (List Tok→PRes)} (ho:∀ f,o=some f→∀ ts,Wf ts→Fine ts (f ts)) {ts:List Tok} (w:Wf ts) (b:Bool):Fine ts (facS o b ts):=by
 unfold facS
 have:=facH_fine ho w
 revert this
 cases facH o ts with
 | error e=>exact id
 | ok q =>
  obtain ⟨x,r⟩:=q
  rintro ⟨g,s,l,n⟩
  have:=negB_length b x
  exact ⟨g.neg b,s,l,by omega⟩
theorem Fine.cons {t:Tok} {r:List Tok} {q:PRes} (h:Fine r q):Fine (t::r) q:=by
 cases q with
 | error e=>exact h
 | ok q =>
  obtain ⟨g,s,l,n⟩:=h
  exact ⟨g,s.trans (List.suffix_cons _ _),by simp only [List.length_cons]; omega,by simp only [List.length_cons]; omega⟩
theorem facN_fine {o:Option (List Tok→PRes)} (ho:∀ f,o=some f→∀ ts,Wf ts→Fine ts (f ts)):∀ {ts:List Tok} (b:Bool),Wf ts→Fine ts (facN o b ts)
 | [],b,w=>by unfold facN; exact facS_fine ho w b
 | t::r,b,w=>by
  unfold facN
  split
  ·exact (facN_fine ho _ w.tail).cons
  ·exact facS_fine ho w b
theorem facG_fine {o:Option (List Tok→PRes)} (ho:∀ f,o=some f→∀ ts,Wf ts→Fine ts (f ts)) (ts:List Tok) (w:Wf ts):Fine ts (facG o ts):=facN_fine ho _ w
def FineL (m:Nat) (ts:List Tok):PRes→Prop
 | .error e=>e=20∨e=21
 | .ok (x,r)=>Good x∧r <:+ ts∧x.terms.length+r.length≤m
theorem partL_fine {fac:List Tok→PRes} (hf:∀ ts,Wf ts→Fine ts (fac ts)):∀ (n:Nat) {x:Lin} {r:List Tok},Good x→Wf r→FineL (x.terms.length+r.length) r (partL fac n x r)
 | 0,x,r,g,w=>⟨g,List.suffix_refl _,Nat.le_refl _⟩
 | n+1,x,[],g,w=>⟨g,List.suffix_refl _,Nat.le_refl _⟩
 | n+1,x,t::r',g,w=>by
  unfold partL
  simp only
  split
  ·have h1:=hf r' w.tail
   revert h1
   cases fac r' with
   | error e=>exact id
   | ok q =>
    obtain ⟨y,r''⟩:=q
    rintro ⟨k,s,l,n1⟩
    simp only
    have hs:=s.trans (List.suffix_cons t _)
    split
    ·exact .inr rfl
    ·split
     ·have h2:=partL_fine hf n (k.T x.num) (w.suffix hs)
      revert h2
      have:=timesN_length x.num y.terms
      cases partL fac n (linT y x.num) r'' with
      | error e=>exact id
      | ok q =>
       rintro ⟨a,b,c⟩
       refine ⟨a,b.trans hs,?_⟩
       simp only [linT,List.length_cons] at c ⊢
       omega
     ·have h2:=partL_fine hf n (g.T y.num) (w.suffix hs)
      revert h2
      have:=timesN_length y.num x.terms
      cases partL fac n (linT x y.num) r'' with
      | error e=>exact id
      | ok q =>
       rintro ⟨a,b,c⟩
       refine ⟨a,b.trans hs,?_⟩
       simp only [linT,List.length_cons] at c ⊢
       omega
  ·exact ⟨g,List.suffix_refl _,Nat.le_refl _⟩
theorem partG_fine {fac:List Tok→PRes} (hf:∀ ts,Wf ts→Fine ts (fac ts)) (ts:List Tok) (w:Wf ts):Fine ts (partG fac ts):=by
 unfold partG
 have h1:=hf ts w
 revert h1
 cases fac ts with
 | error e=>exact id
 | ok q =>
  obtain ⟨x,r⟩:=q
  rintro ⟨g,s,l,n⟩
  have h2:=partL_fine hf r.length g (w.suffix s)
  revert h2
  simp only
  cases partL fac r.length x r with
  | error e=>exact id
  | ok q =>
   rintro ⟨a,b,c⟩
   exact ⟨a,b.trans s,by have:=b.length_le; omega,by omega⟩
theorem sumL_fine {part:List Tok→PRes} (hf:∀ ts,Wf ts→Fine ts (part ts)):∀ (n:Nat) {x:Lin} {r:List Tok},Good x→Wf r→FineL (x.terms.length+r.length) r (sumL part n x r)
 | 0,x,r,g,w=>⟨g,List.suffix_refl _,Nat.le_refl _⟩
 | n+1,x,[],g,w=>⟨g,List.suffix_refl _,Nat.le_refl _⟩
 | n+1,x,t::r',g,w=>by
  unfold sumL
  simp only
  split
  ·have h1:=hf r' w.tail
   revert h1
   cases part r' with
   | error e=>exact id
   | ok q =>
    obtain ⟨y,r''⟩:=q
    rintro ⟨k,s,l,n1⟩
    simp only
    have hs:=s.trans (List.suffix_cons t _)
    have h2:=sumL_fine hf n (g.A k) (w.suffix hs)
    revert h2
    have:=addM_length x.terms y.terms
    cases sumL part n (linA x y) r'' with
    | error e=>exact id
    | ok q =>
     rintro ⟨a,b,c⟩
     refine ⟨a,b.trans hs,?_⟩
     simp only [linA,List.length_cons] at c ⊢
     omega
  ·split
   ·have h1:=hf r' w.tail
    revert h1
    cases part r' with
    | error e=>exact id
    | ok q =>
     obtain ⟨y,r''⟩:=q
     rintro ⟨k,s,l,n1⟩
     simp only
     have hs:=s.trans (List.suffix_cons t _)
     have h2:=sumL_fine hf n (g.A (k.T 4294967295)) (w.suffix hs)
     revert h2
     have:=addM_length x.terms (timesN 4294967295 y.terms)
     have:=timesN_length 4294967295 y.terms
     cases sumL part n (linA x (linT y 4294967295)) r'' with
     | error e=>exact id
     | ok q =>
      rintro ⟨a,b,c⟩
      refine ⟨a,b.trans hs,?_⟩
      simp only [linA,linT,List.length_cons] at c ⊢
      omega
   ·exact ⟨g,List.suffix_refl _,Nat.le_refl _⟩
theorem sumG_fine {part:List Tok→PRes} (hf:∀ ts,Wf ts→Fine ts (part ts)) (ts:List Tok) (w:Wf ts):Fine ts (sumG part ts):=by
 unfold sumG
 have h1:=hf ts w
 revert h1
 cases part ts with
 | error e=>exact id
 | ok q =>
  obtain ⟨x,r⟩:=q
  rintro ⟨g,s,l,n⟩
  have h2:=sumL_fine hf r.length g (w.suffix s)
  revert h2
  simp only
  cases sumL part r.length x r with
  | error e=>exact id
  | ok q =>
   rintro ⟨a,b,c⟩
   exact ⟨a,b.trans s,by have:=b.length_le; omega,by omega⟩
theorem sumD_fine:∀ (k:Nat) (ts:List Tok),Wf ts→Fine ts (sumD k ts)
 | 0,ts,w=>sumG_fine (partG_fine (facG_fine (by intro f hf; cases hf))) ts w
 | k+1,ts,w=>sumG_fine (partG_fine (facG_fine (by rintro f hf; cases hf; exact sumD_fine k))) ts w
def PB (h:Hp) (A:Nat) (ts:List Tok) (d:Int) (e:Nat):Prop :=
 ∃ p l c,Box h A 261 [.slice p l c,.int .i64 d,.int .i64 (e:Int)]∧Vw h p l c ts∧∀ i,i∈blkOf p→i<A
theorem PB.keep {ws:List Nat} {h h':Hp} {A:Nat} {ts:List Tok} {d:Int} {e:Nat} (b:PB h A ts d e) (k:Ch ws h h') (hw:∀ i,i∈ws→A<i):PB h' A ts d e:=by
 obtain ⟨p,l,c,b,v,hp⟩:=b
 exact ⟨p,l,c,b.keep k (fun hm=>by have:=hw _ hm; omega),v.keep k (fun i hi hm=>by have:=hw _ hm; have:=hp _ hi; omega),hp⟩
theorem PB.lt {h:Hp} {A:Nat} {ts:List Tok} {d:Int} {e:Nat} (b:PB h A ts d e):A<h.size:=by
 obtain ⟨p,l,c,b,v,hp⟩:=b
 exact b.lt
abbrev ptr (a:Nat):Value:=.pointer (some ⟨a,0,none⟩)
structure Cl (h:Hp) (A a3 a4 a5 a6:Nat):Prop where
 b3:Box h a3 259 [ptr A]
 b4:Box h a4 262 [.func (.func 158) #[] #[ptr a6,ptr a3]]
 b5:Box h a5 262 [.func (.func 152) #[] #[ptr a3,ptr a4]]
 b6:Box h a6 262 [.func (.func 157) #[] #[ptr a5,ptr a3]]
 n3:A<a3
 n4:A<a4
 n5:A<a5
 n6:A<a6
theorem Cl.lt {h:Hp} {A a3 a4 a5 a6:Nat} (c:Cl h A a3 a4 a5 a6):a3<h.size∧a4<h.size∧a5<h.size∧a6<h.size:=⟨c.b3.lt,c.b4.lt,c.b5.lt,c.b6.lt⟩
theorem Cl.keep {ws:List Nat} {h h':Hp} {A a3 a4 a5 a6:Nat} (c:Cl h A a3 a4 a5 a6) (k:Ch ws h h') (hw:∀ i,i∈ws→i=A∨h.size≤i):Cl h' A a3 a4 a5 a6:=by
 have h3:=c.b3.lt
 have h4:=c.b4.lt
 have h5:=c.b5.lt
 have h6:=c.b6.lt
 have:=c.n3
 have:=c.n4
 have:=c.n5
 have:=c.n6
 exact ⟨c.b3.keep k (fun hm=>by have:=hw _ hm; omega),c.b4.keep k (fun hm=>by have:=hw _ hm; omega),c.b5.keep k (fun hm=>by have:=hw _ hm; omega),c.b6.keep k (fun hm=>by have:=hw _ hm; omega),by omega,by omega,by omega,by omega⟩
def signB (e:Nat) (ts:List Tok) (c:UInt8):Bool:=decide (e=0) && match ts with
 | []=>false
 | t::_=>isS t c
theorem tok_cells {h:Hp} {a:Addr} {t:Tok} (hc:cellsAt h (a.add (0*4)) 0 (enc t)):cellsAt h a 0 [.int .i64 (t.kind:Int)]∧cellsAt h (a.add 1) 0 [.string t.text]∧cellsAt h a 0 (enc t):=by
 rw [show a.add (0*4)=a by simp [Addr.add]] at hc
 obtain ⟨h1,h2,h3⟩:=hc
 exact ⟨⟨h1,trivial⟩,⟨by rw [add_add]; exact h2,trivial⟩,h1,h2,h3⟩
theorem sign79_hc {h:Hp} {A:Nat} {ts:List Tok} {d:Int} {e:Nat} (b:PB h A ts d e) (c:UInt8) :
  HC Tryz.prog 153 #[ptr A,.string ⟨#[c]⟩] h fun v h'=>v=.bool (signB e ts c)∧Ch [A] h h'∧h'.size=h.size∧PB h' A (if signB e ts c=true then ts.tail else ts) d e:=by
 obtain ⟨p,l,cc,b,v,hp⟩:=b
 refine hcr_of (args:=[ptr A,.string ⟨#[c]⟩]) mixed Tryz.func153 (by kernel_rfl) (t_expr_parser__sign_eq (some ⟨A,0,none⟩) ⟨#[c]⟩) ?_
 have no:signB e ts c=false→T.ret (.bool false) [] (fun v h'=>v=.bool (signB e ts c)∧Ch [A] h h'∧h'.size=h.size∧PB h' A (if signB e ts c=true then ts.tail else ts) d e) h:=by
  intro hn
  refine ⟨by rw [hn],Ch.refl _ _,rfl,?_⟩
  rw [if_neg (by rw [hn]; simp)]
  exact ⟨p,l,cc,b,v,hp⟩
 unfold t_expr_parser__sign
 refine osome_mk rfl ?_
 rw [add_box]
 refine loads_box b ((e:Int),()) rfl ?_
 dsimp only [flat,unc,unc1,nA,cA]
 have hlen:=v.len
 have hcap:=v.cap
 refine cond_mk (fun g1=>?_) (fun g1=>?_)
 ·have g1:¬ e=0:=by simpa using g1
  refine no ?_
  unfold signB
  rw [decide_eq_false g1]
  rfl
 ·have g1:e=0:=by simpa using g1
  subst g1
  refine osome_mk rfl (loads_box b ((p,l,cc),()) rfl ?_)
  dsimp only [flat,unc,unc1,nA,cA]
  refine cond_mk (fun g2=>?_) (fun g2=>?_)
  ·have g2:l=0:=by simpa using g2
   have:ts=[]:=List.length_eq_zero_iff.1 (by omega)
   subst this
   exact no rfl
  ·have g2:¬ l=0:=by simpa using g2
   cases ts with
   | nil=>simp at hlen; omega
   | cons t r =>
    obtain ⟨a,rfl,hc⟩:=v.cells 0 (by simp)
    obtain ⟨c1,c2,c3⟩:=tok_cells (t:=t) hc
    refine osome_mk rfl (loads_box b ((some a,l,cc),()) rfl ?_)
    dsimp only [flat,unc,unc1,nA,cA]
    refine need_of ⟨by omega,by omega⟩ (osome_mk rfl (loads_of ((t.kind:Int),()) c1 ?_))
    dsimp only [flat,unc,unc1,nA,cA]
    refine cond_mk (fun g3=>?_) (fun g3=>?_)
    ·have g3:¬ (t.kind:Int)=3:=by simpa using g3
     refine no ?_
     have g4:¬ t.kind=3:=by omega
     simp [signB,isS,g4]
    ·have g3:(t.kind:Int)=3:=by simpa using g3
     refine osome_mk rfl (loads_box b ((some a,l,cc),()) rfl ?_)
     dsimp only [flat,unc,unc1,nA,cA]
     refine need_of ⟨by omega,by omega⟩ (osome_mk rfl (loads_of (t.text,()) c2 ?_))
     dsimp only [flat,unc,unc1,nA,cA]
     have e0:signB 0 (t::r) c=(ByteArray.toList t.text==ByteArray.toList ⟨#[c]⟩):=by
      show (true && isS t c)=_
      rw [← isS_val,g3]
      rfl
     refine cond_mk (fun g4=>?_) (fun g4=>?_)
     ·refine no ?_
      rw [e0]
      simpa using g4
     ·have g4:signB 0 (t::r) c=true:=by
       rw [e0]
       simpa using g4
      refine osome_mk rfl (loads_box b ((some a,l,cc),()) rfl ?_)
      dsimp only [flat,unc,unc1,nA,cA]
      refine need_of ⟨by omega,by omega,by omega⟩ (osome_mk rfl ?_)
      refine stores_of b rfl (by simp) ?_
      intro h1 b1 k1 z1
      rw [g4]
      refine ⟨rfl,k1,z1,?_⟩
      rw [if_pos rfl]
      refine ⟨_,_,_,b1,((v.drop (k:=1) (by omega)).keep k1 ?_),?_⟩
      ·intro i hi hm
       rw [blkOf_if] at hi
       rw [List.mem_singleton] at hm
       have:=hp _ hi
       omega
      ·intro i hi
       exact hp _ (by have:=blkOf_if (some a) cc 1 4; rw [← this]; exact hi)
theorem refuse80_hc {h:Hp} {A:Nat} {ts:List Tok} {d:Int} {e:Nat} (b:PB h A ts d e) (w:Nat) :
  HC Tryz.prog 154 #[ptr A,.int .i64 (w:Int)] h fun v h'=>v=.tuple #[]∧Ch [A] h h'∧h'.size=h.size∧PB h' A ts d (if e=0 then w else e):=by
 obtain ⟨p,l,cc,b,v,hp⟩:=b
 refine hcr_of (args:=[ptr A,.int .i64 (w:Int)]) mixed Tryz.func154 (by kernel_rfl) (t_expr_parser__refuse_eq (some ⟨A,0,none⟩) w) ?_
 unfold t_expr_parser__refuse
 refine osome_mk rfl ?_
 rw [add_box]
 refine loads_box b ((e:Int),()) rfl ?_
 dsimp only [flat,unc,unc1,nA,cA]
 refine cond_mk (fun g1=>?_) (fun g1=>?_)
 ·have g1:e=0:=by simpa using g1
  refine osome_mk rfl ?_
  rw [add_box]
  refine stores_of b rfl (by simp) ?_
  intro h1 b1 k1 z1
  refine ⟨rfl,k1,z1,p,l,cc,?_,v.keep k1 ?_,hp⟩
  ·rw [if_pos g1]; exact b1
  ·intro i hi hm
   rw [List.mem_singleton] at hm
   have:=hp _ hi
   omega
 ·have g1:¬ e=0:=by simpa using g1
  exact ⟨rfl,Ch.refl _ _,rfl,p,l,cc,by rw [if_neg g1]; exact b,v,hp⟩
theorem named_hc (s:ByteArray) (h:Hp):HC Tryz.prog 155 #[.string s] h fun w h'=>Ext h h'∧∃ p l c,w=linV p l c ⟨[(s,1)],0⟩∧SL h' h.size 109 2 p l c ([(s,1)].map encT):=by
 refine hcr_of (args:=[.string s]) mixed Tryz.func155 (by kernel_rfl) (t_expr_Named_eq s) ?_
 unfold t_expr_Named
 refine newB ?_
 intro h1 b1 e1 z1
 refine lit_of (cells:=[.string s,.int .u32 1]) und67 termZ (by decide) (by decide) (by kernel_rfl) ?_
 intro h2 b2 e2 z2
 refine stores_of (b1.keep e2 (by simp)) rfl (by simp) ?_
 intro h3 b3 k3 z3
 have b3:Box h3 h.size 94 [.slice (some ⟨h1.size,0,none⟩) 1 1,.int .u32 0]:=b3
 refine loads_box b3 ((some ⟨h1.size,0,none⟩,1,1),(0:Int),()) rfl ?_
 refine ⟨Ch.trans (e1.trans e2) k3 (fun j hj hl=>by simp at hj; omega),some ⟨h1.size,0,none⟩,1,1,rfl,rfl,by simp [encT],h1.size,[],[],rfl,by omega,by omega,?_,rfl⟩
 exact b2.keep k3 (by simp; omega)
def PostR (n:Nat) (d:Int) (x:Lin) (ts':List Tok) (d':Int) (e':Nat):PRes→Prop
 | .error e=>e'=e∧e≠0∧x.terms.length≤n
 | .ok (y,r)=>e'=0∧x=y∧ts'=r∧d'=d
def ResP (h:Hp) (A:Nat) (n:Nat) (d:Int) (res:PRes) (v:Value) (h':Hp):Prop :=
 Ch [A] h h'∧∃ x p l c ts' d' e',v=linV p l c x∧SL h' h.size 109 2 p l c (x.terms.map encT)∧Good x∧PB h' A ts' d' e'∧PostR n d x ts' d' e' res
theorem hb29:hasBody Tryz.prog 158=true:=by kernel_rfl
def FacJ (h:Hp) (A A1 A21:Nat) (n:Nat) (d:Int) (res:PRes) (h':Hp):Prop :=
 Ch [A] h h'∧Box h' A1 94 [.slice none 0 0,.int .u32 0]∧∃ x p l c ts' d' e',Box h' A21 94 [.slice p l c,.int .u32 (x.num:Int)]∧SL h' h.size 109 2 p l c (x.terms.map encT)∧Good x∧PB h' A ts' d' e'∧PostR n d x ts' d' e' res
theorem Cl.keepA {ws:List Nat} {h h':Hp} {A a3 a4 a5 a6:Nat} (c:Cl h A a3 a4 a5 a6) (k:Ch ws h h') (hw:∀ i,i∈ws→i=A∨(a3<i∧a4<i∧a5<i∧a6<i)):Cl h' A a3 a4 a5 a6:=by
 have:=c.n3
 have:=c.n4
 have:=c.n5
 have:=c.n6
 exact ⟨c.b3.keep k (fun hm=>by have:=hw _ hm; omega),c.b4.keep k (fun hm=>by have:=hw _ hm; omega),c.b5.keep k (fun hm=>by have:=hw _ hm; omega),c.b6.keep k (fun hm=>by have:=hw _ hm; omega),by omega,by omega,by omega,by omega⟩
def negV (b:Bool):Nat:=if b=true then 4294967295 else 1
theorem negV_wrap (b:Bool):IntKind.wrap .u32 (0-((negV b:Nat):Int))=((negV (!b):Nat):Int):=by cases b <;> decide
theorem negV_lin {x:Lin} (g:Good x) (b:Bool):linTimes x (negV b)=negB b x:=by
 rw [linTimes_eq g.nf]
 unfold negV negB
 cases b
 ·exact linT_one g
 ·rfl
theorem SL.vwT' {h:Hp} {b:Nat} {e:TypeId} {p:Option Addr} {l c:Nat} {us:Tms} (s:SL h b e 2 p l c (us.map encT)):∀ i,i∈blkOf p→i<h.size:=fun i hi=>(s.blk hi).2
theorem wrap_small {d:Int} (h:-1000≤d) (k:d≤1000):IntKind.wrap .i64 d=d:=wrap_i64 (by omega) (by omega)
theorem fac_hc {A a3 a4 a5 a6 : Nat} {o : Option (List Tok → PRes)} {d : Nat} (hd : d ≤ 32)
    (ho : match o with
      | none => d = 32
      | some f => d < 32 ∧ ∀ h ts, Cl h A a3 a4 a5 a6 → PB h A ts (d + 1 : Nat) 0 → Wf ts → ts.length ≤ 2 ^ 40 → HC Tryz.prog 158 #[ptr a6, ptr a3] h (ResP h A ts.length (d + 1 : Nat) (f ts)))
    (hfine : ∀ f, o = some f → ∀ ts, Wf ts → Fine ts (f ts))
    {h : Hp} {ts : List Tok} (cl : Cl h A a3 a4 a5 a6) (pb : PB h A ts d 0) (w : Wf ts) (hts : ts.length ≤ 2 ^ 40) :
    HC Tryz.prog 152 #[ptr a3, ptr a4] h (ResP h A ts.length d (facG o ts)) := by
  refine hcr_of (args := [ptr a3, ptr a4]) mixed Tryz.func152 (by kernel_rfl) (t_expr_Parse_1_factor_eq ⟨a3, 0, none⟩ ⟨a4, 0, none⟩) ?_
  unfold t_expr_Parse_1_factor
  have hA := pb.lt
  have hcl := cl.lt
  refine newB ?_
  intro h1 b1 e1 z1
  refine loop_of (cs := [(false, [.int .u32])]) (fun y m h' => ∃ (b : Bool) (us : List Tok), y.1 = ((negV b : Nat) : Int) ∧ facG o ts = facN o b us ∧ Ch [A] h1 h' ∧ PB h' A us d 0 ∧ us <:+ ts ∧ m = us.length) ((1 : Int), ()) ts.length rfl
    ⟨false, ts, rfl, rfl, Ch.refl _ _, pb.keep e1 (by simp), List.suffix_refl _, rfl⟩ ?_
  rintro ⟨n2, ⟨⟩⟩ m h2 ⟨b, us, hn, hg, k2, pb2, hsuf, rfl⟩
  simp only at hn
  subst hn
  dsimp only [flat, unc, unc1, nA, cA]
  have hz2 := k2.size
  have cl1 := cl.keep e1 (by simp)
  have cl2 := cl1.keep k2 (by simp)
  have b12 := b1.keep k2 (by simp; omega)
  have k02 : Ch [A] h h2 := Ch.trans (e1.mono (by simp)) k2 (fun j hj _ => hj)
  have hus := hsuf.length_le
  have wus := w.suffix hsuf
  refine loads_box cl2.b3 (some ⟨A, 0, none⟩, ()) rfl ?_
  dsimp only [flat, unc, unc1, nA, cA]
  refine call_of (sign79_hc pb2 45) ?_
  rintro _ h3 ⟨rfl, k3, z3, pb3⟩
  refine ⟨(signB 0 us 45, ()), rfl, ?_⟩
  dsimp only [flat, unc, unc1, nA, cA]
  have k03 : Ch [A] h h3 := Ch.trans k02 k3 (fun j hj _ => hj)
  have cl3 := cl2.keep k3 (by simp)
  have b13 := b12.keep k3 (by simp; omega)
  refine cond_mk (fun g1 => ?_) (fun g1 => ?_)
  · rw [if_pos g1] at pb3
    cases us with
    | nil => cases g1
    | cons t r =>
      have g1 : isS t 45 = true := g1
      refine again_mk (cs := [(false, [.int .u32])]) (((negV (!b) : Nat) : Int), ()) r.length rfl (by simp) (congrArg (fun z => [Value.int .u32 z]) (negV_wrap b)) ⟨!b, r, rfl, ?_, Ch.trans k2 k3 (fun j hj _ => hj), pb3, (List.suffix_cons _ _).trans hsuf, rfl⟩
      rw [hg]
      show (if isS t 45 = true then facN o (!b) r else facS o b (t :: r)) = _
      rw [if_pos g1]
  · rw [if_neg (by rw [g1]; simp)] at pb3
    have hfs : facG o ts = facS o b us := by
      rw [hg]
      cases us with
      | nil => rfl
      | cons t r =>
        have g1 : isS t 45 = false := g1
        show (if isS t 45 = true then facN o (!b) r else facS o b (t :: r)) = _
        rw [if_neg (by rw [g1]; simp)]
    refine join_of (cs := [(false, [.bool])]) (fun y h' => y.1 = decide (us = []) ∧ h3 = h') ?_ ?_
    · refine loads_box cl3.b3 (some ⟨A, 0, none⟩, ()) rfl ?_
      dsimp only [flat, unc, unc1, nA, cA]
      obtain ⟨p, l, c, bA, v, hp⟩ := pb3
      refine osome_mk rfl ?_
      try rw [add_box]
      refine loads_box bA ((0 : Int), ()) rfl ?_
      dsimp only [flat, unc, unc1, nA, cA]
      refine cond_f rfl ?_
      refine loads_box cl3.b3 (some ⟨A, 0, none⟩, ()) rfl ?_
      dsimp only [flat, unc, unc1, nA, cA]
      refine osome_mk rfl ?_
      refine loads_box bA ((p, l, c), ()) rfl ?_
      dsimp only [flat, unc, unc1, nA, cA]
      refine meet_mk (cs := [(false, [.bool])]) (((l : Int) == 0), ()) rfl rfl ⟨?_, rfl⟩
      have := v.len
      cases us with
      | nil => simp only [List.length_nil] at this; subst this; rfl
      | cons t r =>
        simp only [List.length_cons] at this
        rw [decide_eq_false (by simp)]
        show ((l : Int) == 0) = false
        exact beq_eq_false_iff_ne.2 (by omega)
    · rintro ⟨b5, ⟨⟩⟩ h3' ⟨hb5, rfl⟩
      simp only at hb5
      subst hb5
      dsimp only [flat, unc, unc1, nA, cA]
      refine cond_mk (fun g2 => ?_) (fun g2 => ?_)
      · have g2 : us = [] := of_decide_eq_true g2
        subst g2
        refine loads_box cl3.b3 (some ⟨A, 0, none⟩, ()) rfl ?_
        dsimp only [flat, unc, unc1, nA, cA]
        refine call_of (refuse80_hc pb3 20) ?_
        rintro _ h4 ⟨rfl, k4, z4, pb4⟩
        refine ⟨(), rfl, ?_⟩
        dsimp only [flat, unc, unc1, nA, cA]
        refine stores_of (b13.keep k4 (by simp; omega)) rfl (by simp) ?_
        intro h5 b5 k5 z5
        have b5 : Box h5 h.size 94 [.slice none 0 0, .int .u32 0] := b5
        refine loads_box b5 ((none, 0, 0), (0 : Int), ()) rfl ?_
        rw [hfs]
        exact ⟨Ch.trans (Ch.trans k03 k4 (fun j hj _ => hj)) k5 (fun j hj hl => by simp at hj; omega), linZ, none, 0, 0, [], d, 20, rfl, SL.nil _ _ _ _, Good.z, pb4.keep k5 (by simp; omega), rfl, by simp, by simp [linZ]⟩
      · have g2 : us ≠ [] := of_decide_eq_false g2
        obtain ⟨t, r, rfl⟩ := List.exists_cons_of_ne_nil g2
        have wt := wus t (List.mem_cons_self ..)
        simp only [List.length_cons] at hus
        refine loads_box cl3.b3 (some ⟨A, 0, none⟩, ()) rfl ?_
        dsimp only [flat, unc, unc1, nA, cA]
        obtain ⟨p, l, c, bA, v, hp⟩ := pb3
        have hlen := v.len
        have hcap := v.cap
        simp only [List.length_cons] at hlen
        obtain ⟨a, rfl, hc⟩ := v.cells 0 (by simp)
        obtain ⟨c1, c2, c3⟩ := tok_cells (t := t) hc
        refine osome_mk rfl (loads_box bA ((some a, l, c), ()) rfl ?_)
        dsimp only [flat, unc, unc1, nA, cA]
        refine need_of ⟨by omega, by omega⟩ (osome_mk rfl (loads_of ((t.kind : Int), t.text, (t.num : Int), (t.at_ : Int), ()) c3 ?_))
        dsimp only [flat, unc, unc1, nA, cA]
        refine newB ?_
        intro h4 b4 e4 z4
        refine stores_of b4 rfl (by simp) ?_
        intro h5 b5 k5 z5
        have b5 : Box h5 h3.size 178 (enc t) := b5
        have hz3 := k03.size
        have k35 : Ext h3 h5 := Ch.trans e4 k5 (fun j hj hl => by simp at hj; omega)
        try rw [add_box]
        refine loads_box b5 (t.text, ()) rfl ?_
        dsimp only [flat, unc, unc1, nA, cA]
        refine call_ibb (register_hc t.text h5) ?_
        refine newB ?_
        intro h6 b6 e6 z6
        have k36 := k35.trans e6
        have k06 : Ch [A] h h6 := Ch.trans k03 k36 (by simp)
        have cl6 := cl3.keep k36 (by simp)
        have b16 := b13.keep k36 (by simp)
        have bt6 := b5.keep e6 (by simp)
        have pb6 : PB h6 A (t :: r) d 0 := PB.keep ⟨some a, l, c, bA, v, hp⟩ k36 (by simp)
        have hh1 : h.size < h3.size := by omega
        have hh6 : h5.size < h6.size := by omega
        refine join_of (cs := []) (fun y h' => FacJ h A h.size h5.size ts.length d (facH o (t :: r)) h') ?_ ?_
        · refine join_of (cs := [(false, [.bool])]) (fun y h' => y.1 = (decide (t.kind = 1) && (regL t.text.data.toList).2.2) ∧ h6 = h') ?_ ?_
          · refine loads_box bt6 ((t.kind : Int), ()) rfl ?_
            dsimp only [flat, unc, unc1, nA, cA]
            refine cond_mk (fun g3 => ?_) (fun g3 => ?_)
            · have g3 : (t.kind : Int) = 1 := by simpa using g3
              refine meet_mk (cs := [(false, [.bool])]) ((regL t.text.data.toList).2.2, ()) rfl rfl ⟨?_, rfl⟩
              rw [decide_eq_true (by omega)]
              rfl
            · have g3 : ¬ (t.kind : Int) = 1 := by simpa using g3
              refine meet_mk (cs := [(false, [.bool])]) (false, ()) rfl rfl ⟨?_, rfl⟩
              rw [decide_eq_false (by omega)]
              rfl
          · rintro ⟨b7, ⟨⟩⟩ h6' ⟨hb7, rfl⟩
            simp only at hb7
            subst hb7
            dsimp only [flat, unc, unc1, nA, cA]
            have refuse : ∀ (e : Nat), facH o (t :: r) = .error e → e ≠ 0 → ∀ (hx : Hp) (ts' : List Tok) (d' : Int) (e0 : Nat) (x : Lin) (p' : Option Addr) (l' c' : Nat) (kk : Nat), Ch [A] h hx → Cl hx A a3 a4 a5 a6 → Box hx h.size 94 [.slice none 0 0, .int .u32 0] →
                Box hx h5.size 94 [.slice p' l' c', .int .u32 (x.num : Int)] → SL hx h.size 109 2 p' l' c' (x.terms.map encT) → Good x → x.terms.length ≤ ts.length → PB hx A ts' d' e0 → (if e0 = 0 then kk else e0) = e → ∀ (L : Lp) (K : Value → Hp → Prop), L[1]? = some (fun vs h' => ∃ y : HVs (flat []), vs = parts [] (hvs _ y) ∧ FacJ h A h.size h5.size ts.length d (facH o (t :: r)) h') →
                (T.loads ⟨a3, 0, none⟩ [.pointer 261] fun (p23 : Option Addr) => T.call Tryz.prog 154 [.pointer p23, .int .i64 (kk : Int)] true [] (T.again 1 [])) L K hx := by
              intro e he he0 hx ts' d' e0 x p' l' c' kk kx clx b1x b21x sx gx lx pbx hkk L K hL
              refine loads_box clx.b3 (some ⟨A, 0, none⟩, ()) rfl ?_
              dsimp only [flat, unc, unc1, nA, cA]
              refine call_of (refuse80_hc pbx kk) ?_
              rintro _ h7 ⟨rfl, k7, z7, pb7⟩
              refine ⟨(), rfl, ?_⟩
              dsimp only [flat, unc, unc1, nA, cA]
              refine meet_mk (cs := []) () hL rfl ⟨Ch.trans kx k7 (fun j hj _ => hj), b1x.keep k7 (by simp; omega), x, p', l', c', ts', d', _, b21x.keep k7 (by simp; omega), sx.keep' k7 (fun j hj => by have := (sx.blk hj).1; simp; omega), gx, pb7, ?_⟩
              rw [he]
              exact ⟨hkk, he0, lx⟩
            have next : ∀ (x : Lin), facH o (t :: r) = .ok (x, r) → Good x → ∀ (hx : Hp) (p' : Option Addr) (l' c' : Nat), Ch [A] h hx → Cl hx A a3 a4 a5 a6 → Box hx h.size 94 [.slice none 0 0, .int .u32 0] → Box hx h5.size 94 [.slice p' l' c', .int .u32 (x.num : Int)] →
                SL hx h.size 109 2 p' l' c' (x.terms.map encT) → PB hx A (t :: r) d 0 → ∀ (L : Lp) (K : Value → Hp → Prop), L[1]? = some (fun vs h' => ∃ y : HVs (flat []), vs = parts [] (hvs _ y) ∧ FacJ h A h.size h5.size ts.length d (facH o (t :: r)) h') →
                (T.loads ⟨a3, 0, none⟩ [.pointer 261] fun (p31 : Option Addr) => T.loads ⟨a3, 0, none⟩ [.pointer 261] fun (p32 : Option Addr) => T.osome p32 fun (a33 : Addr) => T.loads a33 [.slice 178] fun (p34 : Option Addr) (l35 : Nat) (l36 : Nat) =>
                  T.need (((0 : Int) ≤ (1 : Int)) ∧ (((1 : Int) ≤ (l35 : Int)) ∧ ((l35 : Int) ≤ (l36 : Int)))) <| T.osome p31 fun (a37 : Addr) => T.stores a37 [.slice (if (l36 = 1) then p34 else (Option.map (fun a => Addr.add a 4) p34)) ((Int.toNat (l35 : Int)) - 1) (l36 - 1)] <| T.again 1 []) L K hx := by
              intro x he gx hx p' l' c' kx clx b1x b21x sx pbx L K hL
              obtain ⟨q, m, cq, bQ, vq, hq⟩ := pbx
              have hm := vq.len
              have hmc := vq.cap
              simp only [List.length_cons] at hm
              refine loads_box clx.b3 (some ⟨A, 0, none⟩, ()) rfl ?_
              dsimp only [flat, unc, unc1, nA, cA]
              refine loads_box clx.b3 (some ⟨A, 0, none⟩, ()) rfl ?_
              dsimp only [flat, unc, unc1, nA, cA]
              refine osome_mk rfl (loads_box bQ ((q, m, cq), ()) rfl ?_)
              dsimp only [flat, unc, unc1, nA, cA]
              refine need_of ⟨by omega, by omega, by omega⟩ (osome_mk rfl ?_)
              refine stores_of bQ rfl (by simp) ?_
              intro h7 b7 k7 z7
              refine meet_mk (cs := []) () hL rfl ⟨Ch.trans kx k7 (fun j hj _ => hj), b1x.keep k7 (by simp; omega), x, p', l', c', r, d, 0, b21x.keep k7 (by simp; omega), sx.keep' k7 (fun j hj => by have := (sx.blk hj).1; simp; omega), gx, ?_, ?_⟩
              · refine ⟨_, _, _, b7, ((vq.drop (k := 1) (by omega)).keep k7 ?_), ?_⟩
                · intro i hi hm
                  rw [blkOf_if] at hi
                  rw [List.mem_singleton] at hm
                  have := hq _ hi
                  omega
                · intro i hi
                  exact hq _ (by have := blkOf_if q cq 1 4; rw [← this]; exact hi)
              · rw [he]
                exact ⟨rfl, rfl, rfl, rfl⟩
            have fH : ∀ q, (if t.kind = 1 then if (regL t.text.data.toList).2.2 = true then (.error 20 : PRes) else .ok (⟨[(t.text, 1)], 0⟩, r)
                else if t.kind = 2 then .ok (⟨[], t.num⟩, r)
                else if isS t 40 = true then match o with
                  | none => .error 21
                  | some f => match f r with
                    | .error e => .error e
                    | .ok (x, r') => match r' with
                      | [] => .error 20
                      | t' :: r'' => if isS t' 41 = true then .ok (x, r'') else .error 20
                else .error 20) = q → facH o (t :: r) = q := fun q hq => hq
            refine cond_mk (fun g3 => ?_) (fun g3 => ?_)
            · simp only [Bool.and_eq_true, decide_eq_true_eq] at g3
              exact refuse 20 (fH _ (by rw [if_pos g3.1, if_pos g3.2])) (by omega) h6 (t :: r) d 0 linZ none 0 0 20 k06 cl6 b16 b6 (SL.nil _ _ _ _) Good.z (by simp [linZ]) pb6 rfl _ _ rfl
            · simp only [Bool.and_eq_false_iff, decide_eq_false_iff_not] at g3
              refine loads_box bt6 ((t.kind : Int), ()) rfl ?_
              dsimp only [flat, unc, unc1, nA, cA]
              refine cond_mk (fun g4 => ?_) (fun g4 => ?_)
              · have g4 : t.kind = 1 := by have : (t.kind : Int) = 1 := by simpa using g4
                                           omega
                have g5 : (regL t.text.data.toList).2.2 = false := by
                  rcases g3 with g3 | g3
                  · exact absurd g4 g3
                  · exact g3
                obtain ⟨hn0, hlg⟩ := wt.name g4
                rw [g5] at hlg
                try rw [add_box]
                refine loads_box bt6 (t.text, ()) rfl ?_
                dsimp only [flat, unc, unc1, nA, cA]
                refine call_of (named_hc t.text h6) ?_
                rintro _ h7 ⟨e7, p', l', c', rfl, s7⟩
                refine ⟨((p', l', c'), (0 : Int), ()), rfl, ?_⟩
                dsimp only [flat, unc, unc1, nA, cA]
                refine stores_of (b6.keep e7 (by simp)) rfl (by simp) ?_
                intro h8 b8 k8 z8
                have b8 : Box h8 h5.size 94 [.slice p' l' c', .int .u32 0] := b8
                try rw [add_box]
                refine loads_box b8 ((0 : Int), ()) rfl ?_
                dsimp only [flat, unc, unc1, nA, cA]
                try rw [add_box]
                refine loads_box ((bt6.keep e7 (by simp)).keep k8 (by simp; omega)) ((t.num : Int), ()) rfl ?_
                dsimp only [flat, unc, unc1, nA, cA]
                refine stores_of b8 rfl (by simp) ?_
                intro h9 b9 k9 z9
                have b9 : Box h9 h5.size 94 [.slice p' l' c', .int .u32 (IntKind.wrap .u32 (0 + (t.num : Int)))] := b9
                rw [hn0] at b9
                have k69 : Ch [h5.size] h6 h9 := Ch.trans (Ch.trans (e7.mono (by simp)) k8 (fun j hj _ => hj)) k9 (fun j hj _ => hj)
                have k79 : Ch [h5.size] h7 h9 := Ch.trans k8 k9 (fun j hj _ => hj)
                refine next ⟨[(t.text, 1)], 0⟩ (fH _ (by rw [if_pos g4, if_neg (by rw [g5]; simp)])) (good_named hlg) h9 p' l' c' (Ch.trans k06 k69 (fun j hj hl => by simp at hj; omega)) (cl6.keepA k69 (by simp; omega)) (b16.keep k69 (by simp; omega)) b9 ?_ (pb6.keep k69 (by simp; omega)) _ _ rfl
                exact (s7.keep' k79 (fun j hj => by have := (s7.blk hj).1; simp; omega)).mono (by omega)
              · have g4 : ¬ t.kind = 1 := by have : ¬ (t.kind : Int) = 1 := by simpa using g4
                                             omega
                refine loads_box bt6 ((t.kind : Int), ()) rfl ?_
                dsimp only [flat, unc, unc1, nA, cA]
                refine cond_mk (fun g5 => ?_) (fun g5 => ?_)
                · have g5 : t.kind = 2 := by have : (t.kind : Int) = 2 := by simpa using g5
                                             omega
                  try rw [add_box]
                  refine loads_box b6 ((0 : Int), ()) rfl ?_
                  dsimp only [flat, unc, unc1, nA, cA]
                  try rw [add_box]
                  refine loads_box bt6 ((t.num : Int), ()) rfl ?_
                  dsimp only [flat, unc, unc1, nA, cA]
                  refine stores_of b6 rfl (by simp) ?_
                  intro h9 b9 k9 z9
                  have b9 : Box h9 h5.size 94 [.slice none 0 0, .int .u32 (IntKind.wrap .u32 (0 + (t.num : Int)))] := b9
                  rw [Int.zero_add, wrap_u32 (by omega) (by have := wt.num; omega)] at b9
                  exact next ⟨[], t.num⟩ (fH _ (by rw [if_neg g4, if_pos g5])) ⟨Nf.nil, by simp, wt.num⟩ h9 none 0 0 (Ch.trans k06 k9 (fun j hj hl => by simp at hj; omega)) (cl6.keepA k9 (by simp; omega)) (b16.keep k9 (by simp; omega)) b9 (SL.nil _ _ _ _) (pb6.keep k9 (by simp; omega)) _ _ rfl
                · have g5 : ¬ t.kind = 2 := by have : ¬ (t.kind : Int) = 2 := by simpa using g5
                                               omega
                  refine loads_box cl6.b3 (some ⟨A, 0, none⟩, ()) rfl ?_
                  dsimp only [flat, unc, unc1, nA, cA]
                  refine call_of (sign79_hc pb6 40) ?_
                  rintro _ h7 ⟨rfl, k7, z7, pb7⟩
                  refine ⟨(signB 0 (t :: r) 40, ()), rfl, ?_⟩
                  dsimp only [flat, unc, unc1, nA, cA]
                  have k07 : Ch [A] h h7 := Ch.trans k06 k7 (fun j hj _ => hj)
                  have cl7 := cl6.keep k7 (by simp)
                  have b17 := b16.keep k7 (by simp; omega)
                  have b217 := b6.keep k7 (by simp; omega)
                  refine cond_mk (fun g6 => ?_) (fun g6 => ?_)
                  · rw [if_pos g6] at pb7
                    have g6 : isS t 40 = true := g6
                    have pb7 : PB h7 A r d 0 := pb7
                    obtain ⟨q, m, cq, bQ, vq, hq⟩ := pb7
                    refine loads_box cl7.b3 (some ⟨A, 0, none⟩, ()) rfl ?_
                    dsimp only [flat, unc, unc1, nA, cA]
                    refine osome_mk rfl ?_
                    try rw [add_box]
                    refine loads_box bQ ((d : Int), ()) rfl ?_
                    dsimp only [flat, unc, unc1, nA, cA]
                    refine osome_mk rfl ?_
                    try rw [add_box]
                    refine stores_of bQ rfl (by simp) ?_
                    intro h8 b8 k8 z8
                    have b8 : Box h8 A 261 [.slice q m cq, .int .i64 (IntKind.wrap .i64 ((d : Int) + 1)), .int .i64 (0 : Int)] := b8
                    rw [wrap_small (by omega) (by omega)] at b8
                    have cl8 := cl7.keep k8 (by simp)
                    have b18 := b17.keep k8 (by simp; omega)
                    have b218 := b217.keep k8 (by simp; omega)
                    have k08 : Ch [A] h h8 := Ch.trans k07 k8 (fun j hj _ => hj)
                    have pb8 : PB h8 A r (d + 1 : Nat) 0 := ⟨q, m, cq, b8, vq.keep k8 (fun i hi hm => by rw [List.mem_singleton] at hm; have := hq _ hi; omega), hq⟩
                    refine loads_box cl8.b3 (some ⟨A, 0, none⟩, ()) rfl ?_
                    dsimp only [flat, unc, unc1, nA, cA]
                    refine osome_mk rfl ?_
                    try rw [add_box]
                    refine loads_box b8 (((d : Int) + 1), ()) rfl ?_
                    dsimp only [flat, unc, unc1, nA, cA]
                    refine cond_mk (fun g7 => ?_) (fun g7 => ?_)
                    · have g7 := of_decide_eq_true g7
                      cases o with
                      | some f => simp only at ho; omega
                      | none =>
                        exact refuse 21 (fH _ (by rw [if_neg g4, if_neg g5, if_pos g6])) (by omega) h8 r (d + 1 : Nat) 0 linZ none 0 0 21 k08 cl8 b18 b218 (SL.nil _ _ _ _) Good.z (by simp [linZ]) pb8 rfl _ _ rfl
                    · have g7 := of_decide_eq_false g7
                      cases o with
                      | none => simp only at ho; omega
                      | some f =>
                        simp only at ho
                        obtain ⟨hd', hs⟩ := ho
                        refine loads_box cl8.b4 (.func (.func 158) #[] #[ptr a6, ptr a3], ()) rfl ?_
                        dsimp only [flat, unc, unc1, nA, cA]
                        have wr : Wf r := wus.tail
                        have hff := hfine f rfl r wr
                        have hrl : r.length + 1 ≤ ts.length := hus
                        refine callv_of (cap := [ptr a6, ptr a3]) hb29 rfl (hs h8 r cl8 pb8 wr (by omega)) ?_
                        rintro _ h9 ⟨k9, x, p', l', c', ts', d', e', rfl, s9, gx, pb9, post⟩
                        refine ⟨((p', l', c'), (x.num : Int), ()), rfl, ?_⟩
                        dsimp only [flat, unc, unc1, nA, cA]
                        have cl9 := cl8.keep k9 (by simp)
                        have b19 := b18.keep k9 (by simp; omega)
                        have hz8 := k08.size
                        have hb218 := b218.lt
                        refine stores_of (b218.keep k9 (by simp; omega)) rfl (by simp) ?_
                        intro h10 b10 k10 z10
                        have b10 : Box h10 h5.size 94 [.slice p' l' c', .int .u32 (x.num : Int)] := b10
                        have cl10 := cl9.keepA k10 (by simp; omega)
                        have b110 := b19.keep k10 (by simp; omega)
                        have pb10 := pb9.keep k10 (by simp; omega)
                        have s10 : SL h10 h.size 109 2 p' l' c' (x.terms.map encT) := (s9.keep' k10 (fun j hj => by have := (s9.blk hj).1; simp; omega)).mono hz8
                        have k010 : Ch [A] h h10 := Ch.trans (Ch.trans k08 k9 (fun j hj _ => hj)) k10 (fun j hj hl => by simp at hj; omega)
                        refine loads_box cl10.b3 (some ⟨A, 0, none⟩, ()) rfl ?_
                        dsimp only [flat, unc, unc1, nA, cA]
                        obtain ⟨q2, m2, cq2, bQ2, vq2, hq2⟩ := pb10
                        refine osome_mk rfl ?_
                        try rw [add_box]
                        refine loads_box bQ2 (d', ()) rfl ?_
                        dsimp only [flat, unc, unc1, nA, cA]
                        refine osome_mk rfl ?_
                        try rw [add_box]
                        refine stores_of bQ2 rfl (by simp) ?_
                        intro h11 b11 k11 z11
                        have b11 : Box h11 A 261 [.slice q2 m2 cq2, .int .i64 (IntKind.wrap .i64 (d' - 1)), .int .i64 (e' : Int)] := b11
                        have pb11 : PB h11 A ts' (IntKind.wrap .i64 (d' - 1)) e' := ⟨q2, m2, cq2, b11, vq2.keep k11 (fun i hi hm => by rw [List.mem_singleton] at hm; have := hq2 _ hi; omega), hq2⟩
                        have cl11 := cl10.keep k11 (by simp)
                        refine loads_box cl11.b3 (some ⟨A, 0, none⟩, ()) rfl ?_
                        dsimp only [flat, unc, unc1, nA, cA]
                        refine call_of (sign79_hc pb11 41) ?_
                        rintro _ h12 ⟨rfl, k12, z12, pb12⟩
                        refine ⟨(signB e' ts' 41, ()), rfl, ?_⟩
                        dsimp only [flat, unc, unc1, nA, cA]
                        have k1012 : Ch [A] h10 h12 := Ch.trans k11 k12 (fun j hj _ => hj)
                        have k012 : Ch [A] h h12 := Ch.trans k010 k1012 (fun j hj _ => hj)
                        have cl12 := cl11.keep k12 (by simp)
                        have b112 := b110.keep k1012 (by simp; omega)
                        have b12' := b10.keep k1012 (by simp; omega)
                        have s12 := s10.keep' k1012 (fun j hj => by have := (s10.blk hj).1; simp; omega)
                        refine cond_mk (fun g8 => ?_) (fun g8 => ?_)
                        · have g8 : signB e' ts' 41 = false := by simpa using g8
                          rw [if_neg (by rw [g8]; simp)] at pb12
                          revert post hff
                          cases hfr : f r with
                          | error e =>
                            rintro hff ⟨rfl, he0, hxl⟩
                            exact refuse e' (fH _ (by rw [if_neg g4, if_neg g5, if_pos g6]; simp only [hfr])) he0 h12 ts' _ e' x p' l' c' 20 k012 cl12 b112 b12' s12 gx (by omega) pb12 (by rw [if_neg he0]) _ _ rfl
                          | ok z =>
                            obtain ⟨y, r'⟩ := z
                            rintro ⟨_, _, _, hxl⟩ ⟨rfl, rfl, rfl, rfl⟩
                            refine refuse 20 (fH _ ?_) (by omega) h12 ts' _ 0 x p' l' c' 20 k012 cl12 b112 b12' s12 gx (by omega) pb12 rfl _ _ rfl
                            rw [if_neg g4, if_neg g5, if_pos g6]
                            simp only [hfr]
                            cases ts' with
                            | nil => rfl
                            | cons t' r'' =>
                              have g8 : isS t' 41 = false := g8
                              simp only
                              rw [if_neg (by rw [g8]; simp)]
                        · have g8 : signB e' ts' 41 = true := by simpa using g8
                          rw [if_pos g8] at pb12
                          have he0 : e' = 0 := by
                            unfold signB at g8
                            simp only [Bool.and_eq_true, decide_eq_true_eq] at g8
                            exact g8.1
                          revert post hff
                          cases hfr : f r with
                          | error e =>
                            rintro hff ⟨rfl, he, hxl⟩
                            exact absurd he0 he
                          | ok z =>
                            obtain ⟨y, r'⟩ := z
                            rintro ⟨_, _, _, hxl⟩ ⟨_, rfl, rfl, rfl⟩
                            subst he0
                            cases ts' with
                            | nil => cases g8
                            | cons t' r'' =>
                              have g8 : isS t' 41 = true := g8
                              refine meet_mk (cs := []) () rfl rfl ⟨k012, b112, x, p', l', c', r'', _, 0, b12', s12, gx, pb12, ?_⟩
                              rw [fH (.ok (x, r'')) (by rw [if_neg g4, if_neg g5, if_pos g6]; simp only [hfr]; rw [if_pos g8])]
                              refine ⟨rfl, rfl, rfl, ?_⟩
                              rw [wrap_small (by omega) (by omega)]
                              omega
                  · rw [if_neg (by rw [g6]; simp)] at pb7
                    have g6 : isS t 40 = false := g6
                    exact refuse 20 (fH _ (by rw [if_neg g4, if_neg g5, if_neg (by rw [g6]; simp)])) (by omega) h7 (t :: r) d 0 linZ none 0 0 20 k07 cl7 b17 b217 (SL.nil _ _ _ _) Good.z (by simp [linZ]) pb7 rfl _ _ rfl
        · rintro ⟨⟩ h7 ⟨k7, b17, x, p', l', c', ts', d', e', b217, s7, gx, pb7, post⟩
          dsimp only [flat, unc, unc1, nA, cA]
          have hxl : x.terms.length ≤ ts.length := by
            have hf := facH_fine hfine wus
            revert post hf
            cases facH o (t :: r) with
            | error e => exact fun hp hf => hp.2.2
            | ok q =>
              obtain ⟨y, r'⟩ := q
              rintro ⟨_, rfl, _, _⟩ ⟨_, _, _, hl⟩
              simp only [List.length_cons] at hl
              omega
          refine loads_box b217 ((p', l', c'), (x.num : Int), ()) rfl ?_
          dsimp only [flat, unc, unc1, nA, cA]
          refine call_of (times_hc s7.vwT (by omega) gx.size (negV b)) ?_
          rintro _ h8 ⟨e8, q, m, cq, rfl, s8⟩
          refine ⟨((q, m, cq), ((linTimes x (negV b)).num : Int), ()), rfl, ?_⟩
          dsimp only [flat, unc, unc1, nA, cA]
          refine stores_of (b17.keep e8 (by simp)) rfl (by simp) ?_
          intro h9 b9 k9 z9
          have b9 : Box h9 h.size 94 [.slice q m cq, .int .u32 ((linTimes x (negV b)).num : Int)] := b9
          refine loads_box b9 ((q, m, cq), ((linTimes x (negV b)).num : Int), ()) rfl ?_
          have hz7 := k7.size
          refine ⟨Ch.trans (Ch.trans k7 e8 (by simp)) k9 (fun j hj hl => by simp at hj; omega), linTimes x (negV b), q, m, cq, ts', d', e', rfl, ?_, ?_, ?_, ?_⟩
          · exact (s8.keep' k9 (fun j hj => by have := (s8.blk hj).1; have := b17.lt; simp; omega)).mono hz7
          · rw [negV_lin gx]; exact gx.neg b
          · exact (pb7.keep e8 (by simp)).keep k9 (by simp; omega)
          · rw [hfs, negV_lin gx]
            unfold facS
            revert post
            cases facH o (t :: r) with
            | error e => exact fun ⟨p1, p2, p3⟩ => ⟨p1, p2, Nat.le_trans (negB_length b x) p3⟩
            | ok q =>
              obtain ⟨y, r'⟩ := q
              rintro ⟨p1, rfl, p3, p4⟩
              exact ⟨p1, rfl, p3, p4⟩
end Go.Sx
