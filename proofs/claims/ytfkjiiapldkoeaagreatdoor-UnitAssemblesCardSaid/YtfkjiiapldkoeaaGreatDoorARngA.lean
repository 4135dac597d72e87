/- line.All over heaps: what its iterator hands out, for every loop body. Condition: texts below 2 ^ 31 bytes. -/
import Derived.Test.YtfkjiiapldkoeaaGreatDoorAShelfB
import Derived.RangeFuncNested
import Derived.RangeFuncBound
import Derived.RangeFuncCalls
import Derived.RangeFuncLeaves
import Derived.Shelf.Abstract
import Derived.Shelf.RegionOpen
import Derived.WalkKit
import Derived.OwnWalkIn
import Derived.TacticsInMore
import Derived.LoopNIn
import Derived.LoopIn
set_option linter.all false
set_option maxRecDepth 100000
set_option maxHeartbeats 4000000
namespace Go.Proofs
open Go.RowKit Go.Shelf
attribute [local go_sem] Oper.semAt_some
def Bb (s:ByteArray):ByteArray:=⟨(Lib.cut s.data.toList [10]).1.toArray⟩
def pU (s:ByteArray):ByteArray:=⟨(Lib.cut s.data.toList [10]).2.1.toArray⟩
def bK:Nat->Nat->ByteArray->List (Nat × ByteArray)
 | 0,_,_=>[]
 | f+1,n,s=>if s.size=0 then [] else (n,Bb s)::bK f (n+1) (pU s)
def Gf (x:Nat × ByteArray):Array Value:=#[.int .i64 x.1,.string x.2]
def Bz (l B n0:Nat) (s:ByteArray) (hs:s.size<2^31) (N:Nat) (J Jx:List (Nat × ByteArray)->World->Prop)
  (hcut:∀ t:ByteArray,t.size≠0->(pU t).size<t.size)
  (hY:∀ pre x W,J pre W->pre++[x] <+: bK (s.size+1) 1 s->pre.length<N->YieldAt Fence.wide 5 Tryz.prog l (Gf x) W fun e W' =>
   (e=.returned (.bool true)/\J (pre++[x]) W'/\Below n0 W W')\/(e=.returned (.bool false)/\Jx (pre++[x]) W'))
  (hN:(bK (s.size+1) 1 s).length<=N)
  (hJ:∀ pre W k,J pre W->J pre (W.drewN k))
  (m:Int) (W:World) (hm:W.cell? ⟨2,0,none⟩=some (.int .i64 m)) (hn0:2<n0) (hB:W.cell? ⟨B,0,none⟩=some (.string s)) (h0:J [] W) :
  CallsIn Fence.wide 6 Tryz.prog 62 #[.func (.yield l) #[] #[],.pointer (some ⟨B,0,none⟩)] W fun e W'=>(∃ v,e=.returned v) /\
   ((∃ ys,ys=bK (s.size+1) 1 s/\J ys W')\/(∃ pre,pre <+: bK (s.size+1) 1 s/\Jx pre W')):=by
 refine callsIn_of_wp Tryz.func62 rfl trivial ?_ rfl;simp only [Tryz.ntmps62,List.size_toArray,List.length_cons,List.length_nil,Nat.reduceAdd,Nat.reduceSub,Array.replicate_succ,Array.replicate_zero,List.push_toArray,List.append_toArray,List.nil_append,List.cons_append]
 gi_wp2
 gi_loopw [3,4] (fun vl vn wr=>∃ (pre:List (Nat × ByteArray)) (k f:Nat) (t:ByteArray),vl=.string t/\vn=.int .i64 (k:Int)/\k+t.size<=s.size+1/\1<=k/\t.size<f/\bK (s.size+1) 1 s=pre++bK f k t/\J pre wr/\Below n0 W wr)
  (fun vl _ _=>match vl with | .string t=>t.size | _=>0)
 case atStart=>exact ⟨[],1,s.size+1,s,rfl,rfl,by omega,by omega,by omega,rfl,h0,Below.refl _ _⟩
 case round =>
  obtain ⟨pre,k,f,t,rfl,rfl,hk,hk1,hf,hl,hJs,hb⟩:=hrel
  by_cases h0:t.size=0
  ·have ht:t=⟨#[]⟩:=by
    obtain ⟨a⟩:=t
    have:a.size=0:=h0
    rw [Array.size_eq_zero_iff.1 this]
   subst ht
   gi_wp2
   go_end0
   refine ⟨⟨_,rfl⟩,.inl ⟨pre,?_,hJs⟩⟩;rw [hl]
   have:bK f k (⟨#[]⟩:ByteArray)=[]:=by
    cases f with
    | zero=>rfl
    | succ f=>unfold bK; rw [if_pos h0]
   rw [this,List.append_nil]
  ·have hne:¬ t=⟨#[]⟩:=fun e=>h0 (by rw [e]; rfl)
   obtain ⟨f,rfl⟩:∃ g,f=g+1:=⟨f-1,by omega⟩
   have hlt:bK (f+1) k t=(k,Bb t)::bK f (k+1) (pU t):=by
    conv=>lhs; unfold bK
    rw [if_neg h0]
   have fC:wr.cell? ⟨2,0,none⟩=some (.int .i64 m):=(hb.cell (p:=⟨2,0,none⟩) hn0).trans hm;have hlen:pre.length<N:=by
    have:=congrArg List.length hl
    rw [hlt,List.length_append,List.length_cons] at this;omega
   have hsz:=hcut t h0;have hemp:t.toList.isEmpty=false:=by
    rw [ByteArray.toList_eq];cases hh:t.data.toList with
    | nil=>exfalso; apply h0; show t.data.size=0; rw [<- Array.length_toList,hh]; rfl
    | cons a b=>rfl
   gi_wp2_with (refine ⟨trivial,?_⟩; gi_at_call 63; refine (callsIn_wide.2 (Tryz.strings_Cut t ⟨#[10]⟩ m _ (by omega) fC)).mono ?_; rintro e w' ⟨rfl,n1,rfl⟩; obtain ⟨fn,tmps,assign,body,hy,hR⟩:=hY pre (k,Bb t) (wr.drewN n1) (hJ _ _ _ hJs) ⟨bK f (k+1) (pU t),by rw [hl,hlt]; simp⟩ hlen; dsimp only [Gf,Bb] at hy)
   refine hR.mono ?_;rintro e W3 (⟨rfl,hJ3,hk3⟩ | ⟨rfl,hJx3⟩)
   ·gi_wp2
    go_roundw
    case rel =>
     refine ⟨pre++[(k,Bb t)],k+1,f,pU t,rfl,?_,by omega,by omega,by omega,by rw [hl,hlt]; simp,hJ3,?_⟩
     ·simp
     ·exact (hb.trans (⟨rfl,rfl,rfl,Nat.le_refl _,fun _ _=>rfl⟩:Below n0 wr (wr.drewN n1))).trans hk3
    case measure=>exact hsz
   ·gi_wp2
    refine bodyPost_ret (results_none rfl _ _ _) rfl ?_;exact ⟨⟨_,rfl⟩,.inr ⟨pre++[(k,Bb t)],⟨bK f (k+1) (pU t),by rw [hl,hlt]; simp⟩,hJx3⟩⟩
def CH (B n0:Nat) (s:ByteArray) (hs:s.size<2^31) (hcut:∀ t:ByteArray,t.size≠0->(pU t).size<t.size) (m:Int) (w:World) (hm:w.cell? ⟨2,0,none⟩=some (.int .i64 m)) (hn0:2<n0) (hn1:n0<=w.heap.size) (hB:w.cell? ⟨B,0,none⟩=some (.string s)) :
  SeqStopsK Fence.wide 6 Tryz.prog 62 #[.pointer (some ⟨B,0,none⟩)] Gf (Below n0) (fun xs=>xs=bK (s.size+1) 1 s) (fun pre=>pre <+: bK (s.size+1) 1 s) (bK (s.size+1) 1 s).length w:=by
 intro l J Jx W hW hJ hJx hY h0;have hlt:∀ (a:Addr) (v:Value),w.cell? a=some v->a.block<w.heap.size:=by
  intro a v h;unfold World.cell? at h;split at h
  ·rename_i hg; exact (Array.getElem?_eq_some_iff.1 hg).1
  ·cases h
 exact Bz l B n0 s hs _ J Jx hcut (fun pre x W h _ h'=>hY pre x W h h') (Nat.le_refl _) (fun pre W k h=>hJ pre W _ none h ⟨rfl,rfl,rfl,Nat.le_refl _,fun _ _ _=>rfl⟩ (fun r e=>by cases e)) m W ((hW.cell (p:=⟨2,0,none⟩) (hlt _ _ hm)).trans hm) hn0 ((hW.cell (p:=⟨B,0,none⟩) (hlt _ _ hB)).trans hB) h0
def GA (B n0:Nat) (s:ByteArray) (hs:s.size<2^31) (hcut:∀ t:ByteArray,t.size≠0->(pU t).size<t.size) (m:Int) (w:World) (hm:w.cell? ⟨2,0,none⟩=some (.int .i64 m)) (hn0:2<n0) (hn1:n0<=w.heap.size) (hB:w.cell? ⟨B,0,none⟩=some (.string s)) :
  SeqStopsK Fence.wide 6 Tryz.prog 62 #[.pointer (some ⟨B,0,none⟩)] (fun x:{ x // x∈bK (s.size+1) 1 s }=>Gf x.1) (Below n0) (fun xs=>xs.map (·.1)=bK (s.size+1) 1 s) (fun pre=>pre.map (·.1) <+: bK (s.size+1) 1 s) (bK (s.size+1) 1 s).length w:=by
 intro l J Jx W hW hJ hJx hY h0;have hlt:∀ (a:Addr) (v:Value),w.cell? a=some v->a.block<w.heap.size:=by
  intro a v h;unfold World.cell? at h;split at h
  ·rename_i hg; exact (Array.getElem?_eq_some_iff.1 hg).1
  ·cases h
 refine (Bz l B n0 s hs _ (fun pre W=>∃ q:List { x // x∈bK (s.size+1) 1 s },q.map (·.1)=pre/\J q W) (fun pre W=>∃ q:List { x // x∈bK (s.size+1) 1 s },q.map (·.1)=pre/\Jx q W) hcut ?_ (Nat.le_refl _) ?_ m W ((hW.cell (p:=⟨2,0,none⟩) (hlt _ _ hm)).trans hm) hn0 ((hW.cell (p:=⟨B,0,none⟩) (hlt _ _ hB)).trans hB) ⟨[],rfl,h0⟩).mono ?_
 ·rintro pre x W' ⟨q,rfl,hq⟩ ⟨t,ht⟩ hl;have hx:x∈bK (s.size+1) 1 s:=by rw [<- ht]; simp
  refine (hY q ⟨x,hx⟩ W' hq (by simpa using hl)).mono ?_;rintro e W2 (⟨rfl,h1,h2⟩ | ⟨rfl,h1⟩)
  ·exact .inl ⟨rfl,⟨q++[⟨x,hx⟩],by simp,h1⟩,h2⟩
  ·exact .inr ⟨rfl,⟨q++[⟨x,hx⟩],by simp,h1⟩⟩
 ·rintro pre W' k ⟨q,rfl,hq⟩;exact ⟨q,rfl,hJ q W' _ none hq ⟨rfl,rfl,rfl,Nat.le_refl _,fun _ _ _=>rfl⟩ (fun r e=>by cases e)⟩
 ·rintro e W' ⟨hv,h⟩;refine ⟨hv,?_⟩;rcases h with ⟨ys,rfl,q,hq,hJq⟩ | ⟨pre,hp,q,rfl,hJq⟩
  ·exact .inl ⟨q,hq,hJq⟩
  ·exact .inr ⟨q,hp,hJq⟩
end Go.Proofs
