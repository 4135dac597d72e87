/- Contracts over heaps, and plain laws, for the functions that the laws of chapter 8 call, part 9: What a line says, as the document has it, over heaps. What a line is parsed to: its tokens are such as the readers ask. The sizes of what is read, and the law's own comparisons, over heaps. The law's runs over heaps: a line is refused with this; chapter 8's runs. The law ItemRight over heaps: it ans Condition: as each statement says. -/
import Derived.Test.YtgnhjkofpmchpaaGreatDoorP8
import Derived.Test.YtgnhjkofpmchpaaGreatDoorItJ
import Derived.Test.YtgnhjkofpmchpaaGreatDoorItE
import Derived.Test.YtgnhjkofpmchpaaGreatDoorItK
import Derived.Test.YtgnhjkofpmchpaaGreatDoorItG
import Derived.Test.YtgnhjkofpmchpaaGreatDoorItF
import Derived.Test.YtgnhjkofpmchpaaGreatDoorRows
import Derived.ProofKit
import Derived.LaidMore
import Derived.LaidLaws
import Derived.OpenShut
import Derived.ChangeSame
import Derived.ChangeStays
import Derived.ChangeOld
import Derived.ChangeSlices
import Derived.ChangeMaps5
import Derived.JoinedCond
import Derived.Lib.LaidTab
import Derived.Stop.Joined
import Derived.Test.YtgnhjkofpmchpaaGreatDoorTie
import Derived.Test.YtgnhjkofpmchpaaGreatDoorCards
import Derived.SevenTiedAt
set_option linter.unusedVariables false
set_option linter.unusedSimpArgs false
set_option maxRecDepth 100000
namespace Go.Sx.Ob
open Go.Proofs
theorem dirA_where {s:ByteArray} {args:List (List Tok)} {t:Thg} {w:Nat} (h:dirA s args=.ok (t,w)) :
  w=if s.data.toList=[112,111,111,108] then 0 else if s.data.toList=[98,121,116,101]∨s.data.toList=[119,111,114,100]∨s.data.toList=[115,112,97,99,101] then 1 else 2:=by
 unfold dirA at h
 simp only at h
 split at h
 ·cases h
 split at h
 ·rename_i q
  injection h with h; injection h with _ h
  rw [if_pos q]; exact h.symm
 rename_i q0
 rw [if_neg q0]
 split at h
 ·rename_i q
  rw [if_neg (by rw [q]; decide)]
  repeat' split at h
  all_goals first | (cases h; done) | (injection h with h; injection h with _ h; exact h.symm)
 rename_i q1
 split at h
 ·rename_i q
  rw [if_pos (.inr (.inr q))]
  repeat' split at h
  all_goals first | (cases h; done) | (injection h with h; injection h with _ h; exact h.symm)
 rename_i q2
 split at h
 ·rename_i q
  rw [if_pos (.inl q)]
  repeat' split at h
  all_goals first | (cases h; done) | (injection h with h; injection h with _ h; exact h.symm)
 rename_i q3
 split at h
 ·rename_i q
  rw [if_pos (.inr (.inl q))]
  repeat' split at h
  all_goals first | (cases h; done) | (injection h with h; injection h with _ h; exact h.symm)
 rename_i q4
 rw [if_neg (by rintro (x | x | x); exact q3 x; exact q4 x; exact q2 x)]
 repeat' split at h
 all_goals first | (cases h; done) | (injection h with h; injection h with _ h; exact h.symm)
def whyW (data:Bool):Except Nat (Thg × Nat)→Int
 | .error e=>(e:Int)
 | .ok (_,w)=>if w=2∨w=(if data then 1 else 0) then 0 else 21
set_option maxHeartbeats 1000000 in
theorem read2_hc {h:Hp} {lab op:ByteArray} {p:Option Addr} {l c:Nat} {al:List In} (v:VwA h p l al) (hal:al.length≤2^32) (sec:Int) :
  HC Tryz.prog 24 #[.agg #[.string lab,.string op,.slice p l c],.int .i64 sec] h (thgQ h (readA ⟨lab,op,al.map In.ts⟩ (decide (sec=1)))):=by
 refine hcr_of (args:=[.agg #[.string lab,.string op,.slice p l c],.int .i64 sec]) mixed Tryz.func24 (by kernel_rfl) (t_spandrelref8_Read_eq lab op p l c sec) ?_
 unfold t_spandrelref8_Read
 refine newB ?_
 intro g1 b1 e1 z1
 refine newB ?_
 intro g2 b2 e2 z2
 have b1:=b1.keep e2 (by simp)
 have e02:=e1.trans e2
 have b2:Box g2 g1.size 30 zT:=b2
 have hg2:g2.size=g1.size+1:=z2
 rw [add_box]
 refine loads_box b1 (op,()) rfl ?_
 dsimp only [flat,unc,unc1,nA,cA]
 obtain ⟨r,hr⟩:∃ r,r=readA ⟨lab,op,al.map In.ts⟩ (decide (sec=1)):=⟨_,rfl⟩
 rw [← hr]
 have bad:∀ {gg:Hp} {e:Nat} {L:Lp},Ext g2 gg→r=.error e→e≠0 →
   (T.stores ⟨g1.size,0,none⟩ [.int .i64 (0:Int),.slice none 0 0,.string ⟨#[]⟩,.slice none 0 0,.int .u32 (0:Int),.int .i64 (0:Int)] <|
   T.loads ⟨g1.size,0,none⟩ [.int .i64,.slice 54,.string,.slice 50,.int .u32,.int .i64] <| fun (n6:Int) (p7:Option Addr) (l8:Nat) (l9:Nat) (s10:ByteArray) (p11:Option Addr) (l12:Nat) (l13:Nat) (n14:Int) (n15:Int) =>
   T.ret (.tuple #[.agg #[.int .i64 n6,.slice p7 l8 l9,.string s10,.slice p11 l12 l13,.int .u32 n14,.int .i64 n15],.int .i64 (e:Int)])) L (thgQ h r) gg:=by
  intro gg e L eg hA he
  refine thg_st (b2.keep eg (by simp)) rfl ?_
  intro h' b' k' z'
  refine ⟨Ch.trans (e02.trans eg) k' (fun i hi hl=>by simp at hi; omega),?_⟩
  rw [hA]
  exact ⟨rfl,he⟩
 have good:∀ {gg:Hp} {t:Thg} {sl se:Sli} {us:List (Sli × Itm)} {L:Lp},Ext g2 gg→r=.ok t→ThgAt gg g2.size t sl us se →
   (T.stores ⟨g1.size,0,none⟩ [.int .i64 (t.kind:Int),.slice sl.p sl.l sl.c,.string t.name,.slice se.p se.l se.c,.int .u32 (t.e.num:Int),.int .i64 (t.sec:Int)] <|
   T.loads ⟨g1.size,0,none⟩ [.int .i64,.slice 54,.string,.slice 50,.int .u32,.int .i64] <| fun (n6:Int) (p7:Option Addr) (l8:Nat) (l9:Nat) (s10:ByteArray) (p11:Option Addr) (l12:Nat) (l13:Nat) (n14:Int) (n15:Int) =>
   T.ret (.tuple #[.agg #[.int .i64 n6,.slice p7 l8 l9,.string s10,.slice p11 l12 l13,.int .u32 n14,.int .i64 n15],.int .i64 (0:Int)])) L (thgQ h r) gg:=by
  intro gg t sl se us L eg hA A
  refine thg_st (b2.keep eg (by simp)) rfl ?_
  intro h' b' k' z'
  refine ⟨Ch.trans (e02.trans eg) k' (fun i hi hl=>by simp at hi; omega),?_⟩
  rw [hA]
  exact ⟨sl,us,se,rfl,(A.keep k' (fun i hi hl=>by simp at hi; omega)).mono (by omega)⟩
 refine cond_mk (fun q=>?_) (fun q=>?_)
 ·have q:op=nam0:=by
   have q:op.data.toList=[]:=(ByteArray.toList_eq op).symm.trans (eq_of_beq q)
   exact ba_ext q
  have hA:r=.ok thg0:=by rw [hr]; unfold readA; rw [if_pos q]
  exact good (t:=thg0) (sl:=⟨none,0,0⟩) (se:=⟨none,0,0⟩) (us:=[]) (Ch.refl _ _) hA ⟨ItsAt.nil _ _,rfl,SL.nil _ _ _ _,.inl rfl⟩
 have q:¬ op=nam0:=fun e=>by
  subst e
  rw [ByteArray.toList_eq] at q
  simp [nam0] at q
 have hop:=readA_op (l:=⟨lab,op,al.map In.ts⟩) (data:=decide (sec=1)) q
 rw [← hr] at hop
 simp only at hop
 obtain ⟨ro,hro⟩:∃ ro,opA op (al.map In.ts)=ro:=⟨_,rfl⟩
 rw [hro] at hop
 refine loads_box b1 (op,()) rfl ?_
 dsimp only [flat,unc,unc1,nA,cA]
 obtain ⟨fo,hfo⟩:∃ fo,findA op=fo:=⟨_,rfl⟩
 have hle:fo≤43:=hfo▸findL_le _ _ _
 refine call_of (find2_hc op g2) ?_
 rintro u0 g3 ⟨hu0,e3⟩
 rw [hfo] at hu0
 subst hu0
 refine ⟨((fo:Int),()),rfl,?_⟩
 dsimp only [flat,unc,unc1,nA,cA]
 have b13:=b1.keep e3 (by simp)
 have e03:=e02.trans e3
 refine cond_mk (fun f=>?_) (fun f=>?_)
 ·have f:(fo:Int)>0:=of_decide_eq_true f
  have hopA:ro=match codeA (fo:Int) (al.map In.ts) with
    | .error e=>.error e
    | .ok x=>.ok (oneT x,0):=by
   rw [← hro]
   unfold opA
   rw [hfo,if_pos (by omega)]
   all_goals (cases codeA (fo:Int) (al.map In.ts) <;> rfl)
  try rw [add_box]
  refine loads_box b13 ((p,l,c),()) rfl ?_
  dsimp only [flat,unc,unc1,nA,cA]
  refine call_of (code2_hc (op:=fo) (by omega) hle (v.keep e03) (by omega)) ?_
  rintro u g4 ⟨e4,hu⟩
  have e24:=e3.trans e4
  cases hcd:codeA (fo:Int) (al.map In.ts) with
  | error e =>
   rw [hcd] at hu hopA
   have hopA:ro=.error e:=hopA
   subst hopA
   have he:=codeA_err (fun a ha=>by obtain ⟨b,hb,rfl⟩:=List.mem_map.1 ha; exact v.wf b hb) hcd
   have hu:u=.tuple #[itmV none 0 0 (itm 0),.int .i64 (e:Int)]:=hu
   subst hu
   refine ⟨((0:Int),(⟨#[]⟩:ByteArray),(0:Int),(0:Int),(0:Int),(0:Int),(0:Int),(none,0,0),(0:Int),(0:Int),(e:Int),()),rfl,?_⟩
   dsimp only [flat,unc,unc1,nA,cA]
   refine newB ?_
   intro g5 b5 e5 z5
   refine stores_of b5 rfl (by simp) ?_
   intro g6 b6 k6 z6
   have e46:Ext g4 g6:=Ch.trans e5 k6 (fun i hi hl=>by simp at hi; omega)
   refine join_of (cs:=[(false,[.int .i64])]) (fun y h'=>h'=g6∧y.1=(e:Int)) ?_ ?_
   ·refine cond_f (by simp; omega) ?_
    exact meet_mk (cs:=[(false,[.int .i64])]) ((e:Int),()) rfl rfl ⟨rfl,rfl⟩
   rintro ⟨n3,⟨⟩⟩ h9 ⟨e9,h3⟩
   have e9:=e9.symm
   subst e9
   simp only at h3
   subst h3
   dsimp only [flat,unc,unc1,nA,cA]
   refine cond_t (by simp; omega) ?_
   exact bad (e:=e) (e24.trans e46) hop (by omega)
  | ok x =>
   rw [hcd] at hu hopA
   have hopA:ro=.ok (oneT x,0):=hopA
   subst hopA
   obtain ⟨p',l',c',rfl,sx⟩:=hu
   refine ⟨(x.kind,x.name,x.inst.op,x.inst.a,x.inst.b,x.inst.n,x.inst.form,(p',l',c'),(x.e.num:Int),x.n,(0:Int),()),rfl,?_⟩
   dsimp only [flat,unc,unc1,nA,cA]
   refine newB ?_
   intro g5 b5 e5 z5
   refine stores_of b5 rfl (by simp) ?_
   intro g6 b6 k6 z6
   have b6:Box g6 g4.size 54 (encI p' l' c' x):=b6
   have e46:Ext g4 g6:=Ch.trans e5 k6 (fun i hi hl=>by simp at hi; omega)
   refine join_of (cs:=[(false,[.int .i64])]) (fun y h'=>h'=g6∧y.1=(if sec=1 then (21:Int) else 0)) ?_ ?_
   ·refine cond_t rfl ?_
    refine cond_mk (fun g=>?_) (fun g=>?_)
    ·have g:sec=1:=by simpa using g
     exact meet_mk (cs:=[(false,[.int .i64])]) ((21:Int),()) rfl rfl ⟨rfl,by rw [if_pos g]⟩
    ·have g:¬ sec=1:=by simpa using g
     exact meet_mk (cs:=[(false,[.int .i64])]) ((0:Int),()) rfl rfl ⟨rfl,by rw [if_neg g]⟩
   rintro ⟨n3,⟨⟩⟩ h9 ⟨e9,h3⟩
   have e9:=e9.symm
   subst e9
   simp only at h3
   subst h3
   dsimp only [flat,unc,unc1,nA,cA]
   by_cases g:sec=1
   ·rw [if_pos g]
    refine cond_t rfl ?_
    refine bad (e:=21) (e24.trans e46) ?_ (by decide)
    rw [hop]
    simp [g]
   ·rw [if_neg g]
    refine cond_f rfl ?_
    refine loads_box b6 (x.kind,x.name,x.inst.op,x.inst.a,x.inst.b,x.inst.n,x.inst.form,(p',l',c'),(x.e.num:Int),x.n,()) rfl ?_
    dsimp only [flat,unc,unc1,nA,cA]
    refine lit1_of (p:=p') (l:=l') (c:=c') (x:=x) ?_
    intro g7 s7 e7 z7
    have hz24:=e24.size
    have hz3:=e3.size
    have hz4:=e4.size
    have hz46:=e46.size
    refine good (t:=oneT x) (sl:=⟨some ⟨g6.size,0,none⟩,1,1⟩) (se:=⟨none,0,0⟩) (us:=[(⟨p',l',c'⟩,x)]) ((e24.trans e46).trans e7) ?_ ⟨⟨Sx.SL.mono s7 (by omega),?_,?_,by simp⟩,rfl,SL.nil _ _ _ _,.inr rfl⟩
    ·rw [hop]
     simp [g]
    ·intro w hw
     have hw:w=(⟨p',l',c'⟩,x):=by simpa using hw
     subst hw
     exact Sx.SL.keep' (Sx.SL.keep' (Sx.SL.mono sx (by omega)) e46 (by simp)) e7 (by simp)
    ·intro w hw i hi hm
     have hw:w=(⟨p',l',c'⟩,x):=by simpa using hw
     subst hw
     have:=(Sx.SL.blk sx hi).2
     simp [blkOf] at hm
     omega
 ·have f:¬ (fo:Int)>0:=of_decide_eq_false f
  have hopA:ro=dirA op (al.map In.ts):=by
   rw [← hro]
   unfold opA
   rw [hfo,if_neg (by omega)]
  try rw [add_box]
  refine loads_box b13 (op,()) rfl ?_
  dsimp only [flat,unc,unc1,nA,cA]
  try rw [add_box]
  refine loads_box b13 ((p,l,c),()) rfl ?_
  dsimp only [flat,unc,unc1,nA,cA]
  refine call_of (directive2_hc (v.keep e03) hal op) ?_
  rintro u g4 ⟨e4,hu⟩
  have e24:=e3.trans e4
  have hz3:=e3.size
  rw [← hopA] at hu
  cases hd:ro with
  | error e =>
   subst hd
   obtain ⟨rfl,he⟩:=hu
   refine ⟨((0:Int),(none,0,0),nam0,(none,0,0),(0:Int),(0:Int),(e:Int),()),rfl,?_⟩
   dsimp only [flat,unc,unc1,nA,cA]
   refine newB ?_
   intro g5 b5 e5 z5
   refine stores_of b5 rfl (by simp) ?_
   intro g6 b6 k6 z6
   have e46:Ext g4 g6:=Ch.trans e5 k6 (fun i hi hl=>by simp at hi; omega)
   refine join_of (cs:=[(false,[.int .i64])]) (fun y h'=>h'=g6∧y.1=(e:Int)) ?_ ?_
   ·refine cond_f (by simp; omega) ?_
    exact meet_mk (cs:=[(false,[.int .i64])]) ((e:Int),()) rfl rfl ⟨rfl,rfl⟩
   rintro ⟨n3,⟨⟩⟩ h9 ⟨e9,h3⟩
   have e9:=e9.symm
   subst e9
   simp only at h3
   subst h3
   dsimp only [flat,unc,unc1,nA,cA]
   refine cond_t (by simp; omega) ?_
   exact bad (e:=e) (e24.trans e46) hop he
  | ok qq =>
   obtain ⟨t,w⟩:=qq
   subst hd
   obtain ⟨sl,us,se,rfl,A⟩:=hu
   have hwh:=dirA_where hopA.symm
   simp only at hop
   refine ⟨((t.kind:Int),(sl.p,sl.l,sl.c),t.name,(se.p,se.l,se.c),(t.e.num:Int),(t.sec:Int),(0:Int),()),rfl,?_⟩
   dsimp only [flat,unc,unc1,nA,cA]
   refine newB ?_
   intro g5 b5 e5 z5
   refine stores_of b5 rfl (by simp) ?_
   intro g6 b6 k6 z6
   have b6:Box g6 g4.size 30 (thgC t.kind sl.p sl.l sl.c t.name se.p se.l se.c t.e.num t.sec):=b6
   have e46:Ext g4 g6:=Ch.trans e5 k6 (fun i hi hl=>by simp at hi; omega)
   have b16:=(b13.keep e4 (by simp)).keep e46 (by simp)
   refine join_of (cs:=[(false,[.int .i64])]) (fun y h'=>h'=g6∧y.1=whyW (decide (sec=1)) (.ok (t,w))) ?_ ?_
   ·refine cond_t rfl ?_
    try rw [add_box]
    have fin0:whyW (decide (sec=1)) (.ok (t,w))=0→∀ {L:Lp} {K:Value→Hp→Prop},T.again 0 [.int .i64 (0:Int)] ((fun vs h'=>∃ y:HVs (flat [(false,[.int .i64])]),vs=parts [(false,[.int .i64])] (hvs _ y)∧h'=g6∧y.1=whyW (decide (sec=1)) (.ok (t,w)))::L) K g6 :=
     fun e L K=>meet_mk (cs:=[(false,[.int .i64])]) ((0:Int),()) rfl rfl ⟨rfl,e.symm⟩
    have fin1:whyW (decide (sec=1)) (.ok (t,w))=21→∀ {L:Lp} {K:Value→Hp→Prop},T.again 0 [.int .i64 (21:Int)] ((fun vs h'=>∃ y:HVs (flat [(false,[.int .i64])]),vs=parts [(false,[.int .i64])] (hvs _ y)∧h'=g6∧y.1=whyW (decide (sec=1)) (.ok (t,w)))::L) K g6 :=
     fun e L K=>meet_mk (cs:=[(false,[.int .i64])]) ((21:Int),()) rfl rfl ⟨rfl,e.symm⟩
    have dat:w=1→∀ {L:Lp} {K:Value→Hp→Prop},(cond (!(sec==(1:Int))) (T.again 0 [.int .i64 (21:Int)]) (T.again 0 [.int .i64 (0:Int)])) ((fun vs h'=>∃ y:HVs (flat [(false,[.int .i64])]),vs=parts [(false,[.int .i64])] (hvs _ y)∧h'=g6∧y.1=whyW (decide (sec=1)) (.ok (t,w)))::L) K g6:=by
     intro hw L K
     refine cond_mk (fun g=>?_) (fun g=>?_)
     ·have g:¬ sec=1:=by simpa using g
      exact fin1 (by unfold whyW; rw [hw]; simp [g])
     ·have g:sec=1:=by simpa using g
      exact fin0 (by unfold whyW; rw [hw]; simp [g])
    refine loads_box b16 (op,()) rfl ?_
    dsimp only [flat,unc,unc1,nA,cA]
    by_cases q0:op.data.toList=[112,111,111,108]
    ·rw [if_pos q0] at hwh
     refine cond_t (by rw [ByteArray.toList_eq,q0]; rfl) ?_
     refine cond_mk (fun g=>?_) (fun g=>?_)
     ·have g:sec=1:=by simpa using g
      exact fin1 (by unfold whyW; rw [hwh]; simp [g])
     ·have g:¬ sec=1:=by simpa using g
      refine loads_box b16 (op,()) rfl ?_
      dsimp only [flat,unc,unc1,nA,cA]
      refine cond_f (by rw [ByteArray.toList_eq,q0]; rfl) ?_
      refine loads_box b16 (op,()) rfl ?_
      dsimp only [flat,unc,unc1,nA,cA]
      refine cond_f (by rw [ByteArray.toList_eq,q0]; rfl) ?_
      refine loads_box b16 (op,()) rfl ?_
      dsimp only [flat,unc,unc1,nA,cA]
      refine cond_f (by rw [ByteArray.toList_eq,q0]; rfl) ?_
      exact fin0 (by unfold whyW; rw [hwh]; simp [g])
    ·rw [if_neg q0] at hwh
     refine cond_f (by rw [ByteArray.toList_eq]; exact beq_false_of_ne q0) ?_
     refine loads_box b16 (op,()) rfl ?_
     dsimp only [flat,unc,unc1,nA,cA]
     by_cases q1:op.data.toList=[98,121,116,101]
     ·refine cond_t (by rw [ByteArray.toList_eq,q1]; rfl) ?_
      exact dat (hwh.trans (if_pos (.inl q1)))
     refine cond_f (by rw [ByteArray.toList_eq]; exact beq_false_of_ne q1) ?_
     refine loads_box b16 (op,()) rfl ?_
     dsimp only [flat,unc,unc1,nA,cA]
     by_cases q2:op.data.toList=[119,111,114,100]
     ·refine cond_t (by rw [ByteArray.toList_eq,q2]; rfl) ?_
      exact dat (hwh.trans (if_pos (.inr (.inl q2))))
     refine cond_f (by rw [ByteArray.toList_eq]; exact beq_false_of_ne q2) ?_
     refine loads_box b16 (op,()) rfl ?_
     dsimp only [flat,unc,unc1,nA,cA]
     by_cases q3:op.data.toList=[115,112,97,99,101]
     ·refine cond_t (by rw [ByteArray.toList_eq,q3]; rfl) ?_
      exact dat (hwh.trans (if_pos (.inr (.inr q3))))
     refine cond_f (by rw [ByteArray.toList_eq]; exact beq_false_of_ne q3) ?_
     have hw2:w=2:=hwh.trans (if_neg (by rintro (x | x | x); exact q1 x; exact q2 x; exact q3 x))
     exact fin0 (by unfold whyW; rw [hw2]; simp)
   rintro ⟨n3,⟨⟩⟩ h9 ⟨e9,h3⟩
   have e9:=e9.symm
   subst e9
   simp only at h3
   subst h3
   dsimp only [flat,unc,unc1,nA,cA]
   have hwy:whyW (decide (sec=1)) (.ok (t,w))=if w=2∨w=(if decide (sec=1)=true then 1 else 0) then 0 else 21:=rfl
   by_cases g:w=2∨w=(if decide (sec=1)=true then 1 else 0)
   ·rw [if_pos g] at hop hwy
    rw [hwy]
    refine cond_f rfl ?_
    refine loads_box b6 ((t.kind:Int),(sl.p,sl.l,sl.c),t.name,(se.p,se.l,se.c),(t.e.num:Int),(t.sec:Int),()) rfl ?_
    dsimp only [flat,unc,unc1,nA,cA]
    exact good (t:=t) (sl:=sl) (se:=se) (us:=us) (e24.trans e46) hop ((A.keep e46 (by simp)).mono (by omega))
   ·rw [if_neg g] at hop hwy
    rw [hwy]
    refine cond_t rfl ?_
    exact bad (e:=21) (e24.trans e46) hop (by decide)
end Go.Sx.Ob
set_option linter.unusedVariables false
set_option linter.unusedSimpArgs false
set_option maxRecDepth 100000
namespace Go.Sx
open Go.Proofs
theorem wf_lexAt {s:ByteArray} {a k':Nat} {t:Tok} (ha:a≤s.size) (h:lexAt s a=.tok t k'):WfT t:=by
 have hsz:s.data.toList.length=s.size:=by simp
 unfold lexAt at h
 split at h
 ·cases h
 split at h
 ·cases h
 have hlen:(s.data.toList.drop a).length=s.size-a:=by rw [List.length_drop,hsz]
 split at h
 ·rename_i h1 h2 h3
  split at h
  ·cases h
  ·rename_i h4
   cases h
   refine ⟨by simp,fun _=>⟨rfl,?_⟩⟩
   have h5:=rowN_le (s.data.toList.drop a) gluedL
   have h0:(s.data.toList.drop a).getD 0 0=s.data.toList.getD a 0:=by simp [List.getD]
   have h6:=(rowN_pos (s:=s.data.toList.drop a) (set:=gluedL) (by omega)).2 (by
    rw [h0]
    show (lettersL++digitsL).contains _=true
    rw [glued_is,h3]; rfl)
   have e:(s.extract a (a+rowN (s.data.toList.drop a) gluedL)).data.toList=(s.data.toList.drop a).take (rowN (s.data.toList.drop a) gluedL):=by
    rw [ext_list,show a+rowN (s.data.toList.drop a) gluedL-a=rowN (s.data.toList.drop a) gluedL by omega]
   show legalL (s.extract a (a+rowN (s.data.toList.drop a) gluedL)).data.toList=!(regL (s.extract a (a+rowN (s.data.toList.drop a) gluedL)).data.toList).2.2
   rw [e]
   unfold legalL
   have l1:((s.data.toList.drop a).take (rowN (s.data.toList.drop a) gluedL)).length=rowN (s.data.toList.drop a) gluedL:=by rw [List.length_take]; omega
   have l2:((s.data.toList.drop a).take (rowN (s.data.toList.drop a) gluedL)).getD 0 0=s.data.toList.getD a 0:=by rw [← h0]; exact getD_take (by omega)
   have l3:((s.data.toList.drop a).take (rowN (s.data.toList.drop a) gluedL)).all (fun c=>isLet c || isDig c)=true:=by
    refine List.all_eq_true.2 fun c hc=>?_
    obtain ⟨i,hi,rfl⟩:=List.getElem_of_mem hc
    rw [l1] at hi
    have h7:=rowN_get hi
    have h8:(lettersL++digitsL).contains ((s.data.toList.drop a).getD i 0)=true:=h7
    rw [glued_is] at h8
    rw [List.getElem_take]
    rw [List.getD,List.getElem?_eq_getElem (by omega)] at h8
    exact h8
   rw [l1,l2,l3,h3,decide_eq_true (by omega),decide_eq_true (by omega)]
   rfl
 split at h
 ·split at h
  ·cases h
  ·cases h
   exact ⟨(numL_le _).2,by simp⟩
 split at h
 ·split at h
  ·cases h
  ·cases h
   exact ⟨by show (s.data.toList.getD (a+1) 0).toNat<4294967296; have:=(s.data.toList.getD (a+1) 0).toNat_lt; omega,by simp⟩
 split at h
 ·cases h
  exact ⟨by simp,by simp⟩
 ·cases h
theorem wf_lexF {s:ByteArray}:∀ (f k:Nat) (acc:List Tok),k≤s.size→Wf acc→Wf (lexF s f k acc).1
 | 0,k,acc,hk,w=>w
 | f+1,k,acc,hk,w=>by
  unfold lexF
  cases h:lexStep s k with
  | stop=>exact w
  | wrong a=>intro t ht; simp at ht
  | tok t k' =>
   simp only
   have h1:=lexStep_tok hk h
   have hle:k+rowN (s.data.toList.drop k) blanksL≤s.size:=by
    have:=rowN_le (s.data.toList.drop k) blanksL
    rw [List.length_drop] at this
    have hsz:s.data.toList.length=s.size:=by simp
    omega
   refine wf_lexF f k' _ h1.2 ?_
   intro u hu
   rcases List.mem_append.1 hu with hu | hu
   ·exact w u hu
   ·rw [List.mem_singleton] at hu
    subst hu
    exact wf_lexAt hle h
theorem wf_lexS (s:ByteArray):Wf (lexS s).1:=wf_lexF _ 0 [] (Nat.zero_le _) (by intro t ht; simp at ht)
theorem size_lexF {s:ByteArray}:∀ (f k:Nat) (acc:List Tok),k≤s.size→(∀ t,t∈acc→t.text.size≤s.size)→∀ t,t∈(lexF s f k acc).1→t.text.size≤s.size
 | 0,k,acc,hk,w=>w
 | f+1,k,acc,hk,w=>by
  unfold lexF
  cases h:lexStep s k with
  | stop=>exact w
  | wrong a=>intro t ht; simp at ht
  | tok t k' =>
   simp only
   have h1:=lexStep_tok hk h
   have hle:k+rowN (s.data.toList.drop k) blanksL≤s.size:=by
    have:=rowN_le (s.data.toList.drop k) blanksL
    rw [List.length_drop] at this
    have hsz:s.data.toList.length=s.size:=by simp
    omega
   refine size_lexF f k' _ h1.2 ?_
   intro u hu
   rcases List.mem_append.1 hu with hu | hu
   ·exact w u hu
   ·rw [List.mem_singleton] at hu
    subst hu
    obtain ⟨_,_,_,h4⟩:=lexAt_tok hle h
    rw [h4,ext_size]
    omega
theorem size_lexS (s:ByteArray):∀ t,t∈(lexS s).1→t.text.size≤s.size:=size_lexF _ 0 [] (Nat.zero_le _) (by intro t ht; simp at ht)
theorem argsS_ne (n:Nat):∀ (ts:List Tok) (done:List (List Tok)) (cur:List Tok) (r:List (List Tok)),argsS n ts done cur=.ok r→(∀ l,l∈done→l≠[])→∀ l,l∈r→l≠[]
 | [],done,cur,r,h,hd=>by
  simp only [argsS] at h
  split at h
  ·cases h
  ·rename_i hc
   injection h with h
   subst h
   intro l hl
   rcases List.mem_append.1 hl with hl | hl
   ·exact hd l hl
   ·have:l=cur:=by simpa using hl
    subst this
    exact hc
 | t::ts,done,cur,r,h,hd=>by
  simp only [argsS] at h
  split at h
  ·cases h
  ·rename_i h0
   split at h
   ·rename_i h1
    refine argsS_ne n ts _ _ r h fun l hl=>?_
    rcases List.mem_append.1 hl with hl | hl
    ·exact hd l hl
    ·have:l=cur:=by simpa using hl
     subst this
     intro hh
     subst hh
     rw [h1] at h0
     simp at h0
   ·exact argsS_ne n ts _ _ r h hd
theorem parseT_ne (n:Nat) (lb:ByteArray) (us:List Tok):∀ l,l∈(parseT n lb us).1.args→l≠[]:=by
 cases us with
 | nil=>simp [parseT]
 | cons t us =>
  simp only [parseT]
  split
  ·simp [lnNil]
  ·cases hA:argsA n us with
   | error a=>simp [lnNil]
   | ok r =>
    unfold argsA at hA
    split at hA
    ·injection hA with hA
     subst hA
     simp
    ·exact argsS_ne n us [] [] r hA (by simp)
theorem parseS_ne (s:ByteArray):∀ l,l∈(parseS s).1.args→l≠[]:=by
 unfold parseS
 split
 ·simp [lnNil]
 ·unfold parseL
  split
  ·exact parseT_ne _ _ _
  ·exact parseT_ne _ _ _
theorem argsS_all (P:Tok→Prop) (n:Nat):∀ (ts:List Tok) (done:List (List Tok)) (cur:List Tok) (r:List (List Tok)),argsS n ts done cur=.ok r→(∀ l,l∈done→∀ t,t∈l→P t)→(∀ t,t∈cur→P t)→(∀ t,t∈ts→P t)→∀ l,l∈r→∀ t,t∈l→P t
 | [],done,cur,r,h,hd,hc,ht=>by
  simp only [argsS] at h
  split at h
  ·cases h
  ·injection h with h
   subst h
   intro l hl
   rcases List.mem_append.1 hl with hl | hl
   ·exact hd l hl
   ·have:l=cur:=by simpa using hl
    subst this
    exact hc
 | t::ts,done,cur,r,h,hd,hc,ht=>by
  simp only [argsS] at h
  split at h
  ·cases h
  ·split at h
   ·refine argsS_all P n ts _ _ r h (fun l hl=>?_) (by simp) (fun x hx=>ht x (by simp [hx]))
    rcases List.mem_append.1 hl with hl | hl
    ·exact hd l hl
    ·have:l=cur:=by simpa using hl
     subst this
     exact hc
   ·refine argsS_all P n ts _ _ r h hd (fun x hx=>?_) (fun x hx=>ht x (by simp [hx]))
    rcases List.mem_append.1 hx with hx | hx
    ·exact hc x hx
    ·have:x=t:=by simpa using hx
     subst this
     exact ht x (by simp)
theorem parseT_all (Q:Tok→Prop) (n:Nat) (lb:ByteArray) (us:List Tok) (h:∀ t,t∈us→Q t):∀ l,l∈(parseT n lb us).1.args→∀ t,t∈l→Q t:=by
 cases us with
 | nil=>simp [parseT]
 | cons t us =>
  simp only [parseT]
  split
  ·simp [lnNil]
  ·cases hA:argsA n us with
   | error a=>simp [lnNil]
   | ok r =>
    unfold argsA at hA
    split at hA
    ·injection hA with hA
     subst hA
     simp
    ·exact argsS_all Q n us [] [] r hA (by simp) (by simp) (fun x hx=>h x (by simp [hx]))
theorem parseS_all (Q:Tok→Prop) (s:ByteArray) (h:∀ t,t∈(lexS s).1→Q t):∀ l,l∈(parseS s).1.args→∀ t,t∈l→Q t:=by
 unfold parseS
 split
 ·simp [lnNil]
 ·unfold parseL
  split
  ·exact parseT_all Q _ _ _ fun t ht=>h t (List.mem_of_mem_drop ht)
  ·exact parseT_all Q _ _ _ h
theorem parse_facts (s:ByteArray) (hs:s.size≤2^20):∀ a,a∈(parseS s).1.args→Wf a∧a.length≤2^40∧a≠[]∧∀ t,t∈a→t.text.size≤9223372036854775807:=fun a ha =>
 ⟨parseS_all WfT s (wf_lexS s) a ha,by have:=(parseS_bound s).1 a ha; omega,parseS_ne s a ha,fun t ht=>by have:=parseS_all (fun t=>t.text.size≤s.size) s (size_lexS s) a ha t ht; omega⟩
end Go.Sx
namespace Go.Sx.Ob
open Go.Proofs
theorem VwA.parse {h:Hp} {b:Nat} {te es:TypeId} {p:Option Addr} {c:Nat} {al:List In} (s:ByteArray) (hs:s.size≤2^20) (A:Args h b te es p c al) (ha:al.map In.ts=(parseS s).1.args):VwA h p al.length al∧al.length≤2^32:=by
 refine ⟨VwA.of A fun a hm=>parse_facts s hs a.ts (ha▸List.mem_map_of_mem hm),?_⟩
 have:=(parseS_bound s).2
 rw [← ha,List.length_map] at this
 omega
def trR:Except Nat Thg→Thg × Nat
 | .error e=>(thg0,e)
 | .ok t=>(t,0)
theorem ThgAt.z (h:Hp) (b:Nat):ThgAt h b thg0 ⟨none,0,0⟩ [] ⟨none,0,0⟩:=⟨ItsAt.nil _ _,rfl,SL.nil _ _ _ _,.inl rfl⟩
theorem thg_any {h h':Hp} {r:Except Nat Thg} {u:Value} (q:thgQ h r u h'):Ext h h'∧∃ sl us se,u=.tuple #[thgV (trR r).1.kind sl (trR r).1.name se (trR r).1.e.num (trR r).1.sec,.int .i64 ((trR r).2:Int)]∧ThgAt h' h.size (trR r).1 sl us se:=by
 refine ⟨q.1,?_⟩
 have q:=q.2
 cases r with
 | error e=>exact ⟨⟨none,0,0⟩,[],⟨none,0,0⟩,q.1,ThgAt.z _ _⟩
 | ok t =>
  obtain ⟨sl,us,se,hu,A⟩:=q
  exact ⟨sl,us,se,hu,A⟩
def sayR (s:ByteArray) (sec:Int):Thg × Nat:=if (parseS s).2.2≠0 then (thg0,0) else trR (readA (parseS s).1 (decide (sec=1)))
def sayQ (s:ByteArray) (sec:Int) (h:Hp) (w:Value) (h':Hp):Prop:=Ext h h'∧∃ sl us se sl' us' se',w=.tuple #[thgV (sayR s sec).1.kind sl (sayR s sec).1.name se (sayR s sec).1.e.num (sayR s sec).1.sec,.int .i64 ((sayR s sec).2:Int),thgV (sayR s sec).1.kind sl' (sayR s sec).1.name se' (sayR s sec).1.e.num (sayR s sec).1.sec,.int .i64 ((sayR s sec).2:Int),.bool true] ∧
 ThgAt h' h.size (sayR s sec).1 sl us se∧ThgAt h' h.size (sayR s sec).1 sl' us' se'
theorem lread_hc {h:Hp} (tb:TabN h) (ld:Laid h) (s:ByteArray) (hs:s.size≤2^20) (sec:Int):HC Tryz.prog 8 #[.string s,.int .i64 sec] h (sayQ s sec h):=by
 refine hcr_of (args:=[.string s,.int .i64 sec]) mixed Tryz.func8 (by kernel_rfl) (t_spandrellaw8_read_eq s sec) ?_
 unfold t_spandrellaw8_read
 refine newB ?_
 intro g1 b1 e1 z1
 refine newB ?_
 intro g2 b2 e2 z2
 have b1:=b1.keep e2 (by simp)
 have e02:=e1.trans e2
 refine call_of (parse_hc s g2 (by omega) (ld.ext e02)) ?_
 rintro _ g3 ⟨e3,p,c,al,rfl,A,ha⟩
 refine ⟨((parseS s).1.label,(parseS s).1.op,(p,al.length,c),((parseS s).2.1:Int),((parseS s).2.2:Int),()),rfl,?_⟩
 dsimp only [flat,unc,unc1,nA,cA]
 refine newB ?_
 intro g4 b4 e4 z4
 refine stores_of b4 rfl (by simp) ?_
 intro g5 b5 k5 z5
 have e45:=e4.st k5 (Nat.le_refl _)
 have e25:=e3.trans e45
 have A5:=(A.mono (Nat.le_refl _)).keep e45 (by simp) (by simp)
 refine call_of (parse2_hc s g5 (by omega)) ?_
 rintro _ g6 ⟨e6,p',c',al',rfl,A',ha'⟩
 refine ⟨((parseS s).1.label,(parseS s).1.op,(p',al'.length,c'),((parseS s).2.1:Int),((parseS s).2.2:Int),()),rfl,?_⟩
 dsimp only [flat,unc,unc1,nA,cA]
 refine newB ?_
 intro g7 b7 e7 z7
 refine stores_of b7 rfl (by simp) ?_
 intro g8 b8 k8 z8
 have e78:=e7.st k8 (Nat.le_refl _)
 have e58:=e6.trans e78
 have e28:=e25.trans e58
 have e08:=e02.trans e28
 have b18:=b1.keep e28 (by simp)
 have b28:=b2.keep e28 (by simp)
 have b5:Box g5 g3.size 39 [.string (parseS s).1.label,.string (parseS s).1.op,.slice p al.length c]:=b5
 have b8:Box g8 g6.size 69 [.string (parseS s).1.label,.string (parseS s).1.op,.slice p' al'.length c']:=b8
 have b58:=b5.keep e58 (by simp)
 refine cond_mk (fun q=>?_) (fun q=>?_)
 ·have q:(parseS s).2.2≠0:=by simpa using q
  have hr:sayR s sec=(thg0,0):=by unfold sayR; rw [if_pos q]
  refine stores_of b18 rfl (by simp) ?_
  intro g9 b9 k9 z9
  have b29:=b28.keep k9 (by simp; have:=z1; omega)
  refine stores_of b29 rfl (by simp) ?_
  intro gA bA kA zA
  have b1A:=b9.keep kA (by simp; have:=z1; omega)
  have e09:Ext h g9:=Ch.trans e08 k9 (fun i hi hl=>by simp at hi; omega)
  have e0A:Ext h gA:=Ch.trans e09 kA (fun i hi hl=>by simp at hi; omega)
  have b1A:Box gA h.size 28 (thgC 0 none 0 0 nam0 none 0 0 0 0):=b1A
  have b2A:Box gA g1.size 30 (thgC 0 none 0 0 nam0 none 0 0 0 0):=bA
  refine loads_box b1A ((0:Int),(none,0,0),nam0,(none,0,0),(0:Int),(0:Int),()) rfl ?_
  dsimp only [flat,unc,unc1,nA,cA]
  refine loads_box b2A ((0:Int),(none,0,0),nam0,(none,0,0),(0:Int),(0:Int),()) rfl ?_
  dsimp only [flat,unc,unc1,nA,cA]
  refine ⟨e0A,?_⟩
  rw [hr]
  refine ⟨⟨none,0,0⟩,[],⟨none,0,0⟩,⟨none,0,0⟩,[],⟨none,0,0⟩,?_,ThgAt.z _ _,ThgAt.z _ _⟩
  simp [thg0,lin0,Sli.v,thgV]
 have q:¬ (parseS s).2.2≠0:=by simpa using q
 have hr:sayR s sec=trR (readA (parseS s).1 (decide (sec=1))):=by unfold sayR; rw [if_neg q]
 refine cond_f (by simpa using q) ?_
 refine loads_box b58 ((parseS s).1.label,(parseS s).1.op,(p,al.length,c),()) rfl ?_
 dsimp only [flat,unc,unc1,nA,cA]
 have v5:=VwA.parse s hs A5 ha
 refine call_of (read_hc (tb.keep e08 (by simp)) (v5.1.keep e58) v5.2 sec) ?_
 intro u g9 q9
 obtain ⟨e9,sl,us,se,rfl,T9⟩:=thg_any q9
 rw [show (⟨(parseS s).1.label,(parseS s).1.op,al.map In.ts⟩:Ln)=(parseS s).1 by rw [ha]] at T9 ⊢
 rw [← hr] at T9 ⊢
 obtain ⟨R,hR⟩:∃ R,sayR s sec=R:=⟨_,rfl⟩
 rw [hR] at T9 hr ⊢
 refine ⟨((R.1.kind:Int),(sl.p,sl.l,sl.c),R.1.name,(se.p,se.l,se.c),(R.1.e.num:Int),(R.1.sec:Int),(R.2:Int),()),rfl,?_⟩
 dsimp only [flat,unc,unc1,nA,cA]
 refine newB ?_
 intro gB bB eB zB
 refine stores_of bB rfl (by simp) ?_
 intro gC bC kC zC
 have eBC:=eB.st kC (Nat.le_refl _)
 have e8C:=e9.trans eBC
 have bC:Box gC g9.size 28 (thgC R.1.kind sl.p sl.l sl.c R.1.name se.p se.l se.c R.1.e.num R.1.sec):=bC
 have b8C:=b8.keep e8C (by simp)
 refine loads_box b8C ((parseS s).1.label,(parseS s).1.op,(p',al'.length,c'),()) rfl ?_
 dsimp only [flat,unc,unc1,nA,cA]
 have v6:=VwA.parse s hs A' ha'
 refine call_of (read2_hc (v6.1.keep (e78.trans e8C)) v6.2 sec) ?_
 intro u gD qD
 obtain ⟨eD,sl',us',se',rfl,TD⟩:=thg_any qD
 rw [show (⟨(parseS s).1.label,(parseS s).1.op,al'.map In.ts⟩:Ln)=(parseS s).1 by rw [ha']] at TD ⊢
 rw [← hr] at TD ⊢
 refine ⟨((R.1.kind:Int),(sl'.p,sl'.l,sl'.c),R.1.name,(se'.p,se'.l,se'.c),(R.1.e.num:Int),(R.1.sec:Int),(R.2:Int),()),rfl,?_⟩
 dsimp only [flat,unc,unc1,nA,cA]
 refine newB ?_
 intro gE bE eE zE
 refine stores_of bE rfl (by simp) ?_
 intro gF bF kF zF
 have eEF:=eE.st kF (Nat.le_refl _)
 have eCF:=eD.trans eEF
 have bF:Box gF gD.size 30 (thgC R.1.kind sl'.p sl'.l sl'.c R.1.name se'.p se'.l se'.c R.1.e.num R.1.sec):=bF
 have bCF:=bC.keep eCF (by simp)
 refine loads_box bCF ((R.1.kind:Int),(sl.p,sl.l,sl.c),R.1.name,(se.p,se.l,se.c),(R.1.e.num:Int),(R.1.sec:Int),()) rfl ?_
 dsimp only [flat,unc,unc1,nA,cA]
 refine loads_box bF ((R.1.kind:Int),(sl'.p,sl'.l,sl'.c),R.1.name,(se'.p,se'.l,se'.c),(R.1.e.num:Int),(R.1.sec:Int),()) rfl ?_
 dsimp only [flat,unc,unc1,nA,cA]
 have e8F:=e8C.trans eCF
 have e0F:=e08.trans e8F
 have s8:=e08.size
 have s9:=e9.size
 have sC:=e8C.size
 have sD:=eD.size
 have sF:=eCF.size
 have s28:=e28.size
 have b1F:=b18.keep e8F (by simp)
 have b2F:=b28.keep e8F (by simp)
 refine stores_of b1F rfl (by simp) ?_
 intro gG bG kG zG
 have bFG:=bF.keep kG (by simp; omega)
 refine ⟨⟨bFG.cells _ rfl,trivial⟩,⟨bFG.cells _ rfl,trivial⟩,?_⟩
 have b2G:=b2F.keep kG (by simp; omega)
 refine stores_of b2G rfl (by simp) ?_
 intro gH bH kH zH
 have bGH:=bG.keep kH (by simp; omega)
 have bGH:Box gH h.size 28 (thgC R.1.kind sl.p sl.l sl.c R.1.name se.p se.l se.c R.1.e.num R.1.sec):=bGH
 have bH:Box gH g1.size 30 (thgC R.1.kind sl'.p sl'.l sl'.c R.1.name se'.p se'.l se'.c R.1.e.num R.1.sec):=bH
 refine loads_box bGH ((R.1.kind:Int),(sl.p,sl.l,sl.c),R.1.name,(se.p,se.l,se.c),(R.1.e.num:Int),(R.1.sec:Int),()) rfl ?_
 dsimp only [flat,unc,unc1,nA,cA]
 refine loads_box bH ((R.1.kind:Int),(sl'.p,sl'.l,sl'.c),R.1.name,(se'.p,se'.l,se'.c),(R.1.e.num:Int),(R.1.sec:Int),()) rfl ?_
 dsimp only [flat,unc,unc1,nA,cA]
 have e0G:Ext h gG:=Ch.trans e0F kG (fun i hi hl=>by simp at hi; omega)
 have e0H:Ext h gH:=Ch.trans e0G kH (fun i hi hl=>by simp at hi; omega)
 refine ⟨e0H,?_⟩
 rw [hR]
 refine ⟨sl,us,se,sl',us',se',rfl,?_,?_⟩
 ·exact ((((T9.keep (eBC.trans eCF) (by simp)).keep kG (fun i hi hl=>by simp at hi; omega)).keep kH (fun i hi hl=>by simp at hi; omega)).mono (by omega))
 ·exact ((((TD.keep eEF (by simp)).keep kG (fun i hi hl=>by simp at hi; omega)).keep kH (fun i hi hl=>by simp at hi; omega)).mono (by omega))
theorem parseX_len {ts:List Tok} {x:Lin} (hw:Wf ts) (h:parseX ts=.ok x):x.terms.length≤ts.length:=by
 unfold parseX at h
 have:=sumD_fine 32 ts hw
 cases hs:sumD 32 ts with
 | error e=>rw [hs] at h; cases h
 | ok q =>
  rw [hs] at h this
  simp only at h
  split at h
  ·injection h with h
   subst h
   obtain ⟨_,_,_,h4⟩:=this
   omega
  ·cases h
theorem valA_len {pool:Bool} {ts:List Tok} {x:Lin} (hw:Wf ts) (h:valA pool ts=.ok x):x.terms.length≤ts.length:=by
 unfold valA at h
 split at h
 ·exact parseX_len hw h
 ·split at h
  ·cases h
  ·split at h
   ·have:=parseX_len hw.tail h
    simp only [List.length_cons]; omega
   ·cases h
def Bd (n:Nat) (x:Itm):Prop:=x.e.terms.length≤n
theorem argA_len {n:Nat} {x y:Itm} {r:Rdr} {ts:List Tok} (hw:Wf ts) (hn:ts.length≤n) (hx:Bd n x) (h:argA x r ts=.ok y):Bd n y:=by
 unfold argA at h
 unfold Bd at *
 split at h
 ·split at h
  ·cases h
  ·injection h with h
   subst h
   split
   ·exact hx
   ·split
    ·exact hx
    ·exact hx
 ·split at h
  ·cases h
  ·injection h with h
   subst h
   exact hx
 ·split at h
  ·cases h
  ·rename_i hv
   injection h with h
   subst h
   have:=valA_len hw hv
   simp only [putE]; omega
theorem codeL_len {n:Nat}:∀ (rs:List Rdr) (args:List (List Tok)) (x y:Itm),(∀ a,a∈args→Wf a∧a.length≤n)→Bd n x→codeL x rs args=.ok y→Bd n y
 | [],args,x,y,_,hx,h=>by
  have h:Except.ok x=(Except.ok y:Except Nat Itm):=by cases args <;> exact h
  injection h with h
  subst h
  exact hx
 | r::rs,[],x,y,_,hx,h=>by
  simp only [codeL] at h
  injection h with h
  subst h
  exact hx
 | r::rs,a::args,x,y,ha,hx,h=>by
  simp only [codeL] at h
  split at h
  ·cases h
  ·rename_i z hz
   exact codeL_len rs args z y (fun b hb=>ha b (by simp [hb])) (argA_len (ha a (by simp)).1 (ha a (by simp)).2 hx hz) h
theorem codeA_len {n:Nat} {op:Int} {args:List (List Tok)} {y:Itm} (ha:∀ a,a∈args→Wf a∧a.length≤n) (h:codeA op args=.ok y):Bd n y:=by
 unfold codeA at h
 split at h
 ·cases h
 ·exact codeL_len _ _ _ _ ha (by simp [Bd,code0,itm,lin0]) h
theorem itemA_len {n k:Nat} {ts:List Tok} {y:Itm} (hw:Wf ts) (hn:ts.length≤n) (h:itemA k ts=.ok y):Bd n y:=by
 unfold itemA at h
 split at h
 ·split at h
  ·cases h
  ·injection h with h
   subst h
   simp [Bd,itm,lin0]
 ·split at h
  ·cases h
  ·rename_i x hx
   injection h with h
   subst h
   have:=parseX_len hw hx
   unfold Bd; simp only; omega
theorem itemsA_len {n k:Nat}:∀ (args:List (List Tok)) (l:List Itm),(∀ a,a∈args→Wf a∧a.length≤n)→itemsA k args=.ok l→l.length=args.length∧∀ x,x∈l→Bd n x
 | [],l,_,h=>by
  simp only [itemsA] at h
  injection h with h
  subst h
  simp
 | a::args,l,ha,h=>by
  simp only [itemsA] at h
  split at h
  ·cases h
  ·rename_i x hx
   split at h
   ·cases h
   ·rename_i l' hl
    injection h with h
    subst h
    have:=itemsA_len args l' (fun b hb=>ha b (by simp [hb])) hl
    refine ⟨by simp [this.1],fun y hy=>?_⟩
    rcases List.mem_cons.1 hy with rfl | hy
    ·exact itemA_len (ha a (by simp)).1 (ha a (by simp)).2 hx
    ·exact this.2 y hy
structure ThgSz (n:Nat) (t:Thg):Prop where
 many:t.items.length≤n
 item:∀ x,x∈t.items→Bd n x
 e:t.e.terms.length≤n
theorem ThgSz.z (n:Nat):ThgSz n thg0:=⟨by simp [thg0],by simp [thg0],by simp [thg0,lin0]⟩
theorem ThgSz.one {n:Nat} {x:Itm} (hn:1≤n) (h:Bd n x):ThgSz n (oneT x):=⟨by simp [oneT]; omega,by simp [oneT]; exact h,by simp [oneT,thg0,lin0]⟩
theorem dirA_sz {n:Nat} {op:ByteArray} {args:List (List Tok)} {t:Thg} {w:Nat} (hn:1≤n) (ha:∀ a,a∈args→Wf a∧a.length≤n) (hl:args.length≤n) (h:dirA op args=.ok (t,w)):ThgSz n t:=by
 have hag:∀ i,Wf (ag args i)∧(ag args i).length≤n:=by
  intro i
  unfold ag
  rw [List.getD_eq_getElem?_getD]
  cases hh:args[i]? with
  | none=>exact ⟨fun t ht=>by simp at ht,by simp⟩
  | some a=>exact ha a (List.mem_of_getElem? hh)
 have z:∀ x:Itm,x.e=lin0→Bd n x:=fun x hx=>by unfold Bd; rw [hx]; simp [lin0]
 unfold dirA at h
 simp only at h
 split at h
 ·cases h
 split at h
 ·injection h with h; injection h with h _; subst h
  exact ThgSz.one hn (z _ rfl)
 split at h
 ·split at h
  ·cases h
  split at h
  ·injection h with h; injection h with h _; subst h
   exact ThgSz.one hn (z _ rfl)
  ·cases h
 split at h
 ·split at h
  ·cases h
  injection h with h; injection h with h _; subst h
  exact ThgSz.one hn (z _ rfl)
 split at h
 ·split at h
  ·cases h
  split at h
  ·cases h
  rename_i l hh
  injection h with h; injection h with h _; subst h
  have:=itemsA_len args l ha hh
  exact ⟨by simp only; omega,this.2,by simp [thg0,lin0]⟩
 split at h
 ·split at h
  ·cases h
  split at h
  ·cases h
  rename_i l hh
  injection h with h; injection h with h _; subst h
  have:=itemsA_len args l ha hh
  exact ⟨by simp only; omega,this.2,by simp [thg0,lin0]⟩
 split at h
 ·split at h
  ·cases h
  split at h
  ·cases h
  rename_i x hx
  injection h with h; injection h with h _; subst h
  have:=parseX_len (hag 1).1 hx
  exact ⟨by simp [thg0],by simp [thg0],by have:=(hag 1).2; simp only; omega⟩
 split at h
 ·split at h
  ·cases h
  injection h with h; injection h with h _; subst h
  exact ⟨by simp [thg0],by simp [thg0],by simp [thg0,lin0]⟩
 split at h
 ·split at h
  ·injection h with h; injection h with h _; subst h
   exact ⟨by simp [thg0],by simp [thg0],by simp [thg0,lin0]⟩
  split at h
  ·injection h with h; injection h with h _; subst h
   exact ⟨by simp [thg0],by simp [thg0],by simp [thg0,lin0]⟩
  ·cases h
 ·cases h
theorem readA_sz {n:Nat} {l:Ln} {data:Bool} {t:Thg} (hn:1≤n) (ha:∀ a,a∈l.args→Wf a∧a.length≤n) (hl:l.args.length≤n) (h:readA l data=.ok t):ThgSz n t:=by
 unfold readA at h
 split at h
 ·injection h with h
  subst h
  exact ThgSz.z n
 split at h
 ·split at h
  ·cases h
  rename_i x hx
  split at h
  ·cases h
  injection h with h
  subst h
  exact ThgSz.one hn (codeA_len ha hx)
 split at h
 ·cases h
 rename_i t' w' hd
 by_cases g:w'=2∨w'=(if data then 1 else 0)
 ·rw [if_pos g] at h
  injection h with h
  subst h
  exact dirA_sz hn ha hl hd
 ·rw [if_neg g] at h
  cases h
theorem shp_sm {op:Int} (h:shp op≠0):Sm op:=by
 unfold shp at h
 unfold Sm
 split at h
 ·exact absurd rfl h
 ·by_cases g:op≤43
  ·omega
  ·exfalso
   apply h
   rw [List.getD_eq_getElem?_getD,List.getElem?_eq_none (by simp only [shpL,List.length_cons,List.length_nil]; omega)]
   rfl
theorem itmR_at {h:Hp} {p:Option Addr} {l:Nat} {x:Itm} {k n:Nat} (hn:n≤2^60) (hr:itmR x k=true) (g:Good x.e) (hx:Bd n x) (v:VwT h p l x.e.terms):ItmAt h p l x:=by
 refine ⟨⟨v,by unfold Bd at hx; omega,g.size⟩,?_,?_⟩
 ·have z:z1 x=true→x.name.size≤maxLen:=fun e=>by
   have e:x.name=nam0:=of_decide_eq_true e
   rw [e]; decide
  unfold itmR at hr
  repeat' split at hr
  all_goals try simp only [Bool.and_eq_true] at hr
  ·have:=legal_size hr.1.1.1
   unfold maxLen; omega
  all_goals first | exact z hr.1.1.1 | exact z hr.1.1 | exact z hr.1.2 | exact z hr.1.1.1.2 | exact z hr.1.1.2 | (cases hr; done)
 ·have z:z2 x=true→Sm x.inst.op:=fun e=>by
   have e:x.inst=ins0:=of_decide_eq_true e
   rw [e]; unfold Sm ins0; simp
  unfold itmR at hr
  repeat' split at hr
  all_goals try simp only [Bool.and_eq_true] at hr
  ·exact z hr.1.1.2
  ·have h1:=hr.1.1.2
   unfold insR at h1
   simp only [Bool.and_eq_true] at h1
   exact shp_sm (of_decide_eq_true h1.1.1)
  all_goals first | exact z hr.1.1.1.2 | exact z hr.1.1.2 | exact z hr.1.2 | exact z hr.2 | (cases hr; done)
structure ThgGd (t:Thg):Prop where
 ok:∃ d,ThgOk t d
 sz:ThgSz (2^40) t
theorem ThgAt.vwI {h:Hp} {b:Nat} {t:Thg} {sl se:Sli} {us:List (Sli × Itm)} (g:ThgGd t) (A:ThgAt h b t sl us se):VwI h sl.p sl.l t.items:=by
 obtain ⟨d,ok⟩:=g.ok
 have he:=A.eq
 have hlen:us.length=t.items.length:=by rw [← he,List.length_map]
 refine ⟨by rw [A.its.len,hlen],by have:=g.sz.many; omega,fun i hi=>?_⟩
 have hi':i<us.length:=by omega
 obtain ⟨a,ha,hc⟩:=A.its.out.cells (i:=i) (by rw [List.length_map]; exact hi')
 rw [List.getElem_map] at hc
 have e:t.items[i]=us[i].2:=by
  have:(us.map (·.2))[i]'(by rw [List.length_map]; exact hi')=us[i].2:=by simp
  rw [← this]
  exact getE he.symm _ _
 have hm:t.items[i]∈t.items:=List.getElem_mem hi
 have hr:=ok.items _ hm
 have hs:=g.sz.item _ hm
 have ho:=A.its.own us[i] (List.getElem_mem hi')
 rw [e] at hr hs ⊢
 exact ⟨a,us[i].1.p,us[i].1.l,us[i].1.c,ha,hc,itmR_at (by omega) hr.1 hr.2 hs ho.vwT⟩
theorem sayR_gd (s:ByteArray) (hs:s.size≤2^20) (sec:Int):ThgGd (sayR s sec).1:=by
 have z:ThgGd thg0:=⟨⟨false,ThgOk.z _⟩,ThgSz.z _⟩
 unfold sayR
 split
 ·exact z
 ·cases hr:readA (parseS s).1 (decide (sec=1)) with
  | error e=>exact z
  | ok t =>
   have f:=parse_facts s hs
   have f2:=(parseS_bound s).2
   exact ⟨⟨_,readA_right (fun a ha=>(f a ha).1) hr⟩,readA_sz (by decide) (fun a ha=>⟨(f a ha).1,(f a ha).2.1⟩) (by omega) hr⟩
theorem same10_hc {h:Hp} {b b':Nat} {t:Thg} {sl se sl' se':Sli} {us us':List (Sli × Itm)} (g:ThgGd t) (A:ThgAt h b t sl us se) (A':ThgAt h b' t sl' us' se') :
  HC Tryz.prog 10 #[thgV t.kind sl t.name se t.e.num t.sec,thgV t.kind sl' t.name se' t.e.num t.sec] h fun w h'=>w=.bool true∧Ext h h':=by
 refine hcr_of (args:=[thgV t.kind sl t.name se t.e.num t.sec,thgV t.kind sl' t.name se' t.e.num t.sec]) mixed Tryz.func10 (by kernel_rfl) (t_spandrellaw8_same_eq t.kind sl.p sl.l sl.c t.name se.p se.l se.c t.e.num t.sec t.kind sl'.p sl'.l sl'.c t.name se'.p se'.l se'.c t.e.num t.sec) ?_
 unfold t_spandrellaw8_same
 refine newB ?_
 intro g1 b1 e1 z1
 refine newB ?_
 intro g2 b2 e2 z2
 have b1:=b1.keep e2 (by simp)
 have e02:=e1.trans e2
 have b1:Box g2 h.size 28 (thgC t.kind sl.p sl.l sl.c t.name se.p se.l se.c t.e.num t.sec):=b1
 have b2:Box g2 g1.size 30 (thgC t.kind sl'.p sl'.l sl'.c t.name se'.p se'.l se'.c t.e.num t.sec):=b2
 refine loads_box b1 ((t.kind:Int),()) rfl ?_
 dsimp only [flat,unc,unc1,nA,cA]
 refine loads_box b2 ((t.kind:Int),()) rfl ?_
 dsimp only [flat,unc,unc1,nA,cA]
 refine cond_t (by simp) ?_
 rw [add_box,add_box]
 refine loads_box b1 ((sl.p,sl.l,sl.c),()) rfl ?_
 dsimp only [flat,unc,unc1,nA,cA]
 refine loads_box b2 ((sl'.p,sl'.l,sl'.c),()) rfl ?_
 dsimp only [flat,unc,unc1,nA,cA]
 refine call_of (sameItems_hc ((A.vwI g).keep e02) ((A'.vwI g).keep e02)) ?_
 rintro _ g3 ⟨bb,rfl,hb,e3⟩
 have hb:bb=true:=hb.2 rfl
 subst hb
 refine ⟨(true,()),rfl,?_⟩
 dsimp only [flat,unc,unc1,nA,cA]
 refine cond_t rfl ?_
 have b1:=b1.keep e3 (by simp)
 have b2:=b2.keep e3 (by simp)
 have e03:=e02.trans e3
 rw [add_box,add_box]
 refine loads_box b1 (t.name,()) rfl ?_
 dsimp only [flat,unc,unc1,nA,cA]
 refine loads_box b2 (t.name,()) rfl ?_
 dsimp only [flat,unc,unc1,nA,cA]
 refine cond_t (by simp) ?_
 rw [add_box,add_box]
 refine loads_box b1 ((se.p,se.l,se.c),(t.e.num:Int),()) rfl ?_
 dsimp only [flat,unc,unc1,nA,cA]
 refine loads_box b2 ((se'.p,se'.l,se'.c),(t.e.num:Int),()) rfl ?_
 dsimp only [flat,unc,unc1,nA,cA]
 refine call_of (same48_hc (A.e.vwT.keep e03 (by simp)) (A'.e.vwT.keep e03 (by simp)) (by have:=g.sz.e; omega)) ?_
 rintro _ g4 ⟨rfl,e4⟩
 rw [linB_refl]
 refine ⟨(true,()),rfl,?_⟩
 dsimp only [flat,unc,unc1,nA,cA]
 refine cond_t rfl ?_
 have b1:=b1.keep e4 (by simp)
 have b2:=b2.keep e4 (by simp)
 rw [add_box,add_box]
 refine loads_box b1 ((t.sec:Int),()) rfl ?_
 dsimp only [flat,unc,unc1,nA,cA]
 refine loads_box b2 ((t.sec:Int),()) rfl ?_
 dsimp only [flat,unc,unc1,nA,cA]
 exact ⟨by simp,e03.trans e4⟩
theorem says_hc {h:Hp} (tb:TabN h) (ld:Laid h) (s:ByteArray) (hs:s.size≤2^20) (sec why:Int):HC Tryz.prog 18 #[.string s,.int .i64 sec,.int .i64 why] h fun w h'=>w=.bool (decide (((sayR s sec).2:Int)=why))∧Ext h h':=by
 refine hcr_of (args:=[.string s,.int .i64 sec,.int .i64 why]) mixed Tryz.func18 (by kernel_rfl) (t_spandrellaw8_says_eq s sec why) ?_
 unfold t_spandrellaw8_says
 refine call_of (lread_hc tb ld s hs sec) ?_
 rintro _ g1 ⟨e1,sl,us,se,sl',us',se',rfl,A,A'⟩
 have gd:=sayR_gd s hs sec
 obtain ⟨R,hR⟩:∃ R,sayR s sec=R:=⟨_,rfl⟩
 rw [hR] at A A' gd ⊢
 refine ⟨((R.1.kind:Int),(sl.p,sl.l,sl.c),R.1.name,(se.p,se.l,se.c),(R.1.e.num:Int),(R.1.sec:Int),(R.2:Int),(R.1.kind:Int),(sl'.p,sl'.l,sl'.c),R.1.name,(se'.p,se'.l,se'.c),(R.1.e.num:Int),(R.1.sec:Int),(R.2:Int),true,()),rfl,?_⟩
 dsimp only [flat,unc,unc1,nA,cA]
 refine newB ?_
 intro g2 b2 e2 z2
 refine newB ?_
 intro g3 b3 e3 z3
 have b2:=b2.keep e3 (by simp)
 have e13:=e2.trans e3
 refine stores_of b2 rfl (by simp) ?_
 intro g4 b4 k4 z4
 have b34:=b3.keep k4 (by simp; omega)
 refine stores_of b34 rfl (by simp) ?_
 intro g5 b5 k5 z5
 have b45:=b4.keep k5 (by simp; omega)
 have b45:Box g5 g1.size 28 (thgC R.1.kind sl.p sl.l sl.c R.1.name se.p se.l se.c R.1.e.num R.1.sec):=b45
 have b5:Box g5 g2.size 30 (thgC R.1.kind sl'.p sl'.l sl'.c R.1.name se'.p se'.l se'.c R.1.e.num R.1.sec):=b5
 have e14:Ext g1 g4:=Ch.trans e13 k4 (fun i hi hl=>by simp at hi; omega)
 have e15:Ext g1 g5:=Ch.trans e14 k5 (fun i hi hl=>by simp at hi; omega)
 have e05:=e1.trans e15
 refine cond_t rfl ?_
 by_cases q:(R.2:Int)=why
 ·refine cond_t (by simpa using q) (cond_t (by simpa using q) ?_)
  refine loads_box b45 ((R.1.kind:Int),(sl.p,sl.l,sl.c),R.1.name,(se.p,se.l,se.c),(R.1.e.num:Int),(R.1.sec:Int),()) rfl ?_
  dsimp only [flat,unc,unc1,nA,cA]
  refine loads_box b5 ((R.1.kind:Int),(sl'.p,sl'.l,sl'.c),R.1.name,(se'.p,se'.l,se'.c),(R.1.e.num:Int),(R.1.sec:Int),()) rfl ?_
  dsimp only [flat,unc,unc1,nA,cA]
  refine call_of (same10_hc gd (A.keep e15 (by simp)) (A'.keep e15 (by simp))) ?_
  rintro _ g6 ⟨rfl,e6⟩
  refine ⟨(true,()),rfl,?_⟩
  dsimp only [flat,unc,unc1,nA,cA]
  exact ⟨by rw [decide_eq_true q],e05.trans e6⟩
 ·refine cond_f (by simpa using q) ?_
  exact ⟨by rw [decide_eq_false q],e05⟩
abbrev klA:ByteArray:=⟨#[97,100,100,32,114,49,44,32,114,50]⟩
abbrev klB:ByteArray:=⟨#[108,105,115,32,114,49,44,32,50,48,48]⟩
theorem sayA:sayR klA 0=(oneT { itm 2 with inst:=⟨14,1,2,0,0⟩ },0):=by kernel_rfl
theorem sayA1:(sayR klA 1).2=21:=by kernel_rfl
theorem sayB:(sayR klB 0).2=21:=by kernel_rfl
theorem known_hc {h:Hp} (tb:TabN h) (ld:Laid h):HC Tryz.prog 11 #[] h fun w h'=>w=.bool true∧Ext h h':=by
 refine hcr_of (args:=[]) mixed Tryz.func11 (by kernel_rfl) t_spandrellaw8_known_eq ?_
 unfold t_spandrellaw8_known
 refine call_of (lread_hc tb ld klA (by decide) 0) ?_
 rintro _ g1 ⟨e1,sl,us,se,sl',us',se',rfl,A,A'⟩
 rw [sayA] at A A' ⊢
 obtain ⟨x,hx⟩:∃ x:Itm,x={ itm 2 with inst:=⟨14,1,2,0,0⟩ }:=⟨_,rfl⟩
 rw [← hx] at A A' ⊢
 refine ⟨((1:Int),(sl.p,sl.l,sl.c),nam0,(se.p,se.l,se.c),(0:Int),(0:Int),(0:Int),(1:Int),(sl'.p,sl'.l,sl'.c),nam0,(se'.p,se'.l,se'.c),(0:Int),(0:Int),(0:Int),true,()),rfl,?_⟩
 dsimp only [flat,unc,unc1,nA,cA]
 refine newB ?_
 intro g2 b2 e2 z2
 refine newB ?_
 intro g3 b3 e3 z3
 have b2:=b2.keep e3 (by simp)
 have e13:=e2.trans e3
 refine stores_of b2 rfl (by simp) ?_
 intro g4 b4 k4 z4
 have b34:=b3.keep k4 (by simp; omega)
 refine stores_of b34 rfl (by simp) ?_
 intro g5 b5 k5 z5
 have b45:=b4.keep k5 (by simp; omega)
 have b45:Box g5 g1.size 28 (thgC 1 sl.p sl.l sl.c nam0 se.p se.l se.c 0 0):=b45
 have e14:Ext g1 g4:=Ch.trans e13 k4 (fun i hi hl=>by simp at hi; omega)
 have e15:Ext g1 g5:=Ch.trans e14 k5 (fun i hi hl=>by simp at hi; omega)
 have e05:=e1.trans e15
 refine cond_t rfl (cond_t rfl ?_)
 refine loads_box b45 ((1:Int),()) rfl ?_
 dsimp only [flat,unc,unc1,nA,cA]
 refine cond_t rfl ?_
 rw [add_box]
 have hlen:us.length=1:=by
  have:=congrArg List.length A.eq
  rw [List.length_map] at this
  exact this
 have hl:sl.l=1:=by rw [A.its.len,hlen]
 refine loads_box b45 ((sl.p,sl.l,sl.c),()) rfl ?_
 dsimp only [flat,unc,unc1,nA,cA]
 rw [hl]
 refine cond_t rfl ?_
 refine loads_box b45 ((sl.p,sl.l,sl.c),()) rfl ?_
 dsimp only [flat,unc,unc1,nA,cA]
 rw [hl]
 have A5:=A.keep e15 (by simp)
 obtain ⟨a,ha,hc⟩:=A5.its.out.cells (i:=0) (by rw [List.length_map]; omega)
 rw [List.getElem_map] at hc
 have hx0:us[0].2=x:=by
  have h1:(us.map (·.2))[0]'(by rw [List.length_map]; omega)=us[0].2:=by simp
  rw [← h1]
  exact getE (show us.map (·.2)=[x] from A.eq) _ (by simp)
 rw [show a.add (0*10)=a by simp [Addr.add]] at hc
 have hc:cellsAt g5 a 0 (encI us[0].1.p us[0].1.l us[0].1.c x):=by rw [← hx0]; exact hc
 rw [ha]
 refine need_of ⟨by decide,by decide⟩ (osome_mk rfl ?_)
 have hc2:cellsAt g5 (a.add 2) 0 [.int .i64 14,.int .i64 1,.int .i64 2,.int .i32 0,.int .i64 0]:=by
  rw [hx] at hc
  exact cellsAt_add _ 2 0 ⟨hc.2.2.1,hc.2.2.2.1,hc.2.2.2.2.1,hc.2.2.2.2.2.1,hc.2.2.2.2.2.2.1,trivial⟩
 refine loads_of ((14:Int),(1:Int),(2:Int),(0:Int),(0:Int),()) hc2 ?_
 dsimp only [flat,unc,unc1,nA,cA]
 refine sem_bool (fun K' hK=>cmpInsE _ _ ⟨14,1,2,0,0⟩ ⟨14,1,2,0,0⟩ g5 K' hK) ?_
 refine cond_t (by decide) ?_
 refine call_of (says_hc (tb.keep e05 (by simp)) (ld.ext e05) klA (by decide) 1 21) ?_
 rintro _ g6 ⟨rfl,e6⟩
 rw [sayA1]
 refine ⟨(true,()),rfl,?_⟩
 dsimp only [flat,unc,unc1,nA,cA]
 refine cond_t rfl ?_
 have e06:=e05.trans e6
 refine call_of (says_hc (tb.keep e06 (by simp)) (ld.ext e06) klB (by decide) 0 21) ?_
 rintro _ g7 ⟨rfl,e7⟩
 rw [sayB]
 refine ⟨(true,()),rfl,?_⟩
 dsimp only [flat,unc,unc1,nA,cA]
 exact ⟨rfl,e06.trans e7⟩
def rightV (x:Itm) (sec:Int):Int:=if sec=0 then (if itmR x 0 then 0 else 31) else if sec=1 then (if itmR x 1 then 0 else 31) else 1
theorem sec_cases {sec:Int} (h0:¬ sec=0) (h1:¬ sec=1):(∃ j:Nat,sec=((j+2:Nat):Int))∨∃ j:Nat,sec=Int.negSucc j:=by
 cases sec with
 | negSucc j=>exact .inr ⟨j,rfl⟩
 | ofNat n =>
  refine .inl ⟨n-2,?_⟩
  have h0:¬ ((n:Nat):Int)=0:=h0
  have h1:¬ ((n:Nat):Int)=1:=h1
  show ((n:Nat):Int)=_
  omega
theorem right19_hc {h:Hp} (t:Tab h) {x:Itm} {p:Option Addr} {l c:Nat} (v:ItmAt h p l x) (sec:Int):HC Tryz.prog 19 #[itmV p l c x,.int .i64 sec] h fun w h'=>w=.int .i64 (rightV x sec)∧Ext h h':=by
 unfold rightV
 by_cases h0:sec=0
 ·subst h0
  exact item_hc (k:=0) t v (by decide)
 by_cases h1:sec=1
 ·subst h1
  exact item_hc (k:=1) t v (by decide)
 rw [if_neg h0,if_neg h1]
 rcases sec_cases h0 h1 with ⟨j,rfl⟩ | ⟨j,rfl⟩
 ·refine hcr_of (args:=[itmV p l c x,.int .i64 ((j+2:Nat):Int)]) mixed Tryz.func19 (by kernel_rfl) (t_item_Right_up_eq j x.kind x.name x.inst.op x.inst.a x.inst.b x.inst.n x.inst.form p l c x.e.num x.n) ?_
  unfold t_item_Right_up
  refine newB ?_
  intro g1 b1 e1 z1
  exact ⟨rfl,e1⟩
 ·refine hcr_of (args:=[itmV p l c x,.int .i64 (Int.negSucc j)]) mixed Tryz.func19 (by kernel_rfl) (t_item_Right_dn_eq j x.kind x.name x.inst.op x.inst.a x.inst.b x.inst.n x.inst.form p l c x.e.num x.n) ?_
  unfold t_item_Right_dn
  refine newB ?_
  intro g1 b1 e1 z1
  exact ⟨rfl,e1⟩
theorem und61:Tryz.prog.underlying 61=some (.slice 9):=by kernel_rfl
theorem str61:(Tryz.prog.info? 9).map (fun i=>(i.zero,i.size,i.bytes))=some (some (.string ⟨#[]⟩),1,16):=by kernel_rfl
def synW:List ByteArray:=[⟨#[97,100,100,32,114,49]⟩,⟨#[97,100,100,32,114,49,44,32,122,50]⟩,⟨#[110,111,112,101]⟩,⟨#[110,111,112,101,32,114,49]⟩,⟨#[112,111,111,108,32,49]⟩,⟨#[98,121,116,101]⟩,⟨#[115,101,99,116,105,111,110,32,98,111,116,104]⟩,⟨#[101,113,117,32,114,49,44,32,50]⟩,⟨#[108,100,112,32,114,49,44,32,53]⟩,⟨#[101,113,117,32,49,44,32,50]⟩,⟨#[122,114,101,32,122,49,44,32,122,50]⟩,⟨#[116,114,97,112]⟩,⟨#[106,109,112]⟩]
def badW:List ByteArray:=[⟨#[108,105,115,32,114,49,44,32,97]⟩,⟨#[98,121,116,101,32,49]⟩,⟨#[97,108,105,103,110,32,51]⟩,⟨#[97,108,105,103,110,32,53,49,50]⟩,⟨#[97,108,105,103,110,32,48]⟩,⟨#[108,105,32,114,49,44,32,97,42,97]⟩,⟨#[115,112,97,99,101,32,49]⟩,⟨#[116,114,97,112,32,50,53,54]⟩,⟨#[116,114,97,112,32,45,49]⟩,⟨#[119,111,114,100,32,49]⟩]
def fineW:List ByteArray:=[⟨#[]⟩,⟨#[120,58]⟩,⟨#[97,108,105,103,110,32,50,53,54]⟩,⟨#[112,111,111,108]⟩,⟨#[116,114,97,112,32,50,53,53]⟩,⟨#[122,115,101,116,32,122,49,44,32,114,50,44,32,114,51]⟩,⟨#[122,114,101,32,114,49,44,32,122,50]⟩,⟨#[101,113,117,32,120,44,32,50,42,121]⟩,⟨#[103,108,111,98,97,108,32,120]⟩,⟨#[115,101,99,116,105,111,110,32,100,97,116,97]⟩,⟨#[106,122,32,114,49,44,32,97]⟩,⟨#[108,100,112,32,114,49,44,32,61,97,43,49]⟩]
def saysA (why:Nat) (l:List ByteArray):Bool:=l.all fun w=>decide (w.size≤1048576) && decide ((sayR w 0).2=why)
theorem synOk:saysA 20 synW=true:=by kernel_rfl
theorem badOk:saysA 21 badW=true:=by kernel_rfl
theorem fineOk:saysA 0 fineW=true:=by kernel_rfl
theorem six0:(sayR ⟨#[98,121,116,101,32,49,44,32,51,48,48]⟩ 1).2=21:=by kernel_rfl
theorem six1:(sayR ⟨#[98,121,116,101,32,45,49,50,56,44,32,50,53,53]⟩ 1).2=0:=by kernel_rfl
theorem six2:(sayR ⟨#[115,112,97,99,101,32,45,49]⟩ 1).2=21:=by kernel_rfl
theorem six3:(sayR ⟨#[115,112,97,99,101,32,49,48,52,56,53,55,54]⟩ 1).2=0:=by kernel_rfl
theorem six4:(sayR ⟨#[112,111,111,108]⟩ 1).2=21:=by kernel_rfl
theorem six5:(sayR ⟨#[115,101,99,116,105,111,110,32,116,101,120,116]⟩ 1).2=0:=by kernel_rfl
def runT (lv:Nat) (p:Option Addr) (l:Nat) (why:Int) (b:Bool) (k:Bool→T):T :=
 T.loop [(false,[.bool]),(false,[.int .i64])] [.bool b,.int .i64 (0:Int)] <| fun (b4:Bool) (n5:Int) =>
 cond (decide (n5<(l:Int)))
  (T.need (((0:Int)≤n5)∧(n5<(l:Int))) <|
  T.osome p <| fun (a6:Addr) =>
  T.loads (a6.add ((Int.toNat n5)*1)) [.string] <| fun (s7:ByteArray) =>
  T.call Tryz.prog 18 [.string s7,.int .i64 (0:Int),.int .i64 why] false [(false,[.bool])] <| fun (b8:Bool) =>
  cond (!b8)
   (T.ret (.bool false))
   (T.again lv [.bool b4,.int .i64 (IntKind.wrap .i64 (n5+(1:Int)))]))
  (k b4)
theorem runs_of {L:Lp} {K:Value→Hp→Prop} {h0 h:Hp} (tb:TabN h0) (ld:Laid h0) (e:Ext h0 h) {g:Nat} {ws:List ByteArray} (bx:Box h g 9 (ws.map Value.string)) {why:Nat} (hw:saysA why ws=true) (hl:ws.length≤1000) {lv:Nat} (hlv:lv=L.length) (b:Bool) {k:Bool→T}
  (hk:∀ j h' b',Ext h0 h'→k b' (L++[j]) K h'):runT lv (some ⟨g,0,none⟩) ws.length (why:Int) b k L K h:=by
 subst hlv
 unfold runT
 refine loop_of (cs:=[(false,[.bool]),(false,[.int .i64])]) (fun x n h'=>Ext h h'∧∃ i:Nat,x.2.1=(i:Int)∧i≤ws.length∧n=ws.length-i) (b,(0:Int),()) ws.length rfl ⟨Ch.refl _ _,0,rfl,by omega,rfl⟩ ?_
 rintro ⟨b4,n5,⟨⟩⟩ m h1 ⟨e1,i,hi,hile,rfl⟩
 simp only at hi
 subst hi
 dsimp only [flat,unc,unc1,nA,cA]
 refine cond_mk (fun a=>?_) (fun a=>hk _ _ _ (e.trans e1))
 have a:=of_decide_eq_true a
 have hlt:i<ws.length:=by omega
 refine need_of ⟨by omega,by omega⟩ (osome_mk rfl ?_)
 rw [show Int.toNat (i:Int)=i by omega]
 have hq:=List.all_eq_true.1 hw ws[i] (List.getElem_mem hlt)
 simp only [Bool.and_eq_true,decide_eq_true_eq] at hq
 rw [add_box]
 refine loads_box (bx.keep e1 (by simp)) (ws[i],()) (by
  rw [Nat.zero_add,Nat.mul_one,← List.map_drop,List.drop_eq_getElem_cons hlt]
  rfl) ?_
 dsimp only [flat,unc,unc1,nA,cA]
 refine call_of (says_hc (tb.keep (e.trans e1) (by simp)) (ld.ext (e.trans e1)) ws[i] (by omega) 0 (why:Int)) ?_
 rintro _ h2 ⟨rfl,e2⟩
 rw [hq.2]
 refine ⟨(true,()),by simp; rfl,?_⟩
 dsimp only [flat,unc,unc1,nA,cA]
 refine cond_f rfl ?_
 have hwi:IntKind.wrap .i64 ((i:Int)+1)=((i+1:Nat):Int):=by rw [wrap_i64 (by omega) (by omega)]; omega
 exact again_mk (cs:=[(false,[.bool]),(false,[.int .i64])]) (I:=fun x n h'=>Ext h h'∧∃ i:Nat,x.2.1=(i:Int)∧i≤ws.length∧n=ws.length-i) (n:=ws.length-i) (b4,((i+1:Nat):Int),()) (ws.length-(i+1)) (by simp; rfl) (by omega) (congrArg (fun z=>[Value.bool b4,.int .i64 z]) hwi) ⟨e1.trans e2,i+1,rfl,by omega,rfl⟩
theorem itemNumbers_hc {h:Hp} (tb:TabN h) (ld:Laid h):HC Tryz.prog 5 #[] h fun w h'=>w=.bool true∧Ext h h':=by
 refine hcr_of (args:=[]) mixed Tryz.func5 (by kernel_rfl) t_spandrellaw8_ItemNumbers_eq ?_
 unfold t_spandrellaw8_ItemNumbers
 have one:∀ {gg:Hp} {L:Lp} {K:Value→Hp→Prop} (w:ByteArray) (sec why:Int) {k:Bool→T},Ext h gg→w.size≤2^20→(((sayR w sec).2:Int)=why)→(∀ g',Ext h g'→k true L K g')→(T.call Tryz.prog 18 [.string w,.int .i64 sec,.int .i64 why] false [(false,[.bool])] k) L K gg:=by
  intro gg L K w sec why k e hs hv hk
  refine call_of (says_hc (tb.keep e (by simp)) (ld.ext e) w hs sec why) ?_
  rintro _ g' ⟨rfl,e'⟩
  rw [decide_eq_true hv]
  exact ⟨(true,()),rfl,hk g' (e.trans e')⟩
 refine lit_of und61 str61 (by decide) (by decide) (cells:=synW.map Value.string) (by kernel_rfl) ?_
 intro h1 b1 e1 z1
 refine runs_of (lv:=0) tb ld e1 (ws:=synW) (why:=20) b1 synOk (by decide) rfl false ?_
 intro j h2 b2 e2
 refine lit_of und61 str61 (by decide) (by decide) (cells:=badW.map Value.string) (by kernel_rfl) ?_
 intro h3 b3 e3 z3
 refine runs_of (lv:=1) tb ld (e2.trans e3) (ws:=badW) (why:=21) b3 badOk (by decide) rfl b2 ?_
 intro j' h4 b4 e4
 refine lit_of und61 str61 (by decide) (by decide) (cells:=fineW.map Value.string) (by kernel_rfl) ?_
 intro h5 b5 e5 z5
 refine runs_of (lv:=2) tb ld (e4.trans e5) (ws:=fineW) (why:=0) b5 fineOk (by decide) rfl b4 ?_
 intro j'' g b6 e6
 refine one _ _ _ e6 (by decide) (by rw [six0]; rfl) ?_
 intro g e6
 refine cond_t rfl ?_
 refine one _ _ _ e6 (by decide) (by rw [six1]; rfl) ?_
 intro g e6
 refine cond_t rfl ?_
 refine one _ _ _ e6 (by decide) (by rw [six2]; rfl) ?_
 intro g e6
 refine cond_t rfl ?_
 refine one _ _ _ e6 (by decide) (by rw [six3]; rfl) ?_
 intro g e6
 refine cond_t rfl ?_
 refine one _ _ _ e6 (by decide) (by rw [six4]; rfl) ?_
 intro g e6
 refine cond_t rfl ?_
 refine one _ _ _ e6 (by decide) (by rw [six5]; rfl) ?_
 intro g e6
 refine cond_t rfl ?_
 have v:∀ gg:Hp,ItmAt gg none 0 (itm 0):=fun gg=>⟨⟨⟨rfl,by simp [itm,lin0]⟩,by simp [itm,lin0],by simp [itm,lin0]⟩,by decide,by unfold Sm itm ins0; simp⟩
 refine call_of (right19_hc (x:=itm 0) ((tb.keep e6 (by simp)).tab) (v _) (c:=0) 2) ?_
 rintro _ g' ⟨rfl,e'⟩
 have e6:=e6.trans e'
 refine ⟨((1:Int),()),rfl,?_⟩
 dsimp only [flat,unc,unc1,nA,cA]
 refine cond_t rfl ?_
 refine call_of (right19_hc (x:=itm 0) ((tb.keep e6 (by simp)).tab) (v _) (c:=0) 0) ?_
 rintro _ g'' ⟨rfl,e''⟩
 have e6:=e6.trans e''
 refine ⟨((31:Int),()),rfl,?_⟩
 dsimp only [flat,unc,unc1,nA,cA]
 refine cond_t rfl ?_
 refine call_of (known_hc (tb.keep e6 (by simp)) (ld.ext e6)) ?_
 rintro _ g7 ⟨rfl,e7⟩
 refine ⟨(true,()),rfl,?_⟩
 dsimp only [flat,unc,unc1,nA,cA]
 exact ⟨rfl,e6.trans e7⟩
open Go.Proofs Go.Proofs.YtgnhjkofpmchpaaGreatDoor
open Go.ChangeShapes Go.WideShapes Go.ChangeAt Go.WideMaps Go.WideElems Go.RowKit
def flds2 (P:Program) (t:TypeId):Option (List (TypeId × Nat)):=(P.underlying t).bind fun d=>match d with | .struct fs=>some (fs.toList.map fun f=>(f.type,f.offset)) | _=>none
section
variable {H:Type} {enc:TypeId × Value→H} {P:Program} {W:World} {base fuel:Nat} {sp:Nat→Bool} {held:Bool} {t:TypeId} {cs:List Value} {y:DataW H × List MemPlace}
theorem open_struct {l:List (TypeId × Nat)} (hu:flds2 P t=some l) (h:DataW.trod enc P W base sp held fuel t cs=some y) :
  ∃ (xs:List (DataW H × List MemPlace)) (n:Nat),y.1=.agg (xs.map (·.1))∧cs.length=P.cellsOf t∧xs.length=l.length∧∀ (i:Nat) (p:TypeId × Nat),l[i]?=some p→∃ x,xs[i]?=some x∧DataW.trod enc P W base sp held n p.1 ((cs.drop p.2).take (P.cellsOf p.1))=some x:=by
 unfold flds2 at hu
 cases hd:P.underlying t with
 | none=>rw [hd] at hu; cases hu
 | some d =>
  rw [hd] at hu
  simp only [Option.bind_some] at hu
  split at hu
  ·rename_i fs
   simp only [Option.some.injEq] at hu
   obtain ⟨xs,n,_,hy,hl,hlen,hf⟩:=DataW.trod_struct hd h
   refine ⟨xs,n,by rw [hy],hl,by rw [← hu,List.length_map,hlen,Array.length_toList],fun i p hp=>?_⟩
   rw [← hu,List.getElem?_map,Option.map_eq_some_iff] at hp
   obtain ⟨f,hf1,rfl⟩:=hp
   rw [Array.getElem?_toList] at hf1
   have h1:=hf i f hf1
   cases hx:xs[i]? with
   | none =>
    rw [List.getElem?_eq_none_iff] at hx
    have:i<fs.size:=by
     by_cases g:i<fs.size
     ·exact g
     ·rw [Array.getElem?_eq_none (by omega)] at hf1
      cases hf1
    omega
   | some x=>rw [hx] at h1; exact ⟨x,rfl,h1⟩
  ·cases hu
end
theorem calls_of {P:Program} {f:FuncId} {args:Array Value} {W:World} {R:Value→Hp→Prop} (h:HC P f args W.heap R) (he:∀ v h',R v h'→Ext W.heap h'):Calls P f args W fun e w'=>∃ v,e=.returned v∧Below W.heap.size W w'∧R v w'.heap:=by
 refine (h W rfl).mono fun e w' ⟨v,hv,hs,hr⟩=>⟨v,hv,⟨hs.os,hs.tape,hs.output,(he v _ hr).size,fun k hk=>(he v _ hr).same k hk (by simp)⟩,hr⟩
theorem below_same {W W':World} (hB:Below W.heap.size W W') {p:MemPlace} (hp:p.block<W.heap.size):W.sameAt W' p:=by
 cases p with
 | cell b off =>
  show W'.cell? _=W.cell? _
  unfold World.cell?
  rw [hB.block b hp]
 | map b=>exact hB.block b hp
theorem ownK:ownKnob Tryz.prog.godebug=none:=by kernel_rfl
theorem u9:Tryz.prog.underlying 9=some .string:=by kernel_rfl
theorem u4:Tryz.prog.underlying 4=some .bool:=by kernel_rfl
theorem u3:Tryz.prog.underlying 3=some (.int .i64):=by kernel_rfl
theorem u5:Tryz.prog.underlying 5=some (.int .u8):=by kernel_rfl
theorem u127:Tryz.prog.underlying 113=some (.array 43 112):=by kernel_rfl
theorem c106:Tryz.prog.cellsOf 112=3:=by kernel_rfl
theorem c127:Tryz.prog.cellsOf 113=129:=by kernel_rfl
theorem c9:Tryz.prog.cellsOf 9=1:=by kernel_rfl
theorem c5:Tryz.prog.cellsOf 5=1:=by kernel_rfl
theorem c3:Tryz.prog.cellsOf 3=1:=by kernel_rfl
theorem s106:flds2 Tryz.prog 112=some [(9,0),(5,1),(3,2)]:=by kernel_rfl
def tabL:List (DataW Unit):=match (Rows.laid_spandrel_isa_table:DataW Unit) with | .agg l=>l | _=>[]
def shpOf:DataW Unit→Int
 | .agg [_,_,.lit (.int _ n)]=>n
 | _=>0
theorem tabL_eq:(Rows.laid_spandrel_isa_table:DataW Unit)=.agg tabL:=by kernel_rfl
theorem tabL_shp:tabL.map shpOf=(List.range 43).map fun k=>((shpL.getD k 0:Nat):Int):=by kernel_rfl
theorem flat_len {α β:Type} (f:α→List β) (m:Nat) (hf:∀ x,(f x).length=m):∀ l:List α,(l.flatMap f).length=l.length*m
 | []=>by simp
 | x::l=>by rw [List.flatMap_cons,List.length_append,hf,flat_len f m hf l,List.length_cons,Nat.succ_mul,Nat.add_comm]
theorem rowsV_length (nm:Nat→ByteArray) (by_:Nat→Int):(rowsV nm by_).length=129:=by
 unfold rowsV
 rw [flat_len _ 3 (fun x=>rfl),List.length_range]
def nmOf:DataW Unit→List UInt8
 | .agg [.lit (.string s),_,_]=>s
 | _=>[]
def byOf:DataW Unit→Int
 | .agg [_,.lit (.int _ n),_]=>n
 | _=>0
theorem tabL_nm:tabL.map nmOf=(List.range 43).map fun k=>opNm k:=by kernel_rfl
theorem tabL_by:tabL.map byOf=(List.range 43).map fun k=>opsB k:=by kernel_rfl
theorem tab_cells {enc:TypeId × Value→Unit} {W:World} {base fuel:Nat} {sp:Nat→Bool} {held:Bool} {cs:List Value} {p:List MemPlace}
  (h:DataW.trod enc Tryz.prog W base sp held fuel 113 cs=some (Rows.laid_spandrel_isa_table,p)):cs=rowsV opsN opsB:=by
 obtain ⟨xs,m,_,hx,hl,hlen,hf⟩:=DataW.trod_array u127 h
 rw [c127] at hl
 have hxs:xs.map (·.1)=tabL:=by
  have:=congrArg Prod.fst hx
  rw [show (Rows.laid_spandrel_isa_table,p).1=DataW.agg tabL from tabL_eq] at this
  simpa using this.symm
 have each:∀ i,i<43→(cs.drop (i*3)).take 3=[.string (opsN i),.int .u8 (opsB i),.int .i64 ((shpL.getD i 0:Nat):Int)]:=by
  intro i hi
  have h1:=hf i hi
  rw [c106] at h1
  rw [List.getElem?_eq_getElem (by omega)] at h1
  obtain ⟨ys,n,hy,hyl,hyn,hys⟩:=open_struct s106 h1
  obtain ⟨y0,g0,t0⟩:=hys 0 _ rfl
  obtain ⟨y1,g1,t1⟩:=hys 1 _ rfl
  obtain ⟨y2,g2,t2⟩:=hys 2 _ rfl
  rw [c106] at hyl
  generalize hc:(cs.drop (i*3)).take 3=c at *
  match c,hyl with
  | [v0,v1,v2],_ =>
   rw [show Tryz.prog.cellsOf (9,0).1=1 from c9] at t0
   rw [show Tryz.prog.cellsOf (5,1).1=1 from c5] at t1
   rw [show Tryz.prog.cellsOf (3,2).1=1 from c3] at t2
   obtain ⟨s,e0,r0,_⟩:=DataW.trod_string u9 t0
   obtain ⟨b,e1,r1,_⟩:=DataW.trod_int u5 t1
   obtain ⟨k,e2,r2,_⟩:=DataW.trod_int u3 t2
   cases e0; cases e1; cases e2
   have hys3:ys=[y0,y1,y2]:=by
    apply List.ext_getElem?
    intro j
    match j with
    | 0=>exact g0
    | 1=>exact g1
    | 2=>exact g2
    | j+3=>rw [List.getElem?_eq_none (by rw [hyn]; simp),List.getElem?_eq_none (by simp)]
   have h2:(xs.map (·.1))[i]?=some (xs[i]'(by omega)).1:=by rw [List.getElem?_map,List.getElem?_eq_getElem (by omega)]; rfl
   rw [hxs] at h2
   have hk:k=((shpL.getD i 0:Nat):Int):=by
    have h3:(tabL.map shpOf)[i]?=some (shpOf (xs[i]'(by omega)).1):=by rw [List.getElem?_map,h2]; rfl
    rw [tabL_shp,List.getElem?_map,List.getElem?_range hi] at h3
    rw [hy,hys3,r0,r1,r2] at h3
    exact (Option.some.inj h3).symm
   have hb:b=opsB i:=by
    have h3:(tabL.map byOf)[i]?=some (byOf (xs[i]'(by omega)).1):=by rw [List.getElem?_map,h2]; rfl
    rw [tabL_by,List.getElem?_map,List.getElem?_range hi] at h3
    rw [hy,hys3,r0,r1,r2] at h3
    exact (Option.some.inj h3).symm
   have hs:s=opsN i:=by
    have h3:(tabL.map nmOf)[i]?=some (nmOf (xs[i]'(by omega)).1):=by rw [List.getElem?_map,h2]; rfl
    rw [tabL_nm,List.getElem?_map,List.getElem?_range hi] at h3
    rw [hy,hys3,r0,r1,r2] at h3
    exact ba_ext (Option.some.inj h3).symm
   rw [hk,hb,hs]
 apply List.ext_getElem?
 intro j
 by_cases hj:j<129
 ·obtain ⟨a,b,hab,hb⟩:∃ a b,j=a*3+b∧b<3:=⟨j / 3,j % 3,by omega,by omega⟩
  subst hab
  unfold rowsV
  rw [flat_get (fun k=>[Value.string (opsN k),.int .u8 (opsB k),.int .i64 (shpL.getD k 0:Nat)]) 3 (fun x=>rfl) _ a b hb,List.getElem?_range (by omega)]
  show cs[a*3+b]?=[Value.string (opsN a),.int .u8 (opsB a),.int .i64 ((shpL.getD a 0:Nat):Int)][b]?
  have:=each a (by omega)
  rw [← this,List.getElem?_take,if_pos hb,List.getElem?_drop]
 ·have hr:(rowsV opsN opsB).length=129:=rowsV_length _ _
  rw [List.getElem?_eq_none (by omega),List.getElem?_eq_none (by omega)]
theorem var_obj {P:Program} {W:World} {name:String} {g:Nat} {cs:Array Value} (hg:P.globalNamed name=some g) (hv:W.var? P name=some cs):∃ e f,W.heap[g]?=some (.cells cs e f):=by
 unfold World.var? at hv
 rw [hg] at hv
 have hv:(match (W.heap[g]?:Option Obj) with | some (.cells cs _ _)=>some cs | _=>none)=some cs:=hv
 split at hv
 ·rename_i cs' e f hh
  cases hv
  exact ⟨e,f,hh⟩
 ·cases hv
theorem u148 : Tryz.prog.underlying 148 = some (.interface #[("Error", 228)]) := by kernel_rfl
theorem laid_of {W:World} (h:laidMetH Tryz.prog Rows.itemReadsRow.laid W):TabN W.heap∧Laid W.heap:=by
 rw [MakeChecks.laidMetH_plain _ _ _ (by kernel_rfl)] at h
 obtain ⟨ps,⟨g0,t0,cs0,f0,p0,q0,hg0,ht0,hv0,hd0,⟨g1,t1,cs1,f1,p1,q1,hg1,ht1,hv1,hd1,⟨g2,t2,cs2,f2,p2,q2,hg2,ht2,hv2,hd2,⟨g3,t3,cs3,f3,p3,q3,hg3,ht3,hv3,hd3,⟨g4,t4,cs4,f4,p4,q4,hg4,ht4,hv4,hd4,⟨g5,t5,cs5,f5,p5,q5,hg5,ht5,hv5,hd5,_,_⟩,_⟩,_⟩,_⟩,_⟩,_⟩,_,_⟩:=h
 obtain rfl:=Option.some.inj ((show Tryz.prog.globalNamed _=some 0 by kernel_rfl).symm.trans hg3)
 obtain rfl:=Option.some.inj ((show Tryz.prog.globalNamed _=some 3 by kernel_rfl).symm.trans hg4)
 obtain rfl:=Option.some.inj ((show Tryz.prog.globalNamed _=some 2 by kernel_rfl).symm.trans hg5)
 have h3:(Tryz.prog.globals[0]?).map (·.type)=some 113:=by kernel_rfl
 obtain rfl:=Option.some.inj (h3.symm.trans ht3)
 have h4:(Tryz.prog.globals[3]?).map (·.type)=some 148:=by kernel_rfl
 obtain rfl:=Option.some.inj (h4.symm.trans ht4)
 have h5:(Tryz.prog.globals[2]?).map (·.type)=some 148:=by kernel_rfl
 obtain rfl:=Option.some.inj (h5.symm.trans ht5)
 have hr:=tab_cells hd3
 obtain ⟨e3,ff3,ho3⟩:=var_obj hg3 hv3
 obtain ⟨_,w4,v4,e4,_⟩:=iface_of_trod u148 hd4
 obtain ⟨_,w5,v5,e5,_⟩:=iface_of_trod u148 hd5
 have c4:=World.var?_cell hg4 hv4 0
 have c5:=World.var?_cell hg5 hv5 0
 rw [← Array.getElem?_toList,e4] at c4
 rw [← Array.getElem?_toList,e5] at c5
 refine ⟨⟨e3,ff3,?_⟩,⟨⟨_,c5,rfl⟩,⟨_,c4,rfl⟩⟩⟩
 rw [ho3,← hr]
theorem door_met (os:Os) (args:Array Value):laidMetH Tryz.prog Rows.itemReadsRow.laid ((World.doorLaid Tryz.prog 400 os).forCall (fun _ _=>0) ⟨#[],args,[]⟩).memory :=
 laidMetH_of_parts3 (fuel:=8) (laidMet_of_run' 8 (by kernel_rfl) (by kernel_rfl)) (by kernel_rfl) (by kernel_rfl)
theorem kidsT:Kids Tryz.prog (·<Tryz.prog.types.size):=kids_rows (by kernel_rfl) (by kernel_rfl)
theorem sliceB:((List.range Tryz.prog.types.size).all fun t=>match Tryz.prog.underlying t with | some (.slice e)=>decide (0<Tryz.prog.cellsOf e) | _=>true)=true:=by kernel_rfl
theorem sliceT {t e:TypeId} (ht:t<Tryz.prog.types.size) (hu:Tryz.prog.underlying t=some (.slice e)):0<Tryz.prog.cellsOf e:=by
 have:=List.all_eq_true.1 sliceB t (List.mem_range.2 ht)
 rw [hu] at this
 exact of_decide_eq_true this
theorem trodAll_stays {H:Type} {enc:TypeId × Value→H} {W W':World} {sp:Nat→Bool} (hB:Below W.heap.size W W'):∀ {ts:List TypeId} {vs:List Value} {ds:List (DataW H)} {ps:List MemPlace},(∀ t∈ts,t<Tryz.prog.types.size) →
  DataW.TrodAll enc Tryz.prog W 0 (fun _=>true) true ts vs ds ps→(∀ p∈ps,p.block<W.heap.size)→(∀ p∈ps,sp p.block=true)→DataW.TrodAll enc Tryz.prog W' 0 sp true ts vs ds ps
 | [],_,_,_,_,h,_,_=>by
  obtain ⟨rfl,rfl,rfl⟩:=trodAll_nil h
  exact trodAll_mk0
 | t::ts,_,_,_,ht,h,hl,hs=>by
  obtain ⟨v,vs1,d,ds1,a,b,rfl,rfl,rfl,⟨n,h1⟩,h2⟩:=trodAll_cons h
  exact ⟨a,b,⟨n,DataW.trod_stays kidsT (fun h hu=>sliceT h hu) (fun h=>by cases h) (ht t (List.mem_cons_self ..)) h1 (fun p hp=>below_same hB (hl p (List.mem_append_left _ hp))) (fun p hp=>hs p (List.mem_append_left _ hp))⟩,
   trodAll_stays hB (fun t h=>ht t (List.mem_cons_of_mem _ h)) h2 (fun p hp=>hl p (List.mem_append_right _ hp)) (fun p hp=>hs p (List.mem_append_right _ hp)),rfl⟩
theorem post_old {H:Type} {enc:TypeId × Value→H} {f:Func} {s:ChangeSpec} {apart fresh handsOn:Bool} {W W':World} {args:Array Value} {v:Value} {ds gs:List (DataW H)} {before:List MemPlace} (hv0:s.vars=[])
  (hW:DataW.Whole enc Tryz.prog f.params.toList s.vars apart W args.toList ds gs before)
  (hres:∀ (b:Nat) (sp:Nat→Bool) (hd:Bool),DataW.TrodAll enc Tryz.prog W' b sp hd f.resultTypes.toList (v.resultList f.resultTypes.size) (s.fn H (ds++gs)).results [])
  (hargs:(s.fn H (ds++gs)).args=ds) (hvs:(s.fn H (ds++gs)).vars=[]) (hts:∀ t∈f.params.toList,t<Tryz.prog.types.size) (hB:Below W.heap.size W W') :
  s.post enc Tryz.prog f apart fresh handsOn false W args v W':=by
 have hlt:=hW.lt
 have hW':=hW
 obtain ⟨p,q,hA,hV,rfl,hz,hn⟩:=hW
 rw [hv0] at hV
 obtain ⟨rfl,rfl⟩:=trodVars_none hV
 rw [List.append_nil] at hlt hW'
 refine ⟨ds,[],p,[],p,[],hW',hres _ _ _,?_,?_,hB.frame _,fun h=>by cases h⟩
 ·rw [hargs]
  exact trodAll_stays hB hts hA hlt (fun p hp=>decide_eq_true (hlt p hp))
 ·rw [hvs,hv0]
  rfl
theorem s55:flds2 Tryz.prog 26=some [(23,0),(24,1)]:=by kernel_rfl
theorem s79:flds2 Tryz.prog 54=some [(3,0),(9,1),(52,2),(26,7),(3,9)]:=by kernel_rfl
section
variable {H:Type} {enc:TypeId × Value→H} {W:World} {base n:Nat} {sp:Nat→Bool} {held:Bool} {cs:List Value} {y:DataW H × List MemPlace}
end
open Go.ChangeMaps
theorem itemNumbers_small:(Tryz.f5.params.toList.all fun t=>decide (t<Tryz.prog.types.size))=true:=by kernel_rfl
theorem itemNumbers_cell0:Tryz.prog.inPlace 5=Rows.itemNumbersRow.inPlace:=by kernel_rfl
theorem itemNumbers_cell1:Tryz.prog.unfollowed 5=Rows.itemNumbersRow.unfollowed:=by kernel_rfl
theorem itemNumbers_cell2:Tryz.prog.recurses 5=Rows.itemNumbersRow.recurses:=by kernel_rfl
theorem itemNumbers_cell3:Tryz.prog.varsNamed 5=Rows.itemNumbersRow.named:=by kernel_rfl
theorem itemNumbers_facts:joinedFacts Tryz.prog 5 Tryz.f5 Rows.itemNumbersSpec Rows.itemNumbersRow=true:=by
 unfold joinedFacts
 rw [itemNumbers_cell0,itemNumbers_cell1,itemNumbers_cell2,itemNumbers_cell3]
 kernel_rfl
theorem itemNumbers_lifted (os:Os) (started:os.Started) (H:Type) (enc:TypeId × Value→H) :
  ReturnsInHanded {} Tryz.checked os 5 .any (fun w args=>(Rows.itemNumbersSpec.pre enc Tryz.prog Tryz.f5 [] false w args∧laidMetH Tryz.prog Rows.itemNumbersRow.laid w)∧sizedMet enc Tryz.prog Tryz.f5 (OpenSpec.ofChange Rows.itemNumbersSpec) false w args)
   (Rows.itemNumbersSpec.post enc Tryz.prog Tryz.f5 false true false false):=by
 refine returnsInHanded_of_change_and (C:=Tryz.checked) (X:=fun w _=>laidMetH Tryz.prog Rows.itemNumbersRow.laid w) (fun _ _ _ hh h=>h.of_heap hh) ownK started (by kernel_rfl) Tryz.func5
  (ChangeSpec.witness_shaped (enc:=enc) (C:=Tryz.checked) (os:=os) (X:=fun w _=>laidMetH Tryz.prog Rows.itemNumbersRow.laid w) false (World.doorLaid Tryz.prog 400 os) #[] 8 rfl (World.shaped_of_RefB (by kernel_rfl) (by kernel_rfl)) (by kernel_rfl) (by kernel_rfl) (by kernel_rfl) (door_met os _)) ?_
 intro W base args ds gs before hval0 hW _ hwt hL _
 have hval:∀ (j:Nat) t v,Tryz.f5.params[j]?=some t→args[j]?=some v→Value.okWide Tryz.prog W .any base t v:=hval0
 have hW':=hW
 obtain ⟨p,q,hA0,hV,rfl,hfz,hnd⟩:=hW
 have hA:DataW.TrodAll enc Tryz.prog W 0 (fun _=>true) true Tryz.f5.params.toList args.toList ds p:=hA0
 have hpf:Tryz.f5.params=#[]:=by kernel_rfl
 rw [hpf] at hA hval
 clear hA0 hval0
 obtain ⟨args⟩:=args
 obtain ⟨rfl,rfl,rfl⟩:=trodAll_nil hA
 obtain ⟨rfl,rfl⟩:=trodVars_none hV
 simp only [List.append_nil] at hW'
 refine (calls_of (itemNumbers_hc (laid_of hL).1 (laid_of hL).2) (fun _ _ h=>h.2)).mono fun e W' ⟨v,he,hB,hv,_⟩=>?_
 subst he hv
 exact ⟨_,rfl,post_old rfl hW' (fun _ _ _=>trodAll_mk1 (shut_bool u4 _)) rfl rfl (fun t ht=>of_decide_eq_true (List.all_eq_true.1 itemNumbers_small t ht)) hB⟩
theorem itemNumbers_holds:Rows.ItemNumbersSaid :=
 OpenClaim.holds_of_wide 5 Tryz.f5 rfl rfl rfl rfl rfl rfl rfl ⟨rfl,rfl,rfl,rfl,rfl⟩ rfl rfl rfl rfl rfl (by kernel_rfl) Tryz.func5 itemNumbers_facts
  (of_decide_eq_true (by kernel_rfl)) (by unfold Func.isWrapper; first | (rw [if_pos (by decide +kernel)]; kernel_rfl) | (rw [if_neg (by decide +kernel)]; exact ⟨rfl,rfl⟩))
  (fun os started H enc _=>itemNumbers_lifted os started H enc)
end Go.Sx.Ob
