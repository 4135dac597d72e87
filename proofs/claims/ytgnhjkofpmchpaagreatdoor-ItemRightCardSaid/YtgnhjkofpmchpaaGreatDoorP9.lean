/- Contracts over heaps, and plain laws, for the functions that the laws of chapter 8 call, part 9: What a line says, over heaps: it lies in new memory. The document's rows of item Condition: as each statement says. -/
import Derived.Test.YtgnhjkofpmchpaaGreatDoorP8
import Derived.Test.YtgnhjkofpmchpaaGreatDoorItH
import Derived.Test.YtgnhjkofpmchpaaGreatDoorItI
import Derived.Test.YtgnhjkofpmchpaaGreatDoorItJ
import Derived.Test.YtgnhjkofpmchpaaGreatDoorItE
set_option linter.unusedVariables false
set_option linter.unusedSimpArgs false
set_option maxRecDepth 100000
namespace Go.Sx.Ob
open Go.Proofs
def zT:List Value:=thgC 0 none 0 0 nam0 none 0 0 0 0
def thgQ (h:Hp) (r:Except Nat Thg) (u:Value) (h':Hp):Prop:=Ext h h'∧match r with
 | .error e=>u=.tuple #[.agg zT.toArray,.int .i64 (e:Int)]∧e≠0
 | .ok t=>∃ sl us se,u=.tuple #[thgV t.kind sl t.name se t.e.num t.sec,.int .i64 0]∧ThgAt h' h.size t sl us se
def opA (op:ByteArray) (args:List (List Tok)):Except Nat (Thg × Nat) :=
 if findA op≠0 then match codeA (findA op) args with
  | .error e=>.error e
  | .ok x=>.ok (oneT x,0)
 else dirA op args
theorem readA_op {l:Ln} {data:Bool} (h:¬ l.op=nam0):readA l data=match opA l.op l.args with
  | .error e=>.error e
  | .ok (t,w)=>if w=2∨w=(if data then 1 else 0) then .ok t else .error 21:=by
 unfold readA opA
 rw [if_neg h]
 by_cases hf:findA l.op≠0
 ·rw [if_pos hf,if_pos hf]
  cases codeA (findA l.op) l.args with
  | error e=>rfl
  | ok x=>cases data <;> simp
 ·rw [if_neg hf,if_neg hf]
  cases dirA l.op l.args with
  | error e=>rfl
  | ok q=>rfl
theorem codeA_err {op:Int} {args:List (List Tok)} {e:Nat} (hw:∀ a,a∈args→Wf a) (h:codeA op args=.error e):e=20∨e=21:=by
 unfold codeA at h
 split at h
 ·injection h with h
  exact .inl h.symm
 have key:∀ (rs:List Rdr) (args:List (List Tok)) (x:Itm),(∀ a,a∈args→Wf a)→codeL x rs args=.error e→e=20∨e=21:=by
  intro rs
  induction rs with
  | nil=>intro args x _ h; cases args <;> simp [codeL] at h
  | cons r rs ih =>
   intro args x hw h
   cases args with
   | nil=>simp [codeL] at h
   | cons a args =>
    simp only [codeL] at h
    cases ha:argA x r a with
    | error e' =>
     rw [ha] at h
     injection h with h
     subst h
     exact argA_err (hw a (by simp)) ha
    | ok y =>
     rw [ha] at h
     exact ih args y (fun b hb=>hw b (by simp [hb])) h
 exact key _ _ _ hw h
theorem dirA_w {op:ByteArray} {args:List (List Tok)} {t:Thg} {w:Nat} (hd:dirA op args=.ok (t,w)):w≤2:=by
 unfold dirA at hd
 simp only at hd
 repeat' split at hd
 all_goals first | (cases hd; done) | (injection hd with hd; injection hd with h1 h2; omega)
set_option maxHeartbeats 1000000 in
theorem read_hc {h:Hp} (tb:TabN h) {lab op:ByteArray} {p:Option Addr} {l c:Nat} {al:List In} (v:VwA h p l al) (hal:al.length≤2^32) (sec:Int) :
  HC Tryz.prog 13 #[.agg #[.string lab,.string op,.slice p l c],.int .i64 sec] h (thgQ h (readA ⟨lab,op,al.map In.ts⟩ (decide (sec=1)))):=by
 refine hcr_of (args:=[.agg #[.string lab,.string op,.slice p l c],.int .i64 sec]) mixed Tryz.func13 (by kernel_rfl) (t_item_Read_eq lab op p l c sec) ?_
 unfold t_item_Read
 refine newB ?_
 intro g1 b1 e1 z1
 refine newB ?_
 intro g2 b2 e2 z2
 have b1:=b1.keep e2 (by simp)
 have e02:=e1.trans e2
 have b2:Box g2 g1.size 28 zT:=b2
 obtain ⟨s4,hs4⟩:∃ s4:Int,s4=if sec=1 then 1 else 0:=⟨_,rfl⟩
 refine join_of (cs:=[(false,[.int .i64])]) (fun y h'=>g2=h'∧s4=y.1) ?_ ?_
 ·refine cond_mk (fun q=>?_) (fun q=>?_)
  ·have q:¬ sec=1:=by simpa using q
   exact meet_mk (cs:=[(false,[.int .i64])]) ((0:Int),()) rfl rfl ⟨rfl,by rw [hs4,if_neg q]⟩
  ·have q:sec=1:=by simpa using q
   exact meet_mk (cs:=[(false,[.int .i64])]) (sec,()) rfl rfl ⟨rfl,by rw [hs4,if_pos q,q]⟩
 rintro ⟨n4,⟨⟩⟩ g9 ⟨h9,h4⟩
 simp only at h4
 subst h9
 rw [← h4]
 clear h4
 dsimp only [flat,unc,unc1,nA,cA]
 rw [add_box]
 refine loads_box b1 (op,()) rfl ?_
 dsimp only [flat,unc,unc1,nA,cA]
 obtain ⟨r,hr⟩:∃ r,r=readA ⟨lab,op,al.map In.ts⟩ (decide (sec=1)):=⟨_,rfl⟩
 rw [← hr]
 have bad:∀ {gg:Hp} {xs:List Value} {e:Nat} {L:Lp},Ext h gg→Box gg g1.size 28 xs→xs.length=6→r=.error e→e≠0 →
   (T.stores ⟨g1.size,0,none⟩ [.int .i64 (0:Int),.slice none 0 0,.string ⟨#[]⟩,.slice none 0 0,.int .u32 (0:Int),.int .i64 (0:Int)] <|
   T.loads ⟨g1.size,0,none⟩ [.int .i64,.slice 54,.string,.slice 50,.int .u32,.int .i64] <| fun (n6:Int) (p7:Option Addr) (l8:Nat) (l9:Nat) (s10:ByteArray) (p11:Option Addr) (l12:Nat) (l13:Nat) (n14:Int) (n15:Int) =>
   T.ret (.tuple #[.agg #[.int .i64 n6,.slice p7 l8 l9,.string s10,.slice p11 l12 l13,.int .u32 n14,.int .i64 n15],.int .i64 (e:Int)])) L (thgQ h r) gg:=by
  intro gg xs e L eg bx hx hA he
  refine thg_st bx hx ?_
  intro h' b' k' z'
  refine ⟨Ch.trans eg k' (fun i hi hl=>by simp at hi; omega),?_⟩
  rw [hA]
  exact ⟨rfl,he⟩
 have good:∀ {gg:Hp} {xs:List Value} {t:Thg} {sl se:Sli} {us:List (Sli × Itm)} {L:Lp},Ext h gg→Box gg g1.size 28 xs→xs.length=6→r=.ok t→ThgAt gg (g1.size+1) t sl us se →
   (T.stores ⟨g1.size,0,none⟩ [.int .i64 (t.kind:Int),.slice sl.p sl.l sl.c,.string t.name,.slice se.p se.l se.c,.int .u32 (t.e.num:Int),.int .i64 (t.sec:Int)] <|
   T.loads ⟨g1.size,0,none⟩ [.int .i64,.slice 54,.string,.slice 50,.int .u32,.int .i64] <| fun (n6:Int) (p7:Option Addr) (l8:Nat) (l9:Nat) (s10:ByteArray) (p11:Option Addr) (l12:Nat) (l13:Nat) (n14:Int) (n15:Int) =>
   T.ret (.tuple #[.agg #[.int .i64 n6,.slice p7 l8 l9,.string s10,.slice p11 l12 l13,.int .u32 n14,.int .i64 n15],.int .i64 (0:Int)])) L (thgQ h r) gg:=by
  intro gg xs t sl se us L eg bx hx hA A
  refine thg_st bx hx ?_
  intro h' b' k' z'
  refine ⟨Ch.trans eg k' (fun i hi hl=>by simp at hi; omega),?_⟩
  rw [hA]
  exact ⟨sl,us,se,rfl,(A.keep k' (fun i hi hl=>by simp at hi; omega)).mono (by omega)⟩
 refine cond_mk (fun q=>?_) (fun q=>?_)
 ·have q:op=nam0:=by
   have q:op.data.toList=[]:=(ByteArray.toList_eq op).symm.trans (eq_of_beq q)
   exact ba_ext q
  have hA:r=.ok thg0:=by rw [hr]; unfold readA; rw [if_pos q]
  exact good (t:=thg0) (sl:=⟨none,0,0⟩) (se:=⟨none,0,0⟩) (us:=[]) e02 b2 rfl hA ⟨ItsAt.nil _ _,rfl,SL.nil _ _ _ _,.inl rfl⟩
 have q:¬ op=nam0:=fun e=>by
  subst e
  rw [ByteArray.toList_eq] at q
  simp [nam0] at q
 have hop:=readA_op (l:=⟨lab,op,al.map In.ts⟩) (data:=decide (sec=1)) q
 rw [← hr] at hop
 simp only at hop
 obtain ⟨ro,hro⟩:∃ ro,opA op (al.map In.ts)=ro:=⟨_,rfl⟩
 rw [hro] at hop
 refine newB ?_
 intro g3 b3 e3 z3
 have b3:Box g3 g2.size 28 zT:=b3
 have b1:=b1.keep e3 (by simp)
 have b2:=b2.keep e3 (by simp)
 have e03:=e02.trans e3
 have hlt2:=b2.lt
 have v3:=v.keep e03
 refine join_of (cs:=[(false,[.int .i64]),(false,[.int .i64])]) (fun y h'=>Ext h h'∧Box h' g1.size 28 zT∧match ro with
  | .error e=>y.2.1=(e:Int)∧e≠0
  | .ok (t,w)=>y.1=whI w∧y.2.1=(0:Int)∧w≤2∧∃ sl us se,Box h' g2.size 28 (thgC t.kind sl.p sl.l sl.c t.name se.p se.l se.c t.e.num t.sec)∧ThgAt h' (g1.size+1) t sl us se) ?_ ?_
 ·rw [add_box]
  refine loads_box b1 (op,()) rfl ?_
  dsimp only [flat,unc,unc1,nA,cA]
  refine call_of (find_hc (tb.keep e03 (by simp)) op) ?_
  obtain ⟨fo,hfo⟩:∃ fo,findA op=fo:=⟨_,rfl⟩
  have hle:fo≤43:=hfo▸findL_le _ _ _
  rintro u0 g4 ⟨hu0,e4⟩
  rw [hfo] at hu0
  subst hu0
  refine ⟨((fo:Int),decide (fo≠0),()),rfl,?_⟩
  dsimp only [flat,unc,unc1,nA,cA]
  have b14:=b1.keep e4 (by simp)
  have b24:=b2.keep e4 (by simp)
  have b34:=b3.keep e4 (by simp)
  have e04:=e03.trans e4
  refine cond_mk (fun f=>?_) (fun f=>?_)
  ·have f:fo≠0:=of_decide_eq_true f
   refine newB ?_
   intro g5 b5 e5 z5
   have b15:=b14.keep e5 (by simp)
   try rw [add_box]
   refine loads_box b15 ((p,l,c),()) rfl ?_
   dsimp only [flat,unc,unc1,nA,cA]
   have e05:=e04.trans e5
   refine call_of (code_hc ((tb.keep e05 (by simp)).tab) (op:=fo) (by omega) hle (v.keep e05) (by omega)) ?_
   rintro u g6 ⟨e6,hu⟩
   have e06:=e05.trans e6
   have hopA:ro=match codeA (fo:Int) (al.map In.ts) with
     | .error e=>.error e
     | .ok x=>.ok (oneT x,0):=by
    rw [← hro]
    unfold opA
    rw [hfo,if_pos f]
   have fin:∀ {x:Itm} {p':Option Addr} {l' c':Nat} {why:Int} {L:Lp} {K:Value→Hp→Prop},SL g6 g5.size 50 2 p' l' c' (x.e.terms.map encT)→(∀ h',Ext g6 h'∨True→Ch [g2.size] g6 h'∨True→Ext h h'→Box h' g1.size 28 zT→Box h' g2.size 28 (thgC 1 (some ⟨g6.size,0,none⟩) 1 1 nam0 none 0 0 0 0)→ItsAt h' (g1.size+1) (some ⟨g6.size,0,none⟩) 1 1 [(⟨p',l',c'⟩,x)]→T.again 0 [.int .i64 (0:Int),.int .i64 why] L K h') →
     (T.stores ⟨g4.size,0,none⟩ [.int .i64 x.kind,.string x.name,.int .i64 x.inst.op,.int .i64 x.inst.a,.int .i64 x.inst.b,.int .i32 x.inst.n,.int .i64 x.inst.form,.slice p' l' c',.int .u32 (x.e.num:Int),.int .i64 x.n] <|
     T.loads ⟨g4.size,0,none⟩ [.int .i64,.string,.int .i64,.int .i64,.int .i64,.int .i32,.int .i64,.slice 50,.int .u32,.int .i64] <| fun (n27:Int) (s28:ByteArray) (n29:Int) (n30:Int) (n31:Int) (n32:Int) (n33:Int) (p34:Option Addr) (l35:Nat) (l36:Nat) (n37:Int) (n38:Int) =>
     T.sem Tryz.prog (Instr.buildSlice 22 1 #[(0,.agg #[.int .i64 n27,.string s28,.int .i64 n29,.int .i64 n30,.int .i64 n31,.int .i32 n32,.int .i64 n33,.slice p34 l35 l36,.int .u32 n37,.int .i64 n38])]) false [(false,[.slice 0])] <| fun (p39:Option Addr) (l40:Nat) (l41:Nat) =>
     T.stores ⟨g2.size,0,none⟩ [.int .i64 (1:Int),.slice p39 l40 l41,.string ⟨#[]⟩,.slice none 0 0,.int .u32 (0:Int),.int .i64 (0:Int)] <|
     T.again 0 [.int .i64 (0:Int),.int .i64 why]) L K g6:=by
    intro x p' l' c' why L K sx hk
    refine stores_of (b5.keep e6 (by simp)) rfl (by simp) ?_
    intro g7 b7 k7 z7
    have b7:Box g7 g4.size 54 (encI p' l' c' x):=b7
    refine loads_box b7 (x.kind,x.name,x.inst.op,x.inst.a,x.inst.b,x.inst.n,x.inst.form,(p',l',c'),(x.e.num:Int),x.n,()) rfl ?_
    dsimp only [flat,unc,unc1,nA,cA]
    refine lit1_of (p:=p') (l:=l') (c:=c') (x:=x) ?_
    intro g8 s8 e8 z8
    have hz4:=e4.size
    have hz5:g5.size=g4.size+1:=z5
    have hz6:=e6.size
    have e07:Ext h g7:=Ch.trans e06 k7 (fun i hi hl=>by have:=e04.size; simp at hi; omega)
    have b38:Box g8 g2.size 28 zT:=(((b34.keep e5 (by simp)).keep e6 (by simp)).keep k7 (by have:=b34.lt; simp; omega)).keep e8 (by simp)
    refine stores_of b38 rfl (by simp [zT,thgC]) ?_
    intro g9 b9 k9 z9
    have b28:Box g8 g1.size 28 zT:=(((b24.keep e5 (by simp)).keep e6 (by simp)).keep k7 (by have:=b24.lt; simp; omega)).keep e8 (by simp)
    have e09:Ext h g9:=Ch.trans (e07.trans e8) k9 (fun i hi hl=>by have:=e02.size; simp at hi; omega)
    have s8':=SL.keepN (Sx.SL.mono s8 (show g1.size+1≤g7.size by omega)) (Ch.refl [] g8) (by simp)
    refine hk g9 (.inr trivial) (.inr trivial) e09 (b28.keep k9 (by simp; omega)) (by rw [z7] at b9; exact b9) ?_
    refine ⟨?_,?_,?_,by simp⟩
    ·rw [z7] at s8
     exact Sx.SL.keep' (Sx.SL.mono s8 (by omega)) k9 (fun i hi hm=>by simp [blkOf] at hi hm; omega)
    ·intro w hw
     have hw:w=(⟨p',l',c'⟩,x):=by simpa using hw
     subst hw
     refine Sx.SL.keep' (Sx.SL.keep' (Sx.SL.keep' (Sx.SL.mono sx (by omega)) k7 (fun i hi hm=>by have:=(Sx.SL.blk sx hi).1; simp at hm; omega)) e8 (by simp)) k9 (fun i hi hm=>by have:=(Sx.SL.blk sx hi).1; simp at hm; omega)
    ·intro w hw i hi hm
     have hw:w=(⟨p',l',c'⟩,x):=by simpa using hw
     subst hw
     have:=(Sx.SL.blk sx hi).2
     simp [blkOf] at hm
     omega
   cases hcd:codeA (fo:Int) (al.map In.ts) with
   | error e =>
    rw [hcd] at hu hopA
    have he:=codeA_err (fun a ha=>by obtain ⟨b,hb,rfl⟩:=List.mem_map.1 ha; exact v.wf b hb) hcd
    have hu:u=.tuple #[itmV none 0 0 (itm 0),.int .i64 (e:Int)]:=hu
    subst hu
    refine ⟨((0:Int),(⟨#[]⟩:ByteArray),(0:Int),(0:Int),(0:Int),(0:Int),(0:Int),(none,0,0),(0:Int),(0:Int),(e:Int),()),rfl,?_⟩
    dsimp only [flat,unc,unc1,nA,cA]
    refine fin (x:=itm 0) (p':=none) (l':=0) (c':=0) (SL.nil _ _ _ _) ?_
    intro g9 _ _ e09 b29 b39 _
    refine meet_mk (cs:=[(false,[.int .i64]),(false,[.int .i64])]) ((0:Int),(e:Int),()) rfl rfl ⟨e09,b29,?_⟩
    have hopA:ro=.error e:=hopA
    subst hopA
    exact ⟨rfl,by omega⟩
   | ok x =>
    rw [hcd] at hu hopA
    obtain ⟨p',l',c',rfl,sx⟩:=hu
    refine ⟨(x.kind,x.name,x.inst.op,x.inst.a,x.inst.b,x.inst.n,x.inst.form,(p',l',c'),(x.e.num:Int),x.n,(0:Int),()),rfl,?_⟩
    dsimp only [flat,unc,unc1,nA,cA]
    refine fin (x:=x) sx ?_
    intro g9 _ _ e09 b29 b39 A9
    refine meet_mk (cs:=[(false,[.int .i64]),(false,[.int .i64])]) ((0:Int),(0:Int),()) rfl rfl ⟨e09,b29,?_⟩
    have hopA:ro=.ok (oneT x,0):=hopA
    subst hopA
    exact ⟨rfl,rfl,by omega,⟨_,1,1⟩,_,⟨none,0,0⟩,b39,A9,rfl,SL.nil _ _ _ _,.inr rfl⟩
  ·have f:¬ fo≠0:=of_decide_eq_false f
   have hopA:ro=dirA op (al.map In.ts):=by
    rw [← hro]
    unfold opA
    rw [hfo,if_neg f]
   try rw [add_box]
   refine loads_box b14 (op,()) rfl ?_
   dsimp only [flat,unc,unc1,nA,cA]
   try rw [add_box]
   refine loads_box b14 ((p,l,c),()) rfl ?_
   dsimp only [flat,unc,unc1,nA,cA]
   refine call_of (directive_hc (v.keep e04) hal op) ?_
   rintro u g5 ⟨e5,hu⟩
   have e05:=e04.trans e5
   have hz2:=e2.size
   have hlt3:=b34.lt
   cases hd:dirA op (al.map In.ts) with
   | error e =>
    rw [hd] at hu
    obtain ⟨k,p1,l1,c1,nm,p2,l2,c2,n,sc,w,rfl,he⟩:=hu
    refine ⟨(k,(p1,l1,c1),nm,(p2,l2,c2),n,sc,w,(e:Int),()),rfl,?_⟩
    dsimp only [flat,unc,unc1,nA,cA]
    refine stores_of (b34.keep e5 (by simp)) rfl (by simp [zT,thgC]) ?_
    intro g6 b6 k6 z6
    refine meet_mk (cs:=[(false,[.int .i64]),(false,[.int .i64])]) (w,(e:Int),()) rfl rfl ⟨Ch.trans e05 k6 (fun i hi hl=>by have:=e02.size; simp at hi; omega),(b24.keep e5 (by simp)).keep k6 (by simp; omega),?_⟩
    have hopA:ro=.error e:=hopA.trans hd
    subst hopA
    exact ⟨rfl,he⟩
   | ok q =>
    obtain ⟨t,w⟩:=q
    rw [hd] at hu
    obtain ⟨sl,us,se,rfl,A⟩:=hu
    refine ⟨(((t.kind:Nat):Int),(sl.p,sl.l,sl.c),t.name,(se.p,se.l,se.c),(t.e.num:Int),((t.sec:Nat):Int),whI w,(0:Int),()),rfl,?_⟩
    dsimp only [flat,unc,unc1,nA,cA]
    refine stores_of (b34.keep e5 (by simp)) rfl (by simp [zT,thgC]) ?_
    intro g6 b6 k6 z6
    have hw2:w≤2:=dirA_w hd
    refine meet_mk (cs:=[(false,[.int .i64]),(false,[.int .i64])]) (whI w,(0:Int),()) rfl rfl ⟨Ch.trans e05 k6 (fun i hi hl=>by have:=e02.size; simp at hi; omega),(b24.keep e5 (by simp)).keep k6 (by simp; omega),?_⟩
    have hopA:ro=.ok (t,w):=hopA.trans hd
    subst hopA
    exact ⟨rfl,rfl,hw2,sl,us,se,b6,(A.keep k6 (fun i hi hl=>by simp at hi; omega)).mono (by have:=e4.size; omega)⟩
 rintro ⟨n7,n8,⟨⟩⟩ g4 ⟨e04,b24,hJ⟩
 simp only at hJ
 dsimp only [flat,unc,unc1,nA,cA]
 cases ho:ro with
 | error e =>
  subst ho
  obtain ⟨rfl,he⟩:=hJ
  refine cond_t (by simp; omega) ?_
  exact bad (e:=e) e04 b24 rfl hop he
 | ok q =>
  obtain ⟨t,w⟩:=q
  subst ho
  obtain ⟨rfl,rfl,hw,sl,us,se,b34,A⟩:=hJ
  simp only at hop
  refine cond_f rfl ?_
  have done_:w=2∨w=(if decide (sec=1)=true then 1 else 0)→∀ {L:Lp},(T.loads ⟨g2.size,0,none⟩ [.int .i64,.slice 54,.string,.slice 50,.int .u32,.int .i64] <| fun (n9:Int) (p10:Option Addr) (l11:Nat) (l12:Nat) (s13:ByteArray) (p14:Option Addr) (l15:Nat) (l16:Nat) (n17:Int) (n18:Int) =>
    T.stores ⟨g1.size,0,none⟩ [.int .i64 n9,.slice p10 l11 l12,.string s13,.slice p14 l15 l16,.int .u32 n17,.int .i64 n18] <|
    T.loads ⟨g1.size,0,none⟩ [.int .i64,.slice 54,.string,.slice 50,.int .u32,.int .i64] <| fun (n19:Int) (p20:Option Addr) (l21:Nat) (l22:Nat) (s23:ByteArray) (p24:Option Addr) (l25:Nat) (l26:Nat) (n27:Int) (n28:Int) =>
    T.ret (.tuple #[.agg #[.int .i64 n19,.slice p20 l21 l22,.string s23,.slice p24 l25 l26,.int .u32 n27,.int .i64 n28],.int .i64 (0:Int)])) L (thgQ h r) g4:=by
   intro hh L
   refine loads_box b34 (((t.kind:Nat):Int),(sl.p,sl.l,sl.c),t.name,(se.p,se.l,se.c),(t.e.num:Int),((t.sec:Nat):Int),()) rfl ?_
   dsimp only [flat,unc,unc1,nA,cA]
   exact good e04 b24 rfl (hop.trans (if_pos hh)) A
  refine cond_mk (fun g=>?_) (fun g=>?_)
  ·have g:=of_decide_eq_true g
   have hw2:¬ w=2:=fun e=>by rw [e] at g; simp [whI] at g
   have hwi:whI w=(w:Int):=by unfold whI; rw [if_neg hw2]
   rw [hwi,hs4]
   refine cond_mk (fun f=>?_) (fun f=>?_)
   ·have f:¬ (w:Int)=if sec=1 then 1 else 0:=by simpa using f
    refine bad (e:=21) e04 b24 rfl (hop.trans (if_neg ?_)) (by decide)
    rintro (x | x)
    ·exact hw2 x
    ·apply f
     rw [x]
     by_cases hs:sec=1 <;> simp [hs]
   ·have f:(w:Int)=if sec=1 then 1 else 0:=by simpa using f
    refine done_ (.inr ?_)
    by_cases hs:sec=1
    ·simp [hs] at f ⊢; omega
    ·simp [hs] at f ⊢; omega
  ·have g:=of_decide_eq_false g
   have hw2:w=2:=by
    by_cases e:w=2
    ·exact e
    ·exfalso
     apply g
     unfold whI
     rw [if_neg e]
     omega
   exact done_ (.inl hw2)
def svA (k:Nat) (args:List (List Tok)):Except Nat Thg :=
 match itemsA k args with
 | .error e=>.error e
 | .ok l=>.ok { thg0 with kind:=2,items:=l }
theorem several_hc {h:Hp} {k:Nat} (hk56:k=5∨k=6) {s:ByteArray} (hs:(s.data.toList=[98,121,116,101])=(k=5)) {p:Option Addr} {l c:Nat} {al:List In} (v:VwA h p l al) (hal:al.length≤2^32) :
  HC Tryz.prog 78 #[.string s,.slice p l c] h (thgQ h (svA k (al.map In.ts))):=by
 refine hcr_of (args:=[.string s,.slice p l c]) mixed Tryz.func78 (by kernel_rfl) (t_spandrelref8_several_eq s p l c) ?_
 unfold t_spandrelref8_several
 have hl:=v.len
 obtain ⟨r,hr⟩:∃ r,svA k (al.map In.ts)=r:=⟨_,rfl⟩
 rw [hr]
 unfold svA at hr
 refine newB ?_
 intro g1 b1 e1 z1
 refine newB ?_
 intro g2 b2 e2 z2
 refine stores_of b2 rfl (by simp) ?_
 intro g3 b3 k3 z3
 have b3:Box g3 g1.size 30 (thgC 2 none 0 0 nam0 none 0 0 0 0):=b3
 have e23:Ext g1 g3:=Ch.trans e2 k3 (fun i hi hl=>by simp at hi; omega)
 have e03:=e1.trans e23
 have b1:Box g3 h.size 30 zT:=b1.keep e23 (by simp)
 have hz3:g3.size=h.size+2:=by omega
 have hg1:g1.size=h.size+1:=z1
 refine loop_of (cs:=[(false,[.int .i64]),(false,[.int .i64])]) (fun x n h'=>∃ (i:Nat) (us:List (Sli × Itm)) (p':Option Addr) (l' c':Nat),x.2.1=(i:Int)∧i≤l∧n=l-i∧Ext h h'∧Box h' h.size 30 zT∧Box h' g1.size 30 (thgC 2 p' l' c' nam0 none 0 0 0 0)∧ItsAt h' (h.size+2) p' l' c' us∧us.length=i∧h.size+2≤h'.size ∧
   itemsA k (al.map In.ts)=(match itemsA k ((al.map In.ts).drop i) with | .error e=>.error e | .ok r=>.ok (us.map (·.2)++r))) ((0:Int),(0:Int),()) l rfl
  ⟨0,[],none,0,0,rfl,by omega,by omega,e03,b1,b3,ItsAt.nil _ _,rfl,by omega,by rw [List.drop_zero]; cases itemsA k (al.map In.ts) <;> rfl⟩ ?_
 clear b1 b3 e23 e03 k3 b2 e2 e1
 rintro ⟨n4,n5,⟨⟩⟩ n h1 ⟨i,us,p6,l7,l8,hi,hil,rfl,e1,b1,b3,A,hus,hbs,hit⟩
 simp only at hi
 subst hi
 dsimp only [flat,unc,unc1,nA,cA]
 refine cond_mk (fun q=>?_) (fun q=>?_)
 ·have q:=of_decide_eq_true q
  have hia:i<al.length:=by omega
  have hmem:al[i]∈al:=List.getElem_mem hia
  have hda:(al.map In.ts).drop i=al[i].ts::(al.map In.ts).drop (i+1):=by
   rw [List.drop_eq_getElem_cons (by rw [List.length_map]; exact hia),List.getElem_map]
  rw [hda] at hit
  simp only [itemsA] at hit
  refine newB ?_
  intro h2 b4 e2 z2
  refine stores_of b4 rfl (by simp) ?_
  intro h3 b4 k3 z3
  have b4:Box h3 h1.size 54 (encI none 0 0 (itm 5)):=b4
  have e13:Ext h1 h3:=Ch.trans e2 k3 (fun j hj hl=>by simp at hj; omega)
  have e03:=e1.trans e13
  have A3:=A.keep e13 (by simp)
  have b13:=b1.keep e13 (by simp)
  have b33:=b3.keep e13 (by simp)
  have hlt3:=b4.lt
  have hw:IntKind.wrap .i64 ((i:Int)+1)=((i+1:Nat):Int):=by rw [wrap_i64 (by omega) (by omega)]; omega
  have bad:∀ {hh:Hp} {e:Nat} {L:Lp},Ch [h1.size] h3 hh→r=.error e→e≠0 →
    (T.stores ⟨h.size,0,none⟩ [.int .i64 (0:Int),.slice none 0 0,.string ⟨#[]⟩,.slice none 0 0,.int .u32 (0:Int),.int .i64 (0:Int)] <|
    T.loads ⟨h.size,0,none⟩ [.int .i64,.slice 54,.string,.slice 50,.int .u32,.int .i64] <| fun (n13:Int) (p14:Option Addr) (l15:Nat) (l16:Nat) (s17:ByteArray) (p18:Option Addr) (l19:Nat) (l20:Nat) (n21:Int) (n22:Int) =>
    T.ret (.tuple #[.agg #[.int .i64 n13,.slice p14 l15 l16,.string s17,.slice p18 l19 l20,.int .u32 n21,.int .i64 n22],.int .i64 (e:Int)])) L (thgQ h r) hh:=by
   intro hh e L kh hA he
   refine thg_st (b13.keep kh (by simp; omega)) rfl ?_
   intro h' b' k' z'
   have e0h:Ext h hh:=Ch.trans e03 kh (fun j hj hl=>by simp at hj; omega)
   refine ⟨Ch.trans e0h k' (fun j hj hl=>by simp at hj; omega),?_⟩
   rw [hA]
   exact ⟨rfl,he⟩
  have push:∀ {L:Lp} {hh:Hp} {sp:Sli} {y:Itm},Ch [h1.size] h3 hh→SL hh (h1.size+1) 50 2 sp.p sp.l sp.c (y.e.terms.map encT)→Box hh h1.size 54 (encI sp.p sp.l sp.c y) →
    (∀ p' c' h',Ext h h'→Box h' h.size 30 zT→Box h' g1.size 30 (thgC 2 p' (l7+1) c' nam0 none 0 0 0 0)→ItsAt h' (h.size+2) p' (l7+1) c' (us++[(sp,y)])→h.size+2≤h'.size→(T.again 0 [.int .i64 n4,.int .i64 (IntKind.wrap .i64 ((i:Int)+(1:Int)))]) L (thgQ h r) h') →
    (T.loads ((⟨g1.size,0,none⟩:Addr).add 1) [.slice 54] <| fun (p13:Option Addr) (l14:Nat) (l15:Nat) =>
    T.loads ⟨h1.size,0,none⟩ [.int .i64,.string,.int .i64,.int .i64,.int .i64,.int .i32,.int .i64,.slice 50,.int .u32,.int .i64] <| fun (n16:Int) (s17:ByteArray) (n18:Int) (n19:Int) (n20:Int) (n21:Int) (n22:Int) (p23:Option Addr) (l24:Nat) (l25:Nat) (n26:Int) (n27:Int) =>
    T.sem Tryz.prog (Instr.buildSlice 22 1 #[(0,.agg #[.int .i64 n16,.string s17,.int .i64 n18,.int .i64 n19,.int .i64 n20,.int .i32 n21,.int .i64 n22,.slice p23 l24 l25,.int .u32 n26,.int .i64 n27])]) false [(false,[.slice 0])] <| fun (p28:Option Addr) (l29:Nat) (l30:Nat) =>
    T.sem Tryz.prog (Builtin.append_ #[22,22] 22 #[.slice p13 l14 l15,.slice p28 l29 l30]) false [(false,[.slice 0])] <| fun (p31:Option Addr) (l32:Nat) (l33:Nat) =>
    T.stores ((⟨g1.size,0,none⟩:Addr).add 1) [.slice p31 l32 l33] <|
    T.again 0 [.int .i64 n4,.int .i64 (IntKind.wrap .i64 ((i:Int)+(1:Int)))]) L (thgQ h r) hh:=by
   intro L hh sp y kc sy by_ hk
   have hzh:=kc.size
   have e0h:Ext h hh:=Ch.trans e03 kc (fun j hj hl=>by simp at hj; omega)
   have Ah:ItsAt hh (h.size+2) p6 l7 l8 us:=by
    refine ⟨Sx.SL.keep' A3.out kc (fun j hj hm=>?_),fun u hu=>Sx.SL.keep' (A3.own u hu) kc (fun j hj hm=>?_),A3.po,A3.pp⟩
    ·have:=(Sx.SL.blk A.out hj).2; simp at hm; omega
    ·have:=(Sx.SL.blk (A.own u hu) hj).2; simp at hm; omega
   have b3h:=b33.keep kc (by simp; omega)
   have b1h:=b13.keep kc (by simp; omega)
   rw [add_box]
   refine loads_box b3h ((p6,l7,l8),()) rfl ?_
   dsimp only [flat,unc,unc1,nA,cA]
   refine loads_box by_ (y.kind,y.name,y.inst.op,y.inst.a,y.inst.b,y.inst.n,y.inst.form,(sp.p,sp.l,sp.c),(y.e.num:Int),y.n,()) rfl ?_
   dsimp only [flat,unc,unc1,nA,cA]
   refine push_of (e:=54) (z:=.agg zI.toArray) (sz:=10) (by':=104) (vs:=encI sp.p sp.l sp.c y) undI itmZI rfl (by omega) (by omega) (fillI _ _ _ _) rfl rfl Ah.out (by omega) (by have:=A.len; omega) (by have:=A.len; omega) ?_
   intro p' c' h' o k' hp'
   have A':=Ah.snoc (u:=(sp,y)) o k' hp' (Sx.SL.mono sy (by omega)) (fun j hj hm=>by
     have h1:=(Sx.SL.blk sy hj).1
     have h2:=(Sx.SL.blk A.out hm).2
     omega) (fun x hx j hj hm=>by
     have h1:=(Sx.SL.blk sy hm).1
     have h2:=(Sx.SL.blk (A.own x hx) hj).2
     omega)
   have hb3:g1.size∉blkOf p6:=fun hm=>by have:=(Sx.SL.blk A.out hm).1; omega
   have hb1:h.size∉blkOf p6:=fun hm=>by have:=(Sx.SL.blk A.out hm).1; omega
   refine stores_of (b3h.keep k' hb3) rfl (by simp [thgC]) ?_
   intro h'' b'' k'' z''
   have hz':=k'.size
   refine hk p' c' h'' (Ch.trans (Ch.trans e0h k' (fun j hj hl=>by have:=(Sx.SL.blk Ah.out hj).1; omega)) k'' (fun j hj hl=>by simp at hj; omega)) ((b1h.keep k' hb1).keep k'' (by simp; omega)) b'' (A'.keep k'' (fun j hj hl=>by simp at hj; omega)) (by omega)
  have v3:=v.keep e03
  rcases hk56 with rfl | rfl
  ·have hq:s.data.toList=[98,121,116,101]:=by rw [hs]
   refine cond_t (by rw [ByteArray.toList_eq,hq]; rfl) ?_
   obtain ⟨aa,haa,hca⟩:=v3.cells i hia
   refine need_of ⟨by omega,by omega⟩ (osome_mk haa ?_)
   rw [show Int.toNat (i:Int)=i by omega]
   generalize al[i]=a at hit hca hmem
   refine loads_of ((a.p,a.l,a.c),()) hca ?_
   dsimp only [flat,unc,unc1,nA,cA]
   rw [itemA_5] at hit
   rw [add_box]
   refine conSt (v3.inn a hmem) (v3.blk a hmem) (v.wf a hmem) (v.many a hmem) (v.text a hmem) (lo:=-128) (hi:=255) ?_
   intro h4 e4
   refine stores_of (b4.keep e4 (by simp)) rfl (by simp [encI]) ?_
   intro h5 b5 k5 z5
   have k35:Ch [h1.size] h3 h5:=Ch.trans (e4.mono (by simp)) k5 (fun j hj _=>hj)
   cases hn:numA (-128) 255 a.ts with
   | error e =>
    rw [hn] at hit
    have he:=numA_err (v.wf a hmem) hn
    refine cond_t (by show ((e:Int) != 0)=true; simp; omega) ?_
    exact bad (e:=e) k35 (by rw [← hr,hit]) (by omega)
   | ok nn =>
    rw [hn] at hit b5
    refine cond_f rfl ?_
    refine push (sp:=⟨none,0,0⟩) (y:={ itm 5 with n:=nn }) k35 (SL.nil _ _ _ _) b5 ?_
    intro p' c' h6 e6 b16 b36 A6 hb6
    refine again_mk (cs:=[(false,[.int .i64]),(false,[.int .i64])]) (n4,((i+1:Nat):Int),()) (l-(i+1)) rfl (by omega) (by rw [hw]; rfl) ⟨i+1,_,p',l7+1,c',rfl,by omega,rfl,e6,b16,b36,A6,by simp [hus],hb6,?_⟩
    rw [hit]
    cases itemsA 5 ((al.map In.ts).drop (i+1)) <;> simp
  ·have hq:¬ s.data.toList=[98,121,116,101]:=by rw [hs]; decide
   refine cond_f (by rw [ByteArray.toList_eq]; exact beq_false_of_ne hq) ?_
   refine stores_of b4 rfl (by simp [encI]) ?_
   intro h4 b4 k4 z4
   have b4:Box h4 h1.size 54 (encI none 0 0 (itm 6)):=b4
   have e04:Ext h h4:=Ch.trans e03 k4 (fun j hj hl=>by simp at hj; omega)
   have v4:=v.keep e04
   obtain ⟨aa,haa,hca⟩:=v4.cells i hia
   refine need_of ⟨by omega,by omega⟩ (osome_mk haa ?_)
   rw [show Int.toNat (i:Int)=i by omega]
   generalize al[i]=a at hit hca hmem
   refine loads_of ((a.p,a.l,a.c),()) hca ?_
   dsimp only [flat,unc,unc1,nA,cA]
   rw [itemA_6] at hit
   rw [add_box]
   refine valSt (x:=itm 6) (v4.inn a hmem) (v4.blk a hmem) (v.wf a hmem) (v.many a hmem) (v.text a hmem) b4 b4.lt (cont:=fun n15=>cond (n15 != (0:Int)) _ _) ?_
   intro h5 k5 hm
   have k35:Ch [h1.size] h3 h5:=Ch.trans k4 k5 (fun j hj _=>hj)
   cases hn:parseX a.ts with
   | error e =>
    rw [hn] at hit hm
    have he:=parseX_err (v.wf a hmem) hn
    refine cond_t (by show ((e:Int) != 0)=true; simp; omega) ?_
    exact bad (e:=e) k35 (by rw [← hr,hit]) (by omega)
   | ok y =>
    rw [hn] at hit hm
    obtain ⟨p5,l5,c5,b5,sl⟩:=hm
    refine cond_f rfl ?_
    refine push (sp:=⟨p5,l5,c5⟩) (y:={ itm 6 with e:=y }) k35 (Sx.SL.mono sl (by have:=k4.size; omega)) b5 ?_
    intro p' c' h6 e6 b16 b36 A6 hb6
    refine again_mk (cs:=[(false,[.int .i64]),(false,[.int .i64])]) (n4,((i+1:Nat):Int),()) (l-(i+1)) rfl (by omega) (by rw [hw]; rfl) ⟨i+1,_,p',l7+1,c',rfl,by omega,rfl,e6,b16,b36,A6,by simp [hus],hb6,?_⟩
    rw [hit]
    cases itemsA 6 ((al.map In.ts).drop (i+1)) <;> simp
 ·have q:=of_decide_eq_false q
  have:i=l:=by omega
  subst this
  rw [List.drop_of_length_le (by rw [List.length_map]; omega)] at hit
  have hit:itemsA k (al.map In.ts)=.ok (us.map (·.2)):=by rw [hit]; simp [itemsA]
  refine loads_box b3 ((2:Int),(p6,l7,l8),nam0,(none,0,0),(0:Int),(0:Int),()) rfl ?_
  dsimp only [flat,unc,unc1,nA,cA]
  refine thg_st b1 rfl ?_
  intro h' b' k' z'
  refine ⟨Ch.trans e1 k' (fun j hj hl=>by simp at hj; omega),?_⟩
  rw [← hr,hit]
  exact ⟨⟨p6,l7,l8⟩,us,⟨none,0,0⟩,rfl,(A.keep k' (fun j hj hl=>by simp at hj; omega)).mono (by omega),rfl,SL.nil _ _ _ _,.inr rfl⟩
def dr:Except Nat (Thg × Nat)→Except Nat Thg
 | .error e=>.error e
 | .ok (t,_)=>.ok t
theorem dirA_pool {s:ByteArray} {args:List (List Tok)} (q:s.data.toList=[112,111,111,108]):dr (dirA s args)=if args.length≠0 then .error 20 else .ok (oneT (itm 4)):=by
 have hc:cntA s=0:=by unfold cntA; simp [q]
 by_cases hn:args.length=0
 ·have hA:¬ (cntA s=-2∨(0≤cntA s∧(args.length:Int)≠cntA s)):=by rw [hc]; omega
  rw [if_neg (by omega)]
  unfold dirA
  simp (decide:=true) only [if_neg hA,q,if_true,if_false]
  rfl
 ·rw [if_pos hn]
  unfold dirA
  simp only
  rw [if_pos (by rw [hc]; omega)]
  rfl
theorem dirA_align {s:ByteArray} {args:List (List Tok)} (q:s.data.toList=[97,108,105,103,110]):dr (dirA s args)=if args.length≠1 then .error 20 else match numA 1 256 (ag args 0) with | .error e=>.error e | .ok n=>if pow2 n then .ok (oneT { itm 3 with n:=n }) else .error 21:=by
 have hc:cntA s=1:=by unfold cntA; simp [q]
 by_cases hn:args.length=1
 ·have hA:¬ (cntA s=-2∨(0≤cntA s∧(args.length:Int)≠cntA s)):=by rw [hc]; omega
  rw [if_neg (by omega)]
  unfold dirA
  simp (decide:=true) only [if_neg hA,q,if_true,if_false]
  cases numA 1 256 (ag args 0) with
  | error e=>rfl
  | ok n=>by_cases hp:pow2 n=true <;> simp [hp,dr]
 ·rw [if_pos hn]
  unfold dirA
  simp only
  rw [if_pos (by rw [hc]; omega)]
  rfl
theorem dirA_space {s:ByteArray} {args:List (List Tok)} (q:s.data.toList=[115,112,97,99,101]):dr (dirA s args)=if args.length≠1 then .error 20 else match numA 0 1048576 (ag args 0) with | .error e=>.error e | .ok n=>.ok (oneT { itm 7 with n:=n }):=by
 have hc:cntA s=1:=by unfold cntA; simp [q]
 by_cases hn:args.length=1
 ·have hA:¬ (cntA s=-2∨(0≤cntA s∧(args.length:Int)≠cntA s)):=by rw [hc]; omega
  rw [if_neg (by omega)]
  unfold dirA
  simp (decide:=true) only [if_neg hA,q,if_true,if_false]
  all_goals (cases numA 0 1048576 (ag args 0) <;> rfl)
 ·rw [if_pos hn]
  unfold dirA
  simp only
  rw [if_pos (by rw [hc]; omega)]
  rfl
theorem dirA_equ {s:ByteArray} {args:List (List Tok)} (q:s.data.toList=[101,113,117]):dr (dirA s args)=if args.length≠2 then .error 20 else match namA (ag args 0) with | .error e=>.error e | .ok s=>match parseX (ag args 1) with | .error e=>.error e | .ok x=>.ok { thg0 with kind:=3,name:=s,e:=x }:=by
 have hc:cntA s=2:=by unfold cntA; simp [q]
 by_cases hn:args.length=2
 ·have hA:¬ (cntA s=-2∨(0≤cntA s∧(args.length:Int)≠cntA s)):=by rw [hc]; omega
  rw [if_neg (by omega)]
  unfold dirA
  simp (decide:=true) only [if_neg hA,q,if_true,if_false]
  cases namA (ag args 0) with
  | error e=>rfl
  | ok s=>cases parseX (ag args 1) <;> rfl
 ·rw [if_pos hn]
  unfold dirA
  simp only
  rw [if_pos (by rw [hc]; omega)]
  rfl
theorem dirA_global {s:ByteArray} {args:List (List Tok)} (q:s.data.toList=[103,108,111,98,97,108]):dr (dirA s args)=if args.length≠1 then .error 20 else match namA (ag args 0) with | .error e=>.error e | .ok s=>.ok { thg0 with kind:=4,name:=s }:=by
 have hc:cntA s=1:=by unfold cntA; simp [q]
 by_cases hn:args.length=1
 ·have hA:¬ (cntA s=-2∨(0≤cntA s∧(args.length:Int)≠cntA s)):=by rw [hc]; omega
  rw [if_neg (by omega)]
  unfold dirA
  simp (decide:=true) only [if_neg hA,q,if_true,if_false]
  all_goals (cases namA (ag args 0) <;> rfl)
 ·rw [if_pos hn]
  unfold dirA
  simp only
  rw [if_pos (by rw [hc]; omega)]
  rfl
theorem dirA_section {s:ByteArray} {args:List (List Tok)} (q:s.data.toList=[115,101,99,116,105,111,110]):dr (dirA s args)=if args.length≠1 then .error 20 else match ag args 0 with | [t]=>if t.kind=1∧t.text.data.toList=[116,101,120,116] then .ok { thg0 with kind:=5 } else if t.kind=1∧t.text.data.toList=[100,97,116,97] then .ok { thg0 with kind:=5,sec:=1 } else .error 20 | _=>.error 20:=by
 have hc:cntA s=1:=by unfold cntA; simp [q]
 by_cases hn:args.length=1
 ·have hA:¬ (cntA s=-2∨(0≤cntA s∧(args.length:Int)≠cntA s)):=by rw [hc]; omega
  rw [if_neg (by omega)]
  unfold dirA
  simp (decide:=true) only [if_neg hA,q,if_true,if_false]
  cases ag args 0 with
  | nil=>rfl
  | cons t r =>
   cases r with
   | cons _ _=>rfl
   | nil =>
    simp only
    split
    ·rfl
    ·split <;> rfl
 ·rw [if_pos hn]
  unfold dirA
  simp only
  rw [if_pos (by rw [hc]; omega)]
  rfl
theorem dirA_byte {s:ByteArray} {args:List (List Tok)} (q:s.data.toList=[98,121,116,101]):dr (dirA s args)=if args=[] then .error 20 else svA 5 args:=by
 have hc:cntA s=-1:=by unfold cntA; simp [q]
 have hA:¬ (cntA s=-2∨(0≤cntA s∧(args.length:Int)≠cntA s)):=by rw [hc]; omega
 unfold dirA svA
 simp (decide:=true) only [if_neg hA,q,if_true,if_false]
 by_cases hn:args=[]
 ·rw [if_pos hn,if_pos hn]
  rfl
 ·rw [if_neg hn,if_neg hn]
  all_goals (cases itemsA 5 args <;> rfl)
theorem dirA_word {s:ByteArray} {args:List (List Tok)} (q:s.data.toList=[119,111,114,100]):dr (dirA s args)=if args=[] then .error 20 else svA 6 args:=by
 have hc:cntA s=-1:=by unfold cntA; simp [q]
 have hA:¬ (cntA s=-2∨(0≤cntA s∧(args.length:Int)≠cntA s)):=by rw [hc]; omega
 unfold dirA svA
 simp (decide:=true) only [if_neg hA,q,if_true,if_false]
 by_cases hn:args=[]
 ·rw [if_pos hn,if_pos hn]
  rfl
 ·rw [if_neg hn,if_neg hn]
  all_goals (cases itemsA 6 args <;> rfl)
theorem dirA_none {s:ByteArray} {args:List (List Tok)} (n0:¬ s.data.toList=[112,111,111,108]) (n1:¬ s.data.toList=[97,108,105,103,110]) (n2:¬ s.data.toList=[115,112,97,99,101]) (n3:¬ s.data.toList=[98,121,116,101]) (n4:¬ s.data.toList=[119,111,114,100]) (n5:¬ s.data.toList=[101,113,117]) (n6:¬ s.data.toList=[103,108,111,98,97,108]) (n7:¬ s.data.toList=[115,101,99,116,105,111,110]):dr (dirA s args)=.error 20:=by
 have hc:cntA s=-2:=by unfold cntA; simp [n0,n1,n2,n3,n4,n5,n6,n7]
 unfold dirA
 simp only
 rw [if_pos (.inl hc)]
 rfl
set_option maxHeartbeats 1000000 in
theorem directive2_hc {h:Hp} {p:Option Addr} {l c:Nat} {al:List In} (v:VwA h p l al) (hal:al.length≤2^32) (s:ByteArray) :
  HC Tryz.prog 52 #[.string s,.slice p l c] h (thgQ h (dr (dirA s (al.map In.ts)))):=by
 refine hcr_of (args:=[.string s,.slice p l c]) mixed Tryz.func52 (by kernel_rfl) (t_spandrelref8_directive_eq s p l c) ?_
 have hl:=v.len
 obtain ⟨r,hr⟩:∃ r,dr (dirA s (al.map In.ts))=r:=⟨_,rfl⟩
 rw [hr]
 have bad:∀ {gg:Hp} {xs:List Value} {e:Nat} {L:Lp},Ext h gg→Box gg h.size 30 xs→xs.length=6→r=.error e→e≠0 →
   (T.stores ⟨h.size,0,none⟩ [.int .i64 (0:Int),.slice none 0 0,.string ⟨#[]⟩,.slice none 0 0,.int .u32 (0:Int),.int .i64 (0:Int)] <|
   T.loads ⟨h.size,0,none⟩ [.int .i64,.slice 54,.string,.slice 50,.int .u32,.int .i64] <| fun (n6:Int) (p7:Option Addr) (l8:Nat) (l9:Nat) (s10:ByteArray) (p11:Option Addr) (l12:Nat) (l13:Nat) (n14:Int) (n15:Int) =>
   T.ret (.tuple #[.agg #[.int .i64 n6,.slice p7 l8 l9,.string s10,.slice p11 l12 l13,.int .u32 n14,.int .i64 n15],.int .i64 (e:Int)])) L (thgQ h r) gg:=by
  intro gg xs e L eg bx hx hA he
  refine thg_st bx hx ?_
  intro h' b' k' z'
  refine ⟨Ch.trans eg k' (fun i hi hl=>by simp at hi; omega),?_⟩
  rw [hA]
  exact ⟨rfl,he⟩
 have good:∀ {gg:Hp} {xs:List Value} {t:Thg} {sl se:Sli} {us:List (Sli × Itm)} {L:Lp},Ext h gg→Box gg h.size 30 xs→xs.length=6→r=.ok t→ThgAt gg (h.size+1) t sl us se →
   (T.stores ⟨h.size,0,none⟩ [.int .i64 (t.kind:Int),.slice sl.p sl.l sl.c,.string t.name,.slice se.p se.l se.c,.int .u32 (t.e.num:Int),.int .i64 (t.sec:Int)] <|
   T.loads ⟨h.size,0,none⟩ [.int .i64,.slice 54,.string,.slice 50,.int .u32,.int .i64] <| fun (n6:Int) (p7:Option Addr) (l8:Nat) (l9:Nat) (s10:ByteArray) (p11:Option Addr) (l12:Nat) (l13:Nat) (n14:Int) (n15:Int) =>
   T.ret (.tuple #[.agg #[.int .i64 n6,.slice p7 l8 l9,.string s10,.slice p11 l12 l13,.int .u32 n14,.int .i64 n15],.int .i64 (0:Int)])) L (thgQ h r) gg:=by
  intro gg xs t sl se us L eg bx hx hA A
  refine thg_st bx hx ?_
  intro h' b' k' z'
  refine ⟨Ch.trans eg k' (fun i hi hl=>by simp at hi; omega),?_⟩
  rw [hA]
  exact ⟨sl,us,se,rfl,(A.keep k' (fun i hi hl=>by simp at hi; omega)).mono (by omega)⟩
 unfold t_spandrelref8_directive
 refine newB ?_
 intro g1 b1 e1 z1
 have v1:=v.keep e1
 have hh1:g1.size=h.size+1:=z1
 have bz:∀ {gg:Hp},Ext g1 gg→Box gg h.size 30 zT:=fun e=>b1.keep e (by simp)
 have arg:∀ i,(hi:i<al.length)→ag (al.map In.ts) i=al[i].ts:=by
  intro i hi
  unfold ag
  rw [List.getD_eq_getElem?_getD,List.getElem?_eq_getElem (by rw [List.length_map]; exact hi),Option.getD_some,List.getElem_map]
 have mem:∀ i,(hi:i<al.length)→al[i]∈al:=fun i hi=>List.getElem_mem hi
 by_cases q0:s.data.toList=[112,111,111,108]
 ·have q:=(ByteArray.toList_eq s).trans q0
  have hD:=(hr.symm.trans (dirA_pool q0))
  simp only [q]
  refine join_of (cs:=[(false,[.int .i64])]) (fun y h'=>h'=g1∧y.1=(0:Int)) ?_ ?_
  ·repeat (first | refine cond_t rfl ?_ | refine cond_f rfl ?_)
   exact meet_mk (cs:=[(false,[.int .i64])]) ((0:Int),()) rfl rfl ⟨rfl,rfl⟩
  rintro ⟨n3,⟨⟩⟩ h9 ⟨e9,h3⟩
  have e9:=e9.symm
  subst e9
  simp only at h3
  subst h3
  dsimp only [flat,unc,unc1,nA,cA]
  rw [List.length_map] at hD
  refine cond_mk (fun g=>?_) (fun g=>?_)
  ·have g:¬ (l:Int)=0:=by simpa using g
   exact bad (e:=20) e1 (bz (Ch.refl _ _)) rfl (hD.trans (if_pos (by omega))) (by decide)
  have g:(l:Int)=0:=by simpa using g
  rw [if_neg (by omega)] at hD
  repeat (first | refine cond_t rfl ?_ | refine cond_f rfl ?_)
  refine lit1_of (p:=none) (l:=0) (c:=0) (x:=itm 4) ?_
  intro h2 s2 e2 z2
  exact good (t:=oneT (itm 4)) (sl:=⟨some ⟨g1.size,0,none⟩,1,1⟩) (se:=⟨none,0,0⟩) (e1.trans e2) (bz e2) rfl hD (oneAt (Sx.SL.mono s2 (by omega)) rfl)
 by_cases q1:s.data.toList=[97,108,105,103,110]
 ·have q:=(ByteArray.toList_eq s).trans q1
  have hD:=(hr.symm.trans (dirA_align q1))
  simp only [q]
  refine join_of (cs:=[(false,[.int .i64])]) (fun y h'=>h'=g1∧y.1=(1:Int)) ?_ ?_
  ·repeat (first | refine cond_t rfl ?_ | refine cond_f rfl ?_)
   exact meet_mk (cs:=[(false,[.int .i64])]) ((1:Int),()) rfl rfl ⟨rfl,rfl⟩
  rintro ⟨n3,⟨⟩⟩ h9 ⟨e9,h3⟩
  have e9:=e9.symm
  subst e9
  simp only at h3
  subst h3
  dsimp only [flat,unc,unc1,nA,cA]
  rw [List.length_map] at hD
  refine cond_mk (fun g=>?_) (fun g=>?_)
  ·have g:¬ (l:Int)=1:=by simpa using g
   exact bad (e:=20) e1 (bz (Ch.refl _ _)) rfl (hD.trans (if_pos (by omega))) (by decide)
  have g:(l:Int)=1:=by simpa using g
  rw [if_neg (by omega)] at hD
  have h1:0<al.length:=by omega
  obtain ⟨a0,ha0,hc0⟩:=cells0 v1 h1
  rw [add0] at hc0
  rw [arg 0 h1] at hD
  repeat (first | refine cond_t rfl ?_ | refine cond_f rfl ?_)
  refine need_of ⟨by omega,by omega⟩ (osome_mk ha0 (loads_of ((al[0].p,al[0].l,al[0].c),()) hc0 ?_))
  dsimp only [flat,unc,unc1,nA,cA]
  have va:=v1.inn _ (mem 0 h1)
  have vb:=v1.blk _ (mem 0 h1)
  have vw:=v.wf _ (mem 0 h1)
  have vm:=v.many _ (mem 0 h1)
  have vt:=v.text _ (mem 0 h1)
  refine conSt va vb vw vm vt (lo:=1) (hi:=256) ?_
  intro h2 e2
  have hz2:=e2.size
  cases hn:numA 1 256 al[0].ts with
  | error e =>
   have he:=numA_err vw hn
   rw [hn] at hD
   refine cond_f (by show ((e:Int)==0)=false; simp; omega) ?_
   refine cond_t (by show ((e:Int) != 0)=true; simp; omega) ?_
   exact bad (e:=e) (e1.trans e2) (bz e2) rfl hD (by omega)
  | ok n =>
   rw [hn] at hD
   refine cond_t rfl (call_bool (power2_hc h2 n) ?_)
   refine cond_mk (fun r=>?_) (fun r=>?_)
   ·have r:pow2 n=false:=by simpa [valI] using r
    exact bad (e:=21) (e1.trans e2) (bz e2) rfl (hD.trans (if_neg (by rw [r]; simp))) (by decide)
   have r:pow2 n=true:=by simpa [valI] using r
   have hD:=hD.trans (if_pos r)
   refine cond_f rfl ?_
   refine lit1_of (p:=none) (l:=0) (c:=0) (x:={ itm 3 with n:=n }) ?_
   intro h3 s3 e3 z3
   exact good (t:=oneT { itm 3 with n:=n }) (sl:=⟨some ⟨h2.size,0,none⟩,1,1⟩) (se:=⟨none,0,0⟩) (e1.trans (e2.trans e3)) (bz (e2.trans e3)) rfl hD (oneAt (Sx.SL.mono s3 (by omega)) rfl)
 by_cases q2:s.data.toList=[115,112,97,99,101]
 ·have q:=(ByteArray.toList_eq s).trans q2
  have hD:=(hr.symm.trans (dirA_space q2))
  simp only [q]
  refine join_of (cs:=[(false,[.int .i64])]) (fun y h'=>h'=g1∧y.1=(1:Int)) ?_ ?_
  ·repeat (first | refine cond_t rfl ?_ | refine cond_f rfl ?_)
   exact meet_mk (cs:=[(false,[.int .i64])]) ((1:Int),()) rfl rfl ⟨rfl,rfl⟩
  rintro ⟨n3,⟨⟩⟩ h9 ⟨e9,h3⟩
  have e9:=e9.symm
  subst e9
  simp only at h3
  subst h3
  dsimp only [flat,unc,unc1,nA,cA]
  rw [List.length_map] at hD
  refine cond_mk (fun g=>?_) (fun g=>?_)
  ·have g:¬ (l:Int)=1:=by simpa using g
   exact bad (e:=20) e1 (bz (Ch.refl _ _)) rfl (hD.trans (if_pos (by omega))) (by decide)
  have g:(l:Int)=1:=by simpa using g
  rw [if_neg (by omega)] at hD
  have h1:0<al.length:=by omega
  obtain ⟨a0,ha0,hc0⟩:=cells0 v1 h1
  rw [add0] at hc0
  rw [arg 0 h1] at hD
  repeat (first | refine cond_t rfl ?_ | refine cond_f rfl ?_)
  refine need_of ⟨by omega,by omega⟩ (osome_mk ha0 (loads_of ((al[0].p,al[0].l,al[0].c),()) hc0 ?_))
  dsimp only [flat,unc,unc1,nA,cA]
  have va:=v1.inn _ (mem 0 h1)
  have vb:=v1.blk _ (mem 0 h1)
  have vw:=v.wf _ (mem 0 h1)
  have vm:=v.many _ (mem 0 h1)
  have vt:=v.text _ (mem 0 h1)
  refine conSt va vb vw vm vt (lo:=0) (hi:=1048576) ?_
  intro h2 e2
  have hz2:=e2.size
  cases hn:numA 0 1048576 al[0].ts with
  | error e =>
   have he:=numA_err vw hn
   rw [hn] at hD
   refine cond_t (by show ((e:Int) != 0)=true; simp; omega) ?_
   exact bad (e:=e) (e1.trans e2) (bz e2) rfl hD (by omega)
  | ok n =>
   rw [hn] at hD
   refine cond_f rfl ?_
   refine lit1_of (p:=none) (l:=0) (c:=0) (x:={ itm 7 with n:=n }) ?_
   intro h3 s3 e3 z3
   exact good (t:=oneT { itm 7 with n:=n }) (sl:=⟨some ⟨h2.size,0,none⟩,1,1⟩) (se:=⟨none,0,0⟩) (e1.trans (e2.trans e3)) (bz (e2.trans e3)) rfl hD (oneAt (Sx.SL.mono s3 (by omega)) rfl)
 by_cases q3:s.data.toList=[98,121,116,101]
 ·have q:=(ByteArray.toList_eq s).trans q3
  have hD:=(hr.symm.trans (dirA_byte q3))
  simp only [q]
  refine join_of (cs:=[(false,[.int .i64])]) (fun y h'=>h'=g1∧y.1=(if l=0 then (1:Int) else (l:Int))) ?_ ?_
  ·repeat (first | refine cond_t rfl ?_ | refine cond_f rfl ?_)
   refine cond_mk (fun g=>?_) (fun g=>?_)
   ·have g:l=0:=eqN_t g
    exact meet_mk (cs:=[(false,[.int .i64])]) ((1:Int),()) rfl rfl ⟨rfl,by rw [if_pos g]⟩
   ·have g:¬ l=0:=eqN_f g
    exact meet_mk (cs:=[(false,[.int .i64])]) ((l:Int),()) rfl rfl ⟨rfl,by rw [if_neg g]⟩
  rintro ⟨n3,⟨⟩⟩ h9 ⟨e9,h3⟩
  have e9:=e9.symm
  subst e9
  simp only at h3
  subst h3
  dsimp only [flat,unc,unc1,nA,cA]
  have hnil:al.map In.ts=[]↔l=0:=by
   rw [List.map_eq_nil_iff,hl]
   exact List.length_eq_zero_iff.symm
  refine cond_mk (fun g=>?_) (fun g=>?_)
  ·have g:¬ (l:Int)=if l=0 then (1:Int) else (l:Int):=by simpa using g
   have g0:l=0:=by
    by_cases h0:l=0
    ·exact h0
    ·rw [if_neg h0] at g
     exact absurd rfl g
   exact bad (e:=20) e1 (bz (Ch.refl _ _)) rfl (hD.trans (if_pos (hnil.2 g0))) (by decide)
  have g:(l:Int)=if l=0 then (1:Int) else (l:Int):=by simpa using g
  have g0:¬ l=0:=by
   intro h0
   rw [if_pos h0] at g
   omega
  rw [if_neg (fun e=>g0 (hnil.1 e))] at hD
  repeat (first | refine cond_t rfl ?_ | refine cond_f rfl ?_)
  refine call_of (several_hc (k:=5) (by omega) (by rw [q3]; decide) v1 hal) ?_
  rintro u h2 ⟨e2,hu⟩
  cases hn:svA 5 (al.map In.ts) with
  | error e =>
   rw [hn] at hD hu
   obtain ⟨rfl,he⟩:=hu
   refine ⟨((0:Int),(none,0,0),nam0,(none,0,0),(0:Int),(0:Int),(e:Int),()),rfl,?_⟩
   dsimp only [flat,unc,unc1,nA,cA]
   exact bad (e:=e) (e1.trans e2) (bz e2) rfl hD he
  | ok t =>
   rw [hn] at hD hu
   obtain ⟨sl,us,se,rfl,A⟩:=hu
   refine ⟨((t.kind:Int),(sl.p,sl.l,sl.c),t.name,(se.p,se.l,se.c),(t.e.num:Int),(t.sec:Int),(0:Int),()),rfl,?_⟩
   dsimp only [flat,unc,unc1,nA,cA]
   exact good (t:=t) (sl:=sl) (se:=se) (us:=us) (e1.trans e2) (bz e2) rfl hD (A.mono (by omega))
 by_cases q4:s.data.toList=[119,111,114,100]
 ·have q:=(ByteArray.toList_eq s).trans q4
  have hD:=(hr.symm.trans (dirA_word q4))
  simp only [q]
  refine join_of (cs:=[(false,[.int .i64])]) (fun y h'=>h'=g1∧y.1=(if l=0 then (1:Int) else (l:Int))) ?_ ?_
  ·repeat (first | refine cond_t rfl ?_ | refine cond_f rfl ?_)
   refine cond_mk (fun g=>?_) (fun g=>?_)
   ·have g:l=0:=eqN_t g
    exact meet_mk (cs:=[(false,[.int .i64])]) ((1:Int),()) rfl rfl ⟨rfl,by rw [if_pos g]⟩
   ·have g:¬ l=0:=eqN_f g
    exact meet_mk (cs:=[(false,[.int .i64])]) ((l:Int),()) rfl rfl ⟨rfl,by rw [if_neg g]⟩
  rintro ⟨n3,⟨⟩⟩ h9 ⟨e9,h3⟩
  have e9:=e9.symm
  subst e9
  simp only at h3
  subst h3
  dsimp only [flat,unc,unc1,nA,cA]
  have hnil:al.map In.ts=[]↔l=0:=by
   rw [List.map_eq_nil_iff,hl]
   exact List.length_eq_zero_iff.symm
  refine cond_mk (fun g=>?_) (fun g=>?_)
  ·have g:¬ (l:Int)=if l=0 then (1:Int) else (l:Int):=by simpa using g
   have g0:l=0:=by
    by_cases h0:l=0
    ·exact h0
    ·rw [if_neg h0] at g
     exact absurd rfl g
   exact bad (e:=20) e1 (bz (Ch.refl _ _)) rfl (hD.trans (if_pos (hnil.2 g0))) (by decide)
  have g:(l:Int)=if l=0 then (1:Int) else (l:Int):=by simpa using g
  have g0:¬ l=0:=by
   intro h0
   rw [if_pos h0] at g
   omega
  rw [if_neg (fun e=>g0 (hnil.1 e))] at hD
  repeat (first | refine cond_t rfl ?_ | refine cond_f rfl ?_)
  refine call_of (several_hc (k:=6) (by omega) (by rw [q4]; decide) v1 hal) ?_
  rintro u h2 ⟨e2,hu⟩
  cases hn:svA 6 (al.map In.ts) with
  | error e =>
   rw [hn] at hD hu
   obtain ⟨rfl,he⟩:=hu
   refine ⟨((0:Int),(none,0,0),nam0,(none,0,0),(0:Int),(0:Int),(e:Int),()),rfl,?_⟩
   dsimp only [flat,unc,unc1,nA,cA]
   exact bad (e:=e) (e1.trans e2) (bz e2) rfl hD he
  | ok t =>
   rw [hn] at hD hu
   obtain ⟨sl,us,se,rfl,A⟩:=hu
   refine ⟨((t.kind:Int),(sl.p,sl.l,sl.c),t.name,(se.p,se.l,se.c),(t.e.num:Int),(t.sec:Int),(0:Int),()),rfl,?_⟩
   dsimp only [flat,unc,unc1,nA,cA]
   exact good (t:=t) (sl:=sl) (se:=se) (us:=us) (e1.trans e2) (bz e2) rfl hD (A.mono (by omega))
 by_cases q5:s.data.toList=[101,113,117]
 ·have q:=(ByteArray.toList_eq s).trans q5
  have hD:=(hr.symm.trans (dirA_equ q5))
  simp only [q]
  refine join_of (cs:=[(false,[.int .i64])]) (fun y h'=>h'=g1∧y.1=(2:Int)) ?_ ?_
  ·repeat (first | refine cond_t rfl ?_ | refine cond_f rfl ?_)
   exact meet_mk (cs:=[(false,[.int .i64])]) ((2:Int),()) rfl rfl ⟨rfl,rfl⟩
  rintro ⟨n3,⟨⟩⟩ h9 ⟨e9,h3⟩
  have e9:=e9.symm
  subst e9
  simp only at h3
  subst h3
  dsimp only [flat,unc,unc1,nA,cA]
  rw [List.length_map] at hD
  refine cond_mk (fun g=>?_) (fun g=>?_)
  ·have g:¬ (l:Int)=2:=by simpa using g
   exact bad (e:=20) e1 (bz (Ch.refl _ _)) rfl (hD.trans (if_pos (by omega))) (by decide)
  have g:(l:Int)=2:=by simpa using g
  rw [if_neg (by omega)] at hD
  have h1:0<al.length:=by omega
  obtain ⟨a0,ha0,hc0⟩:=cells0 v1 h1
  rw [add0] at hc0
  rw [arg 0 h1] at hD
  repeat (first | refine cond_t rfl ?_ | refine cond_f rfl ?_)
  refine need_of ⟨by omega,by omega⟩ (osome_mk ha0 (loads_of ((al[0].p,al[0].l,al[0].c),()) hc0 ?_))
  dsimp only [flat,unc,unc1,nA,cA]
  have va:=v1.inn _ (mem 0 h1)
  have vb:=v1.blk _ (mem 0 h1)
  have vw:=v.wf _ (mem 0 h1)
  have vm:=v.many _ (mem 0 h1)
  have vt:=v.text _ (mem 0 h1)
  cases hn:namA al[0].ts with
  | error e =>
   have he:=namA_err hn
   rw [hn] at hD
   refine call_p (named2_hc va vt) ((⟨#[]⟩:ByteArray),(e:Int),()) (by rw [hn]; rfl) ?_
   dsimp only [flat,unc,unc1,nA,cA]
   refine cond_t (by simp; omega) ?_
   exact bad (e:=e) e1 (bz (Ch.refl _ _)) rfl hD (by omega)
  | ok nm =>
   rw [hn] at hD
   refine call_p (named2_hc va vt) (nm,(0:Int),()) (by rw [hn]; rfl) ?_
   dsimp only [flat,unc,unc1,nA,cA]
   refine cond_f rfl ?_
   repeat (first | refine cond_t rfl ?_ | refine cond_f rfl ?_)
   have h2:1<al.length:=by omega
   rw [arg 1 h2] at hD
   obtain ⟨a1,ha1,hc1⟩:=cells0 v1 h2
   refine need_of ⟨by omega,by omega⟩ (osome_mk ha1 (loads_of ((al[1].p,al[1].l,al[1].c),()) hc1 ?_))
   dsimp only [flat,unc,unc1,nA,cA]
   refine call_of (parse47_hc (v1.inn _ (mem 1 h2)) (v1.blk _ (mem 1 h2)) (v.wf _ (mem 1 h2)) (v.many _ (mem 1 h2)) (v.text _ (mem 1 h2))) ?_
   rintro u h3 ⟨e3,hu⟩
   cases hx:parseX al[1].ts with
   | error e =>
    rw [hx] at hu hD
    have he:=parseX_err (v.wf _ (mem 1 h2)) hx
    have hu:u=.tuple #[.agg #[.slice none 0 0,.int .u32 0],.int .i64 (e:Int)]:=hu
    subst hu
    refine ⟨((none,0,0),(0:Int),(e:Int),()),rfl,?_⟩
    dsimp only [flat,unc,unc1,nA,cA]
    refine newB ?_
    intro h4 b4 e4 z4
    refine stores_of b4 rfl (by simp) ?_
    intro h5 b5 k5 z5
    refine cond_t (by simp; omega) ?_
    have e35:Ext h3 h5:=Ch.trans e4 k5 (fun i hi hl=>by simp at hi; omega)
    exact bad (e:=e) (e1.trans (e3.trans e35)) (bz (e3.trans e35)) rfl hD (by omega)
   | ok x =>
    rw [hx] at hu hD
    obtain ⟨p5,l5,c5,rfl,sl,gd⟩:=hu
    refine ⟨((p5,l5,c5),(x.num:Int),(0:Int),()),rfl,?_⟩
    dsimp only [flat,unc,unc1,nA,cA]
    refine newB ?_
    intro h4 b4 e4 z4
    refine stores_of b4 rfl (by simp) ?_
    intro h5 b5 k5 z5
    have b5:Box h5 h3.size 26 [.slice p5 l5 c5,.int .u32 (x.num:Int)]:=b5
    refine cond_f rfl ?_
    refine loads_box b5 ((p5,l5,c5),(x.num:Int),()) rfl ?_
    dsimp only [flat,unc,unc1,nA,cA]
    have e35:Ext h3 h5:=Ch.trans e4 k5 (fun i hi hl=>by simp at hi; omega)
    exact good (t:={ thg0 with kind:=3,name:=nm,e:=x }) (sl:=⟨none,0,0⟩) (se:=⟨p5,l5,c5⟩) (us:=[]) (e1.trans (e3.trans e35)) (bz (e3.trans e35)) rfl hD ⟨ItsAt.nil _ _,rfl,(Sx.SL.mono sl (by omega)).keep' e35 (by simp),.inl rfl⟩
 by_cases q6:s.data.toList=[103,108,111,98,97,108]
 ·have q:=(ByteArray.toList_eq s).trans q6
  have hD:=(hr.symm.trans (dirA_global q6))
  simp only [q]
  refine join_of (cs:=[(false,[.int .i64])]) (fun y h'=>h'=g1∧y.1=(1:Int)) ?_ ?_
  ·repeat (first | refine cond_t rfl ?_ | refine cond_f rfl ?_)
   exact meet_mk (cs:=[(false,[.int .i64])]) ((1:Int),()) rfl rfl ⟨rfl,rfl⟩
  rintro ⟨n3,⟨⟩⟩ h9 ⟨e9,h3⟩
  have e9:=e9.symm
  subst e9
  simp only at h3
  subst h3
  dsimp only [flat,unc,unc1,nA,cA]
  rw [List.length_map] at hD
  refine cond_mk (fun g=>?_) (fun g=>?_)
  ·have g:¬ (l:Int)=1:=by simpa using g
   exact bad (e:=20) e1 (bz (Ch.refl _ _)) rfl (hD.trans (if_pos (by omega))) (by decide)
  have g:(l:Int)=1:=by simpa using g
  rw [if_neg (by omega)] at hD
  have h1:0<al.length:=by omega
  obtain ⟨a0,ha0,hc0⟩:=cells0 v1 h1
  rw [add0] at hc0
  rw [arg 0 h1] at hD
  repeat (first | refine cond_t rfl ?_ | refine cond_f rfl ?_)
  refine need_of ⟨by omega,by omega⟩ (osome_mk ha0 (loads_of ((al[0].p,al[0].l,al[0].c),()) hc0 ?_))
  dsimp only [flat,unc,unc1,nA,cA]
  have va:=v1.inn _ (mem 0 h1)
  have vb:=v1.blk _ (mem 0 h1)
  have vw:=v.wf _ (mem 0 h1)
  have vm:=v.many _ (mem 0 h1)
  have vt:=v.text _ (mem 0 h1)
  cases hn:namA al[0].ts with
  | error e =>
   have he:=namA_err hn
   rw [hn] at hD
   refine call_p (named2_hc va vt) ((⟨#[]⟩:ByteArray),(e:Int),()) (by rw [hn]; rfl) ?_
   dsimp only [flat,unc,unc1,nA,cA]
   refine cond_t (by simp; omega) ?_
   exact bad (e:=e) e1 (bz (Ch.refl _ _)) rfl hD (by omega)
  | ok nm =>
   rw [hn] at hD
   refine call_p (named2_hc va vt) (nm,(0:Int),()) (by rw [hn]; rfl) ?_
   dsimp only [flat,unc,unc1,nA,cA]
   refine cond_f rfl ?_
   repeat (first | refine cond_t rfl ?_ | refine cond_f rfl ?_)
   exact good (t:={ thg0 with kind:=4,name:=nm }) (sl:=⟨none,0,0⟩) (se:=⟨none,0,0⟩) (us:=[]) e1 (bz (Ch.refl _ _)) rfl hD ⟨ItsAt.nil _ _,rfl,SL.nil _ _ _ _,.inl rfl⟩
 by_cases q7:s.data.toList=[115,101,99,116,105,111,110]
 ·have q:=(ByteArray.toList_eq s).trans q7
  have hD:=(hr.symm.trans (dirA_section q7))
  simp only [q]
  refine join_of (cs:=[(false,[.int .i64])]) (fun y h'=>h'=g1∧y.1=(1:Int)) ?_ ?_
  ·repeat (first | refine cond_t rfl ?_ | refine cond_f rfl ?_)
   exact meet_mk (cs:=[(false,[.int .i64])]) ((1:Int),()) rfl rfl ⟨rfl,rfl⟩
  rintro ⟨n3,⟨⟩⟩ h9 ⟨e9,h3⟩
  have e9:=e9.symm
  subst e9
  simp only at h3
  subst h3
  dsimp only [flat,unc,unc1,nA,cA]
  rw [List.length_map] at hD
  refine cond_mk (fun g=>?_) (fun g=>?_)
  ·have g:¬ (l:Int)=1:=by simpa using g
   exact bad (e:=20) e1 (bz (Ch.refl _ _)) rfl (hD.trans (if_pos (by omega))) (by decide)
  have g:(l:Int)=1:=by simpa using g
  rw [if_neg (by omega)] at hD
  have h1:0<al.length:=by omega
  obtain ⟨a0,ha0,hc0⟩:=cells0 v1 h1
  rw [add0] at hc0
  rw [arg 0 h1] at hD
  repeat (first | refine cond_t rfl ?_ | refine cond_f rfl ?_)
  refine need_of ⟨by omega,by omega⟩ (osome_mk ha0 (loads_of ((al[0].p,al[0].l,al[0].c),()) hc0 ?_))
  dsimp only [flat,unc,unc1,nA,cA]
  have va:=v1.inn _ (mem 0 h1)
  have vb:=v1.blk _ (mem 0 h1)
  have vw:=v.wf _ (mem 0 h1)
  have vm:=v.many _ (mem 0 h1)
  have vt:=v.text _ (mem 0 h1)
  generalize al[0]=a at *
  have hla:=va.len
  refine cond_mk (fun r'=>?_) (fun r'=>?_)
  ·have r':a.l=1:=eqN_t r'
   obtain ⟨t,ht⟩:=one_of (show a.ts.length=1 by omega)
   rw [ht] at va hD
   obtain ⟨aa,haa,c0⟩:=va.cells 0 (by simp)
   have c0:cellsAt g1 (aa.add (0*4)) 0 (enc t):=c0
   obtain ⟨u1,u2,_⟩:=tok_cells c0
   simp only at hD
   refine need_of ⟨by omega,by omega⟩ (osome_mk ha0 (loads_of ((a.p,a.l,a.c),()) hc0 ?_))
   dsimp only [flat,unc,unc1,nA,cA]
   refine need_of ⟨by omega,by omega⟩ (osome_mk haa (loads_of ((t.kind:Int),()) u1 ?_))
   dsimp only [flat,unc,unc1,nA,cA]
   refine cond_mk (fun g=>?_) (fun g=>?_)
   ·have g:t.kind=1:=eqN_t g
    refine need_of ⟨by omega,by omega⟩ (osome_mk ha0 (loads_of ((a.p,a.l,a.c),()) hc0 ?_))
    dsimp only [flat,unc,unc1,nA,cA]
    refine need_of ⟨by omega,by omega⟩ (osome_mk haa (loads_of (t.text,()) u2 ?_))
    dsimp only [flat,unc,unc1,nA,cA]
    have fin:∀ (d:Bool),(ByteArray.toList t.text==[({ toBitVec:=100#8 }:UInt8),({ toBitVec:=97#8 }),({ toBitVec:=116#8 }),({ toBitVec:=97#8 })])=d→r=.ok { thg0 with kind:=5,sec:=if d then 1 else 0 }→∀ {L:Lp},
      (T.new [.int .i64 (0:Int),.slice none 0 0,.string ⟨#[]⟩,.slice none 0 0,.int .u32 (0:Int),.int .i64 (0:Int)] 30 <| fun (a26:Addr) =>
      T.stores a26 [.int .i64 (5:Int),.slice none 0 0,.string ⟨#[]⟩,.slice none 0 0,.int .u32 (0:Int),.int .i64 (0:Int)] <|
      T.need (((0:Int)≤(0:Int))∧((0:Int)<(l:Int))) <|
      T.osome p <| fun (a27:Addr) =>
      T.loads a27 [.slice 101] <| fun (p28:Option Addr) (l29:Nat) (l30:Nat) =>
      T.need (((0:Int)≤(0:Int))∧((0:Int)<(l29:Int))) <|
      T.osome p28 <| fun (a31:Addr) =>
      T.loads (a31.add 1) [.string] <| fun (s32:ByteArray) =>
      cond ((ByteArray.toList s32)==[({ toBitVec:=100#8 }),({ toBitVec:=97#8 }),({ toBitVec:=116#8 }),({ toBitVec:=97#8 })])
       (T.stores (a26.add 5) [.int .i64 (1:Int)] <|
       T.loads a26 [.int .i64,.slice 54,.string,.slice 50,.int .u32,.int .i64] <| fun (n33:Int) (p34:Option Addr) (l35:Nat) (l36:Nat) (s37:ByteArray) (p38:Option Addr) (l39:Nat) (l40:Nat) (n41:Int) (n42:Int) =>
       T.stores ⟨h.size,0,none⟩ [.int .i64 n33,.slice p34 l35 l36,.string s37,.slice p38 l39 l40,.int .u32 n41,.int .i64 n42] <|
       T.loads ⟨h.size,0,none⟩ [.int .i64,.slice 54,.string,.slice 50,.int .u32,.int .i64] <| fun (n43:Int) (p44:Option Addr) (l45:Nat) (l46:Nat) (s47:ByteArray) (p48:Option Addr) (l49:Nat) (l50:Nat) (n51:Int) (n52:Int) =>
       T.ret (.tuple #[.agg #[.int .i64 n43,.slice p44 l45 l46,.string s47,.slice p48 l49 l50,.int .u32 n51,.int .i64 n52],.int .i64 (0:Int)]))
       (T.loads a26 [.int .i64,.slice 54,.string,.slice 50,.int .u32,.int .i64] <| fun (n33:Int) (p34:Option Addr) (l35:Nat) (l36:Nat) (s37:ByteArray) (p38:Option Addr) (l39:Nat) (l40:Nat) (n41:Int) (n42:Int) =>
       T.stores ⟨h.size,0,none⟩ [.int .i64 n33,.slice p34 l35 l36,.string s37,.slice p38 l39 l40,.int .u32 n41,.int .i64 n42] <|
       T.loads ⟨h.size,0,none⟩ [.int .i64,.slice 54,.string,.slice 50,.int .u32,.int .i64] <| fun (n43:Int) (p44:Option Addr) (l45:Nat) (l46:Nat) (s47:ByteArray) (p48:Option Addr) (l49:Nat) (l50:Nat) (n51:Int) (n52:Int) =>
       T.ret (.tuple #[.agg #[.int .i64 n43,.slice p44 l45 l46,.string s47,.slice p48 l49 l50,.int .u32 n51,.int .i64 n52],.int .i64 (0:Int)]))) L (thgQ h r) g1:=by
     intro d hd hA L
     refine newB ?_
     intro h2 b2 e2 z2
     refine stores_of b2 rfl (by simp) ?_
     intro h3 b3 k3 z3
     have b3:Box h3 g1.size 30 (thgC 5 none 0 0 nam0 none 0 0 0 0):=b3
     have e13:Ext g1 h3:=Ch.trans e2 k3 (fun i hi hl=>by simp at hi; omega)
     refine need_of ⟨by omega,by omega⟩ (osome_mk ha0 (loads_of ((a.p,a.l,a.c),()) (cellsAt_keep e13 (by simp) _ _ hc0) ?_))
     dsimp only [flat,unc,unc1,nA,cA]
     refine need_of ⟨by omega,by omega⟩ (osome_mk haa (loads_of (t.text,()) (cellsAt_keep e13 (by simp) _ _ u2) ?_))
     dsimp only [flat,unc,unc1,nA,cA]
     rw [hd]
     cases d with
     | true =>
      refine cond_t rfl ?_
      rw [add_box]
      refine stores_of b3 rfl (by simp [thgC]) ?_
      intro h4 b4 k4 z4
      have b4:Box h4 g1.size 30 (thgC 5 none 0 0 nam0 none 0 0 0 1):=b4
      refine loads_box b4 ((5:Int),(none,0,0),nam0,(none,0,0),(0:Int),(1:Int),()) rfl ?_
      dsimp only [flat,unc,unc1,nA,cA]
      have e14:Ext g1 h4:=Ch.trans e13 k4 (fun i hi hl=>by simp at hi; omega)
      exact good (t:={ thg0 with kind:=5,sec:=1 }) (sl:=⟨none,0,0⟩) (se:=⟨none,0,0⟩) (us:=[]) (e1.trans e14) (bz e14) rfl hA ⟨ItsAt.nil _ _,rfl,SL.nil _ _ _ _,.inl rfl⟩
     | false =>
      refine cond_f rfl ?_
      refine loads_box b3 ((5:Int),(none,0,0),nam0,(none,0,0),(0:Int),(0:Int),()) rfl ?_
      dsimp only [flat,unc,unc1,nA,cA]
      exact good (t:={ thg0 with kind:=5 }) (sl:=⟨none,0,0⟩) (se:=⟨none,0,0⟩) (us:=[]) (e1.trans e13) (bz e13) rfl hA ⟨ItsAt.nil _ _,rfl,SL.nil _ _ _ _,.inl rfl⟩
    by_cases w:t.text.data.toList=[116,101,120,116]
    ·rw [if_pos ⟨g,w⟩] at hD
     refine cond_t (by rw [ByteArray.toList_eq,w]; rfl) ?_
     exact fin false (by rw [ByteArray.toList_eq,w]; rfl) hD
    ·rw [if_neg (fun hh=>w hh.2)] at hD
     refine cond_f (by rw [ByteArray.toList_eq]; exact beq_false_of_ne w) ?_
     refine need_of ⟨by omega,by omega⟩ (osome_mk ha0 (loads_of ((a.p,a.l,a.c),()) hc0 ?_))
     dsimp only [flat,unc,unc1,nA,cA]
     refine need_of ⟨by omega,by omega⟩ (osome_mk haa (loads_of (t.text,()) u2 ?_))
     dsimp only [flat,unc,unc1,nA,cA]
     by_cases x:t.text.data.toList=[100,97,116,97]
     ·rw [if_pos ⟨g,x⟩] at hD
      refine cond_t (by rw [ByteArray.toList_eq,x]; rfl) ?_
      exact fin true (by rw [ByteArray.toList_eq,x]; rfl) hD
     ·rw [if_neg (fun hh=>x hh.2)] at hD
      refine cond_f (by rw [ByteArray.toList_eq]; exact beq_false_of_ne x) ?_
      exact bad (e:=20) e1 (bz (Ch.refl _ _)) rfl hD (by decide)
   ·have g:¬ t.kind=1:=eqN_f g
    rw [if_neg (fun hh=>g hh.1),if_neg (fun hh=>g hh.1)] at hD
    exact bad (e:=20) e1 (bz (Ch.refl _ _)) rfl hD (by decide)
  ·have r':¬ a.l=1:=eqN_f r'
   have hD:r=.error 20:=by
    rw [hD]
    cases hts:a.ts with
    | nil=>rfl
    | cons t r =>
     cases r with
     | nil=>rw [hts] at hla; simp at hla; omega
     | cons _ _=>rfl
   exact bad (e:=20) e1 (bz (Ch.refl _ _)) rfl hD (by decide)
 have hD:=hr.symm.trans (dirA_none q0 q1 q2 q3 q4 q5 q6 q7)
 have m0:¬ ByteArray.toList s=[112,111,111,108]:=fun e=>q0 ((ByteArray.toList_eq s).symm.trans e)
 have m1:¬ ByteArray.toList s=[97,108,105,103,110]:=fun e=>q1 ((ByteArray.toList_eq s).symm.trans e)
 have m2:¬ ByteArray.toList s=[115,112,97,99,101]:=fun e=>q2 ((ByteArray.toList_eq s).symm.trans e)
 have m3:¬ ByteArray.toList s=[98,121,116,101]:=fun e=>q3 ((ByteArray.toList_eq s).symm.trans e)
 have m4:¬ ByteArray.toList s=[119,111,114,100]:=fun e=>q4 ((ByteArray.toList_eq s).symm.trans e)
 have m5:¬ ByteArray.toList s=[101,113,117]:=fun e=>q5 ((ByteArray.toList_eq s).symm.trans e)
 have m6:¬ ByteArray.toList s=[103,108,111,98,97,108]:=fun e=>q6 ((ByteArray.toList_eq s).symm.trans e)
 have m7:¬ ByteArray.toList s=[115,101,99,116,105,111,110]:=fun e=>q7 ((ByteArray.toList_eq s).symm.trans e)
 refine join_of (cs:=[(false,[.int .i64])]) (fun y h'=>h'=g1∧y.1=(-1:Int)) ?_ ?_
 ·repeat (first | refine cond_f (beq_false_of_ne m0) ?_ | refine cond_f (beq_false_of_ne m1) ?_ | refine cond_f (beq_false_of_ne m2) ?_ | refine cond_f (beq_false_of_ne m3) ?_ | refine cond_f (beq_false_of_ne m4) ?_ | refine cond_f (beq_false_of_ne m5) ?_ | refine cond_f (beq_false_of_ne m6) ?_ | refine cond_f (beq_false_of_ne m7) ?_)
  exact meet_mk (cs:=[(false,[.int .i64])]) ((-1:Int),()) rfl rfl ⟨rfl,rfl⟩
 rintro ⟨n3,⟨⟩⟩ h9 ⟨e9,h3⟩
 have e9:=e9.symm
 subst e9
 simp only at h3
 subst h3
 dsimp only [flat,unc,unc1,nA,cA]
 refine cond_t (by simp) ?_
 exact bad (e:=20) e1 (bz (Ch.refl _ _)) rfl hD (by decide)
theorem dirA_where {s:ByteArray} {args:List (List Tok)} {t:Thg} {w:Nat} (h:dirA s args=.ok (t,w)) :
  w=if s.data.toList=[112,111,111,108] then 0 else if s.data.toList=[98,121,116,101]∨s.data.toList=[119,111,114,100]∨s.data.toList=[115,112,97,99,101] then 1 else 2:=by
 unfold dirA at h
 simp only at h
 split at h
 ·cases h
 split at h
 ·rename_i q
  injection h with h; injection h with _ h
  rw [if_pos q]; exact h.symm
 rename_i q0
 rw [if_neg q0]
 split at h
 ·rename_i q
  rw [if_neg (by rw [q]; decide)]
  repeat' split at h
  all_goals first | (cases h; done) | (injection h with h; injection h with _ h; exact h.symm)
 rename_i q1
 split at h
 ·rename_i q
  rw [if_pos (.inr (.inr q))]
  repeat' split at h
  all_goals first | (cases h; done) | (injection h with h; injection h with _ h; exact h.symm)
 rename_i q2
 split at h
 ·rename_i q
  rw [if_pos (.inl q)]
  repeat' split at h
  all_goals first | (cases h; done) | (injection h with h; injection h with _ h; exact h.symm)
 rename_i q3
 split at h
 ·rename_i q
  rw [if_pos (.inr (.inl q))]
  repeat' split at h
  all_goals first | (cases h; done) | (injection h with h; injection h with _ h; exact h.symm)
 rename_i q4
 rw [if_neg (by rintro (x | x | x); exact q3 x; exact q4 x; exact q2 x)]
 repeat' split at h
 all_goals first | (cases h; done) | (injection h with h; injection h with _ h; exact h.symm)
def whyW (data:Bool):Except Nat (Thg × Nat)→Int
 | .error e=>(e:Int)
 | .ok (_,w)=>if w=2∨w=(if data then 1 else 0) then 0 else 21
set_option maxHeartbeats 1000000 in
theorem read2_hc {h:Hp} {lab op:ByteArray} {p:Option Addr} {l c:Nat} {al:List In} (v:VwA h p l al) (hal:al.length≤2^32) (sec:Int) :
  HC Tryz.prog 24 #[.agg #[.string lab,.string op,.slice p l c],.int .i64 sec] h (thgQ h (readA ⟨lab,op,al.map In.ts⟩ (decide (sec=1)))):=by
 refine hcr_of (args:=[.agg #[.string lab,.string op,.slice p l c],.int .i64 sec]) mixed Tryz.func24 (by kernel_rfl) (t_spandrelref8_Read_eq lab op p l c sec) ?_
 unfold t_spandrelref8_Read
 refine newB ?_
 intro g1 b1 e1 z1
 refine newB ?_
 intro g2 b2 e2 z2
 have b1:=b1.keep e2 (by simp)
 have e02:=e1.trans e2
 have b2:Box g2 g1.size 30 zT:=b2
 have hg2:g2.size=g1.size+1:=z2
 rw [add_box]
 refine loads_box b1 (op,()) rfl ?_
 dsimp only [flat,unc,unc1,nA,cA]
 obtain ⟨r,hr⟩:∃ r,r=readA ⟨lab,op,al.map In.ts⟩ (decide (sec=1)):=⟨_,rfl⟩
 rw [← hr]
 have bad:∀ {gg:Hp} {e:Nat} {L:Lp},Ext g2 gg→r=.error e→e≠0 →
   (T.stores ⟨g1.size,0,none⟩ [.int .i64 (0:Int),.slice none 0 0,.string ⟨#[]⟩,.slice none 0 0,.int .u32 (0:Int),.int .i64 (0:Int)] <|
   T.loads ⟨g1.size,0,none⟩ [.int .i64,.slice 54,.string,.slice 50,.int .u32,.int .i64] <| fun (n6:Int) (p7:Option Addr) (l8:Nat) (l9:Nat) (s10:ByteArray) (p11:Option Addr) (l12:Nat) (l13:Nat) (n14:Int) (n15:Int) =>
   T.ret (.tuple #[.agg #[.int .i64 n6,.slice p7 l8 l9,.string s10,.slice p11 l12 l13,.int .u32 n14,.int .i64 n15],.int .i64 (e:Int)])) L (thgQ h r) gg:=by
  intro gg e L eg hA he
  refine thg_st (b2.keep eg (by simp)) rfl ?_
  intro h' b' k' z'
  refine ⟨Ch.trans (e02.trans eg) k' (fun i hi hl=>by simp at hi; omega),?_⟩
  rw [hA]
  exact ⟨rfl,he⟩
 have good:∀ {gg:Hp} {t:Thg} {sl se:Sli} {us:List (Sli × Itm)} {L:Lp},Ext g2 gg→r=.ok t→ThgAt gg g2.size t sl us se →
   (T.stores ⟨g1.size,0,none⟩ [.int .i64 (t.kind:Int),.slice sl.p sl.l sl.c,.string t.name,.slice se.p se.l se.c,.int .u32 (t.e.num:Int),.int .i64 (t.sec:Int)] <|
   T.loads ⟨g1.size,0,none⟩ [.int .i64,.slice 54,.string,.slice 50,.int .u32,.int .i64] <| fun (n6:Int) (p7:Option Addr) (l8:Nat) (l9:Nat) (s10:ByteArray) (p11:Option Addr) (l12:Nat) (l13:Nat) (n14:Int) (n15:Int) =>
   T.ret (.tuple #[.agg #[.int .i64 n6,.slice p7 l8 l9,.string s10,.slice p11 l12 l13,.int .u32 n14,.int .i64 n15],.int .i64 (0:Int)])) L (thgQ h r) gg:=by
  intro gg t sl se us L eg hA A
  refine thg_st (b2.keep eg (by simp)) rfl ?_
  intro h' b' k' z'
  refine ⟨Ch.trans (e02.trans eg) k' (fun i hi hl=>by simp at hi; omega),?_⟩
  rw [hA]
  exact ⟨sl,us,se,rfl,(A.keep k' (fun i hi hl=>by simp at hi; omega)).mono (by omega)⟩
 refine cond_mk (fun q=>?_) (fun q=>?_)
 ·have q:op=nam0:=by
   have q:op.data.toList=[]:=(ByteArray.toList_eq op).symm.trans (eq_of_beq q)
   exact ba_ext q
  have hA:r=.ok thg0:=by rw [hr]; unfold readA; rw [if_pos q]
  exact good (t:=thg0) (sl:=⟨none,0,0⟩) (se:=⟨none,0,0⟩) (us:=[]) (Ch.refl _ _) hA ⟨ItsAt.nil _ _,rfl,SL.nil _ _ _ _,.inl rfl⟩
 have q:¬ op=nam0:=fun e=>by
  subst e
  rw [ByteArray.toList_eq] at q
  simp [nam0] at q
 have hop:=readA_op (l:=⟨lab,op,al.map In.ts⟩) (data:=decide (sec=1)) q
 rw [← hr] at hop
 simp only at hop
 obtain ⟨ro,hro⟩:∃ ro,opA op (al.map In.ts)=ro:=⟨_,rfl⟩
 rw [hro] at hop
 refine loads_box b1 (op,()) rfl ?_
 dsimp only [flat,unc,unc1,nA,cA]
 obtain ⟨fo,hfo⟩:∃ fo,findA op=fo:=⟨_,rfl⟩
 have hle:fo≤43:=hfo▸findL_le _ _ _
 refine call_of (find2_hc op g2) ?_
 rintro u0 g3 ⟨hu0,e3⟩
 rw [hfo] at hu0
 subst hu0
 refine ⟨((fo:Int),()),rfl,?_⟩
 dsimp only [flat,unc,unc1,nA,cA]
 have b13:=b1.keep e3 (by simp)
 have e03:=e02.trans e3
 refine cond_mk (fun f=>?_) (fun f=>?_)
 ·have f:(fo:Int)>0:=of_decide_eq_true f
  have hopA:ro=match codeA (fo:Int) (al.map In.ts) with
    | .error e=>.error e
    | .ok x=>.ok (oneT x,0):=by
   rw [← hro]
   unfold opA
   rw [hfo,if_pos (by omega)]
   all_goals (cases codeA (fo:Int) (al.map In.ts) <;> rfl)
  try rw [add_box]
  refine loads_box b13 ((p,l,c),()) rfl ?_
  dsimp only [flat,unc,unc1,nA,cA]
  refine call_of (code2_hc (op:=fo) (by omega) hle (v.keep e03) (by omega)) ?_
  rintro u g4 ⟨e4,hu⟩
  have e24:=e3.trans e4
  cases hcd:codeA (fo:Int) (al.map In.ts) with
  | error e =>
   rw [hcd] at hu hopA
   have hopA:ro=.error e:=hopA
   subst hopA
   have he:=codeA_err (fun a ha=>by obtain ⟨b,hb,rfl⟩:=List.mem_map.1 ha; exact v.wf b hb) hcd
   have hu:u=.tuple #[itmV none 0 0 (itm 0),.int .i64 (e:Int)]:=hu
   subst hu
   refine ⟨((0:Int),(⟨#[]⟩:ByteArray),(0:Int),(0:Int),(0:Int),(0:Int),(0:Int),(none,0,0),(0:Int),(0:Int),(e:Int),()),rfl,?_⟩
   dsimp only [flat,unc,unc1,nA,cA]
   refine newB ?_
   intro g5 b5 e5 z5
   refine stores_of b5 rfl (by simp) ?_
   intro g6 b6 k6 z6
   have e46:Ext g4 g6:=Ch.trans e5 k6 (fun i hi hl=>by simp at hi; omega)
   refine join_of (cs:=[(false,[.int .i64])]) (fun y h'=>h'=g6∧y.1=(e:Int)) ?_ ?_
   ·refine cond_f (by simp; omega) ?_
    exact meet_mk (cs:=[(false,[.int .i64])]) ((e:Int),()) rfl rfl ⟨rfl,rfl⟩
   rintro ⟨n3,⟨⟩⟩ h9 ⟨e9,h3⟩
   have e9:=e9.symm
   subst e9
   simp only at h3
   subst h3
   dsimp only [flat,unc,unc1,nA,cA]
   refine cond_t (by simp; omega) ?_
   exact bad (e:=e) (e24.trans e46) hop (by omega)
  | ok x =>
   rw [hcd] at hu hopA
   have hopA:ro=.ok (oneT x,0):=hopA
   subst hopA
   obtain ⟨p',l',c',rfl,sx⟩:=hu
   refine ⟨(x.kind,x.name,x.inst.op,x.inst.a,x.inst.b,x.inst.n,x.inst.form,(p',l',c'),(x.e.num:Int),x.n,(0:Int),()),rfl,?_⟩
   dsimp only [flat,unc,unc1,nA,cA]
   refine newB ?_
   intro g5 b5 e5 z5
   refine stores_of b5 rfl (by simp) ?_
   intro g6 b6 k6 z6
   have b6:Box g6 g4.size 54 (encI p' l' c' x):=b6
   have e46:Ext g4 g6:=Ch.trans e5 k6 (fun i hi hl=>by simp at hi; omega)
   refine join_of (cs:=[(false,[.int .i64])]) (fun y h'=>h'=g6∧y.1=(if sec=1 then (21:Int) else 0)) ?_ ?_
   ·refine cond_t rfl ?_
    refine cond_mk (fun g=>?_) (fun g=>?_)
    ·have g:sec=1:=by simpa using g
     exact meet_mk (cs:=[(false,[.int .i64])]) ((21:Int),()) rfl rfl ⟨rfl,by rw [if_pos g]⟩
    ·have g:¬ sec=1:=by simpa using g
     exact meet_mk (cs:=[(false,[.int .i64])]) ((0:Int),()) rfl rfl ⟨rfl,by rw [if_neg g]⟩
   rintro ⟨n3,⟨⟩⟩ h9 ⟨e9,h3⟩
   have e9:=e9.symm
   subst e9
   simp only at h3
   subst h3
   dsimp only [flat,unc,unc1,nA,cA]
   by_cases g:sec=1
   ·rw [if_pos g]
    refine cond_t rfl ?_
    refine bad (e:=21) (e24.trans e46) ?_ (by decide)
    rw [hop]
    simp [g]
   ·rw [if_neg g]
    refine cond_f rfl ?_
    refine loads_box b6 (x.kind,x.name,x.inst.op,x.inst.a,x.inst.b,x.inst.n,x.inst.form,(p',l',c'),(x.e.num:Int),x.n,()) rfl ?_
    dsimp only [flat,unc,unc1,nA,cA]
    refine lit1_of (p:=p') (l:=l') (c:=c') (x:=x) ?_
    intro g7 s7 e7 z7
    have hz24:=e24.size
    have hz3:=e3.size
    have hz4:=e4.size
    have hz46:=e46.size
    refine good (t:=oneT x) (sl:=⟨some ⟨g6.size,0,none⟩,1,1⟩) (se:=⟨none,0,0⟩) (us:=[(⟨p',l',c'⟩,x)]) ((e24.trans e46).trans e7) ?_ ⟨⟨Sx.SL.mono s7 (by omega),?_,?_,by simp⟩,rfl,SL.nil _ _ _ _,.inr rfl⟩
    ·rw [hop]
     simp [g]
    ·intro w hw
     have hw:w=(⟨p',l',c'⟩,x):=by simpa using hw
     subst hw
     exact Sx.SL.keep' (Sx.SL.keep' (Sx.SL.mono sx (by omega)) e46 (by simp)) e7 (by simp)
    ·intro w hw i hi hm
     have hw:w=(⟨p',l',c'⟩,x):=by simpa using hw
     subst hw
     have:=(Sx.SL.blk sx hi).2
     simp [blkOf] at hm
     omega
 ·have f:¬ (fo:Int)>0:=of_decide_eq_false f
  have hopA:ro=dirA op (al.map In.ts):=by
   rw [← hro]
   unfold opA
   rw [hfo,if_neg (by omega)]
  try rw [add_box]
  refine loads_box b13 (op,()) rfl ?_
  dsimp only [flat,unc,unc1,nA,cA]
  try rw [add_box]
  refine loads_box b13 ((p,l,c),()) rfl ?_
  dsimp only [flat,unc,unc1,nA,cA]
  refine call_of (directive2_hc (v.keep e03) hal op) ?_
  rintro u g4 ⟨e4,hu⟩
  have e24:=e3.trans e4
  have hz3:=e3.size
  rw [← hopA] at hu
  cases hd:ro with
  | error e =>
   subst hd
   obtain ⟨rfl,he⟩:=hu
   refine ⟨((0:Int),(none,0,0),nam0,(none,0,0),(0:Int),(0:Int),(e:Int),()),rfl,?_⟩
   dsimp only [flat,unc,unc1,nA,cA]
   refine newB ?_
   intro g5 b5 e5 z5
   refine stores_of b5 rfl (by simp) ?_
   intro g6 b6 k6 z6
   have e46:Ext g4 g6:=Ch.trans e5 k6 (fun i hi hl=>by simp at hi; omega)
   refine join_of (cs:=[(false,[.int .i64])]) (fun y h'=>h'=g6∧y.1=(e:Int)) ?_ ?_
   ·refine cond_f (by simp; omega) ?_
    exact meet_mk (cs:=[(false,[.int .i64])]) ((e:Int),()) rfl rfl ⟨rfl,rfl⟩
   rintro ⟨n3,⟨⟩⟩ h9 ⟨e9,h3⟩
   have e9:=e9.symm
   subst e9
   simp only at h3
   subst h3
   dsimp only [flat,unc,unc1,nA,cA]
   refine cond_t (by simp; omega) ?_
   exact bad (e:=e) (e24.trans e46) hop he
  | ok qq =>
   obtain ⟨t,w⟩:=qq
   subst hd
   obtain ⟨sl,us,se,rfl,A⟩:=hu
   have hwh:=dirA_where hopA.symm
   simp only at hop
   refine ⟨((t.kind:Int),(sl.p,sl.l,sl.c),t.name,(se.p,se.l,se.c),(t.e.num:Int),(t.sec:Int),(0:Int),()),rfl,?_⟩
   dsimp only [flat,unc,unc1,nA,cA]
   refine newB ?_
   intro g5 b5 e5 z5
   refine stores_of b5 rfl (by simp) ?_
   intro g6 b6 k6 z6
   have b6:Box g6 g4.size 30 (thgC t.kind sl.p sl.l sl.c t.name se.p se.l se.c t.e.num t.sec):=b6
   have e46:Ext g4 g6:=Ch.trans e5 k6 (fun i hi hl=>by simp at hi; omega)
   have b16:=(b13.keep e4 (by simp)).keep e46 (by simp)
   refine join_of (cs:=[(false,[.int .i64])]) (fun y h'=>h'=g6∧y.1=whyW (decide (sec=1)) (.ok (t,w))) ?_ ?_
   ·refine cond_t rfl ?_
    try rw [add_box]
    have fin0:whyW (decide (sec=1)) (.ok (t,w))=0→∀ {L:Lp} {K:Value→Hp→Prop},T.again 0 [.int .i64 (0:Int)] ((fun vs h'=>∃ y:HVs (flat [(false,[.int .i64])]),vs=parts [(false,[.int .i64])] (hvs _ y)∧h'=g6∧y.1=whyW (decide (sec=1)) (.ok (t,w)))::L) K g6 :=
     fun e L K=>meet_mk (cs:=[(false,[.int .i64])]) ((0:Int),()) rfl rfl ⟨rfl,e.symm⟩
    have fin1:whyW (decide (sec=1)) (.ok (t,w))=21→∀ {L:Lp} {K:Value→Hp→Prop},T.again 0 [.int .i64 (21:Int)] ((fun vs h'=>∃ y:HVs (flat [(false,[.int .i64])]),vs=parts [(false,[.int .i64])] (hvs _ y)∧h'=g6∧y.1=whyW (decide (sec=1)) (.ok (t,w)))::L) K g6 :=
     fun e L K=>meet_mk (cs:=[(false,[.int .i64])]) ((21:Int),()) rfl rfl ⟨rfl,e.symm⟩
    have dat:w=1→∀ {L:Lp} {K:Value→Hp→Prop},(cond (!(sec==(1:Int))) (T.again 0 [.int .i64 (21:Int)]) (T.again 0 [.int .i64 (0:Int)])) ((fun vs h'=>∃ y:HVs (flat [(false,[.int .i64])]),vs=parts [(false,[.int .i64])] (hvs _ y)∧h'=g6∧y.1=whyW (decide (sec=1)) (.ok (t,w)))::L) K g6:=by
     intro hw L K
     refine cond_mk (fun g=>?_) (fun g=>?_)
     ·have g:¬ sec=1:=by simpa using g
      exact fin1 (by unfold whyW; rw [hw]; simp [g])
     ·have g:sec=1:=by simpa using g
      exact fin0 (by unfold whyW; rw [hw]; simp [g])
    refine loads_box b16 (op,()) rfl ?_
    dsimp only [flat,unc,unc1,nA,cA]
    by_cases q0:op.data.toList=[112,111,111,108]
    ·rw [if_pos q0] at hwh
     refine cond_t (by rw [ByteArray.toList_eq,q0]; rfl) ?_
     refine cond_mk (fun g=>?_) (fun g=>?_)
     ·have g:sec=1:=by simpa using g
      exact fin1 (by unfold whyW; rw [hwh]; simp [g])
     ·have g:¬ sec=1:=by simpa using g
      refine loads_box b16 (op,()) rfl ?_
      dsimp only [flat,unc,unc1,nA,cA]
      refine cond_f (by rw [ByteArray.toList_eq,q0]; rfl) ?_
      refine loads_box b16 (op,()) rfl ?_
      dsimp only [flat,unc,unc1,nA,cA]
      refine cond_f (by rw [ByteArray.toList_eq,q0]; rfl) ?_
      refine loads_box b16 (op,()) rfl ?_
      dsimp only [flat,unc,unc1,nA,cA]
      refine cond_f (by rw [ByteArray.toList_eq,q0]; rfl) ?_
      exact fin0 (by unfold whyW; rw [hwh]; simp [g])
    ·rw [if_neg q0] at hwh
     refine cond_f (by rw [ByteArray.toList_eq]; exact beq_false_of_ne q0) ?_
     refine loads_box b16 (op,()) rfl ?_
     dsimp only [flat,unc,unc1,nA,cA]
     by_cases q1:op.data.toList=[98,121,116,101]
     ·refine cond_t (by rw [ByteArray.toList_eq,q1]; rfl) ?_
      exact dat (hwh.trans (if_pos (.inl q1)))
     refine cond_f (by rw [ByteArray.toList_eq]; exact beq_false_of_ne q1) ?_
     refine loads_box b16 (op,()) rfl ?_
     dsimp only [flat,unc,unc1,nA,cA]
     by_cases q2:op.data.toList=[119,111,114,100]
     ·refine cond_t (by rw [ByteArray.toList_eq,q2]; rfl) ?_
      exact dat (hwh.trans (if_pos (.inr (.inl q2))))
     refine cond_f (by rw [ByteArray.toList_eq]; exact beq_false_of_ne q2) ?_
     refine loads_box b16 (op,()) rfl ?_
     dsimp only [flat,unc,unc1,nA,cA]
     by_cases q3:op.data.toList=[115,112,97,99,101]
     ·refine cond_t (by rw [ByteArray.toList_eq,q3]; rfl) ?_
      exact dat (hwh.trans (if_pos (.inr (.inr q3))))
     refine cond_f (by rw [ByteArray.toList_eq]; exact beq_false_of_ne q3) ?_
     have hw2:w=2:=hwh.trans (if_neg (by rintro (x | x | x); exact q1 x; exact q2 x; exact q3 x))
     exact fin0 (by unfold whyW; rw [hw2]; simp)
   rintro ⟨n3,⟨⟩⟩ h9 ⟨e9,h3⟩
   have e9:=e9.symm
   subst e9
   simp only at h3
   subst h3
   dsimp only [flat,unc,unc1,nA,cA]
   have hwy:whyW (decide (sec=1)) (.ok (t,w))=if w=2∨w=(if decide (sec=1)=true then 1 else 0) then 0 else 21:=rfl
   by_cases g:w=2∨w=(if decide (sec=1)=true then 1 else 0)
   ·rw [if_pos g] at hop hwy
    rw [hwy]
    refine cond_f rfl ?_
    refine loads_box b6 ((t.kind:Int),(sl.p,sl.l,sl.c),t.name,(se.p,se.l,se.c),(t.e.num:Int),(t.sec:Int),()) rfl ?_
    dsimp only [flat,unc,unc1,nA,cA]
    exact good (t:=t) (sl:=sl) (se:=se) (us:=us) (e24.trans e46) hop ((A.keep e46 (by simp)).mono (by omega))
   ·rw [if_neg g] at hop hwy
    rw [hwy]
    refine cond_t rfl ?_
    exact bad (e:=21) (e24.trans e46) hop (by decide)
end Go.Sx.Ob
set_option linter.unusedVariables false
set_option linter.unusedSimpArgs false
set_option maxRecDepth 100000
namespace Go.Sx
open Go.Proofs
theorem wf_lexAt {s:ByteArray} {a k':Nat} {t:Tok} (ha:a≤s.size) (h:lexAt s a=.tok t k'):WfT t:=by
 have hsz:s.data.toList.length=s.size:=by simp
 unfold lexAt at h
 split at h
 ·cases h
 split at h
 ·cases h
 have hlen:(s.data.toList.drop a).length=s.size-a:=by rw [List.length_drop,hsz]
 split at h
 ·rename_i h1 h2 h3
  split at h
  ·cases h
  ·rename_i h4
   cases h
   refine ⟨by simp,fun _=>⟨rfl,?_⟩⟩
   have h5:=rowN_le (s.data.toList.drop a) gluedL
   have h0:(s.data.toList.drop a).getD 0 0=s.data.toList.getD a 0:=by simp [List.getD]
   have h6:=(rowN_pos (s:=s.data.toList.drop a) (set:=gluedL) (by omega)).2 (by
    rw [h0]
    show (lettersL++digitsL).contains _=true
    rw [glued_is,h3]; rfl)
   have e:(s.extract a (a+rowN (s.data.toList.drop a) gluedL)).data.toList=(s.data.toList.drop a).take (rowN (s.data.toList.drop a) gluedL):=by
    rw [ext_list,show a+rowN (s.data.toList.drop a) gluedL-a=rowN (s.data.toList.drop a) gluedL by omega]
   show legalL (s.extract a (a+rowN (s.data.toList.drop a) gluedL)).data.toList=!(regL (s.extract a (a+rowN (s.data.toList.drop a) gluedL)).data.toList).2.2
   rw [e]
   unfold legalL
   have l1:((s.data.toList.drop a).take (rowN (s.data.toList.drop a) gluedL)).length=rowN (s.data.toList.drop a) gluedL:=by rw [List.length_take]; omega
   have l2:((s.data.toList.drop a).take (rowN (s.data.toList.drop a) gluedL)).getD 0 0=s.data.toList.getD a 0:=by rw [← h0]; exact getD_take (by omega)
   have l3:((s.data.toList.drop a).take (rowN (s.data.toList.drop a) gluedL)).all (fun c=>isLet c || isDig c)=true:=by
    refine List.all_eq_true.2 fun c hc=>?_
    obtain ⟨i,hi,rfl⟩:=List.getElem_of_mem hc
    rw [l1] at hi
    have h7:=rowN_get hi
    have h8:(lettersL++digitsL).contains ((s.data.toList.drop a).getD i 0)=true:=h7
    rw [glued_is] at h8
    rw [List.getElem_take]
    rw [List.getD,List.getElem?_eq_getElem (by omega)] at h8
    exact h8
   rw [l1,l2,l3,h3,decide_eq_true (by omega),decide_eq_true (by omega)]
   rfl
 split at h
 ·split at h
  ·cases h
  ·cases h
   exact ⟨(numL_le _).2,by simp⟩
 split at h
 ·split at h
  ·cases h
  ·cases h
   exact ⟨by show (s.data.toList.getD (a+1) 0).toNat<4294967296; have:=(s.data.toList.getD (a+1) 0).toNat_lt; omega,by simp⟩
 split at h
 ·cases h
  exact ⟨by simp,by simp⟩
 ·cases h
theorem wf_lexF {s:ByteArray}:∀ (f k:Nat) (acc:List Tok),k≤s.size→Wf acc→Wf (lexF s f k acc).1
 | 0,k,acc,hk,w=>w
 | f+1,k,acc,hk,w=>by
  unfold lexF
  cases h:lexStep s k with
  | stop=>exact w
  | wrong a=>intro t ht; simp at ht
  | tok t k' =>
   simp only
   have h1:=lexStep_tok hk h
   have hle:k+rowN (s.data.toList.drop k) blanksL≤s.size:=by
    have:=rowN_le (s.data.toList.drop k) blanksL
    rw [List.length_drop] at this
    have hsz:s.data.toList.length=s.size:=by simp
    omega
   refine wf_lexF f k' _ h1.2 ?_
   intro u hu
   rcases List.mem_append.1 hu with hu | hu
   ·exact w u hu
   ·rw [List.mem_singleton] at hu
    subst hu
    exact wf_lexAt hle h
theorem wf_lexS (s:ByteArray):Wf (lexS s).1:=wf_lexF _ 0 [] (Nat.zero_le _) (by intro t ht; simp at ht)
theorem size_lexF {s:ByteArray}:∀ (f k:Nat) (acc:List Tok),k≤s.size→(∀ t,t∈acc→t.text.size≤s.size)→∀ t,t∈(lexF s f k acc).1→t.text.size≤s.size
 | 0,k,acc,hk,w=>w
 | f+1,k,acc,hk,w=>by
  unfold lexF
  cases h:lexStep s k with
  | stop=>exact w
  | wrong a=>intro t ht; simp at ht
  | tok t k' =>
   simp only
   have h1:=lexStep_tok hk h
   have hle:k+rowN (s.data.toList.drop k) blanksL≤s.size:=by
    have:=rowN_le (s.data.toList.drop k) blanksL
    rw [List.length_drop] at this
    have hsz:s.data.toList.length=s.size:=by simp
    omega
   refine size_lexF f k' _ h1.2 ?_
   intro u hu
   rcases List.mem_append.1 hu with hu | hu
   ·exact w u hu
   ·rw [List.mem_singleton] at hu
    subst hu
    obtain ⟨_,_,_,h4⟩:=lexAt_tok hle h
    rw [h4,ext_size]
    omega
theorem size_lexS (s:ByteArray):∀ t,t∈(lexS s).1→t.text.size≤s.size:=size_lexF _ 0 [] (Nat.zero_le _) (by intro t ht; simp at ht)
theorem argsS_ne (n:Nat):∀ (ts:List Tok) (done:List (List Tok)) (cur:List Tok) (r:List (List Tok)),argsS n ts done cur=.ok r→(∀ l,l∈done→l≠[])→∀ l,l∈r→l≠[]
 | [],done,cur,r,h,hd=>by
  simp only [argsS] at h
  split at h
  ·cases h
  ·rename_i hc
   injection h with h
   subst h
   intro l hl
   rcases List.mem_append.1 hl with hl | hl
   ·exact hd l hl
   ·have:l=cur:=by simpa using hl
    subst this
    exact hc
 | t::ts,done,cur,r,h,hd=>by
  simp only [argsS] at h
  split at h
  ·cases h
  ·rename_i h0
   split at h
   ·rename_i h1
    refine argsS_ne n ts _ _ r h fun l hl=>?_
    rcases List.mem_append.1 hl with hl | hl
    ·exact hd l hl
    ·have:l=cur:=by simpa using hl
     subst this
     intro hh
     subst hh
     rw [h1] at h0
     simp at h0
   ·exact argsS_ne n ts _ _ r h hd
theorem parseT_ne (n:Nat) (lb:ByteArray) (us:List Tok):∀ l,l∈(parseT n lb us).1.args→l≠[]:=by
 cases us with
 | nil=>simp [parseT]
 | cons t us =>
  simp only [parseT]
  split
  ·simp [lnNil]
  ·cases hA:argsA n us with
   | error a=>simp [lnNil]
   | ok r =>
    unfold argsA at hA
    split at hA
    ·injection hA with hA
     subst hA
     simp
    ·exact argsS_ne n us [] [] r hA (by simp)
theorem parseS_ne (s:ByteArray):∀ l,l∈(parseS s).1.args→l≠[]:=by
 unfold parseS
 split
 ·simp [lnNil]
 ·unfold parseL
  split
  ·exact parseT_ne _ _ _
  ·exact parseT_ne _ _ _
theorem argsS_all (P:Tok→Prop) (n:Nat):∀ (ts:List Tok) (done:List (List Tok)) (cur:List Tok) (r:List (List Tok)),argsS n ts done cur=.ok r→(∀ l,l∈done→∀ t,t∈l→P t)→(∀ t,t∈cur→P t)→(∀ t,t∈ts→P t)→∀ l,l∈r→∀ t,t∈l→P t
 | [],done,cur,r,h,hd,hc,ht=>by
  simp only [argsS] at h
  split at h
  ·cases h
  ·injection h with h
   subst h
   intro l hl
   rcases List.mem_append.1 hl with hl | hl
   ·exact hd l hl
   ·have:l=cur:=by simpa using hl
    subst this
    exact hc
 | t::ts,done,cur,r,h,hd,hc,ht=>by
  simp only [argsS] at h
  split at h
  ·cases h
  ·split at h
   ·refine argsS_all P n ts _ _ r h (fun l hl=>?_) (by simp) (fun x hx=>ht x (by simp [hx]))
    rcases List.mem_append.1 hl with hl | hl
    ·exact hd l hl
    ·have:l=cur:=by simpa using hl
     subst this
     exact hc
   ·refine argsS_all P n ts _ _ r h hd (fun x hx=>?_) (fun x hx=>ht x (by simp [hx]))
    rcases List.mem_append.1 hx with hx | hx
    ·exact hc x hx
    ·have:x=t:=by simpa using hx
     subst this
     exact ht x (by simp)
theorem parseT_all (Q:Tok→Prop) (n:Nat) (lb:ByteArray) (us:List Tok) (h:∀ t,t∈us→Q t):∀ l,l∈(parseT n lb us).1.args→∀ t,t∈l→Q t:=by
 cases us with
 | nil=>simp [parseT]
 | cons t us =>
  simp only [parseT]
  split
  ·simp [lnNil]
  ·cases hA:argsA n us with
   | error a=>simp [lnNil]
   | ok r =>
    unfold argsA at hA
    split at hA
    ·injection hA with hA
     subst hA
     simp
    ·exact argsS_all Q n us [] [] r hA (by simp) (by simp) (fun x hx=>h x (by simp [hx]))
theorem parseS_all (Q:Tok→Prop) (s:ByteArray) (h:∀ t,t∈(lexS s).1→Q t):∀ l,l∈(parseS s).1.args→∀ t,t∈l→Q t:=by
 unfold parseS
 split
 ·simp [lnNil]
 ·unfold parseL
  split
  ·exact parseT_all Q _ _ _ fun t ht=>h t (List.mem_of_mem_drop ht)
  ·exact parseT_all Q _ _ _ h
theorem parse_facts (s:ByteArray) (hs:s.size≤2^20):∀ a,a∈(parseS s).1.args→Wf a∧a.length≤2^40∧a≠[]∧∀ t,t∈a→t.text.size≤9223372036854775807:=fun a ha =>
 ⟨parseS_all WfT s (wf_lexS s) a ha,by have:=(parseS_bound s).1 a ha; omega,parseS_ne s a ha,fun t ht=>by have:=parseS_all (fun t=>t.text.size≤s.size) s (size_lexS s) a ha t ht; omega⟩
end Go.Sx
namespace Go.Sx.Ob
open Go.Proofs
theorem VwA.parse {h:Hp} {b:Nat} {te es:TypeId} {p:Option Addr} {c:Nat} {al:List In} (s:ByteArray) (hs:s.size≤2^20) (A:Args h b te es p c al) (ha:al.map In.ts=(parseS s).1.args):VwA h p al.length al∧al.length≤2^32:=by
 refine ⟨VwA.of A fun a hm=>parse_facts s hs a.ts (ha▸List.mem_map_of_mem hm),?_⟩
 have:=(parseS_bound s).2
 rw [← ha,List.length_map] at this
 omega
def trR:Except Nat Thg→Thg × Nat
 | .error e=>(thg0,e)
 | .ok t=>(t,0)
theorem ThgAt.z (h:Hp) (b:Nat):ThgAt h b thg0 ⟨none,0,0⟩ [] ⟨none,0,0⟩:=⟨ItsAt.nil _ _,rfl,SL.nil _ _ _ _,.inl rfl⟩
theorem thg_any {h h':Hp} {r:Except Nat Thg} {u:Value} (q:thgQ h r u h'):Ext h h'∧∃ sl us se,u=.tuple #[thgV (trR r).1.kind sl (trR r).1.name se (trR r).1.e.num (trR r).1.sec,.int .i64 ((trR r).2:Int)]∧ThgAt h' h.size (trR r).1 sl us se:=by
 refine ⟨q.1,?_⟩
 have q:=q.2
 cases r with
 | error e=>exact ⟨⟨none,0,0⟩,[],⟨none,0,0⟩,q.1,ThgAt.z _ _⟩
 | ok t =>
  obtain ⟨sl,us,se,hu,A⟩:=q
  exact ⟨sl,us,se,hu,A⟩
def sayR (s:ByteArray) (sec:Int):Thg × Nat:=if (parseS s).2.2≠0 then (thg0,0) else trR (readA (parseS s).1 (decide (sec=1)))
def sayQ (s:ByteArray) (sec:Int) (h:Hp) (w:Value) (h':Hp):Prop:=Ext h h'∧∃ sl us se sl' us' se',w=.tuple #[thgV (sayR s sec).1.kind sl (sayR s sec).1.name se (sayR s sec).1.e.num (sayR s sec).1.sec,.int .i64 ((sayR s sec).2:Int),thgV (sayR s sec).1.kind sl' (sayR s sec).1.name se' (sayR s sec).1.e.num (sayR s sec).1.sec,.int .i64 ((sayR s sec).2:Int),.bool true] ∧
 ThgAt h' h.size (sayR s sec).1 sl us se∧ThgAt h' h.size (sayR s sec).1 sl' us' se'
theorem lread_hc {h:Hp} (tb:TabN h) (ld:Laid h) (s:ByteArray) (hs:s.size≤2^20) (sec:Int):HC Tryz.prog 8 #[.string s,.int .i64 sec] h (sayQ s sec h):=by
 refine hcr_of (args:=[.string s,.int .i64 sec]) mixed Tryz.func8 (by kernel_rfl) (t_spandrellaw8_read_eq s sec) ?_
 unfold t_spandrellaw8_read
 refine newB ?_
 intro g1 b1 e1 z1
 refine newB ?_
 intro g2 b2 e2 z2
 have b1:=b1.keep e2 (by simp)
 have e02:=e1.trans e2
 refine call_of (parse_hc s g2 (by omega) (ld.ext e02)) ?_
 rintro _ g3 ⟨e3,p,c,al,rfl,A,ha⟩
 refine ⟨((parseS s).1.label,(parseS s).1.op,(p,al.length,c),((parseS s).2.1:Int),((parseS s).2.2:Int),()),rfl,?_⟩
 dsimp only [flat,unc,unc1,nA,cA]
 refine newB ?_
 intro g4 b4 e4 z4
 refine stores_of b4 rfl (by simp) ?_
 intro g5 b5 k5 z5
 have e45:=e4.st k5 (Nat.le_refl _)
 have e25:=e3.trans e45
 have A5:=(A.mono (Nat.le_refl _)).keep e45 (by simp) (by simp)
 refine call_of (parse2_hc s g5 (by omega)) ?_
 rintro _ g6 ⟨e6,p',c',al',rfl,A',ha'⟩
 refine ⟨((parseS s).1.label,(parseS s).1.op,(p',al'.length,c'),((parseS s).2.1:Int),((parseS s).2.2:Int),()),rfl,?_⟩
 dsimp only [flat,unc,unc1,nA,cA]
 refine newB ?_
 intro g7 b7 e7 z7
 refine stores_of b7 rfl (by simp) ?_
 intro g8 b8 k8 z8
 have e78:=e7.st k8 (Nat.le_refl _)
 have e58:=e6.trans e78
 have e28:=e25.trans e58
 have e08:=e02.trans e28
 have b18:=b1.keep e28 (by simp)
 have b28:=b2.keep e28 (by simp)
 have b5:Box g5 g3.size 39 [.string (parseS s).1.label,.string (parseS s).1.op,.slice p al.length c]:=b5
 have b8:Box g8 g6.size 69 [.string (parseS s).1.label,.string (parseS s).1.op,.slice p' al'.length c']:=b8
 have b58:=b5.keep e58 (by simp)
 refine cond_mk (fun q=>?_) (fun q=>?_)
 ·have q:(parseS s).2.2≠0:=by simpa using q
  have hr:sayR s sec=(thg0,0):=by unfold sayR; rw [if_pos q]
  refine stores_of b18 rfl (by simp) ?_
  intro g9 b9 k9 z9
  have b29:=b28.keep k9 (by simp; have:=z1; omega)
  refine stores_of b29 rfl (by simp) ?_
  intro gA bA kA zA
  have b1A:=b9.keep kA (by simp; have:=z1; omega)
  have e09:Ext h g9:=Ch.trans e08 k9 (fun i hi hl=>by simp at hi; omega)
  have e0A:Ext h gA:=Ch.trans e09 kA (fun i hi hl=>by simp at hi; omega)
  have b1A:Box gA h.size 28 (thgC 0 none 0 0 nam0 none 0 0 0 0):=b1A
  have b2A:Box gA g1.size 30 (thgC 0 none 0 0 nam0 none 0 0 0 0):=bA
  refine loads_box b1A ((0:Int),(none,0,0),nam0,(none,0,0),(0:Int),(0:Int),()) rfl ?_
  dsimp only [flat,unc,unc1,nA,cA]
  refine loads_box b2A ((0:Int),(none,0,0),nam0,(none,0,0),(0:Int),(0:Int),()) rfl ?_
  dsimp only [flat,unc,unc1,nA,cA]
  refine ⟨e0A,?_⟩
  rw [hr]
  refine ⟨⟨none,0,0⟩,[],⟨none,0,0⟩,⟨none,0,0⟩,[],⟨none,0,0⟩,?_,ThgAt.z _ _,ThgAt.z _ _⟩
  simp [thg0,lin0,Sli.v,thgV]
 have q:¬ (parseS s).2.2≠0:=by simpa using q
 have hr:sayR s sec=trR (readA (parseS s).1 (decide (sec=1))):=by unfold sayR; rw [if_neg q]
 refine cond_f (by simpa using q) ?_
 refine loads_box b58 ((parseS s).1.label,(parseS s).1.op,(p,al.length,c),()) rfl ?_
 dsimp only [flat,unc,unc1,nA,cA]
 have v5:=VwA.parse s hs A5 ha
 refine call_of (read_hc (tb.keep e08 (by simp)) (v5.1.keep e58) v5.2 sec) ?_
 intro u g9 q9
 obtain ⟨e9,sl,us,se,rfl,T9⟩:=thg_any q9
 rw [show (⟨(parseS s).1.label,(parseS s).1.op,al.map In.ts⟩:Ln)=(parseS s).1 by rw [ha]] at T9 ⊢
 rw [← hr] at T9 ⊢
 obtain ⟨R,hR⟩:∃ R,sayR s sec=R:=⟨_,rfl⟩
 rw [hR] at T9 hr ⊢
 refine ⟨((R.1.kind:Int),(sl.p,sl.l,sl.c),R.1.name,(se.p,se.l,se.c),(R.1.e.num:Int),(R.1.sec:Int),(R.2:Int),()),rfl,?_⟩
 dsimp only [flat,unc,unc1,nA,cA]
 refine newB ?_
 intro gB bB eB zB
 refine stores_of bB rfl (by simp) ?_
 intro gC bC kC zC
 have eBC:=eB.st kC (Nat.le_refl _)
 have e8C:=e9.trans eBC
 have bC:Box gC g9.size 28 (thgC R.1.kind sl.p sl.l sl.c R.1.name se.p se.l se.c R.1.e.num R.1.sec):=bC
 have b8C:=b8.keep e8C (by simp)
 refine loads_box b8C ((parseS s).1.label,(parseS s).1.op,(p',al'.length,c'),()) rfl ?_
 dsimp only [flat,unc,unc1,nA,cA]
 have v6:=VwA.parse s hs A' ha'
 refine call_of (read2_hc (v6.1.keep (e78.trans e8C)) v6.2 sec) ?_
 intro u gD qD
 obtain ⟨eD,sl',us',se',rfl,TD⟩:=thg_any qD
 rw [show (⟨(parseS s).1.label,(parseS s).1.op,al'.map In.ts⟩:Ln)=(parseS s).1 by rw [ha']] at TD ⊢
 rw [← hr] at TD ⊢
 refine ⟨((R.1.kind:Int),(sl'.p,sl'.l,sl'.c),R.1.name,(se'.p,se'.l,se'.c),(R.1.e.num:Int),(R.1.sec:Int),(R.2:Int),()),rfl,?_⟩
 dsimp only [flat,unc,unc1,nA,cA]
 refine newB ?_
 intro gE bE eE zE
 refine stores_of bE rfl (by simp) ?_
 intro gF bF kF zF
 have eEF:=eE.st kF (Nat.le_refl _)
 have eCF:=eD.trans eEF
 have bF:Box gF gD.size 30 (thgC R.1.kind sl'.p sl'.l sl'.c R.1.name se'.p se'.l se'.c R.1.e.num R.1.sec):=bF
 have bCF:=bC.keep eCF (by simp)
 refine loads_box bCF ((R.1.kind:Int),(sl.p,sl.l,sl.c),R.1.name,(se.p,se.l,se.c),(R.1.e.num:Int),(R.1.sec:Int),()) rfl ?_
 dsimp only [flat,unc,unc1,nA,cA]
 refine loads_box bF ((R.1.kind:Int),(sl'.p,sl'.l,sl'.c),R.1.name,(se'.p,se'.l,se'.c),(R.1.e.num:Int),(R.1.sec:Int),()) rfl ?_
 dsimp only [flat,unc,unc1,nA,cA]
 have e8F:=e8C.trans eCF
 have e0F:=e08.trans e8F
 have s8:=e08.size
 have s9:=e9.size
 have sC:=e8C.size
 have sD:=eD.size
 have sF:=eCF.size
 have s28:=e28.size
 have b1F:=b18.keep e8F (by simp)
 have b2F:=b28.keep e8F (by simp)
 refine stores_of b1F rfl (by simp) ?_
 intro gG bG kG zG
 have bFG:=bF.keep kG (by simp; omega)
 refine ⟨⟨bFG.cells _ rfl,trivial⟩,⟨bFG.cells _ rfl,trivial⟩,?_⟩
 have b2G:=b2F.keep kG (by simp; omega)
 refine stores_of b2G rfl (by simp) ?_
 intro gH bH kH zH
 have bGH:=bG.keep kH (by simp; omega)
 have bGH:Box gH h.size 28 (thgC R.1.kind sl.p sl.l sl.c R.1.name se.p se.l se.c R.1.e.num R.1.sec):=bGH
 have bH:Box gH g1.size 30 (thgC R.1.kind sl'.p sl'.l sl'.c R.1.name se'.p se'.l se'.c R.1.e.num R.1.sec):=bH
 refine loads_box bGH ((R.1.kind:Int),(sl.p,sl.l,sl.c),R.1.name,(se.p,se.l,se.c),(R.1.e.num:Int),(R.1.sec:Int),()) rfl ?_
 dsimp only [flat,unc,unc1,nA,cA]
 refine loads_box bH ((R.1.kind:Int),(sl'.p,sl'.l,sl'.c),R.1.name,(se'.p,se'.l,se'.c),(R.1.e.num:Int),(R.1.sec:Int),()) rfl ?_
 dsimp only [flat,unc,unc1,nA,cA]
 have e0G:Ext h gG:=Ch.trans e0F kG (fun i hi hl=>by simp at hi; omega)
 have e0H:Ext h gH:=Ch.trans e0G kH (fun i hi hl=>by simp at hi; omega)
 refine ⟨e0H,?_⟩
 rw [hR]
 refine ⟨sl,us,se,sl',us',se',rfl,?_,?_⟩
 ·exact ((((T9.keep (eBC.trans eCF) (by simp)).keep kG (fun i hi hl=>by simp at hi; omega)).keep kH (fun i hi hl=>by simp at hi; omega)).mono (by omega))
 ·exact ((((TD.keep eEF (by simp)).keep kG (fun i hi hl=>by simp at hi; omega)).keep kH (fun i hi hl=>by simp at hi; omega)).mono (by omega))
end Go.Sx.Ob
