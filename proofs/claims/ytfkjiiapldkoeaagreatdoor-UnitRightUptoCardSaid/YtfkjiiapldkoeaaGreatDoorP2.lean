/- Contracts over heaps, and plain laws, for the functions that the laws of chapter 9 call, part 2: The library's contracts on strings.Join, on decimal numerals and on strings.Cut, Condition: as each statement says. -/
import Derived.Test.YtfkjiiapldkoeaaGreatDoorP1
import Derived.Test.YtfkjiiapldkoeaaGreatDoorAShelf
import Derived.Test.YtfkjiiapldkoeaaGreatDoorSxG
import Derived.Test.YtfkjiiapldkoeaaGreatDoorAExprT
import Derived.Test.YtfkjiiapldkoeaaGreatDoorAExprU
import Derived.Shelf.Strings.OnBuilder
import Derived.Shelf.Strconv.Itoa1
import Derived.Shelf.LaysM
import Derived.Shelf.Strconv.Itoa2
import Derived.Shelf.Strings.Cut
import Derived.RangeFuncNested
import Derived.RangeFuncBound
import Derived.RangeFuncCalls
import Derived.RangeFuncLeaves
import Derived.Shelf.Abstract
import Derived.Shelf.RegionOpen
import Derived.OwnWalkIn
import Derived.TacticsInMore
import Derived.LoopNIn
import Derived.LoopIn
set_option linter.unusedVariables false
set_option linter.unusedSimpArgs false
set_option linter.deprecated false
set_option maxRecDepth 100000
namespace Go.Sx
open Go.Proofs
def yj (te es:TypeId) (s:ByteArray) (h:Hp) (v:Value) (h':Hp):Prop :=
 Ext h h'∧∃ p c al,v=.tuple #[.agg #[.string (aL s).1.label,.string (aL s).1.op,.slice p al.length c],.int .i64 (aL s).2.1,.int .i64 (aL s).2.2]∧gj h' h.size te es p c al∧al.map In.ts=(aL s).1.args
theorem qJ {ts:List Tok} (hh:∀ t u r,ts=t::u::r→t.kind=1→fC u 58=true→False):AR ts=false:=by
 match ts,hh with
 | [],_=>rfl
 | [_],_=>rfl
 | t::u::r,hh =>
  cases hl:AR (t::u::r) with
  | false=>rfl
  | true =>
   simp only [AR,Bool.and_eq_true,decide_eq_true_eq] at hl
   exact (hh t u r rfl hl.1 hl.2).elim
theorem HS (s:ByteArray) (h:Hp) (hs:s.size≤2^40) (hl:Laid h):HC Tryz.prog 64 #[.string s] h (yj 174 178 s h):=by
 refine aK (args:=[.string s]) mixed Tryz.func64 (by kernel_rfl) (uK s) ?_
 unfold rZ
 refine aX ?_
 intro h1 b1 e1 z1
 refine aB (Fi s h1 hs (hl.ext e1)) ?_
 rintro _ h2 ⟨p2,l3,l4,rfl,sl,e2⟩
 refine ⟨((p2,l3,l4),((eu s).2.1:Int),((eu s).2.2:Int),()),rfl,?_⟩
 dsimp only [az,ah,flat,nA,cA]
 have b2:=b1.ai e2 (by simp)
 have e12:=e1.trans e2
 have hlen:=BY s
 have hz2:=e2.size
 have hE:∀ {hh h':Hp},Ext h hh→Ch [h.size] hh h'→Ext h h':=fun e k=>Ch.trans e k (fun i hi hl=>by simp at hi; omega)
 refine af (fun g1=>?_) (fun g1=>?_)
 ·have g1:((eu s).2.2:Int)≠0:=by simpa using g1
  have hp:aL s=(iv,(eu s).2.1,(eu s).2.2):=by unfold aL; rw [if_pos (by omega)]
  refine an b2 rfl (by simp) ?_
  intro h3 b3 k3 z3
  have b3:aO h3 h.size 130 [.string ⟨#[]⟩,.string ⟨#[]⟩,.slice none 0 0]:=b3
  refine ad b3 ((⟨#[]⟩:ByteArray),(⟨#[]⟩:ByteArray),(none,0,0),()) rfl ?_
  exact ⟨hE e12 k3,none,0,[],by rw [hp]; rfl,gj.nil _ _ _ _,by rw [hp]; rfl⟩
 have g1:((eu s).2.2:Int)=0:=by simpa using g1
 have hp:aL s=eP s.size (eu s).1:=by unfold aL; rw [if_neg (by omega)]
 have vw:=sl.vw
 have hblk:∀ i,i∈aC p2→h1.size+1≤i∧i<h2.size:=fun i hi=>sl.bW hi
 clear sl
 generalize (eu s).1=ts at hp vw hlen
 unfold yj
 rw [hp]
 refine aX ?_
 intro h3 b7 e3 z3
 have hz1:=z1
 have vw3:=vw.ai e3 (by simp)
 have hl3:=vw.len
 have hcap:=vw.cap
 refine cD (cs:=[(false,[.slice 0])]) (fun y h'=>∃ lb us,eP s.size ts=bU s.size lb us∧us.length≤s.size∧Vw h' y.1.1 y.1.2.1 y.1.2.2 us∧(∀ i,i∈aC y.1.1→h1.size+1≤i∧i<h2.size)∧aO h' h2.size 130 [.string lb,.string ⟨#[]⟩,.slice none 0 0]∧Ch [h2.size] h3 h') ?_ ?_
 ·have plain:∀ {L:Lp} {K:Value→Hp→Prop} {h':Hp},Ext h3 h'→AR ts=false→(T.again 0 [.slice p2 l3 l4]) ((fun vs h'=>∃ y:qh (flat [(false,[.slice 0])]),vs=parts [(false,[.slice 0])] (fp _ y)∧∃ lb us,eP s.size ts=bU s.size lb us∧us.length≤s.size∧Vw h' y.1.1 y.1.2.1 y.1.2.2 us∧(∀ i,i∈aC y.1.1→h1.size+1≤i∧i<h2.size)∧aO h' h2.size 130 [.string lb,.string ⟨#[]⟩,.slice none 0 0]∧Ch [h2.size] h3 h')::L) K h':=by
   intro L K h' e hlab
   refine aY (cs:=[(false,[.slice 0])]) ((p2,l3,l4),()) rfl rfl ⟨⟨#[]⟩,ts,?_,hlen,vw3.ai e (by simp),hblk,b7.ai e (by simp),e.mono (by simp)⟩
   unfold eP
   rw [if_neg (by rw [hlab]; simp)]
  refine af (fun g2=>?_) (fun g2=>?_)
  ·have g2:=of_decide_eq_true g2
   match ts,hl3 with
   | [],hl3=>simp at hl3; omega
   | [_],hl3=>simp at hl3; omega
   | t::u::r,hl3 =>
    obtain ⟨a,rfl,c0⟩:=vw3.cells 0 (by simp)
    obtain ⟨a',ha',c1⟩:=vw3.cells 1 (by simp)
    cases ha'
    have c0:aG h3 (a.add (0*4)) 0 (ec t):=c0
    have c1:aG h3 (a.add (1*4)) 0 (ec u):=c1
    have ab:a.block∈aC (some a):=by simp [aC]
    refine ay ⟨by omega,by omega⟩ (aj rfl (aE ((t.kind:Int),()) ⟨c0.1,trivial⟩ ?_))
    dsimp only [az,ah,flat,nA,cA]
    refine af (fun g3=>?_) (fun g3=>?_)
    ·have g3:(t.kind:Int)=1:=eq_of_beq g3
     refine ay ⟨by omega,by omega⟩ (aj rfl (aE ((u.kind:Int),u.text,(u.num:Int),(u.at_:Int),()) c1 ?_))
     refine dk (yS u 58 h3) ?_
     intro h4 e4
     refine af (fun g4=>?_) (fun g4=>?_)
     ·have c0':=bE e4 (by simp) _ _ c0
      refine ay ⟨by omega,by omega⟩ (aj rfl (aE (t.text,()) ⟨c0'.2.1,trivial⟩ ?_))
      refine an (b7.ai e4 (by simp)) rfl (by simp) ?_
      intro h5 b5 k5 z5
      refine ay ⟨by omega,by omega,by omega⟩ ?_
      have e35:Ch [h2.size] h3 h5:=Ch.trans (e4.mono (by simp)) k5 (fun i hi _=>hi)
      have vd:=((vw3.ai e4 (by simp)).ai k5 (fun i hi=>by have:=(hblk i hi).2; simp; omega)).drop (k:=2) (by omega)
      refine aY (cs:=[(false,[.slice 0])]) ((if l4=2 then some a else (some a).map fun a=>a.add (2*4),l3-2,l4-2),()) rfl ?_ ⟨t.text,r,?_,by simp at hlen; omega,vd,?_,b5,e35⟩
      ·show [Value.slice _ (Int.toNat (l3:Int)-2) (l4-2)]=_
       rw [show Int.toNat (l3:Int)=l3 by omega]
       rfl
      ·unfold eP
       rw [if_pos (by show (decide (t.kind=1) && fC u 58)=true; rw [g4,decide_eq_true (by omega)]; rfl)]
       rfl
      ·intro i hi
       rw [show aC (if l4=2 then some a else (some a).map fun a=>a.add (2*4))=aC (some a) from lL _ _ _ _] at hi
       exact hblk i hi
     ·exact plain e4 (qJ (by rintro _ _ _ hh h1 h2; injection hh with q1 q2; injection q2 with q2 _; subst q1 q2; rw [h2] at g4; cases g4))
    ·have g3:(t.kind:Int)≠1:=ne_of_beq_false g3
     exact plain (Ch.refl _ _) (qJ (by rintro _ _ _ hh h1 h2; injection hh with q1 q2; subst q1; omega))
  ·have g2:=of_decide_eq_false g2
   exact plain (Ch.refl _ _) (qJ (by rintro t u r rfl h1 h2; simp at hl3; omega))
 ·rintro ⟨⟨p8,l9,l10⟩,⟨⟩⟩ h4 ⟨lb,us,hpl,hus,v4,hb4,b4,k4⟩
  simp only at v4 hb4
  dsimp only [az,ah,flat,nA,cA]
  rw [hpl]
  have hl9:=v4.len
  have hc9:=v4.cap
  have hne:h.size≠h2.size:=by omega
  have a4:aO h4 h.size 130 [.string ⟨#[]⟩,.string ⟨#[]⟩,.slice none 0 0]:=(b2.ai e3 (by simp)).ai k4 (by simp; omega)
  have e04:Ext h h4:=Ch.trans (e12.trans e3) k4 (fun i hi hl=>by simp at hi; omega)
  have hz4:=k4.size
  have hz3:=e3.size
  have out:∀ {hh:Hp} {L:Lp} {op:ByteArray} {al:List In} {p:Option Addr} {c:Nat},(∃ v w u,aO hh h.size 130 [v,w,u])→aO hh h2.size 130 [.string lb,.string op,.slice p al.length c]→Ext h hh→gj hh h4.size 174 178 p c al→bU s.size lb us=(⟨lb,op,al.map In.ts⟩,0,0) →
    (T.ae ⟨h2.size,0,none⟩ [.string,.string,.slice 174] fun (s11:ByteArray) (s12:ByteArray) (p13:Option Addr) (l14:Nat) (l15:Nat) =>
     T.ap ⟨h.size,0,none⟩ [.string s11,.string s12,.slice p13 l14 l15] <|
     T.ae ⟨h.size,0,none⟩ [.string,.string,.slice 174] fun (Nu:ByteArray) (s17:ByteArray) (p18:Option Addr) (l19:Nat) (l20:Nat) =>
     T.ret (.tuple #[.agg #[.string Nu,.string s17,.slice p18 l19 l20],.int .i64 (0:Int),.int .i64 (0:Int)])) L
     (fun v h'=>Ext h h'∧∃ p c al,v=.tuple #[.agg #[.string (bU s.size lb us).1.label,.string (bU s.size lb us).1.op,.slice p al.length c],.int .i64 (bU s.size lb us).2.1,.int .i64 (bU s.size lb us).2.2]∧gj h' h.size 174 178 p c al∧al.map In.ts=(bU s.size lb us).1.args) hh:=by
   rintro hh L op al p c ⟨v,w,u,bb⟩ b7' e A hpt
   refine ad b7' (lb,op,(p,al.length,c),()) rfl ?_
   refine an bb rfl (by simp) ?_
   intro h' b' k' z'
   have b':aO h' h.size 130 [.string lb,.string op,.slice p al.length c]:=b'
   refine ad b' (lb,op,(p,al.length,c),()) rfl ?_
   rw [hpt]
   exact ⟨hE e k',p,c,al,rfl,(A.ai k' (fun i hi=>by have:=(A.out.bW hi).1; simp; omega) (fun x hx i hi=>by have:=((A.ul x hx).bW hi).1; simp; omega)).mono (by omega),rfl⟩
  refine af (fun g2=>?_) (fun g2=>?_)
  ·have g2:(l9:Int)=0:=eq_of_beq g2
   have:us=[]:=List.eq_nil_of_length_eq_zero (by omega)
   subst this
   exact out (al:=[]) ⟨_,_,_,a4⟩ b4 e04 (gj.nil _ _ _ _) rfl
  have g2:(l9:Int)≠0:=ne_of_beq_false g2
  cases us with
  | nil=>simp at hl9; omega
  | cons t us =>
   obtain ⟨a,rfl,c0⟩:=v4.cells 0 (by simp)
   have c0:aG h4 (a.add (0*4)) 0 (ec t):=c0
   have ab:=hb4 a.block (by simp [aC])
   refine ay ⟨by omega,by omega⟩ (aj rfl (aE ((t.kind:Int),()) ⟨c0.1,trivial⟩ ?_))
   dsimp only [az,ah,flat,nA,cA]
   refine af (fun g3=>?_) (fun g3=>?_)
   ·have g3:(t.kind:Int)≠1:=by simpa using g3
    have hpt:bU s.size lb (t::us)=(iv,t.at_,20):=by simp only [bU]; rw [if_pos (by omega)]
    refine ay ⟨by omega,by omega⟩ (aj rfl (aE ((t.at_:Int),()) ⟨c0.2.2.2.1,trivial⟩ ?_))
    dsimp only [az,ah,flat,nA,cA]
    refine an a4 rfl (by simp) ?_
    intro h5 b5 k5 z5
    have b5:aO h5 h.size 130 [.string ⟨#[]⟩,.string ⟨#[]⟩,.slice none 0 0]:=b5
    have c5:=bE k5 (by rw [ji]; simp; omega) _ _ c0
    refine ⟨⟨⟨c5.2.2.2.1,trivial⟩,trivial⟩,?_⟩
    refine ad b5 ((⟨#[]⟩:ByteArray),(⟨#[]⟩:ByteArray),(none,0,0),()) rfl ?_
    rw [hpt]
    exact ⟨hE e04 k5,none,0,[],rfl,gj.nil _ _ _ _,rfl⟩
   have g3:(t.kind:Int)=1:=by simpa using g3
   have hpt:bU s.size lb (t::us)=match eU s.size us with
     | .error a=>(iv,a,20)
     | .ok l=>(⟨lb,t.text,l⟩,0,0):=by simp only [bU]; rw [if_neg (by omega)]; all_goals (cases eU s.size us <;> rfl)
   refine ay ⟨by omega,by omega⟩ (aj rfl (aE (t.text,()) ⟨c0.2.1,trivial⟩ ?_))
   dsimp only [az,ah,flat,nA,cA]
   rw [ao]
   refine an b4 rfl (by simp) ?_
   intro h5 b5 k5 z5
   have b5:aO h5 h2.size 130 [.string lb,.string t.text,.slice none 0 0]:=b5
   have a5:=a4.ai k5 (by simp; omega)
   have e05:Ext h h5:=Ch.trans e04 k5 (fun i hi hl=>by simp at hi; omega)
   refine ay ⟨by omega,by omega,by omega⟩ ?_
   have vd:=(v4.ai k5 (fun i hi=>by have:=(hb4 i hi).2; simp; omega)).drop (k:=1) (by omega)
   refine aB (args:=[.string s,.slice _ _ _]) (zC s (us:=us) (by simp at hus; omega) ?vv) ?_
   case vv=>rw [show Int.toNat (l9:Int)=l9 by omega]; exact vd
   rintro v h6 ⟨e6,hv⟩
   have a6:=a5.ai e6 (by simp)
   have b6:=b5.ai e6 (by simp)
   have e06:=e05.trans e6
   cases hA:eU s.size us with
   | error aa =>
    rw [hA] at hv hpt
    simp only at hv hpt
    subst hv
    refine ⟨((none,0,0),(aa:Int),(20:Int),()),rfl,?_⟩
    dsimp only [az,ah,flat,nA,cA]
    refine aT rfl ?_
    refine an a6 rfl (by simp) ?_
    intro h7 b7 k7 z7
    have b7:aO h7 h.size 130 [.string ⟨#[]⟩,.string ⟨#[]⟩,.slice none 0 0]:=b7
    refine ad b7 ((⟨#[]⟩:ByteArray),(⟨#[]⟩:ByteArray),(none,0,0),()) rfl ?_
    rw [hpt]
    exact ⟨hE e06 k7,none,0,[],rfl,gj.nil _ _ _ _,rfl⟩
   | ok ll =>
    rw [hA] at hv hpt
    simp only at hv hpt
    obtain ⟨p,c,al,rfl,A,hal⟩:=hv
    refine ⟨((p,al.length,c),(0:Int),(0:Int),()),rfl,?_⟩
    dsimp only [az,ah,flat,nA,cA]
    refine aU rfl ?_
    rw [ao]
    refine an b6 rfl (by simp) ?_
    intro h7 b7 k7 z7
    have b7:aO h7 h2.size 130 [.string lb,.string t.text,.slice p al.length c]:=b7
    have hz5:=k5.size
    refine out (op:=t.text) (al:=al) ⟨_,_,_,a6.ai k7 (by simp; omega)⟩ b7 (Ch.trans e06 k7 (fun i hi hl=>by simp at hi; omega)) ((A.ai k7 (fun i hi=>by have:=(A.out.bW hi).1; simp; omega) (fun x hx i hi=>by have:=((A.ul x hx).bW hi).1; simp; omega)).mono (by omega)) (by rw [hpt,hal])
theorem oz (n N:Nat):∀ (ts:List Tok) (done:List (List Tok)) (cj:List Tok) (r:List (List Tok)),dV n ts done cj=.ok r→(∀ l,l∈done→l.length≤N)→cj.length+ts.length≤N →
  (∀ l,l∈r→l.length≤N)∧r.length≤done.length+1+ts.length
 | [],done,cj,r,h,hd,hc=>by
  simp only [dV] at h
  split at h
  ·cases h
  ·injection h with h
   subst h
   refine ⟨fun l hl=>?_,by simp⟩
   rcases List.mem_append.1 hl with hl | hl
   ·exact hd l hl
   ·have:l=cj:=by simpa using hl
    subst this
    simpa using hc
 | t::ts,done,cj,r,h,hd,hc=>by
  simp only [dV] at h
  simp only [List.length_cons] at hc
  split at h
  ·cases h
  ·split at h
   ·have:=oz n N ts (done++[cj]) [] r h (fun l hl=>by
     rcases List.mem_append.1 hl with hl | hl
     ·exact hd l hl
     ·have:l=cj:=by simpa using hl
      subst this
      omega) (by simp; omega)
    refine ⟨this.1,?_⟩
    have h2:=this.2
    simp at h2 ⊢
    omega
   ·have:=oz n N ts done (cj++[t]) r h hd (by simp; omega)
    refine ⟨this.1,?_⟩
    have h2:=this.2
    simp at h2 ⊢
    omega
theorem rY (n N:Nat) (lb:ByteArray) (us:List Tok) (h:us.length≤N):(∀ l,l∈(bU n lb us).1.args→l.length≤N)∧(bU n lb us).1.args.length≤N+1:=by
 cases us with
 | nil=>simp [bU]
 | cons t us =>
  simp only [List.length_cons] at h
  simp only [bU]
  split
  ·simp [iv]
  ·cases hA:eU n us with
   | error a=>simp [iv]
   | ok l =>
    unfold eU at hA
    split at hA
    ·injection hA with hA
     subst hA
     simp
    ·have:=oz n N us [] [] l hA (by simp) (by simp; omega)
     refine ⟨this.1,?_⟩
     have h2:=this.2
     simp at h2 ⊢
     omega
theorem eH (s:ByteArray):(∀ l,l∈(aL s).1.args→l.length≤s.size)∧(aL s).1.args.length≤s.size+1:=by
 have hlen:=BY s
 unfold aL
 split
 ·simp [iv]
 ·unfold eP
  split
  ·exact rY _ _ _ _ (by rw [List.length_drop]; omega)
  ·exact rY _ _ _ _ hlen
def xk (a:ByteArray):T :=
 T.new [.string a] 9 fun (b:Addr) =>
 T.ret (.func (Fn.func 62) #[] #[.pointer (some b)])
theorem xE (a:ByteArray):aV Tryz.prog [] Tryz.f32 [.string a]=xk a:=by kernel_rfl
end Go.Sx
set_option linter.unusedVariables false
set_option maxRecDepth 100000
namespace Go.Proofs
open Go.Shelf
open Go.Lib in
open Go.RowKit Go.Sort Go.Lib in
def Tryz.B3:Go.Shelf.Ren:=⟨fun | 145=>63 | 220=>94 | 219=>122 | 217=>145 | 225=>146 | 224=>147 | 267=>148 | 266=>174 | 314=>175 | n=>n,fun | 9=>9 | 4=>4 | 59=>126 | 3=>3 | 5=>5 | 46=>111 | 146=>283 | 51=>92 | n=>n,fun | 1=>2 | n=>n⟩
theorem Tryz.I3:Go.Proofs.Lays.n145 Tryz.prog Tryz.B3:={
 mixed:=by kernel_rfl
 f145:=Tryz.func63.trans (congrArg some (by kernel_rfl))
 f217:=Tryz.func145.trans (congrArg some (by kernel_rfl))
 f219:=Tryz.func122.trans (congrArg some (by kernel_rfl))
 f220:=Tryz.func94.trans (congrArg some (by kernel_rfl))
 f224:=Tryz.func147.trans (congrArg some (by kernel_rfl))
 f225:=Tryz.func146.trans (congrArg some (by kernel_rfl))
 f266:=Tryz.func174.trans (congrArg some (by kernel_rfl))
 f267:=Tryz.func148.trans (congrArg some (by kernel_rfl))
 f314:=Tryz.func175.trans (congrArg some (by kernel_rfl))
 t3:=Tryz.underlying3
 a3:=Tryz.isAgg3
 z3:=Tryz.sizeOf3
 v3:=Tryz.zeroValue3
 t4:=Tryz.underlying4
 a4:=Tryz.isAgg4
 z4:=Tryz.sizeOf4
 v4:=Tryz.zeroValue4
 t5:=Tryz.underlying5
 a5:=Tryz.isAgg5
 z5:=Tryz.sizeOf5
 v5:=Tryz.zeroValue5
 t9:=Tryz.underlying9
 a9:=Tryz.isAgg9
 z9:=Tryz.sizeOf9
 v9:=Tryz.zeroValue9
 t46:=Tryz.underlying111
 a46:=Tryz.isAgg111
 z46:=Tryz.sizeOf111
 v46:=Tryz.zeroValue111
 t51:=Tryz.underlying92
 a51:=Tryz.isAgg92
 z51:=Tryz.sizeOf92
 v51:=Tryz.zeroValue92
 t59:=Tryz.underlying126
 a59:=Tryz.isAgg126
 z59:=Tryz.sizeOf126
 v59:=Tryz.zeroValue126
 t146:=Tryz.underlying283
 a146:=Tryz.isAgg283
 z146:=Tryz.sizeOf283
 v146:=Tryz.zeroValue283
 g1:=by kernel_rfl }
open Go.RowKit Go.Lib in
theorem Tryz.strings_Cut (s sep:ByteArray) (m:Int) (w:World) (hs:s.size<4294967281) (hm:w.cell? ⟨2,0,none⟩=some (.int .i64 m)) :
  Calls Tryz.prog 63 #[.string s,.string sep] w fun e w'=>e=.returned (.tuple #[.string ⟨(Lib.cut s.data.toList sep.data.toList).1.toArray⟩,.string ⟨(Lib.cut s.data.toList sep.data.toList).2.1.toArray⟩,.bool (Lib.cut s.data.toList sep.data.toList).2.2])∧∃ n,w'=w.drewN n:=Any.strings_Cut Tryz.I3 s sep m w hs hm
end Go.Proofs
set_option linter.unusedVariables false
set_option maxRecDepth 100000
namespace Go.Proofs
open Go.RowKit Go.Shelf
attribute [local go_sem] Oper.semAt_some
def zc (s:ByteArray):ByteArray:=⟨(Lib.cut s.data.toList [10]).1.toArray⟩
def oi (s:ByteArray):ByteArray:=⟨(Lib.cut s.data.toList [10]).2.1.toArray⟩
def aW:Nat→Nat→ByteArray→List (Nat × ByteArray)
 | 0,_,_=>[]
 | f+1,n,s=>if s.size=0 then [] else (n,zc s)::aW f (n+1) (oi s)
def Fh (x:Nat × ByteArray):Array Value:=#[.int .i64 x.1,.string x.2]
theorem Ad (l B n0:Nat) (s:ByteArray) (hs:s.size<2^31) (N:Nat) (J Jx:List (Nat × ByteArray)→World→Prop)
  (hcut:∀ t:ByteArray,t.size≠0→(oi t).size<t.size)
  (hY:∀ pre x W,J pre W→pre++[x] <+: aW (s.size+1) 1 s→pre.length<N→YieldAt Fence.wide 5 Tryz.prog l (Fh x) W fun e W' =>
   (e=.returned (.bool true)∧J (pre++[x]) W'∧Below n0 W W')∨(e=.returned (.bool false)∧Jx (pre++[x]) W'))
  (hN:(aW (s.size+1) 1 s).length≤N)
  (hJ:∀ pre W k,J pre W→J pre (W.drewN k))
  (m:Int) (W:World) (hm:W.cell? ⟨2,0,none⟩=some (.int .i64 m)) (hn0:2<n0) (hB:W.cell? ⟨B,0,none⟩=some (.string s)) (h0:J [] W) :
  CallsIn Fence.wide 6 Tryz.prog 62 #[.func (.yield l) #[] #[],.pointer (some ⟨B,0,none⟩)] W fun e W'=>(∃ v,e=.returned v) ∧
   ((∃ ys,ys=aW (s.size+1) 1 s∧J ys W')∨(∃ pre,pre <+: aW (s.size+1) 1 s∧Jx pre W')):=by
 refine callsIn_of_wp Tryz.func62 rfl trivial ?_ rfl
 simp only [Tryz.ntmps62,List.size_toArray,List.length_cons,List.length_nil,Nat.reduceAdd,Nat.reduceSub,Array.replicate_succ,Array.replicate_zero,List.push_toArray,List.append_toArray,List.nil_append,List.cons_append]
 gi_wp2
 gi_loopw [3,4] (fun vl vn wr=>∃ (pre:List (Nat × ByteArray)) (k f:Nat) (t:ByteArray),vl=.string t∧vn=.int .i64 (k:Int)∧k+t.size≤s.size+1∧1≤k∧t.size<f∧aW (s.size+1) 1 s=pre++aW f k t∧J pre wr∧Below n0 W wr)
  (fun vl _ _=>match vl with | .string t=>t.size | _=>0)
 case atStart=>exact ⟨[],1,s.size+1,s,rfl,rfl,by omega,by omega,by omega,rfl,h0,Below.refl _ _⟩
 case round =>
  obtain ⟨pre,k,f,t,rfl,rfl,hk,hk1,hf,hl,hJs,hb⟩:=hrel
  by_cases h0:t.size=0
  ·have ht:t=⟨#[]⟩:=by
    obtain ⟨a⟩:=t
    have:a.size=0:=h0
    rw [Array.size_eq_zero_iff.1 this]
   subst ht
   gi_wp2
   go_end0
   refine ⟨⟨_,rfl⟩,.inl ⟨pre,?_,hJs⟩⟩
   rw [hl]
   have:aW f k (⟨#[]⟩:ByteArray)=[]:=by
    cases f with
    | zero=>rfl
    | succ f=>unfold aW; rw [if_pos h0]
   rw [this,List.append_nil]
  ·have hne:¬ t=⟨#[]⟩:=fun e=>h0 (by rw [e]; rfl)
   obtain ⟨f,rfl⟩:∃ g,f=g+1:=⟨f-1,by omega⟩
   have hlt:aW (f+1) k t=(k,zc t)::aW f (k+1) (oi t):=by
    conv=>lhs; unfold aW
    rw [if_neg h0]
   have dN:wr.cell? ⟨2,0,none⟩=some (.int .i64 m):=(hb.cell (p:=⟨2,0,none⟩) hn0).trans hm
   have hlen:pre.length<N:=by
    have:=congrArg List.length hl
    rw [hlt,List.length_append,List.length_cons] at this
    omega
   have hsz:=hcut t h0
   have hemp:t.toList.isEmpty=false:=by
    rw [ByteArray.toList_eq]
    cases hh:t.data.toList with
    | nil=>exfalso; apply h0; show t.data.size=0; rw [← Array.length_toList,hh]; rfl
    | cons a b=>rfl
   gi_wp2_with (refine ⟨trivial,?_⟩; gi_at_call 63; refine (callsIn_wide.2 (Tryz.strings_Cut t ⟨#[10]⟩ m _ (by omega) dN)).mono ?_; rintro e w' ⟨rfl,n1,rfl⟩; obtain ⟨fn,tmps,assign,body,hy,hR⟩:=hY pre (k,zc t) (wr.drewN n1) (hJ _ _ _ hJs) ⟨aW f (k+1) (oi t),by rw [hl,hlt]; simp⟩ hlen; dsimp only [Fh,zc] at hy)
   refine hR.mono ?_
   rintro e W3 (⟨rfl,hJ3,hk3⟩ | ⟨rfl,hJx3⟩)
   ·gi_wp2
    go_roundw
    case rel =>
     refine ⟨pre++[(k,zc t)],k+1,f,oi t,rfl,?_,by omega,by omega,by omega,by rw [hl,hlt]; simp,hJ3,?_⟩
     ·simp
     ·exact (hb.trans (⟨rfl,rfl,rfl,Nat.le_refl _,fun _ _=>rfl⟩:Below n0 wr (wr.drewN n1))).trans hk3
    case measure=>exact hsz
   ·gi_wp2
    refine bodyPost_ret (results_none rfl _ _ _) rfl ?_
    exact ⟨⟨_,rfl⟩,.inr ⟨pre++[(k,zc t)],⟨aW f (k+1) (oi t),by rw [hl,hlt]; simp⟩,hJx3⟩⟩
theorem Bl (B n0:Nat) (s:ByteArray) (hs:s.size<2^31) (hcut:∀ t:ByteArray,t.size≠0→(oi t).size<t.size) (m:Int) (w:World) (hm:w.cell? ⟨2,0,none⟩=some (.int .i64 m)) (hn0:2<n0) (hn1:n0≤w.heap.size) (hB:w.cell? ⟨B,0,none⟩=some (.string s)) :
  SeqStopsK Fence.wide 6 Tryz.prog 62 #[.pointer (some ⟨B,0,none⟩)] Fh (Below n0) (fun xs=>xs=aW (s.size+1) 1 s) (fun pre=>pre <+: aW (s.size+1) 1 s) (aW (s.size+1) 1 s).length w:=by
 intro l J Jx W hW hJ hJx hY h0
 have hlt:∀ (a:Addr) (v:Value),w.cell? a=some v→a.block<w.heap.size:=by
  intro a v h
  unfold World.cell? at h
  split at h
  ·rename_i hg; exact (Array.getElem?_eq_some_iff.1 hg).1
  ·cases h
 exact Ad l B n0 s hs _ J Jx hcut (fun pre x W h _ h'=>hY pre x W h h') (Nat.le_refl _) (fun pre W k h=>hJ pre W _ none h ⟨rfl,rfl,rfl,Nat.le_refl _,fun _ _ _=>rfl⟩ (fun r e=>by cases e)) m W ((hW.cell (p:=⟨2,0,none⟩) (hlt _ _ hm)).trans hm) hn0 ((hW.cell (p:=⟨B,0,none⟩) (hlt _ _ hB)).trans hB) h0
theorem EB (B n0:Nat) (s:ByteArray) (hs:s.size<2^31) (hcut:∀ t:ByteArray,t.size≠0→(oi t).size<t.size) (m:Int) (w:World) (hm:w.cell? ⟨2,0,none⟩=some (.int .i64 m)) (hn0:2<n0) (hn1:n0≤w.heap.size) (hB:w.cell? ⟨B,0,none⟩=some (.string s)) :
  SeqStopsK Fence.wide 6 Tryz.prog 62 #[.pointer (some ⟨B,0,none⟩)] (fun x:{ x // x∈aW (s.size+1) 1 s }=>Fh x.1) (Below n0) (fun xs=>xs.map (·.1)=aW (s.size+1) 1 s) (fun pre=>pre.map (·.1) <+: aW (s.size+1) 1 s) (aW (s.size+1) 1 s).length w:=by
 intro l J Jx W hW hJ hJx hY h0
 have hlt:∀ (a:Addr) (v:Value),w.cell? a=some v→a.block<w.heap.size:=by
  intro a v h
  unfold World.cell? at h
  split at h
  ·rename_i hg; exact (Array.getElem?_eq_some_iff.1 hg).1
  ·cases h
 refine (Ad l B n0 s hs _ (fun pre W=>∃ q:List { x // x∈aW (s.size+1) 1 s },q.map (·.1)=pre∧J q W) (fun pre W=>∃ q:List { x // x∈aW (s.size+1) 1 s },q.map (·.1)=pre∧Jx q W) hcut ?_ (Nat.le_refl _) ?_ m W ((hW.cell (p:=⟨2,0,none⟩) (hlt _ _ hm)).trans hm) hn0 ((hW.cell (p:=⟨B,0,none⟩) (hlt _ _ hB)).trans hB) ⟨[],rfl,h0⟩).mono ?_
 ·rintro pre x W' ⟨q,rfl,hq⟩ ⟨t,ht⟩ hl
  have hx:x∈aW (s.size+1) 1 s:=by rw [← ht]; simp
  refine (hY q ⟨x,hx⟩ W' hq (by simpa using hl)).mono ?_
  rintro e W2 (⟨rfl,h1,h2⟩ | ⟨rfl,h1⟩)
  ·exact .inl ⟨rfl,⟨q++[⟨x,hx⟩],by simp,h1⟩,h2⟩
  ·exact .inr ⟨rfl,⟨q++[⟨x,hx⟩],by simp,h1⟩⟩
 ·rintro pre W' k ⟨q,rfl,hq⟩
  exact ⟨q,rfl,hJ q W' _ none hq ⟨rfl,rfl,rfl,Nat.le_refl _,fun _ _ _=>rfl⟩ (fun r e=>by cases e)⟩
 ·rintro e W' ⟨hv,h⟩
  refine ⟨hv,?_⟩
  rcases h with ⟨ys,rfl,q,hq,hJq⟩ | ⟨pre,hp,q,rfl,hJq⟩
  ·exact .inl ⟨q,hq,hJq⟩
  ·exact .inr ⟨q,hp,hJq⟩
end Go.Proofs
set_option linter.unusedVariables false
set_option maxRecDepth 100000
namespace Go.Sx
open Go.Proofs
def dJ:List UInt8→List UInt8→List (List UInt8)
 | cj,[]=>if cj=[] then [] else [cj]
 | cj,b::l=>if b=10 then cj::dJ [] l else dJ (cj++[b]) l
theorem Dd (cj:List UInt8):dJ cj []=if cj=[] then [] else [cj]:=rfl
theorem om (cj:List UInt8) (b:UInt8) (l:List UInt8):dJ cj (b::l)=if b=10 then cj::dJ [] l else dJ (cj++[b]) l:=rfl
theorem xh:∀ (l cj:List UInt8),dJ cj l=if Lib.index l [10]=-1 then (if cj++l=[] then [] else [cj++l]) else (cj++l.take (Lib.index l [10]).toNat)::dJ [] (l.drop ((Lib.index l [10]).toNat+1))
 | [],cj=>by simp [dJ,Lib.index]
 | b::l,cj=>by
  have ih:=xh l (cj++[b])
  have e1:dJ cj (b::l)=if b=10 then cj::dJ [] l else dJ (cj++[b]) l:=rfl
  have e2:Lib.index (b::l) [10]=if List.isPrefixOf [10] (b::l) then 0 else if Lib.index l [10]==-1 then -1 else Lib.index l [10]+1:=rfl
  rw [e1,e2]
  by_cases hb:b=10
  ·subst hb
   simp
  ·have hp:List.isPrefixOf [10] (b::l)=false:=by
    simp [List.isPrefixOf]; exact fun h=>hb h.symm
   rw [if_neg hb,ih,hp]
   by_cases hi:Lib.index l [10]=-1
   ·simp [hi]
   ·have hg:=Lib.index_ge l [10]
    have h1:(Lib.index l [10]==-1)=false:=by simpa using hi
    have h2:¬ Lib.index l [10]+1=-1:=by omega
    have h3:(Lib.index l [10]+1).toNat=(Lib.index l [10]).toNat+1:=by omega
    simp only [hi,h1,if_false,Bool.false_eq_true,h2,h3,List.take_succ_cons,List.drop_succ_cons,List.append_assoc,List.singleton_append]
theorem zF (t:ByteArray) (ht:t.size≠0):(oi t).size<t.size:=by
 have hsz:t.data.toList.length=t.size:=by simp
 have:(oi t).size=(Lib.cut t.data.toList [10]).2.1.length:=by simp [oi,ByteArray.size]
 rw [this]
 unfold Lib.cut
 split
 ·rw [List.length_drop]; simp; omega
 ·simp; omega
theorem sg:∀ (f n:Nat) (s:ByteArray),s.size<f→(aW f n s).map (fun x=>x.2.data.toList)=dJ [] s.data.toList
 | 0,_,_,h=>by omega
 | f+1,n,s,h=>by
  unfold aW
  by_cases h0:s.size=0
  ·have:s.data.toList=[]:=List.eq_nil_of_length_eq_zero (by simpa using h0)
   rw [if_pos h0,this]
   rfl
  ·have hne:s.data.toList≠[]:=fun e=>h0 (by have:=congrArg List.length e; simpa using this)
   have ih:=sg f (n+1) (oi s) (by have:=zF s h0; omega)
   rw [if_neg h0,List.map_cons,ih,xh s.data.toList []]
   have hg:=Lib.index_ge s.data.toList [10]
   by_cases hi:Lib.index s.data.toList [10]=-1
   ·have:¬ 0≤Lib.index s.data.toList [10]:=by omega
    simp [hi,zc,oi,Lib.cut,dJ,hne]
   ·have:0≤Lib.index s.data.toList [10]:=by omega
    simp [hi,zc,oi,Lib.cut,this]
theorem wI:∀ (f n:Nat) (s:ByteArray) (k:Nat) (x:Nat × ByteArray),(aW f n s)[k]?=some x→x.1=n+k
 | 0,_,_,_,_,h=>by simp [aW] at h
 | f+1,n,s,k,x,h=>by
  unfold aW at h
  split at h
  ·simp at h
  ·cases k with
   | zero=>simp at h; rw [← h]; rfl
   | succ k =>
    simp at h
    rw [wI f (n+1) (oi s) k x h]
    omega
def Ig (s:ByteArray):List ByteArray:=(aW (s.size+1) 1 s).map (·.2)
theorem D4 (s:ByteArray):(Ig s).map (·.data.toList)=dJ [] s.data.toList:=by
 unfold Ig
 rw [List.map_map]
 exact sg _ _ _ (by omega)
theorem Kb {s:ByteArray} {l:List ByteArray} (h:l.map (·.data.toList)=dJ [] s.data.toList):l=Ig s:=by
 have h2:=h.trans (D4 s).symm
 have:∀ (a b:List ByteArray),a.map (·.data.toList)=b.map (·.data.toList)→a=b:=by
  intro a
  induction a with
  | nil=>intro b hb; cases b with
   | nil=>rfl
   | cons y b=>simp at hb
  | cons x a ih=>intro b hb; cases b with
   | nil=>simp at hb
   | cons y b =>
    simp only [List.map_cons,List.cons.injEq] at hb
    rw [ih b hb.2,mg hb.1]
 exact this _ _ h2
theorem wT (s:ByteArray) (h:Hp):HC Tryz.prog 32 #[.string s] h fun v h'=>v=.func (.func 62) #[] #[.pointer (some ⟨h.size,0,none⟩)]∧aO h' h.size 9 [.string s]∧Ext h h'∧h'.size=h.size+1:=by
 refine aK (args:=[.string s]) mixed Tryz.func32 (by kernel_rfl) (xE s) ?_
 unfold xk
 refine aX ?_
 intro h1 b1 e1 z1
 exact ⟨rfl,b1,e1,z1⟩
abbrev Ms (x:ByteArray):List Value:=[.string x]
open Go.Proofs Go.MapKept Go.WideAt Go.WideMaps Go.Maps Go.RowKit Go.WideElems Go.WideElems
def Da:Value→Option (DataW Unit × List MemPlace):=fun _=>some (.nil,[])
theorem EO:Tryz.prog.underlying 9=some .string:=by kernel_rfl
theorem J0:Tryz.prog.underlying 286=some (.map 9 92):=by kernel_rfl
def keysOf (D:List (ByteArray × Value)):List (List UInt8):=(D.map fun p=>p.1.data.toList).mergeSort fun x y=>decide (x≤y)
theorem G9 {x:MapEntry} {s:ByteArray} (hk:x.key=.string s) (hs:s.size≤maxLen):WideElems.rd Tryz.prog 9 Da x=some (.string s.data.toList,.nil):=by
 unfold WideElems.rd
 rw [hk,keyOf_string_mk EO hs]
 rfl
theorem eO.owns {W:World} {g:Nat} {D:List (ByteArray × Value)} (m:eO W.heap g D) (hl:D.length≤maxLen) :
  ∃ D0:DataW Unit,W.ownsMap Tryz.prog 9 Da g D.length D0∧(strKeys D0).Perm (D.map fun p=>p.1.data.toList)∧Maps.size D0=D.length:=by
 obtain ⟨es,clock,hg,he,hs,hd⟩:=m
 have hlen:es.size=D.length:=by
  have:=congrArg List.length he
  simpa using this
 have hrd:es.toList.map (WideElems.rg Tryz.prog 9 Da)=D.map fun p=>(Lit.string p.1.data.toList,DataW.nil):=by
  apply List.ext_getElem?
  intro i
  have h1:(es.toList.map (fun e=>(e.key,e.val)))[i]?=(D.map (fun p=>(Value.string p.1,p.2)))[i]?:=by rw [he]
  simp only [List.getElem?_map] at h1 ⊢
  rcases Nat.lt_or_ge i D.length with hi | hi
  ·rw [List.getElem?_eq_getElem hi,List.getElem?_eq_getElem (show i<es.toList.length by simp; omega)] at h1 ⊢
   simp only [Option.map_some,Option.some.injEq,Prod.mk.injEq] at h1 ⊢
   exact WideElems.rg_of (G9 h1.1 (hd _ (List.getElem_mem hi)))
  ·rw [List.getElem?_eq_none hi,List.getElem?_eq_none (show es.toList.length≤i by simp; omega)]
   rfl
 refine ⟨_,⟨es,clock,hg,⟨by omega,hs,?_⟩,by omega,rfl⟩,?_,?_⟩
 ·intro x hx
  obtain ⟨i,hi,rfl⟩:=List.getElem_of_mem hx
  have hi':i<D.length:=by simp at hi; omega
  have h1:(es.toList.map (fun e=>(e.key,e.val)))[i]?=(D.map (fun p=>(Value.string p.1,p.2)))[i]?:=by rw [he]
  simp only [List.getElem?_map,List.getElem?_eq_getElem hi',List.getElem?_eq_getElem hi,Option.map_some,Option.some.injEq,Prod.mk.injEq] at h1
  exact ⟨_,G9 h1.1 (hd _ (List.getElem_mem hi'))⟩
 ·show List.Perm (((es.toList.map (WideElems.rg Tryz.prog 9 Da)).foldr DataW.insert []).map fun p=>strOf p.1) _
  rw [hrd]
  refine ((WideShapes.sorted_perm _).map _).trans ?_
  rw [List.map_map]
  exact List.Perm.refl _
 ·show ((es.toList.map (WideElems.rg Tryz.prog 9 Da)).foldr DataW.insert []).length=D.length
  rw [hrd,length_sorted,List.length_map]
theorem World.Ax {W:World} {h:Hp} {o:Obj} (hW:W.heap=h.push o):({ W with heap:=h }:World).alloc o=W:=by
 cases W
 simp only at hW
 subst hW
 rfl
theorem bT.alloc (w:World) (o:Obj):bT w (w.alloc o):=⟨rfl,rfl,rfl⟩
theorem H' (r:Option Nat) (h:Hp):HC Tryz.prog 193 #[.map r] h fun v h'=>v=.func (.func 202) #[] #[.pointer (some ⟨h.size,0,none⟩)]∧h'=h.push (.cells #[.map r] 286):=by
 intro W hW
 subst hW
 exact (callsIn_wide.1 (Tryz.xD r W)).mono fun e w' ⟨he,hw⟩=>⟨_,he,by rw [hw]; exact bT.alloc _ _,rfl,by rw [hw]; rfl⟩
theorem SL.Gi {W:World} {b:Nat} {e:TypeId} {v:Value} {xs:List Value} (r:W.ownsRow b e 1 v xs.length xs):∃ p l c,v=.slice p l c∧SL W.heap b e 1 p l c (xs.map fun x=>[x]):=by
 have hfl:∀ ys:List Value,(ys.map fun x=>[x]).flatten=ys:=by
  intro ys
  induction ys with
  | nil=>rfl
  | cons y ys ih=>simp [ih]
 obtain ⟨h1,h2⟩:=r
 rcases h2 with ⟨hv,hn⟩ | ⟨g,cap,cj,hv,hb,hg,hle,hc,hs,ht⟩
 ·have:xs=[]:=List.eq_nil_of_length_eq_zero hn
  subst this
  exact ⟨none,0,0,hv,SL.nil _ _ _ _⟩
 ·refine ⟨some ⟨g,0,none⟩,xs.length,cap,hv,by simp,by simp,g,[],cj.toList.drop xs.length,rfl,hb,⟨hle,by unfold maxLen at hc; omega⟩,?_,?_⟩
  ·rw [hfl,List.nil_append]
   have:xs=cj.toList.take xs.length:=by rw [← ht]; simp
   unfold aO
   rw [hg]
   congr 2
   conv=>lhs; rw [← Array.toArray_toList (xs:=cj),← List.take_append_drop xs.length cj.toList]
   rw [← this]
  ·rw [List.length_drop,Array.length_toList,hs]; omega
theorem tn {h:Hp} {g:Nat} {D:List (ByteArray × Value)} (m:eO h g D) (hl:D.length≤2^40) :
  HC Tryz.prog 34 #[.func (.func 202) #[] #[.pointer (some ⟨h.size,0,none⟩)]] (h.push (.cells #[.map (some g)] 286)) fun v h'=>∃ p l c,v=.slice p l c∧SL h' (h.size+1) 9 1 p l c ((keysOf D).map fun k=>[encStr k]) ∧
   Ext (h.push (.cells #[.map (some g)] 286)) h':=by
 intro W hW
 obtain ⟨D0,hown,hperm,hsize⟩:=eO.owns (W:={ W with heap:=h }) m (by unfold maxLen; omega)
 have hc:=callsIn_wide.1 (Tryz.jS g D.length D0 Da { W with heap:=h } hown (by rw [hsize]; unfold maxLen; omega) (by rw [hsize]; omega))
 rw [World.Ax hW] at hc
 refine hc.mono fun e w' hr=>?_
 obtain ⟨v,ss,he,hp,hrow,_,hb⟩:=hr
 have hss:ss.mergeSort (fun x y=>decide (x≤y))=keysOf D:=mergeSort_of_perm (hp.trans hperm)
 have hlen:ss.length=((ss.mergeSort (fun x y=>decide (x≤y))).map encStr).length:=by rw [List.length_map,List.length_mergeSort]
 rw [hlen,hss] at hrow
 obtain ⟨p,l,c,hv,hsl⟩:=SL.Gi hrow
 refine ⟨v,he,⟨hb.os,hb.tape,hb.output⟩,p,l,c,hv,?_,?_⟩
 ·rw [List.map_map] at hsl
  have:W.heap.size=h.size+1:=by rw [hW]; simp
  rw [this] at hsl
  exact hsl
 ·rw [← hW]
  exact ⟨hb.size,fun i hi _=>hb.block i hi⟩
abbrev dp:=List (ByteArray × Nat)
def cV (p:ByteArray × Nat):List Value:=[.string p.1,.int .u32 p.2]
def vm (D:dp):List (ByteArray × Value):=D.map fun p=>(p.1,Value.int .u32 p.2)
def dI (D:dp) (s:ByteArray):Nat:=((D.find? fun p=>decide (s=p.1)).map (·.2)).getD 0
def eM (D:dp) (s:ByteArray) (v:Nat):dp:=if (D.find? fun p=>decide (s=p.1)).isSome then D.map fun p=>if s=p.1 then (p.1,v) else p else D++[(s,v)]
def jZ (D:dp) (p:ByteArray × Nat):dp:=eM D p.1 ((dI D p.1+p.2) % 4294967296)
def Gn (D:dp):dp:=(keysOf (vm D)).filterMap fun k=>if dI D ⟨k.toArray⟩=0 then none else some (⟨k.toArray⟩,dI D ⟨k.toArray⟩)
theorem IT (D:dp) (s:ByteArray):(vm D).find? (fun p=>decide (s=p.1))=(D.find? fun p=>decide (s=p.1)).map fun p=>(p.1,Value.int .u32 p.2):=by
 unfold vm
 induction D with
 | nil=>rfl
 | cons p D ih =>
  by_cases h:s=p.1
  ·simp [h]
  ·simp only [List.map_cons,List.find?_cons,decide_eq_false h]
   exact ih
theorem Dt (D:dp) (s:ByteArray):look (vm D) s=(D.find? fun p=>decide (s=p.1)).map fun p=>Value.int .u32 p.2:=by
 unfold look
 rw [IT,Option.map_map]
 rfl
theorem Ee (D:dp) (s:ByteArray):(look (vm D) s).getD (.int .u32 0)=.int .u32 (dI D s):=by
 rw [Dt]
 unfold dI
 all_goals (cases D.find? fun p=>decide (s=p.1) <;> rfl)
theorem Kr (D:dp) (s:ByteArray) (v:Nat):Fo (vm D) s (.int .u32 v)=vm (eM D s v):=by
 unfold Fo eM
 rw [Dt]
 cases h:(D.find? fun p=>decide (s=p.1)) with
 | none=>simp [vm]
 | some q =>
  simp only [Option.map_some,Option.isSome_some,if_true,vm,List.map_map]
  refine List.map_congr_left fun p hp=>?_
  simp only [Function.comp]
  split <;> simp_all
theorem tC (D:dp) (s:ByteArray) (v:Nat):(eM D s v).length≤D.length+1:=by
 unfold eM
 split <;> simp
theorem Kp:(Tryz.prog.info? 92).bind (·.zero)=some (.int .u32 0):=by kernel_rfl
theorem JQ:Tryz.prog.underlying 91=some (.slice 109):=by kernel_rfl
theorem JN:(Tryz.prog.info? 109).map (fun i=>(i.zero,i.size,i.bytes))=some (some (.agg #[.string ⟨#[]⟩,.int .u32 0]),2,24):=by kernel_rfl
theorem uY {L:Lp} {K:Value→Hp→Prop} {h:Hp} {g:Nat} {D:dp} (m:eO h g (vm D)) (s:ByteArray) {k:Int→T} (hk:k (dI D s) L K h):T.bj Tryz.prog (Instr.lookup 286 (.map (some g)) (.string s) false) false [(false,[.int .u32])] k L K h:=by
 refine yJ J0 EO Kp m s false _ ?_
 refine ⟨((dI D s:Int),()),?_,hk⟩
 simp only [Bool.false_eq_true,if_false]
 rw [Ee]
 rfl
theorem Hf {L:Lp} {K:Value→Hp→Prop} {h:Hp} {g:Nat} {D:dp} (m:eO h g (vm D)) {s:ByteArray} (hs:s.size≤maxLen) {v:Int} {n:Nat} (hv:v=(n:Int)) {k:T} (hk:∀ h',eO h' g (vm (eM D s n))→Ch [g] h h'→h'.size=h.size→k L K h') :
  T.mQ Tryz.prog (Instr.mapUpdate 286 (.map (some g)) (.string s) (.int .u32 v)) k L K h:=by
 subst hv
 refine rC J0 EO m hs _ _ ?_
 intro h' m' c' z'
 rw [Kr] at m'
 exact hk h' m' c' z'
theorem DW {h:Hp} {g:Nat} {D:dp} (m:eO h g (vm D)) (hl:D.length≤2^40) (n:Int) :
  HC Tryz.prog 179 #[.map (some g),.int .u32 n] h fun v h'=>Ext h h'∧∃ p l c,v=.agg #[.slice p l c,.int .u32 n]∧SL h' h.size 109 2 p l c ((Gn D).map cV):=by
 refine aK (args:=[.map (some g),.int .u32 n]) mixed Tryz.func179 (by kernel_rfl) (w8 (some g) n) ?_
 unfold tJ
 refine aX ?_
 intro h1 b1 e1 z1
 refine aX ?_
 intro h2 b2 e2 z2
 refine an b2 rfl (by simp) ?_
 intro h3 b3 k3 z3
 have b3:aO h3 h1.size 94 [.slice none 0 0,.int .u32 n]:=b3
 have e3:Ext h h3:=Ch.trans (e1.trans e2) k3 (fun i hi hl=>by simp at hi; omega)
 have m3:=m.ai e3 (by simp)
 have c3:aO h3 h.size 94 [.slice none 0 0,.int .u32 0]:=(b1.ai e2 (by simp)).ai k3 (by simp; omega)
 refine aB (H' (some g) h3) ?_
 rintro _ h4 ⟨rfl,rfl⟩
 refine ⟨(.func (.func 202) #[] #[.pointer (some ⟨h3.size,0,none⟩)],()),rfl,?_⟩
 dsimp only [flat,az,ah,nA,cA]
 have e4:Ext h3 (h3.push (.cells #[.map (some g)] 286)):=Ext.push _ _
 have hkl:(vm D).length≤2^40:=by unfold vm; rw [List.length_map]; exact hl
 refine aB (tn m3 hkl) ?_
 rintro _ h5 ⟨pk,lk,ck,rfl,sk,e5⟩
 refine ⟨((pk,lk,ck),()),rfl,?_⟩
 dsimp only [flat,az,ah,nA,cA]
 have e35:=e4.trans e5
 have hkeys:(keysOf (vm D)).length≤2^40:=by
  unfold keysOf
  rw [List.length_mergeSort,List.length_map]
  exact hkl
 have hlk:lk=(keysOf (vm D)).length:=by rw [sk.1,List.length_map]
 unfold Gn
 generalize keysOf (vm D)=ks at sk hkeys hlk ⊢
 have b5:=b3.ai e35 (by simp)
 have c5:=c3.ai e35 (by simp)
 have m5:=m3.ai e35 (by simp)
 have e05:=e3.trans e35
 have hz3:=e35.size
 have hb3:=b3.lt
 have hg:=m.lt
 refine bh (cs:=[(false,[.int .i64])]) (fun x w h'=>∃ (i:Nat) (p:Option Addr) (l c:Nat),x.1=(i:Int)∧i≤ks.length∧w=ks.length-i∧Ch [h1.size] h5 h'∧aO h' h1.size 94 [.slice p l c,.int .u32 n] ∧
  SL h' h5.size 109 2 p l c (((ks.take i).filterMap fun k=>if dI D ⟨k.toArray⟩=0 then none else some ((⟨k.toArray⟩:ByteArray),dI D ⟨k.toArray⟩)).map cV)∧l≤i) ((0:Int),()) ks.length rfl
  ⟨0,none,0,0,rfl,by omega,by omega,Ch.refl _ _,b5,SL.nil _ _ _ _,by omega⟩ ?_
 rintro ⟨n8,⟨⟩⟩ w h6 ⟨i,p,l,c,hi,hile,rfl,k6,b6,s6,hli⟩
 simp only at hi
 subst hi
 dsimp only [flat,az,ah,nA,cA]
 have m6:=m5.ai k6 (by simp; omega)
 have hz6:=k6.size
 have e06:Ext h h6:=Ch.trans e05 k6 (fun j hj hl=>by simp at hj; omega)
 refine af (fun g1=>?_) (fun g1=>?_)
 ·have g1:=of_decide_eq_true g1
  have hilt:i<ks.length:=by omega
  have sk6:=sk.bf k6 (fun j hj=>by have:=(sk.bW hj).1; simp; omega)
  obtain ⟨a,rfl,hc⟩:=sk6.cells (i:=i) (by simpa using hilt)
  rw [List.getElem_map] at hc
  have htk:ks.take (i+1)=ks.take i++[ks[i]]:=List.take_succ_eq_append_getElem hilt
  generalize ks[i]=k at hc htk
  refine ay ⟨by omega,by omega⟩ (aj rfl ?_)
  rw [show Int.toNat (i:Int)=i by omega]
  refine aE ((⟨k.toArray⟩:ByteArray),()) hc ?_
  dsimp only [flat,az,ah,nA,cA]
  have hw:IntKind.wrap .i64 ((i:Int)+1)=((i+1:Nat):Int):=by rw [wrap_i64 (by omega) (by omega)]; omega
  refine uY m6 _ (af (fun g2=>?_) (fun g2=>?_))
  ·have g2:((dI D ⟨k.toArray⟩:Nat):Int)≠0:=by simpa using g2
   refine ad b6 ((p,l,c),()) rfl ?_
   dsimp only [flat,az,ah,nA,cA]
   refine uY m6 _ ?_
   refine rJ (vs:=cV (⟨k.toArray⟩,dI D ⟨k.toArray⟩)) JQ JN rfl (by omega) (by omega) (by kernel_rfl) rfl rfl s6 hz6 (by omega) (by omega) ?_
   intro p' c' h7 s7 k7 hp7
   have b7:=b6.ai k7 (fun hh=>by have:=(s6.bW hh).1; omega)
   refine an b7 rfl (by simp) ?_
   intro h8 b8 k8 z8
   refine aI (cs:=[(false,[.int .i64])]) (((i+1:Nat):Int),()) (ks.length-(i+1)) rfl (by omega) (congrArg (fun z=>[Value.int .i64 z]) hw) ⟨i+1,p',l+1,c',rfl,by omega,rfl,?_,b8,?_,by omega⟩
   ·exact Ch.trans (Ch.trans k6 k7 (fun j hj hl=>by have:=(s6.bW hj).1; omega)) k8 (fun j hj _=>hj)
   ·rw [htk,List.filterMap_append,List.map_append]
    have hf:([k].filterMap fun k=>if dI D ⟨k.toArray⟩=0 then none else some ((⟨k.toArray⟩:ByteArray),dI D ⟨k.toArray⟩))=[((⟨k.toArray⟩:ByteArray),dI D ⟨k.toArray⟩)]:=by
     simp only [List.filterMap_cons,List.filterMap_nil]
     rw [if_neg (by omega)]
    rw [hf]
    exact s7.bf k8 (fun j hj=>by have:=(s7.bW hj).1; simp; omega)
  ·have g2:((dI D ⟨k.toArray⟩:Nat):Int)=0:=by simpa using g2
   refine aI (cs:=[(false,[.int .i64])]) (((i+1:Nat):Int),()) (ks.length-(i+1)) rfl (by omega) (congrArg (fun z=>[Value.int .i64 z]) hw) ⟨i+1,p,l,c,rfl,by omega,rfl,k6,b6,?_,by omega⟩
   rw [htk,List.filterMap_append]
   have hf:([k].filterMap fun k=>if dI D ⟨k.toArray⟩=0 then none else some ((⟨k.toArray⟩:ByteArray),dI D ⟨k.toArray⟩))=[]:=by
    simp only [List.filterMap_cons,List.filterMap_nil]
    rw [if_pos (by omega)]
   rw [hf,List.append_nil]
   exact s6
 ·have g1:=of_decide_eq_false g1
  have hi:i=ks.length:=by omega
  subst hi
  rw [List.take_length] at s6
  have c6:=c5.ai k6 (by simp; omega)
  refine ad b6 ((p,l,c),n,()) rfl ?_
  dsimp only [flat,az,ah,nA,cA]
  refine an c6 rfl (by simp) ?_
  intro h7 b7 k7 z7
  have b7:aO h7 h.size 94 [.slice p l c,.int .u32 n]:=b7
  refine ad b7 ((p,l,c),n,()) rfl ?_
  have hz5:=e05.size
  exact ⟨Ch.trans e06 k7 (fun j hj hl=>by simp at hj; omega),p,l,c,rfl,(s6.bf k7 (fun j hj=>by have:=(s6.bW hj).1; simp; omega)).mono (by omega)⟩
structure pI (h:Hp) (p:Option Addr) (l:Nat) (us:dp):Prop where
 len:l=us.length
 cells:∀ i,(hi:i<us.length)→∃ a,p=some a∧aG h (a.add (i*2)) 0 (cV us[i])
theorem pI.ai {ws:List Nat} {h h':Hp} {p:Option Addr} {l:Nat} {us:dp} (v:pI h p l us) (k:Ch ws h h') (hw:∀ i,i∈aC p→i∉ws):pI h' p l us :=
 ⟨v.len,fun i hi=>by
  obtain ⟨a,ha,hc⟩:=v.cells i hi
  exact ⟨a,ha,bE k (by rw [ji]; exact hw _ (by rw [ha]; simp [aC])) _ _ hc⟩⟩
theorem SL.H9 {h:Hp} {b:Nat} {e:TypeId} {p:Option Addr} {l c:Nat} {us:dp} (s:SL h b e 2 p l c (us.map cV)):pI h p l us:=by
 refine ⟨by rw [s.1,List.length_map],fun i hi=>?_⟩
 obtain ⟨a,ha,hc⟩:=s.cells (i:=i) (by simpa using hi)
 rw [List.getElem_map] at hc
 exact ⟨a,ha,hc⟩
structure ey where
 au:dp
 num:Nat
def qQ (p:Option Addr) (l c:Nat) (x:ey):Value:=.agg #[.slice p l c,.int .u32 x.num]
def KN (l:dp):dp:=Gn (l.foldl jZ [])
def fg (x:ey) (n:Nat):ey:=⟨KN (x.au.map fun p=>(p.1,p.2*n % 4294967296)),x.num*n % 4294967296⟩
def vG (x y:ey):ey:=⟨KN (x.au++y.au),(x.num+y.num) % 4294967296⟩
theorem fN (x:Int):IntKind.wrap .u32 x=x % 4294967296:=by
 simp only [IntKind.wrap]
 rfl
theorem nD (a:Nat):((a % 4294967296:Nat):Int)=(a:Int) % 4294967296:=Int.natCast_emod a 4294967296
theorem rb {h:Hp} {p:Option Addr} {l c:Nat} {x:ey} (v:pI h p l x.au) (hl:x.au.length≤2^40) (hs:∀ t,t∈x.au→t.1.size≤maxLen) (n:Nat) :
  HC Tryz.prog 156 #[qQ p l c x,.int .u32 n] h fun w h'=>Ext h h'∧∃ p' l' c',w=qQ p' l' c' (fg x n)∧SL h' h.size 109 2 p' l' c' ((fg x n).au.map cV):=by
 refine aK (args:=[.agg #[.slice p l c,.int .u32 x.num],.int .u32 n]) mixed Tryz.func156 (by kernel_rfl) (uy p l c x.num n) ?_
 unfold rT
 refine aX ?_
 intro h1 b1 e1 z1
 refine aX ?_
 intro h2 b2 e2 z2
 refine qE _ ?_
 intro h3 m3 e3 z3
 refine ⟨(some h2.size,()),rfl,?_⟩
 dsimp only [flat,az,ah,nA,cA]
 have c3:=(b1.ai e2 (by simp)).ai e3 (by simp)
 have b3:=b2.ai e3 (by simp)
 have e03:=(e1.trans e2).trans e3
 have v3:=v.ai e03 (by simp)
 have hll:=v.len
 refine ad c3 ((p,l,c),()) rfl ?_
 dsimp only [flat,az,ah,nA,cA]
 refine bh (cs:=[(false,[.int .i64])]) (fun y w h'=>∃ (i:Nat),y.1=(i:Int)∧i≤x.au.length∧w=x.au.length-i∧Ch [h2.size] h3 h' ∧
  eO h' h2.size (vm (((x.au.take i).map fun p=>(p.1,p.2*n % 4294967296)).foldl jZ []))∧(((x.au.take i).map fun p=>(p.1,p.2*n % 4294967296)).foldl jZ []).length≤i) ((0:Int),()) x.au.length rfl
  ⟨0,rfl,by omega,by omega,Ch.refl _ _,m3,by simp⟩ ?_
 rintro ⟨n8,⟨⟩⟩ w h4 ⟨i,hi,hile,rfl,k4,m4,hD⟩
 simp only at hi
 subst hi
 dsimp only [flat,az,ah,nA,cA]
 have hz4:=k4.size
 have e04:Ext h h4:=Ch.trans e03 k4 (fun j hj hl=>by simp at hj; omega)
 refine af (fun g1=>?_) (fun g1=>?_)
 ·have g1:=of_decide_eq_true g1
  have hilt:i<x.au.length:=by omega
  obtain ⟨a,rfl,hc⟩:=(v.ai e04 (by simp)).cells i hilt
  have htk:x.au.take (i+1)=x.au.take i++[x.au[i]]:=List.take_succ_eq_append_getElem hilt
  have hsz:=hs x.au[i] (List.getElem_mem hilt)
  generalize x.au[i]=t at hc htk hsz
  refine ay ⟨by omega,by omega⟩ (aj rfl ?_)
  rw [show Int.toNat (i:Int)=i by omega]
  refine aE (t.1,(t.2:Int),()) hc ?_
  dsimp only [flat,az,ah,nA,cA]
  refine aX ?_
  intro h5 b5 e5 z5
  refine an b5 rfl (by simp) ?_
  intro h6 b6 k6 z6
  have b6:aO h6 h4.size 109 (cV t):=b6
  have e46:Ext h4 h6:=Ch.trans e5 k6 (fun j hj hl=>by simp at hj; omega)
  have m6:=m4.ai e46 (by simp)
  have hlt4:=m4.lt
  refine ad b6 (t.1,()) rfl ?_
  dsimp only [flat,az,ah,nA,cA]
  refine uY m6 _ ?_
  rw [ao]
  refine ad b6 ((t.2:Int),()) rfl ?_
  dsimp only [flat,az,ah,nA,cA]
  generalize hDD:((x.au.take i).map fun p=>(p.1,p.2*n % 4294967296)).foldl jZ []=D at m6 hD
  refine Hf (n:=(dI D t.1+t.2*n % 4294967296) % 4294967296) m6 hsz ?_ ?_
  ·rw [fN,fN,nD,Int.natCast_add,nD,Int.natCast_mul]
  ·intro h7 m7 k7 z7
   have hw:IntKind.wrap .i64 ((i:Int)+1)=((i+1:Nat):Int):=by rw [wrap_i64 (by omega) (by omega)]; omega
   have hf:((x.au.take (i+1)).map fun p=>(p.1,p.2*n % 4294967296)).foldl jZ []=eM D t.1 ((dI D t.1+t.2*n % 4294967296) % 4294967296):=by
    rw [htk,List.map_append,List.foldl_append,hDD]
    rfl
   refine aI (cs:=[(false,[.int .i64])]) (((i+1:Nat):Int),()) (x.au.length-(i+1)) rfl (by omega) (congrArg (fun z=>[Value.int .i64 z]) hw) ⟨i+1,rfl,by omega,rfl,?_,by rw [hf]; exact m7,?_⟩
   ·exact Ch.trans (Ch.trans k4 e46 (by simp)) k7 (fun j hj _=>hj)
   ·rw [hf]
    have:=tC D t.1 ((dI D t.1+t.2*n % 4294967296) % 4294967296)
    omega
 ·have g1:=of_decide_eq_false g1
  have hi:i=x.au.length:=by omega
  subst hi
  rw [List.take_length] at m4 hD
  have c4:=c3.ai k4 (by simp; omega)
  have b4:=b3.ai k4 (by simp; omega)
  rw [ao]
  refine ad c4 ((x.num:Int),()) rfl ?_
  dsimp only [flat,az,ah,nA,cA]
  refine aB (DW m4 (by omega) _) ?_
  rintro _ h5 ⟨e5,p',l',c',rfl,s5⟩
  refine ⟨((p',l',c'),IntKind.wrap .u32 ((x.num:Int)*(n:Int)),()),rfl,?_⟩
  dsimp only [flat,az,ah,nA,cA]
  refine an (b4.ai e5 (by simp)) rfl (by simp) ?_
  intro h6 b6 k6 z6
  have b6:aO h6 h1.size 94 [.slice p' l' c',.int .u32 (IntKind.wrap .u32 ((x.num:Int)*(n:Int)))]:=b6
  refine ad b6 ((p',l',c'),IntKind.wrap .u32 ((x.num:Int)*(n:Int)),()) rfl ?_
  have hz5:=e04.size
  refine ⟨Ch.trans (e04.trans e5) k6 (fun j hj hl=>by simp at hj; omega),p',l',c',?_,(s5.bf k6 (fun j hj=>by have:=(s5.bW hj).1; simp; omega)).mono (by omega)⟩
  unfold qQ fg
  rw [fN]
  dsimp only
  rw [nD,Int.natCast_mul]
def fE (a b:ByteArray):Prop:=a.data.toList<b.data.toList
instance (a b:ByteArray):Decidable (fE a b):=inferInstanceAs (Decidable (a.data.toList<b.data.toList))
theorem qM (a:ByteArray):¬ fE a a:=List.lt_irrefl (α:=UInt8) _
theorem gS {a b c:ByteArray} (h:fE a b) (k:fE b c):fE a c:=List.lt_trans (α:=UInt8) h k
theorem G7 {a b:ByteArray} (h:a.data.toList=b.data.toList):a=b:=by
 cases a; cases b
 simp only at h
 rw [Array.toList_inj.1 h]
theorem oS (a b:ByteArray) (h:¬ fE a b) (k:¬ fE b a):a=b :=
 G7 (List.le_antisymm (α:=UInt8) (List.not_lt.1 k) (List.not_lt.1 h))
theorem nF {a b:ByteArray} (h:fE a b):a≠b:=fun e=>by subst e; exact qM _ h
theorem sW {a b:ByteArray} (h:fE a b):¬ fE b a:=fun k=>qM _ (gS h k)
structure Nf (l:dp):Prop where
 My:l.Pairwise fun p q=>fE p.1 q.1
 D6:∀ p,p∈l→p.2≠0∧p.2<4294967296
def cf:dp→ByteArray→Nat
 | [],_=>0
 | p::l,s=>(if p.1=s then p.2 else 0)+cf l s
theorem zb (s:ByteArray):cf [] s=0:=rfl
theorem fl (p:ByteArray × Nat) (l:dp) (s:ByteArray):cf (p::l) s=(if p.1=s then p.2 else 0)+cf l s:=rfl
theorem Nf.tail {p:ByteArray × Nat} {l:dp} (h:Nf (p::l)):Nf l:=⟨(List.pairwise_cons.1 h.1).2,fun q hq=>h.2 q (List.mem_cons_of_mem _ hq)⟩
theorem Nf.head {p:ByteArray × Nat} {l:dp} (h:Nf (p::l)):∀ q,q∈l→fE p.1 q.1:=(List.pairwise_cons.1 h.1).1
theorem Nf.nil:Nf []:=⟨List.Pairwise.nil,by simp⟩
theorem DI {l:dp} {s:ByteArray} (h:∀ p,p∈l→p.1≠s):cf l s=0:=by
 induction l with
 | nil=>rfl
 | cons p l ih =>
  rw [fl,if_neg (h p (List.mem_cons_self ..)),ih fun q hq=>h q (List.mem_cons_of_mem _ hq)]
theorem D9 (l m:dp) (s:ByteArray):cf (l++m) s=cf l s+cf m s:=by
 induction l with
 | nil=>simp [cf]
 | cons p l ih=>simp only [List.cons_append,cf,ih]; omega
theorem Nf.pg {p:ByteArray × Nat} {l:dp} (h:Nf (p::l)):cf (p::l) p.1=p.2:=by
 rw [fl,if_pos rfl,DI fun q hq=>(nF (h.head q hq)).symm]
 rfl
theorem Nf.zR {l:dp} {s:ByteArray} (h:∀ p,p∈l→fE s p.1):cf l s=0:=DI fun p hp=>(nF (h p hp)).symm
theorem Nf.I1:∀ {l m:dp},Nf l→Nf m→(∀ s,cf l s % 4294967296=cf m s % 4294967296)→l=m
 | [],[],_,_,_=>rfl
 | [],q::m,_,hm,h=>by
  have:=h q.1
  rw [hm.pg] at this
  have hq:=hm.D6 q (List.mem_cons_self ..)
  simp only [cf] at this
  omega
 | p::l,[],hl,_,h=>by
  have:=h p.1
  rw [hl.pg] at this
  have hq:=hl.D6 p (List.mem_cons_self ..)
  simp only [cf] at this
  omega
 | p::l,q::m,hl,hm,h=>by
  have hp:=hl.D6 p (List.mem_cons_self ..)
  have hq:=hm.D6 q (List.mem_cons_self ..)
  by_cases h1:fE p.1 q.1
  ·exfalso
   have:=h p.1
   rw [hl.pg,Nf.zR (l:=q::m) (s:=p.1) (by
    intro r hr
    rcases List.mem_cons.1 hr with rfl | hr
    ·exact h1
    ·exact gS h1 (hm.head r hr))] at this
   omega
  ·by_cases h2:fE q.1 p.1
   ·exfalso
    have:=h q.1
    rw [hm.pg,Nf.zR (l:=p::l) (s:=q.1) (by
     intro r hr
     rcases List.mem_cons.1 hr with rfl | hr
     ·exact h2
     ·exact gS h2 (hl.head r hr))] at this
    omega
   ·have he:=oS _ _ h1 h2
    have h3:=h p.1
    rw [hl.pg,he,hm.pg] at h3
    have hpq:p=q:=by
     obtain ⟨a,b⟩:=p
     obtain ⟨c,d⟩:=q
     simp only at he h3 hp hq
     subst he
     congr 1
     rw [Nat.mod_eq_of_lt hp.2,Nat.mod_eq_of_lt hq.2] at h3
     exact h3
    subst hpq
    congr 1
    refine Nf.I1 hl.tail hm.tail fun s=>?_
    by_cases hs:p.1=s
    ·subst hs
     rw [Nf.zR hl.head,Nf.zR hm.head]
    ·have:=h s
     simp only [cf,if_neg hs,Nat.zero_add] at this
     exact this
/-! What 'made' makes. -/
theorem nS (s:ByteArray):dI [] s=0:=rfl
theorem kP (p:ByteArray × Nat) (D:dp) (s:ByteArray):dI (p::D) s=if s=p.1 then p.2 else dI D s:=by
 unfold dI
 rw [List.find?_cons]
 by_cases h:s=p.1
 ·simp [h]
 ·simp [h]
theorem Be (D:dp) (s t:ByteArray) (v:Nat):dI (D++[(t,v)]) s=if (D.find? fun p=>decide (s=p.1)).isSome then dI D s else if s=t then v else 0:=by
 induction D with
 | nil=>simp [kP,nS]
 | cons p D ih =>
  rw [List.cons_append,kP,kP,ih,List.find?_cons]
  by_cases h:s=p.1
  ·simp [h]
  ·simp only [decide_eq_false h,if_neg h]
theorem yo {D:dp} {s:ByteArray} (h:(D.find? fun p=>decide (s=p.1)).isSome=false):dI D s=0:=by
 unfold dI
 cases hf:(D.find? fun p=>decide (s=p.1)) with
 | none=>rfl
 | some x=>rw [hf] at h; cases h
theorem Fu (D:dp) (t:ByteArray) (v:Nat) (s:ByteArray):dI (D.map fun p=>if t=p.1 then (p.1,v) else p) s=if s=t∧(D.find? fun p=>decide (t=p.1)).isSome then v else dI D s:=by
 induction D with
 | nil=>simp [nS]
 | cons p D ih =>
  rw [List.map_cons,kP,ih,kP,List.find?_cons]
  by_cases h:t=p.1
  ·subst h
   by_cases k:s=p.1 <;> simp [k]
  ·rw [if_neg h]
   by_cases k:s=p.1
   ·subst k
    have:¬ p.1=t:=fun e=>h e.symm
    simp [this]
   ·simp only [decide_eq_false h,if_neg k]
theorem yZ (D:dp) (t:ByteArray) (v:Nat) (s:ByteArray):dI (eM D t v) s=if s=t then v else dI D s:=by
 unfold eM
 split
 ·rename_i hh
  rw [Fu]
  by_cases k:s=t <;> simp [k,hh]
 ·rename_i hh
  rw [Be]
  by_cases k:s=t
  ·subst k
   simp [hh]
  ·rw [if_neg k]
   split
   ·rfl
   ·rename_i h2
    rw [yo (Bool.eq_false_iff.2 h2)]
theorem CO (l:dp) (s:ByteArray):∀ D:dp,dI (l.foldl jZ D) s % 4294967296=(dI D s+cf l s) % 4294967296:=by
 induction l with
 | nil=>intro D; simp [cf]
 | cons p l ih =>
  intro D
  rw [List.foldl_cons,ih]
  unfold jZ
  rw [fl,yZ]
  by_cases h:s=p.1
  ·subst h
   rw [if_pos rfl,if_pos rfl,Nat.mod_add_mod]
   congr 1; omega
  ·rw [if_neg h,if_neg fun e=>h e.symm]
   congr 1; omega
theorem CP {D:dp} (h:(D.map (·.1)).Nodup) (t:ByteArray) (v:Nat):((eM D t v).map (·.1)).Nodup:=by
 unfold eM
 have h1:(D.find? fun p=>decide (t=p.1)).isSome=true↔t∈D.map (·.1):=by
  rw [List.find?_isSome]
  simp [eq_comm]
 split
 ·have e:(D.map fun p=>if t=p.1 then (p.1,v) else p).map (·.1)=D.map (·.1):=by
   rw [List.map_map]
   refine List.map_congr_left fun p hp=>?_
   simp only [Function.comp]
   split <;> rfl
  rw [e]; exact h
 ·rename_i hn
  rw [List.map_append,List.nodup_append]
  refine ⟨h,by simp,?_⟩
  rintro a ha b hb rfl
  simp only [List.map_cons,List.map_nil,List.mem_singleton] at hb
  subst hb
  exact hn (h1.2 ha)
theorem wc (l:dp):∀ D:dp,(D.map (·.1)).Nodup→((l.foldl jZ D).map (·.1)).Nodup:=by
 induction l with
 | nil=>intro D h; exact h
 | cons p l ih =>
  intro D h
  rw [List.foldl_cons]
  exact ih _ (CP h _ _)
theorem DC (l:dp):∀ D:dp,(∀ s,dI D s<4294967296)→∀ s,dI (l.foldl jZ D) s<4294967296:=by
 induction l with
 | nil=>intro D h; exact h
 | cons p l ih =>
  intro D h
  rw [List.foldl_cons]
  refine ih _ fun s=>?_
  unfold jZ
  rw [yZ]
  split
  ·exact Nat.mod_lt _ (by decide)
  ·exact h s
theorem HF {D:dp} {s:ByteArray} (h:s∉D.map (·.1)):dI D s=0:=by
 refine yo ?_
 cases hf:(D.find? fun p=>decide (s=p.1)).isSome with
 | false=>rfl
 | true =>
  rw [List.find?_isSome] at hf
  obtain ⟨x,hx,hs⟩:=hf
  exact absurd (List.mem_map.2 ⟨x,hx,(of_decide_eq_true hs).symm⟩) h
def pick (g:ByteArray→Nat) (ks:List (List UInt8)):dp:=ks.filterMap fun k=>if g ⟨k.toArray⟩=0 then none else some (⟨k.toArray⟩,g ⟨k.toArray⟩)
theorem IW (g:ByteArray→Nat) (s:ByteArray):∀ ks:List (List UInt8),ks.Nodup→cf (pick g ks) s=if s.data.toList∈ks then g s else 0:=by
 intro ks
 induction ks with
 | nil=>intro _; simp [pick,cf]
 | cons k ks ih =>
  intro h
  rw [List.nodup_cons] at h
  have ih:=ih h.2
  unfold pick at ih ⊢
  rw [List.filterMap_cons]
  have e1:(⟨k.toArray⟩:ByteArray)=s↔s.data.toList=k:=by
   constructor
   ·rintro rfl; simp
   ·intro e; exact G7 (by simp [e])
  by_cases hk:s.data.toList=k
  ·have hs:=e1.2 hk
   rw [hs]
   split
   ·rename_i hg
    split at hg
    ·rename_i h0
     rw [ih,h0]
     simp
    ·cases hg
   ·rename_i hg
    split at hg
    ·cases hg
    ·cases hg
     rw [fl,ih,if_pos rfl,if_neg (by rw [hk]; exact h.1),if_pos (by rw [hk]; simp)]
     rfl
  ·have hs:¬ (⟨k.toArray⟩:ByteArray)=s:=fun e=>hk (e1.1 e)
   split
   ·rw [ih]
    simp [hk]
   ·rename_i hg
    split at hg
    ·cases hg
    ·cases hg
     rw [fl,ih,if_neg hs]
     simp [hk]
theorem JG (g:ByteArray→Nat) (hg:∀ s,g s<4294967296) {ks:List (List UInt8)} (h:ks.Pairwise fun a b=>a<b):Nf (pick g ks):=by
 refine ⟨?_,?_⟩
 ·unfold pick
  refine List.Pairwise.filterMap _ ?_ h
  intro a b hab p hp q hq
  split at hp
  ·cases hp
  ·split at hq
   ·cases hq
   ·cases hp; cases hq
    unfold fE
    simpa using hab
 ·intro p hp
  unfold pick at hp
  rw [List.mem_filterMap] at hp
  obtain ⟨k,_,hk⟩:=hp
  split at hk
  ·cases hk
  ·rename_i h0
   cases hk
   exact ⟨h0,hg _⟩
theorem tH (D:dp):(keysOf (vm D)).Perm (D.map fun p=>p.1.data.toList):=by
 unfold keysOf vm
 rw [List.map_map]
 exact List.mergeSort_perm _ _
theorem pS {D:dp} (h:(D.map (·.1)).Nodup):(keysOf (vm D)).Pairwise fun a b=>a<b:=by
 have hn:(keysOf (vm D)).Nodup:=by
  refine (tH D).nodup_iff.2 ?_
  have:(D.map fun p=>p.1.data.toList)=(D.map (·.1)).map fun s=>s.data.toList:=by rw [List.map_map]; rfl
  rw [this]
  exact List.pairwise_map.2 (h.imp fun hne e=>hne (G7 e))
 have hs:(keysOf (vm D)).Pairwise fun a b=>a≤b:=by
  unfold keysOf
  refine (List.pairwise_mergeSort ?_ ?_ _).imp ?_
  ·intro a b c h1 h2
   exact decide_eq_true (List.le_trans (α:=UInt8) (of_decide_eq_true h1) (of_decide_eq_true h2))
  ·intro a b
   simp only [Bool.or_eq_true,decide_eq_true_eq]
   exact List.le_total (α:=UInt8) a b
  ·intro a b hab
   exact of_decide_eq_true hab
 refine (hs.and hn).imp ?_
 rintro a b ⟨h1,h2⟩
 by_cases hlt:a<b
 ·exact hlt
 ·exact absurd (List.le_antisymm (α:=UInt8) h1 (List.not_lt.1 hlt)) h2
theorem Bq (l:dp):KN l=pick (dI (l.foldl jZ [])) (keysOf (vm (l.foldl jZ []))):=rfl
theorem FU (l:dp):Nf (KN l):=by
 rw [Bq]
 exact JG _ (DC l [] (fun s=>by rw [nS]; decide)) (pS (wc l [] (by simp)))
theorem HP (l:dp) (s:ByteArray):cf (KN l) s=cf l s % 4294967296:=by
 have h1:=CO l s []
 rw [nS,Nat.zero_add,Nat.mod_eq_of_lt (DC l [] (fun s=>by rw [nS]; decide) s)] at h1
 rw [Bq,IW _ _ _ ((pS (wc l [] (by simp))).imp fun h e=>by subst e; exact List.lt_irrefl (α:=UInt8) _ h)]
 split
 ·exact h1
 ·rename_i hn
  rw [← h1,HF]
  intro hm
  refine hn ((tH _).mem_iff.2 ?_)
  obtain ⟨p,hp,rfl⟩:=List.mem_map.1 hm
  exact List.mem_map.2 ⟨p,hp,rfl⟩
/-! The reference's sums and products. -/
def eD (n:Nat) (l:dp):dp:=l.filterMap fun p=>if p.2*n % 4294967296=0 then none else some (p.1,p.2*n % 4294967296)
def gP:Nat→dp→dp→dp
 | 0,_,_=>[]
 | n+1,x,y=>match x,y with
  | [],[]=>[]
  | p::x,[]=>p::gP n x []
  | [],q::y=>q::gP n [] y
  | p::x,q::y=>if fE p.1 q.1 then p::gP n x (q::y) else if fE q.1 p.1 then q::gP n (p::x) y else if (p.2+q.2) % 4294967296=0 then gP n x y else (p.1,(p.2+q.2) % 4294967296)::gP n x y
def D5 (x y:dp):dp:=gP (x.length+y.length) x y
theorem tp {n:Nat} {l:dp} (h:Nf l):Nf (eD n l):=by
 refine ⟨?_,?_⟩
 ·unfold eD
  refine List.Pairwise.filterMap _ ?_ h.1
  intro a b hab p hp q hq
  split at hp
  ·cases hp
  ·split at hq
   ·cases hq
   ·cases hp; cases hq
    exact hab
 ·intro p hp
  unfold eD at hp
  rw [List.mem_filterMap] at hp
  obtain ⟨k,_,hk⟩:=hp
  split at hk
  ·cases hk
  ·rename_i h0
   cases hk
   exact ⟨h0,Nat.mod_lt _ (by decide)⟩
theorem yN (n:Nat) (l:dp) (s:ByteArray):cf (eD n l) s % 4294967296=cf l s*n % 4294967296:=by
 induction l with
 | nil=>simp [eD,cf]
 | cons p l ih =>
  have hc:cf (eD n (p::l)) s=(if p.1=s then p.2*n % 4294967296 else 0)+cf (eD n l) s:=by
   unfold eD
   rw [List.filterMap_cons]
   split
   ·rename_i hg
    split at hg
    ·rename_i h0
     rw [h0]; simp
    ·cases hg
   ·rename_i hg
    split at hg
    ·cases hg
    ·cases hg
     rfl
  rw [hc,Nat.add_mod,ih,fl]
  by_cases h:p.1=s
  ·rw [if_pos h,if_pos h,Nat.add_mul,Nat.mod_mod,← Nat.add_mod]
  ·rw [if_neg h,if_neg h,Nat.zero_add]; simp
theorem lz {n:Nat} {x y:dp} {r:ByteArray × Nat} (h:r∈gP n x y):(∃ p,p∈x∧p.1=r.1)∨(∃ q,q∈y∧q.1=r.1):=by
 induction n generalizing x y with
 | zero=>simp [gP] at h
 | succ n ih =>
  rcases x with _ | ⟨p,x⟩ <;> rcases y with _ | ⟨q,y⟩
  ·simp [gP] at h
  ·simp only [gP,List.mem_cons] at h
   rcases h with rfl | h
   ·exact .inr ⟨_,by simp,rfl⟩
   ·rcases ih h with ⟨a,ha,e⟩ | ⟨a,ha,e⟩
    ·simp at ha
    ·exact .inr ⟨a,by simp [ha],e⟩
  ·simp only [gP,List.mem_cons] at h
   rcases h with rfl | h
   ·exact .inl ⟨_,by simp,rfl⟩
   ·rcases ih h with ⟨a,ha,e⟩ | ⟨a,ha,e⟩
    ·exact .inl ⟨a,by simp [ha],e⟩
    ·simp at ha
  ·simp only [gP] at h
   split at h
   ·rcases List.mem_cons.1 h with rfl | h
    ·exact .inl ⟨_,by simp,rfl⟩
    ·rcases ih h with ⟨a,ha,e⟩ | ⟨a,ha,e⟩
     ·exact .inl ⟨a,by simp [ha],e⟩
     ·exact .inr ⟨a,ha,e⟩
   ·split at h
    ·rcases List.mem_cons.1 h with rfl | h
     ·exact .inr ⟨_,by simp,rfl⟩
     ·rcases ih h with ⟨a,ha,e⟩ | ⟨a,ha,e⟩
      ·exact .inl ⟨a,ha,e⟩
      ·exact .inr ⟨a,by simp [ha],e⟩
    ·split at h
     ·rcases ih h with ⟨a,ha,e⟩ | ⟨a,ha,e⟩
      ·exact .inl ⟨a,by simp [ha],e⟩
      ·exact .inr ⟨a,by simp [ha],e⟩
     ·rcases List.mem_cons.1 h with rfl | h
      ·exact .inl ⟨p,by simp,rfl⟩
      ·rcases ih h with ⟨a,ha,e⟩ | ⟨a,ha,e⟩
       ·exact .inl ⟨a,by simp [ha],e⟩
       ·exact .inr ⟨a,by simp [ha],e⟩
theorem Nf.cons {p:ByteArray × Nat} {l:dp} (h:Nf l) (hc:p.2≠0∧p.2<4294967296) (hl:∀ q,q∈l→fE p.1 q.1):Nf (p::l) :=
 ⟨List.pairwise_cons.2 ⟨hl,h.1⟩,fun q hq=>by rcases List.mem_cons.1 hq with rfl | hq; exact hc; exact h.2 q hq⟩
theorem I4 {n:Nat} {x y:dp} (hx:Nf x) (hy:Nf y):Nf (gP n x y):=by
 induction n generalizing x y with
 | zero=>exact Nf.nil
 | succ n ih =>
  rcases x with _ | ⟨p,x⟩ <;> rcases y with _ | ⟨q,y⟩
  ·exact Nf.nil
  ·simp only [gP]
   refine (ih Nf.nil hy.tail).cons (hy.2 q (by simp)) fun r hr=>?_
   rcases lz hr with ⟨a,ha,e⟩ | ⟨a,ha,e⟩
   ·simp at ha
   ·rw [← e]; exact hy.head a ha
  ·simp only [gP]
   refine (ih hx.tail Nf.nil).cons (hx.2 p (by simp)) fun r hr=>?_
   rcases lz hr with ⟨a,ha,e⟩ | ⟨a,ha,e⟩
   ·rw [← e]; exact hx.head a ha
   ·simp at ha
  ·simp only [gP]
   split
   ·rename_i h1
    refine (ih hx.tail hy).cons (hx.2 p (by simp)) fun r hr=>?_
    rcases lz hr with ⟨a,ha,e⟩ | ⟨a,ha,e⟩
    ·rw [← e]; exact hx.head a ha
    ·rw [← e]
     rcases List.mem_cons.1 ha with rfl | ha
     ·exact h1
     ·exact gS h1 (hy.head a ha)
   ·rename_i h1
    split
    ·rename_i h2
     refine (ih hx hy.tail).cons (hy.2 q (by simp)) fun r hr=>?_
     rcases lz hr with ⟨a,ha,e⟩ | ⟨a,ha,e⟩
     ·rw [← e]
      rcases List.mem_cons.1 ha with rfl | ha
      ·exact h2
      ·exact gS h2 (hx.head a ha)
     ·rw [← e]; exact hy.head a ha
    ·rename_i h2
     have he:=oS _ _ h1 h2
     split
     ·exact ih hx.tail hy.tail
     ·rename_i h0
      refine (ih hx.tail hy.tail).cons ⟨h0,Nat.mod_lt _ (by decide)⟩ fun r hr=>?_
      rcases lz hr with ⟨a,ha,e⟩ | ⟨a,ha,e⟩
      ·rw [← e]; exact hx.head a ha
      ·rw [← e]
       show fE p.1 a.1
       rw [he]; exact hy.head a ha
theorem Is {n:Nat} {x y:dp} (hn:x.length+y.length≤n) (s:ByteArray):cf (gP n x y) s % 4294967296=(cf x s+cf y s) % 4294967296:=by
 induction n generalizing x y with
 | zero =>
  have h1:x=[]:=List.length_eq_zero_iff.1 (by omega)
  have h2:y=[]:=List.length_eq_zero_iff.1 (by omega)
  subst h1 h2
  rfl
 | succ n ih =>
  rcases x with _ | ⟨p,x⟩ <;> rcases y with _ | ⟨q,y⟩
  ·rfl
  ·simp only [gP,fl,zb]
   have:=ih (x:=[]) (y:=y) (by simp at hn ⊢; omega)
   simp only [zb] at this
   omega
  ·simp only [gP,fl,zb]
   have:=ih (x:=x) (y:=[]) (by simp at hn ⊢; omega)
   simp only [zb] at this
   omega
  ·simp only [List.length_cons] at hn
   simp only [gP]
   split
   ·have:=ih (x:=x) (y:=q::y) (by simp; omega)
    simp only [fl] at this ⊢
    omega
   ·rename_i h1
    split
    ·have:=ih (x:=p::x) (y:=y) (by simp; omega)
     simp only [fl] at this ⊢
     omega
    ·rename_i h2
     have he:=oS _ _ h1 h2
     have:=ih (x:=x) (y:=y) (by omega)
     split
     ·rename_i h0
      simp only [fl,← he]
      split
      ·omega
      ·omega
     ·simp only [fl,← he]
      split
      ·omega
      ·omega
theorem Dm {x y:dp} (hx:Nf x) (hy:Nf y):Nf (D5 x y):=I4 hx hy
theorem JA (x y:dp) (s:ByteArray):cf (D5 x y) s % 4294967296=(cf x s+cf y s) % 4294967296:=Is (Nat.le_refl _) s
theorem FF {x y:dp} (hx:Nf x) (hy:Nf y):KN (x++y)=D5 x y :=
 Nf.I1 (FU _) (Dm hx hy) fun s=>by rw [HP,JA,D9,Nat.mod_mod]
theorem zd (n:Nat) (l:dp) (s:ByteArray):cf (l.map fun p=>(p.1,p.2*n % 4294967296)) s % 4294967296=cf l s*n % 4294967296:=by
 induction l with
 | nil=>simp [cf]
 | cons p l ih =>
  simp only [List.map_cons,cf]
  rw [Nat.add_mod,ih]
  by_cases h:p.1=s
  ·rw [if_pos h,if_pos h,Nat.add_mul,Nat.mod_mod,← Nat.add_mod]
  ·rw [if_neg h,if_neg h,Nat.zero_add]; simp
theorem Cy {n:Nat} {l:dp} (h:Nf l):KN (l.map fun p=>(p.1,p.2*n % 4294967296))=eD n l :=
 Nf.I1 (FU _) (tp h) fun s=>by rw [HP,yN,Nat.mod_mod,zd]
def gI (x:ey) (n:Nat):ey:=⟨eD n x.au,x.num*n % 4294967296⟩
def iE (x y:ey):ey:=⟨D5 x.au y.au,(x.num+y.num) % 4294967296⟩
theorem kh {x:ey} (h:Nf x.au) (n:Nat):fg x n=gI x n:=by unfold fg gI; rw [Cy h]
theorem xN {x y:ey} (h:Nf x.au) (k:Nf y.au):vG x y=iE x y:=by unfold vG iE; rw [FF h k]
theorem dF (n:Nat) (l:dp):(eD n l).length≤l.length:=List.length_filterMap_le _ _
theorem AB (n:Nat) (x y:dp):(gP n x y).length≤x.length+y.length:=by
 induction n generalizing x y with
 | zero=>simp [gP]
 | succ n ih =>
  rcases x with _ | ⟨p,x⟩ <;> rcases y with _ | ⟨q,y⟩
  ·simp [gP]
  ·have:=ih [] y
   simp only [gP,List.length_cons,List.length_nil] at this ⊢; omega
  ·have:=ih x []
   simp only [gP,List.length_cons,List.length_nil] at this ⊢; omega
  ·have h1:=ih x (q::y)
   have h2:=ih (p::x) y
   have h3:=ih x y
   simp only [List.length_cons] at h1 h2 ⊢
   simp only [gP]
   split
   ·simp only [List.length_cons]; omega
   ·split
    ·simp only [List.length_cons]; omega
    ·split
     ·omega
     ·simp only [List.length_cons]; omega
theorem kb (x y:dp):(D5 x y).length≤x.length+y.length:=AB _ x y
theorem F8 {x y:dp} {r:ByteArray × Nat} (h:r∈D5 x y):(∃ p,p∈x∧p.1=r.1)∨(∃ q,q∈y∧q.1=r.1):=lz h
theorem CW {n:Nat} {x:dp} {r:ByteArray × Nat} (h:r∈eD n x):∃ p,p∈x∧p.1=r.1:=by
 unfold eD at h
 rw [List.mem_filterMap] at h
 obtain ⟨k,hk,hr⟩:=h
 split at hr
 ·cases hr
 ·cases hr
  exact ⟨k,hk,rfl⟩
def LH (r:Option Nat) (p:Option Addr) (l lv:Nat) (k:T):T :=
 T.loop [(false,[.int .i64])] [.int .i64 (0:Int)] fun (n20:Int) =>
 cond (decide (n20<(l:Int)))
  (T.aJ (((0:Int)≤n20)∧(n20<(l:Int))) <|
  T.av p fun (a21:Addr) =>
  T.ae (a21.add ((Int.toNat n20)*2)) [.string,.int .u32] fun (s22:ByteArray) (n23:Int) =>
  T.new [.string ⟨#[]⟩,.int .u32 (0:Int)] 109 fun (a24:Addr) =>
  T.ap a24 [.string s22,.int .u32 n23] <|
  T.ae a24 [.string] fun (s25:ByteArray) =>
  T.bj Tryz.prog (Instr.lookup 286 (.map r) (.string s25) false) false [(false,[.int .u32])] fun (n26:Int) =>
  T.ae (a24.add 1) [.int .u32] fun (n27:Int) =>
  T.mQ Tryz.prog (Instr.mapUpdate 286 (.map r) (.string s25) (.int .u32 (IntKind.wrap .u32 (n26+n27)))) <|
  T.again lv [.int .i64 (IntKind.wrap .i64 (n20+(1:Int)))]) k
theorem zM (l:dp):∀ D:dp,(l.foldl jZ D).length≤D.length+l.length:=by
 induction l with
 | nil=>intro D; simp
 | cons p l ih =>
  intro D
  rw [List.foldl_cons]
  have h1:=ih (jZ D p)
  have h2:=tC D p.1 ((dI D p.1+p.2) % 4294967296)
  have h3:(jZ D p).length≤D.length+1:=h2
  simp only [List.length_cons]
  omega
theorem DZ {L:Lp} {K:Value→Hp→Prop} {h:Hp} {g:Nat} {p:Option Addr} {l:Nat} {us D:dp} {k:T} {lv:Nat} (hlv:L.length=lv) (v:pI h p l us) (hl:us.length≤2^40) (hs:∀ t,t∈us→t.1.size≤maxLen) (m:eO h g (vm D)) (hg:g∉aC p)
  (hk:∀ J h',eO h' g (vm (us.foldl jZ D))→Ch [g] h h'→k (L++[J]) K h'):LH (some g) p l lv k L K h:=by
 have hll:=v.len
 have hL:∀ J:List Value→Hp→Prop,(L++[J])[lv]?=some J:=by intro J; subst hlv; simp
 unfold LH
 refine bh (cs:=[(false,[.int .i64])]) (fun y w h'=>∃ (i:Nat),y.1=(i:Int)∧i≤us.length∧w=us.length-i∧Ch [g] h h'∧eO h' g (vm ((us.take i).foldl jZ D))) ((0:Int),()) us.length rfl
  ⟨0,rfl,by omega,by omega,Ch.refl _ _,by simpa using m⟩ ?_
 rintro ⟨n8,⟨⟩⟩ w h4 ⟨i,hi,hile,rfl,k4,m4⟩
 simp only at hi
 subst hi
 dsimp only [flat,az,ah,nA,cA]
 refine af (fun g1=>?_) (fun g1=>?_)
 ·have g1:=of_decide_eq_true g1
  have hilt:i<us.length:=by omega
  obtain ⟨a,rfl,hc⟩:=(v.ai k4 (by intro j hj hm; rw [List.mem_singleton] at hm; subst hm; exact hg hj)).cells i hilt
  have htk:us.take (i+1)=us.take i++[us[i]]:=List.take_succ_eq_append_getElem hilt
  have hsz:=hs us[i] (List.getElem_mem hilt)
  generalize us[i]=t at hc htk hsz
  refine ay ⟨by omega,by omega⟩ (aj rfl ?_)
  rw [show Int.toNat (i:Int)=i by omega]
  refine aE (t.1,(t.2:Int),()) hc ?_
  dsimp only [flat,az,ah,nA,cA]
  refine aX ?_
  intro h5 b5 e5 z5
  refine an b5 rfl (by simp) ?_
  intro h6 b6 k6 z6
  have b6:aO h6 h4.size 109 (cV t):=b6
  have e46:Ext h4 h6:=Ch.trans e5 k6 (fun j hj hl=>by simp at hj; omega)
  have m6:=m4.ai e46 (by simp)
  refine ad b6 (t.1,()) rfl ?_
  dsimp only [flat,az,ah,nA,cA]
  refine uY m6 _ ?_
  rw [ao]
  refine ad b6 ((t.2:Int),()) rfl ?_
  dsimp only [flat,az,ah,nA,cA]
  generalize hDD:(us.take i).foldl jZ D=D' at m6
  refine Hf (n:=(dI D' t.1+t.2) % 4294967296) m6 hsz ?_ ?_
  ·rw [fN,nD,Int.natCast_add]
  ·intro h7 m7 k7 z7
   have hw:IntKind.wrap .i64 ((i:Int)+1)=((i+1:Nat):Int):=by rw [wrap_i64 (by omega) (by omega)]; omega
   have hf:(us.take (i+1)).foldl jZ D=eM D' t.1 ((dI D' t.1+t.2) % 4294967296):=by
    rw [htk,List.foldl_append,hDD]
    rfl
   refine aI (cs:=[(false,[.int .i64])]) (((i+1:Nat):Int),()) (us.length-(i+1)) (hL _) (by omega) (congrArg (fun z=>[Value.int .i64 z]) hw) ⟨i+1,rfl,by omega,rfl,?_,by rw [hf]; exact m7⟩
   exact Ch.trans (Ch.trans k4 e46 (by simp)) k7 (fun j hj _=>hj)
 ·have g1:=of_decide_eq_false g1
  have hi:i=us.length:=by omega
  subst hi
  rw [List.take_length] at m4
  exact hk _ _ m4 k4
theorem Lb:Tryz.prog.underlying 288=some (.slice 91):=by kernel_rfl
theorem K7:(Tryz.prog.info? 91).map (fun i=>(i.zero,i.size,i.bytes))=some (some (.slice none 0 0),1,24):=by kernel_rfl
theorem GJ {h:Hp} {p q:Option Addr} {l c m d:Nat} {x y:ey} (v:pI h p l x.au) (u:pI h q m y.au) (hp:∀ i,i∈aC p→i<h.size) (hq:∀ i,i∈aC q→i<h.size)
  (hl:x.au.length+y.au.length≤2^40) (hx:∀ t,t∈x.au→t.1.size≤maxLen) (hy:∀ t,t∈y.au→t.1.size≤maxLen) :
  HC Tryz.prog 159 #[qQ p l c x,qQ q m d y] h fun w h'=>Ext h h'∧∃ p' l' c',w=qQ p' l' c' (vG x y)∧SL h' h.size 109 2 p' l' c' ((vG x y).au.map cV):=by
 refine aK (args:=[.agg #[.slice p l c,.int .u32 x.num],.agg #[.slice q m d,.int .u32 y.num]]) mixed Tryz.func159 (by kernel_rfl) (xI p l c x.num q m d y.num) ?_
 unfold xf
 refine aX ?_
 intro h1 b1 e1 z1
 refine aX ?_
 intro h2 b2 e2 z2
 refine aX ?_
 intro h3 b3 e3 z3
 refine qE _ ?_
 intro h4 m4 e4 z4
 refine ⟨(some h3.size,()),rfl,?_⟩
 dsimp only [flat,az,ah,nA,cA]
 have b1:=((b1.ai e2 (by simp)).ai e3 (by simp)).ai e4 (by simp)
 have b2:=(b2.ai e3 (by simp)).ai e4 (by simp)
 have b3:=b3.ai e4 (by simp)
 have e04:=((e1.trans e2).trans e3).trans e4
 refine ad b1 ((p,l,c),()) rfl ?_
 dsimp only [flat,az,ah,nA,cA]
 refine ad b2 ((q,m,d),()) rfl ?_
 dsimp only [flat,az,ah,nA,cA]
 refine dP (cells:=[.slice p l c,.slice q m d]) Lb K7 (by decide) (by decide) (by kernel_rfl) ?_
 intro h5 b5 e5 z5
 have m5:eO h5 h3.size (vm []):=m4.ai e5 (by simp)
 have b1:=b1.ai e5 (by simp)
 have b2:=b2.ai e5 (by simp)
 have b3:=b3.ai e5 (by simp)
 have e05:=e04.trans e5
 have hb5:=b5.lt
 have hm4:=m4.lt
 refine bh (cs:=[(false,[.int .i64])]) (fun z w h'=>∃ (i:Nat),z.1=(i:Int)∧i≤2∧w=2-i∧Ch [h3.size] h5 h'∧eO h' h3.size (vm ((([x.au,y.au].take i).flatten).foldl jZ []))) ((0:Int),()) 2 rfl
  ⟨0,rfl,by omega,by omega,Ch.refl _ _,m5⟩ ?_
 rintro ⟨n8,⟨⟩⟩ w h6 ⟨i,hi,hile,rfl,k6,m6⟩
 simp only at hi
 subst hi
 dsimp only [flat,az,ah,nA,cA]
 have b6:=b5.ai k6 (by simp; omega)
 have e06:Ext h h6:=Ch.trans e05 k6 (fun j hj hl=>by simp at hj; omega)
 refine af (fun g1=>?_) (fun g1=>?_)
 ·have g1:=of_decide_eq_true g1
  refine ay ⟨by omega,by omega⟩ (aj rfl ?_)
  rw [show Int.toNat (i:Int)=i by omega,ao]
  have hw:IntKind.wrap .i64 ((i:Int)+1)=((i+1:Nat):Int):=by rw [wrap_i64 (by omega) (by omega)]; omega
  have hi2:i=0∨i=1:=by omega
  rcases hi2 with rfl | rfl
  ·refine ad b6 ((p,l,c),()) rfl ?_
   dsimp only [flat,az,ah,nA,cA]
   refine DZ (us:=x.au) (D:=[]) rfl (v.ai e06 (by simp)) (by omega) hx m6 (fun hh=>by have:=hp _ hh; omega) ?_
   intro J h7 m7 k7
   refine aI (cs:=[(false,[.int .i64])]) (((0+1:Nat):Int),()) (2-(0+1)) rfl (by omega) (congrArg (fun z=>[Value.int .i64 z]) hw) ⟨0+1,rfl,by omega,rfl,Ch.trans k6 k7 (fun j hj _=>hj),?_⟩
   simpa using m7
  ·refine ad b6 ((q,m,d),()) rfl ?_
   dsimp only [flat,az,ah,nA,cA]
   refine DZ (us:=y.au) (D:=x.au.foldl jZ []) rfl (u.ai e06 (by simp)) (by omega) hy (by simpa using m6) (fun hh=>by have:=hq _ hh; omega) ?_
   intro J h7 m7 k7
   refine aI (cs:=[(false,[.int .i64])]) (((1+1:Nat):Int),()) (2-(1+1)) rfl (by omega) (congrArg (fun z=>[Value.int .i64 z]) hw) ⟨1+1,rfl,by omega,rfl,Ch.trans k6 k7 (fun j hj _=>hj),?_⟩
   simpa using m7
 ·have g1:=of_decide_eq_false g1
  have hi:i=2:=by omega
  subst hi
  have m6:eO h6 h3.size (vm ((x.au++y.au).foldl jZ [])):=by simpa using m6
  have b1:=b1.ai k6 (by simp; omega)
  have b2:=b2.ai k6 (by simp; omega)
  have b3:=b3.ai k6 (by simp; omega)
  rw [ao,ao]
  refine ad b1 ((x.num:Int),()) rfl ?_
  dsimp only [flat,az,ah,nA,cA]
  refine ad b2 ((y.num:Int),()) rfl ?_
  dsimp only [flat,az,ah,nA,cA]
  refine aB (DW m6 (by have:=zM (x.au++y.au) []; rw [List.length_append,List.length_nil] at this; omega) _) ?_
  rintro _ h7 ⟨e7,p',l',c',rfl,s7⟩
  refine ⟨((p',l',c'),IntKind.wrap .u32 ((x.num:Int)+(y.num:Int)),()),rfl,?_⟩
  dsimp only [flat,az,ah,nA,cA]
  refine an (b3.ai e7 (by simp)) rfl (by simp) ?_
  intro h8 b8 k8 z8
  have b8:aO h8 h2.size 94 [.slice p' l' c',.int .u32 (IntKind.wrap .u32 ((x.num:Int)+(y.num:Int)))]:=b8
  refine ad b8 ((p',l',c'),IntKind.wrap .u32 ((x.num:Int)+(y.num:Int)),()) rfl ?_
  have hz6:=e06.size
  have hz2:=(e1.trans e2).size
  have hb3:=b3.lt
  refine ⟨Ch.trans (e06.trans e7) k8 (fun j hj hl=>by simp at hj; omega),p',l',c',?_,(s7.bf k8 (fun j hj=>by have:=(s7.bW hj).1; simp; omega)).mono (by omega)⟩
  unfold qQ vG
  rw [fN]
  dsimp only
  rw [nD,Int.natCast_add]
abbrev cP:=Except Nat (ey × List Tok)
def CR (b:Bool) (x:ey):ey:=if b=true then gI x 4294967295 else x
def xa:ey:=⟨[],0⟩
def qP (o:Option (List Tok→cP)) (ts:List Tok):cP :=
 match ts with
 | []=>.error 20
 | t::r =>
  if t.kind=1 then if (fI t.text.data.toList).2.2=true then .error 20 else .ok (⟨[(t.text,1)],0⟩,r)
  else if t.kind=2 then .ok (⟨[],t.num⟩,r)
  else if fC t 40=true then match o with
   | none=>.error 21
   | some f=>match f r with
    | .error e=>.error e
    | .ok (x,r')=>match r' with
     | []=>.error 20
     | t'::r''=>if fC t' 41=true then .ok (x,r'') else .error 20
  else .error 20
def xH (o:Option (List Tok→cP)) (b:Bool) (ts:List Tok):cP :=
 match qP o ts with
 | .error e=>.error e
 | .ok (x,r)=>.ok (CR b x,r)
def wv (o:Option (List Tok→cP)):Bool→List Tok→cP
 | b,[]=>xH o b []
 | b,t::r=>if fC t 45=true then wv o (!b) r else xH o b (t::r)
def Bh (o:Option (List Tok→cP)) (ts:List Tok):cP:=wv o false ts
def ik (fac:List Tok→cP):Nat→ey→List Tok→cP
 | 0,x,r=>.ok (x,r)
 | n+1,x,r=>match r with
  | []=>.ok (x,[])
  | t::r'=>if fC t 42=true then match fac r' with
    | .error e=>.error e
    | .ok (y,r'')=>if x.au≠[]∧y.au≠[] then .error 21 else if y.au≠[] then ik fac n (gI y x.num) r'' else ik fac n (gI x y.num) r''
   else .ok (x,t::r')
def oI (fac:List Tok→cP) (ts:List Tok):cP :=
 match fac ts with
 | .error e=>.error e
 | .ok (x,r)=>ik fac r.length x r
def kC (part:List Tok→cP):Nat→ey→List Tok→cP
 | 0,x,r=>.ok (x,r)
 | n+1,x,r=>match r with
  | []=>.ok (x,[])
  | t::r'=>if fC t 43=true then match part r' with
    | .error e=>.error e
    | .ok (y,r'')=>kC part n (iE x y) r''
   else if fC t 45=true then match part r' with
    | .error e=>.error e
    | .ok (y,r'')=>kC part n (iE x (gI y 4294967295)) r''
   else .ok (x,t::r')
def kF (part:List Tok→cP) (ts:List Tok):cP :=
 match part ts with
 | .error e=>.error e
 | .ok (x,r)=>kC part r.length x r
def oQ:Nat→List Tok→cP
 | 0=>kF (oI (Bh none))
 | k+1=>kF (oI (Bh (some (oQ k))))
def bV (ts:List Tok):Except Nat ey :=
 match oQ 32 ts with
 | .error e=>.error e
 | .ok (x,r)=>if r=[] then .ok x else .error 20
structure Good (x:ey):Prop where
 nf:Nf x.au
 yb:∀ t,t∈x.au→bd t.1.data.toList=true
 num:x.num<4294967296
theorem jy {s:ByteArray} (h:bd s.data.toList=true):s.size≤32:=by
 unfold bd at h
 simp only [Bool.and_eq_true,decide_eq_true_eq] at h
 have:s.data.toList.length=s.size:=by simp
 omega
theorem Good.size {x:ey} (g:Good x):∀ t,t∈x.au→t.1.size≤maxLen:=fun t ht=>by
 have:=jy (g.yb t ht)
 unfold maxLen; omega
theorem Good.z:Good xa:=⟨Nf.nil,by simp [xa],by simp [xa]⟩
theorem Good.T {x:ey} (g:Good x) (n:Nat):Good (gI x n) :=
 ⟨tp g.nf,fun t ht=>by obtain ⟨p,hp,e⟩:=CW ht; rw [← e]; exact g.yb p hp,Nat.mod_lt _ (by decide)⟩
theorem Good.A {x y:ey} (g:Good x) (k:Good y):Good (iE x y) :=
 ⟨Dm g.nf k.nf,fun t ht=>by
  rcases F8 ht with ⟨p,hp,e⟩ | ⟨p,hp,e⟩
  ·rw [← e]; exact g.yb p hp
  ·rw [← e]; exact k.yb p hp,Nat.mod_lt _ (by decide)⟩
theorem Good.neg {x:ey} (g:Good x) (b:Bool):Good (CR b x):=by
 unfold CR
 split
 ·exact g.T _
 ·exact g
theorem C0 {l:dp} (h:Nf l):eD 1 l=l :=
 Nf.I1 (tp h) h fun s=>by rw [yN,Nat.mul_one]
theorem G1 {x:ey} (g:Good x):gI x 1=x:=by
 unfold gI
 rw [C0 g.nf,Nat.mul_one,Nat.mod_eq_of_lt g.num]
structure MV (t:Tok):Prop where
 num:t.num<4294967296
 name:t.kind=1→t.num=0∧bd t.text.data.toList=!(fI t.text.data.toList).2.2
def Wf (ts:List Tok):Prop:=∀ t,t∈ts→MV t
theorem Wf.suffix {r ts:List Tok} (w:Wf ts) (h:r <:+ ts):Wf r:=fun t ht=>w t (h.subset ht)
theorem Wf.tail {t:Tok} {r:List Tok} (w:Wf (t::r)):Wf r:=fun u hu=>w u (List.mem_cons_of_mem _ hu)
def j4 (ts:List Tok):cP→Prop
 | .error e=>e=20∨e=21
 | .ok (x,r)=>Good x∧r <:+ ts∧r.length<ts.length∧x.au.length+r.length≤ts.length
theorem vH {s:ByteArray} (h:bd s.data.toList=true):Good ⟨[(s,1)],0⟩ :=
 ⟨⟨by simp,by simp⟩,by simpa using h,by simp⟩
theorem xQ {o:Option (List Tok→cP)} (ho:∀ f,o=some f→∀ ts,Wf ts→j4 ts (f ts)) {ts:List Tok} (w:Wf ts):j4 ts (qP o ts):=by
 unfold qP
 cases ts with
 | nil=>exact .inl rfl
 | cons t r =>
  simp only
  split
  ·rename_i h1
   split
   ·exact .inl rfl
   ·rename_i h2
    have h3:=((w t (List.mem_cons_self ..)).name h1).2
    rw [Bool.not_eq_true] at h2
    rw [h2] at h3
    exact ⟨vH h3,List.suffix_cons _ _,by simp,by simp; omega⟩
  ·split
   ·exact ⟨⟨Nf.nil,by simp,(w t (List.mem_cons_self ..)).num⟩,List.suffix_cons _ _,by simp,by simp⟩
   ·split
    ·cases o with
     | none=>exact .inr rfl
     | some f =>
      simp only
      have hf:=ho f rfl r w.tail
      revert hf
      cases f r with
      | error e=>exact id
      | ok q =>
       obtain ⟨x,r'⟩:=q
       rintro ⟨g,s,l,n⟩
       simp only
       cases r' with
       | nil=>exact .inl rfl
       | cons t' r'' =>
        simp only
        split
        ·refine ⟨g,((List.suffix_cons _ _).trans s).trans (List.suffix_cons _ _),?_,?_⟩
         ·simp only [List.length_cons] at l ⊢; omega
         ·simp only [List.length_cons] at n ⊢; omega
        ·exact .inl rfl
    ·exact .inl rfl
theorem tE (b:Bool) (x:ey):(CR b x).au.length≤x.au.length:=by
 unfold CR
 split
 ·exact dF _ _
 ·exact Nat.le_refl _
theorem yQ {o:Option (List Tok→cP)} (ho:∀ f,o=some f→∀ ts,Wf ts→j4 ts (f ts)) {ts:List Tok} (w:Wf ts) (b:Bool):j4 ts (xH o b ts):=by
 unfold xH
 have:=xQ ho w
 revert this
 cases qP o ts with
 | error e=>exact id
 | ok q =>
  obtain ⟨x,r⟩:=q
  rintro ⟨g,s,l,n⟩
  have:=tE b x
  exact ⟨g.neg b,s,l,by omega⟩
theorem j4.cons {t:Tok} {r:List Tok} {q:cP} (h:j4 r q):j4 (t::r) q:=by
 cases q with
 | error e=>exact h
 | ok q =>
  obtain ⟨g,s,l,n⟩:=h
  exact ⟨g,s.trans (List.suffix_cons _ _),by simp only [List.length_cons]; omega,by simp only [List.length_cons]; omega⟩
theorem yr {o:Option (List Tok→cP)} (ho:∀ f,o=some f→∀ ts,Wf ts→j4 ts (f ts)):∀ {ts:List Tok} (b:Bool),Wf ts→j4 ts (wv o b ts)
 | [],b,w=>by unfold wv; exact yQ ho w b
 | t::r,b,w=>by
  unfold wv
  split
  ·exact (yr ho _ w.tail).cons
  ·exact yQ ho w b
theorem jf {o:Option (List Tok→cP)} (ho:∀ f,o=some f→∀ ts,Wf ts→j4 ts (f ts)) (ts:List Tok) (w:Wf ts):j4 ts (Bh o ts):=yr ho _ w
def J8 (m:Nat) (ts:List Tok):cP→Prop
 | .error e=>e=20∨e=21
 | .ok (x,r)=>Good x∧r <:+ ts∧x.au.length+r.length≤m
theorem qK {fac:List Tok→cP} (hf:∀ ts,Wf ts→j4 ts (fac ts)):∀ (n:Nat) {x:ey} {r:List Tok},Good x→Wf r→J8 (x.au.length+r.length) r (ik fac n x r)
 | 0,x,r,g,w=>⟨g,List.suffix_refl _,Nat.le_refl _⟩
 | n+1,x,[],g,w=>⟨g,List.suffix_refl _,Nat.le_refl _⟩
 | n+1,x,t::r',g,w=>by
  unfold ik
  simp only
  split
  ·have h1:=hf r' w.tail
   revert h1
   cases fac r' with
   | error e=>exact id
   | ok q =>
    obtain ⟨y,r''⟩:=q
    rintro ⟨k,s,l,n1⟩
    simp only
    have hs:=s.trans (List.suffix_cons t _)
    split
    ·exact .inr rfl
    ·split
     ·have h2:=qK hf n (k.T x.num) (w.suffix hs)
      revert h2
      have:=dF x.num y.au
      cases ik fac n (gI y x.num) r'' with
      | error e=>exact id
      | ok q =>
       rintro ⟨a,b,c⟩
       refine ⟨a,b.trans hs,?_⟩
       simp only [gI,List.length_cons] at c ⊢
       omega
     ·have h2:=qK hf n (g.T y.num) (w.suffix hs)
      revert h2
      have:=dF y.num x.au
      cases ik fac n (gI x y.num) r'' with
      | error e=>exact id
      | ok q =>
       rintro ⟨a,b,c⟩
       refine ⟨a,b.trans hs,?_⟩
       simp only [gI,List.length_cons] at c ⊢
       omega
  ·exact ⟨g,List.suffix_refl _,Nat.le_refl _⟩
theorem lQ {fac:List Tok→cP} (hf:∀ ts,Wf ts→j4 ts (fac ts)) (ts:List Tok) (w:Wf ts):j4 ts (oI fac ts):=by
 unfold oI
 have h1:=hf ts w
 revert h1
 cases fac ts with
 | error e=>exact id
 | ok q =>
  obtain ⟨x,r⟩:=q
  rintro ⟨g,s,l,n⟩
  have h2:=qK hf r.length g (w.suffix s)
  revert h2
  simp only
  cases ik fac r.length x r with
  | error e=>exact id
  | ok q =>
   rintro ⟨a,b,c⟩
   exact ⟨a,b.trans s,by have:=b.length_le; omega,by omega⟩
theorem sP {part:List Tok→cP} (hf:∀ ts,Wf ts→j4 ts (part ts)):∀ (n:Nat) {x:ey} {r:List Tok},Good x→Wf r→J8 (x.au.length+r.length) r (kC part n x r)
 | 0,x,r,g,w=>⟨g,List.suffix_refl _,Nat.le_refl _⟩
 | n+1,x,[],g,w=>⟨g,List.suffix_refl _,Nat.le_refl _⟩
 | n+1,x,t::r',g,w=>by
  unfold kC
  simp only
  split
  ·have h1:=hf r' w.tail
   revert h1
   cases part r' with
   | error e=>exact id
   | ok q =>
    obtain ⟨y,r''⟩:=q
    rintro ⟨k,s,l,n1⟩
    simp only
    have hs:=s.trans (List.suffix_cons t _)
    have h2:=sP hf n (g.A k) (w.suffix hs)
    revert h2
    have:=kb x.au y.au
    cases kC part n (iE x y) r'' with
    | error e=>exact id
    | ok q =>
     rintro ⟨a,b,c⟩
     refine ⟨a,b.trans hs,?_⟩
     simp only [iE,List.length_cons] at c ⊢
     omega
  ·split
   ·have h1:=hf r' w.tail
    revert h1
    cases part r' with
    | error e=>exact id
    | ok q =>
     obtain ⟨y,r''⟩:=q
     rintro ⟨k,s,l,n1⟩
     simp only
     have hs:=s.trans (List.suffix_cons t _)
     have h2:=sP hf n (g.A (k.T 4294967295)) (w.suffix hs)
     revert h2
     have:=kb x.au (eD 4294967295 y.au)
     have:=dF 4294967295 y.au
     cases kC part n (iE x (gI y 4294967295)) r'' with
     | error e=>exact id
     | ok q =>
      rintro ⟨a,b,c⟩
      refine ⟨a,b.trans hs,?_⟩
      simp only [iE,gI,List.length_cons] at c ⊢
      omega
   ·exact ⟨g,List.suffix_refl _,Nat.le_refl _⟩
theorem yH {part:List Tok→cP} (hf:∀ ts,Wf ts→j4 ts (part ts)) (ts:List Tok) (w:Wf ts):j4 ts (kF part ts):=by
 unfold kF
 have h1:=hf ts w
 revert h1
 cases part ts with
 | error e=>exact id
 | ok q =>
  obtain ⟨x,r⟩:=q
  rintro ⟨g,s,l,n⟩
  have h2:=sP hf r.length g (w.suffix s)
  revert h2
  simp only
  cases kC part r.length x r with
  | error e=>exact id
  | ok q =>
   rintro ⟨a,b,c⟩
   exact ⟨a,b.trans s,by have:=b.length_le; omega,by omega⟩
theorem lM:∀ (k:Nat) (ts:List Tok),Wf ts→j4 ts (oQ k ts)
 | 0,ts,w=>yH (lQ (jf (by intro f hf; cases hf))) ts w
 | k+1,ts,w=>yH (lQ (jf (by rintro f hf; cases hf; exact lM k))) ts w
def PB (h:Hp) (A:Nat) (ts:List Tok) (d:Int) (e:Nat):Prop :=
 ∃ p l c,aO h A 261 [.slice p l c,.int .i64 d,.int .i64 (e:Int)]∧Vw h p l c ts∧∀ i,i∈aC p→i<A
theorem PB.ai {ws:List Nat} {h h':Hp} {A:Nat} {ts:List Tok} {d:Int} {e:Nat} (b:PB h A ts d e) (k:Ch ws h h') (hw:∀ i,i∈ws→A<i):PB h' A ts d e:=by
 obtain ⟨p,l,c,b,v,hp⟩:=b
 exact ⟨p,l,c,b.ai k (fun hm=>by have:=hw _ hm; omega),v.ai k (fun i hi hm=>by have:=hw _ hm; have:=hp _ hi; omega),hp⟩
theorem PB.lt {h:Hp} {A:Nat} {ts:List Tok} {d:Int} {e:Nat} (b:PB h A ts d e):A<h.size:=by
 obtain ⟨p,l,c,b,v,hp⟩:=b
 exact b.lt
abbrev ptr (a:Nat):Value:=.pointer (some ⟨a,0,none⟩)
structure Cl (h:Hp) (A a3 a4 a5 a6:Nat):Prop where
 b3:aO h a3 259 [ptr A]
 b4:aO h a4 262 [.func (.func 158) #[] #[ptr a6,ptr a3]]
 b5:aO h a5 262 [.func (.func 152) #[] #[ptr a3,ptr a4]]
 b6:aO h a6 262 [.func (.func 157) #[] #[ptr a5,ptr a3]]
 n3:A<a3
 n4:A<a4
 n5:A<a5
 n6:A<a6
theorem Cl.lt {h:Hp} {A a3 a4 a5 a6:Nat} (c:Cl h A a3 a4 a5 a6):a3<h.size∧a4<h.size∧a5<h.size∧a6<h.size:=⟨c.b3.lt,c.b4.lt,c.b5.lt,c.b6.lt⟩
theorem Cl.ai {ws:List Nat} {h h':Hp} {A a3 a4 a5 a6:Nat} (c:Cl h A a3 a4 a5 a6) (k:Ch ws h h') (hw:∀ i,i∈ws→i=A∨h.size≤i):Cl h' A a3 a4 a5 a6:=by
 have h3:=c.b3.lt
 have h4:=c.b4.lt
 have h5:=c.b5.lt
 have h6:=c.b6.lt
 have:=c.n3
 have:=c.n4
 have:=c.n5
 have:=c.n6
 exact ⟨c.b3.ai k (fun hm=>by have:=hw _ hm; omega),c.b4.ai k (fun hm=>by have:=hw _ hm; omega),c.b5.ai k (fun hm=>by have:=hw _ hm; omega),c.b6.ai k (fun hm=>by have:=hw _ hm; omega),by omega,by omega,by omega,by omega⟩
def eN (e:Nat) (ts:List Tok) (c:UInt8):Bool:=decide (e=0) && match ts with
 | []=>false
 | t::_=>fC t c
theorem jg {h:Hp} {a:Addr} {t:Tok} (hc:aG h (a.add (0*4)) 0 (ec t)):aG h a 0 [.int .i64 (t.kind:Int)]∧aG h (a.add 1) 0 [.string t.text]∧aG h a 0 (ec t):=by
 rw [show a.add (0*4)=a by simp [Addr.add]] at hc
 obtain ⟨h1,h2,h3⟩:=hc
 exact ⟨⟨h1,trivial⟩,⟨by rw [add_add]; exact h2,trivial⟩,h1,h2,h3⟩
theorem jh {h:Hp} {A:Nat} {ts:List Tok} {d:Int} {e:Nat} (b:PB h A ts d e) (c:UInt8) :
  HC Tryz.prog 153 #[ptr A,.string ⟨#[c]⟩] h fun v h'=>v=.bool (eN e ts c)∧Ch [A] h h'∧h'.size=h.size∧PB h' A (if eN e ts c=true then ts.tail else ts) d e:=by
 obtain ⟨p,l,cc,b,v,hp⟩:=b
 refine aK (args:=[ptr A,.string ⟨#[c]⟩]) mixed Tryz.func153 (by kernel_rfl) (me (some ⟨A,0,none⟩) ⟨#[c]⟩) ?_
 have no:eN e ts c=false→T.ret (.bool false) [] (fun v h'=>v=.bool (eN e ts c)∧Ch [A] h h'∧h'.size=h.size∧PB h' A (if eN e ts c=true then ts.tail else ts) d e) h:=by
  intro hn
  refine ⟨by rw [hn],Ch.refl _ _,rfl,?_⟩
  rw [if_neg (by rw [hn]; simp)]
  exact ⟨p,l,cc,b,v,hp⟩
 unfold iV
 refine aj rfl ?_
 rw [ao]
 refine ad b ((e:Int),()) rfl ?_
 dsimp only [flat,az,ah,nA,cA]
 have hlen:=v.len
 have hcap:=v.cap
 refine af (fun g1=>?_) (fun g1=>?_)
 ·have g1:¬ e=0:=by simpa using g1
  refine no ?_
  unfold eN
  rw [decide_eq_false g1]
  rfl
 ·have g1:e=0:=by simpa using g1
  subst g1
  refine aj rfl (ad b ((p,l,cc),()) rfl ?_)
  dsimp only [flat,az,ah,nA,cA]
  refine af (fun g2=>?_) (fun g2=>?_)
  ·have g2:l=0:=by simpa using g2
   have:ts=[]:=List.length_eq_zero_iff.1 (by omega)
   subst this
   exact no rfl
  ·have g2:¬ l=0:=by simpa using g2
   cases ts with
   | nil=>simp at hlen; omega
   | cons t r =>
    obtain ⟨a,rfl,hc⟩:=v.cells 0 (by simp)
    obtain ⟨c1,c2,c3⟩:=jg (t:=t) hc
    refine aj rfl (ad b ((some a,l,cc),()) rfl ?_)
    dsimp only [flat,az,ah,nA,cA]
    refine ay ⟨by omega,by omega⟩ (aj rfl (aE ((t.kind:Int),()) c1 ?_))
    dsimp only [flat,az,ah,nA,cA]
    refine af (fun g3=>?_) (fun g3=>?_)
    ·have g3:¬ (t.kind:Int)=3:=by simpa using g3
     refine no ?_
     have g4:¬ t.kind=3:=by omega
     simp [eN,fC,g4]
    ·have g3:(t.kind:Int)=3:=by simpa using g3
     refine aj rfl (ad b ((some a,l,cc),()) rfl ?_)
     dsimp only [flat,az,ah,nA,cA]
     refine ay ⟨by omega,by omega⟩ (aj rfl (aE (t.text,()) c2 ?_))
     dsimp only [flat,az,ah,nA,cA]
     have e0:eN 0 (t::r) c=(ByteArray.toList t.text==ByteArray.toList ⟨#[c]⟩):=by
      show (true && fC t c)=_
      rw [← Dr,g3]
      rfl
     refine af (fun g4=>?_) (fun g4=>?_)
     ·refine no ?_
      rw [e0]
      simpa using g4
     ·have g4:eN 0 (t::r) c=true:=by
       rw [e0]
       simpa using g4
      refine aj rfl (ad b ((some a,l,cc),()) rfl ?_)
      dsimp only [flat,az,ah,nA,cA]
      refine ay ⟨by omega,by omega,by omega⟩ (aj rfl ?_)
      refine an b rfl (by simp) ?_
      intro h1 b1 k1 z1
      rw [g4]
      refine ⟨rfl,k1,z1,?_⟩
      rw [if_pos rfl]
      refine ⟨_,_,_,b1,((v.drop (k:=1) (by omega)).ai k1 ?_),?_⟩
      ·intro i hi hm
       rw [lL] at hi
       rw [List.mem_singleton] at hm
       have:=hp _ hi
       omega
      ·intro i hi
       exact hp _ (by have:=lL (some a) cc 1 4; rw [← this]; exact hi)
theorem kg {h:Hp} {A:Nat} {ts:List Tok} {d:Int} {e:Nat} (b:PB h A ts d e) (w:Nat) :
  HC Tryz.prog 154 #[ptr A,.int .i64 (w:Int)] h fun v h'=>v=.tuple #[]∧Ch [A] h h'∧h'.size=h.size∧PB h' A ts d (if e=0 then w else e):=by
 obtain ⟨p,l,cc,b,v,hp⟩:=b
 refine aK (args:=[ptr A,.int .i64 (w:Int)]) mixed Tryz.func154 (by kernel_rfl) (ki (some ⟨A,0,none⟩) w) ?_
 unfold gu
 refine aj rfl ?_
 rw [ao]
 refine ad b ((e:Int),()) rfl ?_
 dsimp only [flat,az,ah,nA,cA]
 refine af (fun g1=>?_) (fun g1=>?_)
 ·have g1:e=0:=by simpa using g1
  refine aj rfl ?_
  rw [ao]
  refine an b rfl (by simp) ?_
  intro h1 b1 k1 z1
  refine ⟨rfl,k1,z1,p,l,cc,?_,v.ai k1 ?_,hp⟩
  ·rw [if_pos g1]; exact b1
  ·intro i hi hm
   rw [List.mem_singleton] at hm
   have:=hp _ hi
   omega
 ·have g1:¬ e=0:=by simpa using g1
  exact ⟨rfl,Ch.refl _ _,rfl,p,l,cc,by rw [if_neg g1]; exact b,v,hp⟩
theorem Fv (s:ByteArray) (h:Hp):HC Tryz.prog 155 #[.string s] h fun w h'=>Ext h h'∧∃ p l c,w=qQ p l c ⟨[(s,1)],0⟩∧SL h' h.size 109 2 p l c ([(s,1)].map cV):=by
 refine aK (args:=[.string s]) mixed Tryz.func155 (by kernel_rfl) (uv s) ?_
 unfold rA
 refine aX ?_
 intro h1 b1 e1 z1
 refine dP (cells:=[.string s,.int .u32 1]) JQ JN (by decide) (by decide) (by kernel_rfl) ?_
 intro h2 b2 e2 z2
 refine an (b1.ai e2 (by simp)) rfl (by simp) ?_
 intro h3 b3 k3 z3
 have b3:aO h3 h.size 94 [.slice (some ⟨h1.size,0,none⟩) 1 1,.int .u32 0]:=b3
 refine ad b3 ((some ⟨h1.size,0,none⟩,1,1),(0:Int),()) rfl ?_
 refine ⟨Ch.trans (e1.trans e2) k3 (fun j hj hl=>by simp at hj; omega),some ⟨h1.size,0,none⟩,1,1,rfl,rfl,by simp [cV],h1.size,[],[],rfl,by omega,by omega,?_,rfl⟩
 exact b2.ai k3 (by simp; omega)
end Go.Sx
