/- Contracts over heaps, and plain laws, for the functions that the laws of chapter 8 call, part 10: The sizes of what is read, and the law's own comparisons, over heaps. The law's  Condition: as each statement says. -/
import Derived.Test.YtgnhjkofpmchpaaGreatDoorP9
import Derived.Test.YtgnhjkofpmchpaaGreatDoorItK
import Derived.Test.YtgnhjkofpmchpaaGreatDoorItF
import Derived.Test.YtgnhjkofpmchpaaGreatDoorRows
import Derived.ProofKit
import Derived.LaidMore
import Derived.LaidLaws
import Derived.OpenShut
import Derived.ChangeSame
import Derived.ChangeStays
import Derived.ChangeOld
import Derived.ChangeSlices
import Derived.ChangeMaps5
import Derived.JoinedCond
import Derived.Lib.LaidTab
import Derived.Stop.Joined
import Derived.Test.YtgnhjkofpmchpaaGreatDoorTie
import Derived.Test.YtgnhjkofpmchpaaGreatDoorCards
import Derived.SevenTiedAt
set_option linter.unusedVariables false
set_option linter.unusedSimpArgs false
set_option maxRecDepth 100000
namespace Go.Sx.Ob
open Go.Proofs
theorem parseX_len {ts:List Tok} {x:Lin} (hw:Wf ts) (h:parseX ts=.ok x):x.terms.length≤ts.length:=by
 unfold parseX at h
 have:=sumD_fine 32 ts hw
 cases hs:sumD 32 ts with
 | error e=>rw [hs] at h; cases h
 | ok q =>
  rw [hs] at h this
  simp only at h
  split at h
  ·injection h with h
   subst h
   obtain ⟨_,_,_,h4⟩:=this
   omega
  ·cases h
theorem valA_len {pool:Bool} {ts:List Tok} {x:Lin} (hw:Wf ts) (h:valA pool ts=.ok x):x.terms.length≤ts.length:=by
 unfold valA at h
 split at h
 ·exact parseX_len hw h
 ·split at h
  ·cases h
  ·split at h
   ·have:=parseX_len hw.tail h
    simp only [List.length_cons]; omega
   ·cases h
def Bd (n:Nat) (x:Itm):Prop:=x.e.terms.length≤n
theorem argA_len {n:Nat} {x y:Itm} {r:Rdr} {ts:List Tok} (hw:Wf ts) (hn:ts.length≤n) (hx:Bd n x) (h:argA x r ts=.ok y):Bd n y:=by
 unfold argA at h
 unfold Bd at *
 split at h
 ·split at h
  ·cases h
  ·injection h with h
   subst h
   split
   ·exact hx
   ·split
    ·exact hx
    ·exact hx
 ·split at h
  ·cases h
  ·injection h with h
   subst h
   exact hx
 ·split at h
  ·cases h
  ·rename_i hv
   injection h with h
   subst h
   have:=valA_len hw hv
   simp only [putE]; omega
theorem codeL_len {n:Nat}:∀ (rs:List Rdr) (args:List (List Tok)) (x y:Itm),(∀ a,a∈args→Wf a∧a.length≤n)→Bd n x→codeL x rs args=.ok y→Bd n y
 | [],args,x,y,_,hx,h=>by
  have h:Except.ok x=(Except.ok y:Except Nat Itm):=by cases args <;> exact h
  injection h with h
  subst h
  exact hx
 | r::rs,[],x,y,_,hx,h=>by
  simp only [codeL] at h
  injection h with h
  subst h
  exact hx
 | r::rs,a::args,x,y,ha,hx,h=>by
  simp only [codeL] at h
  split at h
  ·cases h
  ·rename_i z hz
   exact codeL_len rs args z y (fun b hb=>ha b (by simp [hb])) (argA_len (ha a (by simp)).1 (ha a (by simp)).2 hx hz) h
theorem codeA_len {n:Nat} {op:Int} {args:List (List Tok)} {y:Itm} (ha:∀ a,a∈args→Wf a∧a.length≤n) (h:codeA op args=.ok y):Bd n y:=by
 unfold codeA at h
 split at h
 ·cases h
 ·exact codeL_len _ _ _ _ ha (by simp [Bd,code0,itm,lin0]) h
theorem itemA_len {n k:Nat} {ts:List Tok} {y:Itm} (hw:Wf ts) (hn:ts.length≤n) (h:itemA k ts=.ok y):Bd n y:=by
 unfold itemA at h
 split at h
 ·split at h
  ·cases h
  ·injection h with h
   subst h
   simp [Bd,itm,lin0]
 ·split at h
  ·cases h
  ·rename_i x hx
   injection h with h
   subst h
   have:=parseX_len hw hx
   unfold Bd; simp only; omega
theorem itemsA_len {n k:Nat}:∀ (args:List (List Tok)) (l:List Itm),(∀ a,a∈args→Wf a∧a.length≤n)→itemsA k args=.ok l→l.length=args.length∧∀ x,x∈l→Bd n x
 | [],l,_,h=>by
  simp only [itemsA] at h
  injection h with h
  subst h
  simp
 | a::args,l,ha,h=>by
  simp only [itemsA] at h
  split at h
  ·cases h
  ·rename_i x hx
   split at h
   ·cases h
   ·rename_i l' hl
    injection h with h
    subst h
    have:=itemsA_len args l' (fun b hb=>ha b (by simp [hb])) hl
    refine ⟨by simp [this.1],fun y hy=>?_⟩
    rcases List.mem_cons.1 hy with rfl | hy
    ·exact itemA_len (ha a (by simp)).1 (ha a (by simp)).2 hx
    ·exact this.2 y hy
structure ThgSz (n:Nat) (t:Thg):Prop where
 many:t.items.length≤n
 item:∀ x,x∈t.items→Bd n x
 e:t.e.terms.length≤n
theorem ThgSz.z (n:Nat):ThgSz n thg0:=⟨by simp [thg0],by simp [thg0],by simp [thg0,lin0]⟩
theorem ThgSz.one {n:Nat} {x:Itm} (hn:1≤n) (h:Bd n x):ThgSz n (oneT x):=⟨by simp [oneT]; omega,by simp [oneT]; exact h,by simp [oneT,thg0,lin0]⟩
theorem dirA_sz {n:Nat} {op:ByteArray} {args:List (List Tok)} {t:Thg} {w:Nat} (hn:1≤n) (ha:∀ a,a∈args→Wf a∧a.length≤n) (hl:args.length≤n) (h:dirA op args=.ok (t,w)):ThgSz n t:=by
 have hag:∀ i,Wf (ag args i)∧(ag args i).length≤n:=by
  intro i
  unfold ag
  rw [List.getD_eq_getElem?_getD]
  cases hh:args[i]? with
  | none=>exact ⟨fun t ht=>by simp at ht,by simp⟩
  | some a=>exact ha a (List.mem_of_getElem? hh)
 have z:∀ x:Itm,x.e=lin0→Bd n x:=fun x hx=>by unfold Bd; rw [hx]; simp [lin0]
 unfold dirA at h
 simp only at h
 split at h
 ·cases h
 split at h
 ·injection h with h; injection h with h _; subst h
  exact ThgSz.one hn (z _ rfl)
 split at h
 ·split at h
  ·cases h
  split at h
  ·injection h with h; injection h with h _; subst h
   exact ThgSz.one hn (z _ rfl)
  ·cases h
 split at h
 ·split at h
  ·cases h
  injection h with h; injection h with h _; subst h
  exact ThgSz.one hn (z _ rfl)
 split at h
 ·split at h
  ·cases h
  split at h
  ·cases h
  rename_i l hh
  injection h with h; injection h with h _; subst h
  have:=itemsA_len args l ha hh
  exact ⟨by simp only; omega,this.2,by simp [thg0,lin0]⟩
 split at h
 ·split at h
  ·cases h
  split at h
  ·cases h
  rename_i l hh
  injection h with h; injection h with h _; subst h
  have:=itemsA_len args l ha hh
  exact ⟨by simp only; omega,this.2,by simp [thg0,lin0]⟩
 split at h
 ·split at h
  ·cases h
  split at h
  ·cases h
  rename_i x hx
  injection h with h; injection h with h _; subst h
  have:=parseX_len (hag 1).1 hx
  exact ⟨by simp [thg0],by simp [thg0],by have:=(hag 1).2; simp only; omega⟩
 split at h
 ·split at h
  ·cases h
  injection h with h; injection h with h _; subst h
  exact ⟨by simp [thg0],by simp [thg0],by simp [thg0,lin0]⟩
 split at h
 ·split at h
  ·injection h with h; injection h with h _; subst h
   exact ⟨by simp [thg0],by simp [thg0],by simp [thg0,lin0]⟩
  split at h
  ·injection h with h; injection h with h _; subst h
   exact ⟨by simp [thg0],by simp [thg0],by simp [thg0,lin0]⟩
  ·cases h
 ·cases h
theorem readA_sz {n:Nat} {l:Ln} {data:Bool} {t:Thg} (hn:1≤n) (ha:∀ a,a∈l.args→Wf a∧a.length≤n) (hl:l.args.length≤n) (h:readA l data=.ok t):ThgSz n t:=by
 unfold readA at h
 split at h
 ·injection h with h
  subst h
  exact ThgSz.z n
 split at h
 ·split at h
  ·cases h
  rename_i x hx
  split at h
  ·cases h
  injection h with h
  subst h
  exact ThgSz.one hn (codeA_len ha hx)
 split at h
 ·cases h
 rename_i t' w' hd
 by_cases g:w'=2∨w'=(if data then 1 else 0)
 ·rw [if_pos g] at h
  injection h with h
  subst h
  exact dirA_sz hn ha hl hd
 ·rw [if_neg g] at h
  cases h
theorem shp_sm {op:Int} (h:shp op≠0):Sm op:=by
 unfold shp at h
 unfold Sm
 split at h
 ·exact absurd rfl h
 ·by_cases g:op≤43
  ·omega
  ·exfalso
   apply h
   rw [List.getD_eq_getElem?_getD,List.getElem?_eq_none (by simp only [shpL,List.length_cons,List.length_nil]; omega)]
   rfl
theorem itmR_at {h:Hp} {p:Option Addr} {l:Nat} {x:Itm} {k n:Nat} (hn:n≤2^60) (hr:itmR x k=true) (g:Good x.e) (hx:Bd n x) (v:VwT h p l x.e.terms):ItmAt h p l x:=by
 refine ⟨⟨v,by unfold Bd at hx; omega,g.size⟩,?_,?_⟩
 ·have z:z1 x=true→x.name.size≤maxLen:=fun e=>by
   have e:x.name=nam0:=of_decide_eq_true e
   rw [e]; decide
  unfold itmR at hr
  repeat' split at hr
  all_goals try simp only [Bool.and_eq_true] at hr
  ·have:=legal_size hr.1.1.1
   unfold maxLen; omega
  all_goals first | exact z hr.1.1.1 | exact z hr.1.1 | exact z hr.1.2 | exact z hr.1.1.1.2 | exact z hr.1.1.2 | (cases hr; done)
 ·have z:z2 x=true→Sm x.inst.op:=fun e=>by
   have e:x.inst=ins0:=of_decide_eq_true e
   rw [e]; unfold Sm ins0; simp
  unfold itmR at hr
  repeat' split at hr
  all_goals try simp only [Bool.and_eq_true] at hr
  ·exact z hr.1.1.2
  ·have h1:=hr.1.1.2
   unfold insR at h1
   simp only [Bool.and_eq_true] at h1
   exact shp_sm (of_decide_eq_true h1.1.1)
  all_goals first | exact z hr.1.1.1.2 | exact z hr.1.1.2 | exact z hr.1.2 | exact z hr.2 | (cases hr; done)
structure ThgGd (t:Thg):Prop where
 ok:∃ d,ThgOk t d
 sz:ThgSz (2^40) t
theorem ThgAt.vwI {h:Hp} {b:Nat} {t:Thg} {sl se:Sli} {us:List (Sli × Itm)} (g:ThgGd t) (A:ThgAt h b t sl us se):VwI h sl.p sl.l t.items:=by
 obtain ⟨d,ok⟩:=g.ok
 have he:=A.eq
 have hlen:us.length=t.items.length:=by rw [← he,List.length_map]
 refine ⟨by rw [A.its.len,hlen],by have:=g.sz.many; omega,fun i hi=>?_⟩
 have hi':i<us.length:=by omega
 obtain ⟨a,ha,hc⟩:=A.its.out.cells (i:=i) (by rw [List.length_map]; exact hi')
 rw [List.getElem_map] at hc
 have e:t.items[i]=us[i].2:=by
  have:(us.map (·.2))[i]'(by rw [List.length_map]; exact hi')=us[i].2:=by simp
  rw [← this]
  exact getE he.symm _ _
 have hm:t.items[i]∈t.items:=List.getElem_mem hi
 have hr:=ok.items _ hm
 have hs:=g.sz.item _ hm
 have ho:=A.its.own us[i] (List.getElem_mem hi')
 rw [e] at hr hs ⊢
 exact ⟨a,us[i].1.p,us[i].1.l,us[i].1.c,ha,hc,itmR_at (by omega) hr.1 hr.2 hs ho.vwT⟩
theorem sayR_gd (s:ByteArray) (hs:s.size≤2^20) (sec:Int):ThgGd (sayR s sec).1:=by
 have z:ThgGd thg0:=⟨⟨false,ThgOk.z _⟩,ThgSz.z _⟩
 unfold sayR
 split
 ·exact z
 ·cases hr:readA (parseS s).1 (decide (sec=1)) with
  | error e=>exact z
  | ok t =>
   have f:=parse_facts s hs
   have f2:=(parseS_bound s).2
   exact ⟨⟨_,readA_right (fun a ha=>(f a ha).1) hr⟩,readA_sz (by decide) (fun a ha=>⟨(f a ha).1,(f a ha).2.1⟩) (by omega) hr⟩
theorem same10_hc {h:Hp} {b b':Nat} {t:Thg} {sl se sl' se':Sli} {us us':List (Sli × Itm)} (g:ThgGd t) (A:ThgAt h b t sl us se) (A':ThgAt h b' t sl' us' se') :
  HC Tryz.prog 10 #[thgV t.kind sl t.name se t.e.num t.sec,thgV t.kind sl' t.name se' t.e.num t.sec] h fun w h'=>w=.bool true∧Ext h h':=by
 refine hcr_of (args:=[thgV t.kind sl t.name se t.e.num t.sec,thgV t.kind sl' t.name se' t.e.num t.sec]) mixed Tryz.func10 (by kernel_rfl) (t_spandrellaw8_same_eq t.kind sl.p sl.l sl.c t.name se.p se.l se.c t.e.num t.sec t.kind sl'.p sl'.l sl'.c t.name se'.p se'.l se'.c t.e.num t.sec) ?_
 unfold t_spandrellaw8_same
 refine newB ?_
 intro g1 b1 e1 z1
 refine newB ?_
 intro g2 b2 e2 z2
 have b1:=b1.keep e2 (by simp)
 have e02:=e1.trans e2
 have b1:Box g2 h.size 28 (thgC t.kind sl.p sl.l sl.c t.name se.p se.l se.c t.e.num t.sec):=b1
 have b2:Box g2 g1.size 30 (thgC t.kind sl'.p sl'.l sl'.c t.name se'.p se'.l se'.c t.e.num t.sec):=b2
 refine loads_box b1 ((t.kind:Int),()) rfl ?_
 dsimp only [flat,unc,unc1,nA,cA]
 refine loads_box b2 ((t.kind:Int),()) rfl ?_
 dsimp only [flat,unc,unc1,nA,cA]
 refine cond_t (by simp) ?_
 rw [add_box,add_box]
 refine loads_box b1 ((sl.p,sl.l,sl.c),()) rfl ?_
 dsimp only [flat,unc,unc1,nA,cA]
 refine loads_box b2 ((sl'.p,sl'.l,sl'.c),()) rfl ?_
 dsimp only [flat,unc,unc1,nA,cA]
 refine call_of (sameItems_hc ((A.vwI g).keep e02) ((A'.vwI g).keep e02)) ?_
 rintro _ g3 ⟨bb,rfl,hb,e3⟩
 have hb:bb=true:=hb.2 rfl
 subst hb
 refine ⟨(true,()),rfl,?_⟩
 dsimp only [flat,unc,unc1,nA,cA]
 refine cond_t rfl ?_
 have b1:=b1.keep e3 (by simp)
 have b2:=b2.keep e3 (by simp)
 have e03:=e02.trans e3
 rw [add_box,add_box]
 refine loads_box b1 (t.name,()) rfl ?_
 dsimp only [flat,unc,unc1,nA,cA]
 refine loads_box b2 (t.name,()) rfl ?_
 dsimp only [flat,unc,unc1,nA,cA]
 refine cond_t (by simp) ?_
 rw [add_box,add_box]
 refine loads_box b1 ((se.p,se.l,se.c),(t.e.num:Int),()) rfl ?_
 dsimp only [flat,unc,unc1,nA,cA]
 refine loads_box b2 ((se'.p,se'.l,se'.c),(t.e.num:Int),()) rfl ?_
 dsimp only [flat,unc,unc1,nA,cA]
 refine call_of (same48_hc (A.e.vwT.keep e03 (by simp)) (A'.e.vwT.keep e03 (by simp)) (by have:=g.sz.e; omega)) ?_
 rintro _ g4 ⟨rfl,e4⟩
 rw [linB_refl]
 refine ⟨(true,()),rfl,?_⟩
 dsimp only [flat,unc,unc1,nA,cA]
 refine cond_t rfl ?_
 have b1:=b1.keep e4 (by simp)
 have b2:=b2.keep e4 (by simp)
 rw [add_box,add_box]
 refine loads_box b1 ((t.sec:Int),()) rfl ?_
 dsimp only [flat,unc,unc1,nA,cA]
 refine loads_box b2 ((t.sec:Int),()) rfl ?_
 dsimp only [flat,unc,unc1,nA,cA]
 exact ⟨by simp,e03.trans e4⟩
theorem says_hc {h:Hp} (tb:TabN h) (ld:Laid h) (s:ByteArray) (hs:s.size≤2^20) (sec why:Int):HC Tryz.prog 18 #[.string s,.int .i64 sec,.int .i64 why] h fun w h'=>w=.bool (decide (((sayR s sec).2:Int)=why))∧Ext h h':=by
 refine hcr_of (args:=[.string s,.int .i64 sec,.int .i64 why]) mixed Tryz.func18 (by kernel_rfl) (t_spandrellaw8_says_eq s sec why) ?_
 unfold t_spandrellaw8_says
 refine call_of (lread_hc tb ld s hs sec) ?_
 rintro _ g1 ⟨e1,sl,us,se,sl',us',se',rfl,A,A'⟩
 have gd:=sayR_gd s hs sec
 obtain ⟨R,hR⟩:∃ R,sayR s sec=R:=⟨_,rfl⟩
 rw [hR] at A A' gd ⊢
 refine ⟨((R.1.kind:Int),(sl.p,sl.l,sl.c),R.1.name,(se.p,se.l,se.c),(R.1.e.num:Int),(R.1.sec:Int),(R.2:Int),(R.1.kind:Int),(sl'.p,sl'.l,sl'.c),R.1.name,(se'.p,se'.l,se'.c),(R.1.e.num:Int),(R.1.sec:Int),(R.2:Int),true,()),rfl,?_⟩
 dsimp only [flat,unc,unc1,nA,cA]
 refine newB ?_
 intro g2 b2 e2 z2
 refine newB ?_
 intro g3 b3 e3 z3
 have b2:=b2.keep e3 (by simp)
 have e13:=e2.trans e3
 refine stores_of b2 rfl (by simp) ?_
 intro g4 b4 k4 z4
 have b34:=b3.keep k4 (by simp; omega)
 refine stores_of b34 rfl (by simp) ?_
 intro g5 b5 k5 z5
 have b45:=b4.keep k5 (by simp; omega)
 have b45:Box g5 g1.size 28 (thgC R.1.kind sl.p sl.l sl.c R.1.name se.p se.l se.c R.1.e.num R.1.sec):=b45
 have b5:Box g5 g2.size 30 (thgC R.1.kind sl'.p sl'.l sl'.c R.1.name se'.p se'.l se'.c R.1.e.num R.1.sec):=b5
 have e14:Ext g1 g4:=Ch.trans e13 k4 (fun i hi hl=>by simp at hi; omega)
 have e15:Ext g1 g5:=Ch.trans e14 k5 (fun i hi hl=>by simp at hi; omega)
 have e05:=e1.trans e15
 refine cond_t rfl ?_
 by_cases q:(R.2:Int)=why
 ·refine cond_t (by simpa using q) (cond_t (by simpa using q) ?_)
  refine loads_box b45 ((R.1.kind:Int),(sl.p,sl.l,sl.c),R.1.name,(se.p,se.l,se.c),(R.1.e.num:Int),(R.1.sec:Int),()) rfl ?_
  dsimp only [flat,unc,unc1,nA,cA]
  refine loads_box b5 ((R.1.kind:Int),(sl'.p,sl'.l,sl'.c),R.1.name,(se'.p,se'.l,se'.c),(R.1.e.num:Int),(R.1.sec:Int),()) rfl ?_
  dsimp only [flat,unc,unc1,nA,cA]
  refine call_of (same10_hc gd (A.keep e15 (by simp)) (A'.keep e15 (by simp))) ?_
  rintro _ g6 ⟨rfl,e6⟩
  refine ⟨(true,()),rfl,?_⟩
  dsimp only [flat,unc,unc1,nA,cA]
  exact ⟨by rw [decide_eq_true q],e05.trans e6⟩
 ·refine cond_f (by simpa using q) ?_
  exact ⟨by rw [decide_eq_false q],e05⟩
abbrev klA:ByteArray:=⟨#[97,100,100,32,114,49,44,32,114,50]⟩
abbrev klB:ByteArray:=⟨#[108,105,115,32,114,49,44,32,50,48,48]⟩
theorem sayA:sayR klA 0=(oneT { itm 2 with inst:=⟨14,1,2,0,0⟩ },0):=by kernel_rfl
theorem sayA1:(sayR klA 1).2=21:=by kernel_rfl
theorem sayB:(sayR klB 0).2=21:=by kernel_rfl
theorem known_hc {h:Hp} (tb:TabN h) (ld:Laid h):HC Tryz.prog 11 #[] h fun w h'=>w=.bool true∧Ext h h':=by
 refine hcr_of (args:=[]) mixed Tryz.func11 (by kernel_rfl) t_spandrellaw8_known_eq ?_
 unfold t_spandrellaw8_known
 refine call_of (lread_hc tb ld klA (by decide) 0) ?_
 rintro _ g1 ⟨e1,sl,us,se,sl',us',se',rfl,A,A'⟩
 rw [sayA] at A A' ⊢
 obtain ⟨x,hx⟩:∃ x:Itm,x={ itm 2 with inst:=⟨14,1,2,0,0⟩ }:=⟨_,rfl⟩
 rw [← hx] at A A' ⊢
 refine ⟨((1:Int),(sl.p,sl.l,sl.c),nam0,(se.p,se.l,se.c),(0:Int),(0:Int),(0:Int),(1:Int),(sl'.p,sl'.l,sl'.c),nam0,(se'.p,se'.l,se'.c),(0:Int),(0:Int),(0:Int),true,()),rfl,?_⟩
 dsimp only [flat,unc,unc1,nA,cA]
 refine newB ?_
 intro g2 b2 e2 z2
 refine newB ?_
 intro g3 b3 e3 z3
 have b2:=b2.keep e3 (by simp)
 have e13:=e2.trans e3
 refine stores_of b2 rfl (by simp) ?_
 intro g4 b4 k4 z4
 have b34:=b3.keep k4 (by simp; omega)
 refine stores_of b34 rfl (by simp) ?_
 intro g5 b5 k5 z5
 have b45:=b4.keep k5 (by simp; omega)
 have b45:Box g5 g1.size 28 (thgC 1 sl.p sl.l sl.c nam0 se.p se.l se.c 0 0):=b45
 have e14:Ext g1 g4:=Ch.trans e13 k4 (fun i hi hl=>by simp at hi; omega)
 have e15:Ext g1 g5:=Ch.trans e14 k5 (fun i hi hl=>by simp at hi; omega)
 have e05:=e1.trans e15
 refine cond_t rfl (cond_t rfl ?_)
 refine loads_box b45 ((1:Int),()) rfl ?_
 dsimp only [flat,unc,unc1,nA,cA]
 refine cond_t rfl ?_
 rw [add_box]
 have hlen:us.length=1:=by
  have:=congrArg List.length A.eq
  rw [List.length_map] at this
  exact this
 have hl:sl.l=1:=by rw [A.its.len,hlen]
 refine loads_box b45 ((sl.p,sl.l,sl.c),()) rfl ?_
 dsimp only [flat,unc,unc1,nA,cA]
 rw [hl]
 refine cond_t rfl ?_
 refine loads_box b45 ((sl.p,sl.l,sl.c),()) rfl ?_
 dsimp only [flat,unc,unc1,nA,cA]
 rw [hl]
 have A5:=A.keep e15 (by simp)
 obtain ⟨a,ha,hc⟩:=A5.its.out.cells (i:=0) (by rw [List.length_map]; omega)
 rw [List.getElem_map] at hc
 have hx0:us[0].2=x:=by
  have h1:(us.map (·.2))[0]'(by rw [List.length_map]; omega)=us[0].2:=by simp
  rw [← h1]
  exact getE (show us.map (·.2)=[x] from A.eq) _ (by simp)
 rw [show a.add (0*10)=a by simp [Addr.add]] at hc
 have hc:cellsAt g5 a 0 (encI us[0].1.p us[0].1.l us[0].1.c x):=by rw [← hx0]; exact hc
 rw [ha]
 refine need_of ⟨by decide,by decide⟩ (osome_mk rfl ?_)
 have hc2:cellsAt g5 (a.add 2) 0 [.int .i64 14,.int .i64 1,.int .i64 2,.int .i32 0,.int .i64 0]:=by
  rw [hx] at hc
  exact cellsAt_add _ 2 0 ⟨hc.2.2.1,hc.2.2.2.1,hc.2.2.2.2.1,hc.2.2.2.2.2.1,hc.2.2.2.2.2.2.1,trivial⟩
 refine loads_of ((14:Int),(1:Int),(2:Int),(0:Int),(0:Int),()) hc2 ?_
 dsimp only [flat,unc,unc1,nA,cA]
 refine sem_bool (fun K' hK=>cmpInsE _ _ ⟨14,1,2,0,0⟩ ⟨14,1,2,0,0⟩ g5 K' hK) ?_
 refine cond_t (by decide) ?_
 refine call_of (says_hc (tb.keep e05 (by simp)) (ld.ext e05) klA (by decide) 1 21) ?_
 rintro _ g6 ⟨rfl,e6⟩
 rw [sayA1]
 refine ⟨(true,()),rfl,?_⟩
 dsimp only [flat,unc,unc1,nA,cA]
 refine cond_t rfl ?_
 have e06:=e05.trans e6
 refine call_of (says_hc (tb.keep e06 (by simp)) (ld.ext e06) klB (by decide) 0 21) ?_
 rintro _ g7 ⟨rfl,e7⟩
 rw [sayB]
 refine ⟨(true,()),rfl,?_⟩
 dsimp only [flat,unc,unc1,nA,cA]
 exact ⟨rfl,e06.trans e7⟩
def rightV (x:Itm) (sec:Int):Int:=if sec=0 then (if itmR x 0 then 0 else 31) else if sec=1 then (if itmR x 1 then 0 else 31) else 1
theorem sec_cases {sec:Int} (h0:¬ sec=0) (h1:¬ sec=1):(∃ j:Nat,sec=((j+2:Nat):Int))∨∃ j:Nat,sec=Int.negSucc j:=by
 cases sec with
 | negSucc j=>exact .inr ⟨j,rfl⟩
 | ofNat n =>
  refine .inl ⟨n-2,?_⟩
  have h0:¬ ((n:Nat):Int)=0:=h0
  have h1:¬ ((n:Nat):Int)=1:=h1
  show ((n:Nat):Int)=_
  omega
theorem right19_hc {h:Hp} (t:Tab h) {x:Itm} {p:Option Addr} {l c:Nat} (v:ItmAt h p l x) (sec:Int):HC Tryz.prog 19 #[itmV p l c x,.int .i64 sec] h fun w h'=>w=.int .i64 (rightV x sec)∧Ext h h':=by
 unfold rightV
 by_cases h0:sec=0
 ·subst h0
  exact item_hc (k:=0) t v (by decide)
 by_cases h1:sec=1
 ·subst h1
  exact item_hc (k:=1) t v (by decide)
 rw [if_neg h0,if_neg h1]
 rcases sec_cases h0 h1 with ⟨j,rfl⟩ | ⟨j,rfl⟩
 ·refine hcr_of (args:=[itmV p l c x,.int .i64 ((j+2:Nat):Int)]) mixed Tryz.func19 (by kernel_rfl) (t_item_Right_up_eq j x.kind x.name x.inst.op x.inst.a x.inst.b x.inst.n x.inst.form p l c x.e.num x.n) ?_
  unfold t_item_Right_up
  refine newB ?_
  intro g1 b1 e1 z1
  exact ⟨rfl,e1⟩
 ·refine hcr_of (args:=[itmV p l c x,.int .i64 (Int.negSucc j)]) mixed Tryz.func19 (by kernel_rfl) (t_item_Right_dn_eq j x.kind x.name x.inst.op x.inst.a x.inst.b x.inst.n x.inst.form p l c x.e.num x.n) ?_
  unfold t_item_Right_dn
  refine newB ?_
  intro g1 b1 e1 z1
  exact ⟨rfl,e1⟩
theorem right20_hc {h:Hp} {x:Itm} {p:Option Addr} {l c:Nat} (v:ItmAt h p l x) (sec:Int):HC Tryz.prog 20 #[itmV p l c x,.int .i64 sec] h fun w h'=>w=.int .i64 (rightV x sec)∧Ext h h':=by
 unfold rightV
 by_cases h0:sec=0
 ·subst h0
  exact rightR_hc (k:=0) v (by decide)
 by_cases h1:sec=1
 ·subst h1
  exact rightR_hc (k:=1) v (by decide)
 rw [if_neg h0,if_neg h1]
 rcases sec_cases h0 h1 with ⟨j,rfl⟩ | ⟨j,rfl⟩
 ·refine hcr_of (args:=[itmV p l c x,.int .i64 ((j+2:Nat):Int)]) mixed Tryz.func20 (by kernel_rfl) (t_spandrelref8_Right_up_eq j x.kind x.name x.inst.op x.inst.a x.inst.b x.inst.n x.inst.form p l c x.e.num x.n) ?_
  unfold t_spandrelref8_Right_up
  refine newB ?_
  intro g1 b1 e1 z1
  exact ⟨rfl,e1⟩
 ·refine hcr_of (args:=[itmV p l c x,.int .i64 (Int.negSucc j)]) mixed Tryz.func20 (by kernel_rfl) (t_spandrelref8_Right_dn_eq j x.kind x.name x.inst.op x.inst.a x.inst.b x.inst.n x.inst.form p l c x.e.num x.n) ?_
  unfold t_spandrelref8_Right_dn
  refine newB ?_
  intro g1 b1 e1 z1
  exact ⟨rfl,e1⟩
theorem itemRight_hc {h:Hp} (tb:TabN h) (ld:Laid h) {x:Itm} {p:Option Addr} {l c:Nat} (v:ItmAt h p l x) (sec:Int):HC Tryz.prog 6 #[itmV p l c x,.int .i64 sec] h fun w h'=>w=.bool true∧Ext h h':=by
 refine hcr_of (args:=[itmV p l c x,.int .i64 sec]) mixed Tryz.func6 (by kernel_rfl) (t_spandrellaw8_ItemRight_eq x.kind x.name x.inst.op x.inst.a x.inst.b x.inst.n x.inst.form p l c x.e.num x.n sec) ?_
 unfold t_spandrellaw8_ItemRight
 refine newB ?_
 intro g1 b1 e1 z1
 have b1:Box g1 h.size 54 (encI p l c x):=b1
 have ld1:∀ {gg:Hp} {k:Int→ByteArray→Int→Int→Int→Int→Int→Option Addr→Nat→Nat→Int→Int→T} {L:Lp} {K:Value→Hp→Prop},Box gg h.size 54 (encI p l c x)→k x.kind x.name x.inst.op x.inst.a x.inst.b x.inst.n x.inst.form p l c x.e.num x.n L K gg →
   (T.loads ⟨h.size,0,none⟩ [.int .i64,.string,.int .i64,.int .i64,.int .i64,.int .i32,.int .i64,.slice 50,.int .u32,.int .i64] k) L K gg:=fun b hk =>
  loads_box b (x.kind,x.name,x.inst.op,x.inst.a,x.inst.b,x.inst.n,x.inst.form,(p,l,c),(x.e.num:Int),x.n,()) rfl hk
 refine ld1 b1 ?_
 refine ld1 b1 ?_
 refine call_of (right19_hc ((tb.keep e1 (by simp)).tab) (v.keep e1) (c:=c) sec) ?_
 rintro _ g2 ⟨rfl,e2⟩
 refine ⟨(rightV x sec,()),rfl,?_⟩
 dsimp only [flat,unc,unc1,nA,cA]
 have b2:=b1.keep e2 (by simp)
 have e02:=e1.trans e2
 refine ⟨⟨b2.cells _ rfl,trivial⟩,?_⟩
 refine call_of (right20_hc (v.keep e02) (c:=c) sec) ?_
 rintro _ g3 ⟨rfl,e3⟩
 refine ⟨(rightV x sec,()),rfl,?_⟩
 dsimp only [flat,unc,unc1,nA,cA]
 have b3:=b2.keep e3 (by simp)
 have e03:=e02.trans e3
 refine ⟨⟨b3.cells _ rfl,trivial⟩,?_⟩
 refine cond_t (by simp) ?_
 refine call_of (known_hc (tb.keep e03 (by simp)) (ld.ext e03)) ?_
 rintro _ g4 ⟨rfl,e4⟩
 refine ⟨(true,()),rfl,?_⟩
 dsimp only [flat,unc,unc1,nA,cA]
 have b4:=b3.keep e4 (by simp)
 refine ⟨⟨b4.cells _ rfl,b4.cells _ rfl,trivial⟩,?_⟩
 exact ⟨rfl,e03.trans e4⟩
open Go.Proofs Go.Proofs.YtgnhjkofpmchpaaGreatDoor
open Go.ChangeShapes Go.WideShapes Go.ChangeAt Go.WideMaps Go.WideElems Go.RowKit
def flds2 (P:Program) (t:TypeId):Option (List (TypeId × Nat)):=(P.underlying t).bind fun d=>match d with | .struct fs=>some (fs.toList.map fun f=>(f.type,f.offset)) | _=>none
section
variable {H:Type} {enc:TypeId × Value→H} {P:Program} {W:World} {base fuel:Nat} {sp:Nat→Bool} {held:Bool} {t:TypeId} {cs:List Value} {y:DataW H × List MemPlace}
theorem open_struct {l:List (TypeId × Nat)} (hu:flds2 P t=some l) (h:DataW.trod enc P W base sp held fuel t cs=some y) :
  ∃ (xs:List (DataW H × List MemPlace)) (n:Nat),y.1=.agg (xs.map (·.1))∧cs.length=P.cellsOf t∧xs.length=l.length∧∀ (i:Nat) (p:TypeId × Nat),l[i]?=some p→∃ x,xs[i]?=some x∧DataW.trod enc P W base sp held n p.1 ((cs.drop p.2).take (P.cellsOf p.1))=some x:=by
 unfold flds2 at hu
 cases hd:P.underlying t with
 | none=>rw [hd] at hu; cases hu
 | some d =>
  rw [hd] at hu
  simp only [Option.bind_some] at hu
  split at hu
  ·rename_i fs
   simp only [Option.some.injEq] at hu
   obtain ⟨xs,n,_,hy,hl,hlen,hf⟩:=DataW.trod_struct hd h
   refine ⟨xs,n,by rw [hy],hl,by rw [← hu,List.length_map,hlen,Array.length_toList],fun i p hp=>?_⟩
   rw [← hu,List.getElem?_map,Option.map_eq_some_iff] at hp
   obtain ⟨f,hf1,rfl⟩:=hp
   rw [Array.getElem?_toList] at hf1
   have h1:=hf i f hf1
   cases hx:xs[i]? with
   | none =>
    rw [List.getElem?_eq_none_iff] at hx
    have:i<fs.size:=by
     by_cases g:i<fs.size
     ·exact g
     ·rw [Array.getElem?_eq_none (by omega)] at hf1
      cases hf1
    omega
   | some x=>rw [hx] at h1; exact ⟨x,rfl,h1⟩
  ·cases hu
theorem cellsAt_of {h:Hp} {a:Addr}:∀ (vs:List Value) (i:Nat),(∀ j,(hj:j<vs.length)→hcell h (a.add (i+j))=some vs[j])→cellsAt h a i vs
 | [],_,_=>trivial
 | v::vs,i,hh=>⟨by have:=hh 0 (by simp); rw [Nat.add_zero] at this; exact this,cellsAt_of vs (i+1) fun j hj=>by
  have:=hh (j+1) (by simpa using hj)
  rw [show i+1+j=i+(j+1) by omega]
  simpa using this⟩
theorem cellsN {a:Addr} {n:Nat} (h:W.cells? base a n=some cs):cs.length=n∧cellsAt W.heap a 0 cs:=by
 unfold World.cells? at h
 split at h
 ·have hl:cs.length=n:=by simpa using Lib.mapM_length h
  refine ⟨hl,cellsAt_of cs 0 fun j hj=>?_⟩
  obtain ⟨b,hb,hf⟩:=Lib.mapM_at h j j (List.getElem?_range (by omega))
  rw [List.getElem?_eq_getElem hj] at hb
  cases hb
  rw [Nat.zero_add,← cell_heap]
  exact hf
 ·cases h
theorem choose_list {α:Type} (Q:Nat→α→Prop):∀ n,(∀ i,i<n→∃ x,Q i x)→∃ l:List α,l.length=n∧∀ i (hi:i<l.length),Q i l[i]
 | 0,_=>⟨[],rfl,fun i hi=>by simp at hi⟩
 | n+1,h=>by
  obtain ⟨l,hl,hp⟩:=choose_list Q n (fun i hi=>h i (by omega))
  obtain ⟨x,hx⟩:=h n (by omega)
  refine ⟨l++[x],by simp [hl],fun i hi=>?_⟩
  by_cases hin:i<l.length
  ·rw [List.getElem_append_left hin]
   exact hp i hin
  ·have hi':i=n:=by simp at hi; omega
   subst hi'
   rw [List.getElem_append_right (by omega)]
   simpa using hx
theorem bulk_sum {ds:List (DataW H)} {ks:List Nat} (hl:ds.length=ks.length) (h:∀ i,(hi:i<ks.length)→(hj:i<ds.length)→ks[i]=Rows.uptoBulk ds[i]):Rows.uptoBulkAll ds=ks.sum:=by
 induction ds generalizing ks with
 | nil =>
  cases ks with
  | nil=>rfl
  | cons k ks=>simp at hl
 | cons d ds ih =>
  cases ks with
  | nil=>simp at hl
  | cons k ks =>
   have h0:=h 0 (by simp) (by simp)
   simp only [List.getElem_cons_zero] at h0
   have:=ih (ks:=ks) (by simpa using hl) (fun i hi hj=>h (i+1) (by simpa using hi) (by simpa using hj))
   unfold Rows.uptoBulkAll
   rw [this,List.sum_cons,h0]
structure LsIn {α:Type} (Q:α→List Value→Nat→Prop) (h:Hp) (sz:Nat) (p:Option Addr) (l c:Nat) (us:List α) (ks:List Nat):Prop where
 len:l=us.length
 lenk:ks.length=us.length
 cells:∀ i,(hi:i<us.length)→(hk:i<ks.length)→∃ a cs,p=some a∧cellsAt h (a.add (i*sz)) 0 cs∧Q us[i] cs ks[i]
 cap:l≤c
 capm:c≤maxLen
 nil:p=none→c=0
theorem open_slice {α:Type} {e:TypeId} {sz:Nat} (hu:P.underlying t=some (.slice e)) (hc:P.cellsOf e=sz) (Q:α→List Value→Nat→Prop)
  (hel:∀ (cs:List Value) (y:DataW H × List MemPlace) (n:Nat),DataW.trod enc P W base sp held n e cs=some y→∃ x:α,Q x cs (Rows.uptoBulk y.1))
  (h:DataW.trod enc P W base sp held fuel t cs=some y) :
  ∃ (p:Option Addr) (l c:Nat) (us:List α) (ks:List Nat),cs=[.slice p l c]∧LsIn Q W.heap sz p l c us ks∧ks.sum+1≤Rows.uptoBulk y.1:=by
 rcases DataW.trod_slice hu h with ⟨e0,hy0⟩ | ⟨a,len,cap,elems,rest,n,_,e0,hy0,hbase,hlc,hcm,hlen,hev,_,_⟩
 ·refine ⟨none,0,0,[],[],e0,⟨rfl,rfl,fun i hi=>by simp at hi,Nat.le_refl _,Nat.zero_le _,fun _=>rfl⟩,?_⟩
  rw [hy0]
  simp only [Rows.uptoBulk]
  decide
 ·have each:∀ i,i<len→∃ x:α × Nat,∃ cs',cellsAt W.heap (a.add (i*sz)) 0 cs'∧Q x.1 cs' x.2∧∃ y,elems[i]?=some y∧x.2=Rows.uptoBulk y.1:=by
   intro i hi
   have he:=hev i hi
   cases hy:elems[i]? with
   | none=>rw [List.getElem?_eq_none_iff] at hy; omega
   | some y =>
    rw [hy,hc] at he
    simp only [Option.bind_eq_some_iff] at he
    obtain ⟨cs',hcs,htr⟩:=he
    obtain ⟨hl,hcell⟩:=cellsN hcs
    obtain ⟨x,hx⟩:=hel _ _ _ htr
    exact ⟨(x,Rows.uptoBulk y.1),cs',hcell,hx,y,rfl,rfl⟩
  obtain ⟨xs,hxl,hxs⟩:=choose_list _ len each
  refine ⟨some a,len,cap,xs.map (·.1),xs.map (·.2),e0,⟨by rw [List.length_map,hxl],by rw [List.length_map,List.length_map],fun i hi hk=>?_,hlc,hcm,fun h=>by cases h⟩,?_⟩
  ·rw [List.length_map] at hi
   obtain ⟨cs',h1,h2,_⟩:=hxs i hi
   rw [List.getElem_map,List.getElem_map]
   exact ⟨a,cs',rfl,h1,h2⟩
  ·have:=bulk_sum (ds:=elems.map (·.1)) (ks:=xs.map (·.2)) (by rw [List.length_map,List.length_map,hlen,hxl]) (fun i hi hj=>by
    rw [List.length_map] at hi hj
    obtain ⟨cs',_,_,y,hy,hk⟩:=hxs i hi
    rw [List.getElem?_eq_getElem hj] at hy
    rw [List.getElem_map,List.getElem_map,hk,Option.some.inj hy])
   rw [hy0]
   simp only [Rows.uptoBulk]
   rw [this]
   omega
end
theorem calls_of {P:Program} {f:FuncId} {args:Array Value} {W:World} {R:Value→Hp→Prop} (h:HC P f args W.heap R) (he:∀ v h',R v h'→Ext W.heap h'):Calls P f args W fun e w'=>∃ v,e=.returned v∧Below W.heap.size W w'∧R v w'.heap:=by
 refine (h W rfl).mono fun e w' ⟨v,hv,hs,hr⟩=>⟨v,hv,⟨hs.os,hs.tape,hs.output,(he v _ hr).size,fun k hk=>(he v _ hr).same k hk (by simp)⟩,hr⟩
theorem below_same {W W':World} (hB:Below W.heap.size W W') {p:MemPlace} (hp:p.block<W.heap.size):W.sameAt W' p:=by
 cases p with
 | cell b off =>
  show W'.cell? _=W.cell? _
  unfold World.cell?
  rw [hB.block b hp]
 | map b=>exact hB.block b hp
theorem ownK:ownKnob Tryz.prog.godebug=none:=by kernel_rfl
theorem u9:Tryz.prog.underlying 9=some .string:=by kernel_rfl
theorem u4:Tryz.prog.underlying 4=some .bool:=by kernel_rfl
theorem u3:Tryz.prog.underlying 3=some (.int .i64):=by kernel_rfl
theorem u5:Tryz.prog.underlying 5=some (.int .u8):=by kernel_rfl
theorem u127:Tryz.prog.underlying 113=some (.array 43 112):=by kernel_rfl
theorem c106:Tryz.prog.cellsOf 112=3:=by kernel_rfl
theorem c127:Tryz.prog.cellsOf 113=129:=by kernel_rfl
theorem c9:Tryz.prog.cellsOf 9=1:=by kernel_rfl
theorem c5:Tryz.prog.cellsOf 5=1:=by kernel_rfl
theorem c3:Tryz.prog.cellsOf 3=1:=by kernel_rfl
theorem s106:flds2 Tryz.prog 112=some [(9,0),(5,1),(3,2)]:=by kernel_rfl
def tabL:List (DataW Unit):=match (Rows.laid_spandrel_isa_table:DataW Unit) with | .agg l=>l | _=>[]
def shpOf:DataW Unit→Int
 | .agg [_,_,.lit (.int _ n)]=>n
 | _=>0
theorem tabL_eq:(Rows.laid_spandrel_isa_table:DataW Unit)=.agg tabL:=by kernel_rfl
theorem tabL_shp:tabL.map shpOf=(List.range 43).map fun k=>((shpL.getD k 0:Nat):Int):=by kernel_rfl
theorem flat_len {α β:Type} (f:α→List β) (m:Nat) (hf:∀ x,(f x).length=m):∀ l:List α,(l.flatMap f).length=l.length*m
 | []=>by simp
 | x::l=>by rw [List.flatMap_cons,List.length_append,hf,flat_len f m hf l,List.length_cons,Nat.succ_mul,Nat.add_comm]
theorem rowsV_length (nm:Nat→ByteArray) (by_:Nat→Int):(rowsV nm by_).length=129:=by
 unfold rowsV
 rw [flat_len _ 3 (fun x=>rfl),List.length_range]
def nmOf:DataW Unit→List UInt8
 | .agg [.lit (.string s),_,_]=>s
 | _=>[]
def byOf:DataW Unit→Int
 | .agg [_,.lit (.int _ n),_]=>n
 | _=>0
theorem tabL_nm:tabL.map nmOf=(List.range 43).map fun k=>opNm k:=by kernel_rfl
theorem tabL_by:tabL.map byOf=(List.range 43).map fun k=>opsB k:=by kernel_rfl
theorem tab_cells {enc:TypeId × Value→Unit} {W:World} {base fuel:Nat} {sp:Nat→Bool} {held:Bool} {cs:List Value} {p:List MemPlace}
  (h:DataW.trod enc Tryz.prog W base sp held fuel 113 cs=some (Rows.laid_spandrel_isa_table,p)):cs=rowsV opsN opsB:=by
 obtain ⟨xs,m,_,hx,hl,hlen,hf⟩:=DataW.trod_array u127 h
 rw [c127] at hl
 have hxs:xs.map (·.1)=tabL:=by
  have:=congrArg Prod.fst hx
  rw [show (Rows.laid_spandrel_isa_table,p).1=DataW.agg tabL from tabL_eq] at this
  simpa using this.symm
 have each:∀ i,i<43→(cs.drop (i*3)).take 3=[.string (opsN i),.int .u8 (opsB i),.int .i64 ((shpL.getD i 0:Nat):Int)]:=by
  intro i hi
  have h1:=hf i hi
  rw [c106] at h1
  rw [List.getElem?_eq_getElem (by omega)] at h1
  obtain ⟨ys,n,hy,hyl,hyn,hys⟩:=open_struct s106 h1
  obtain ⟨y0,g0,t0⟩:=hys 0 _ rfl
  obtain ⟨y1,g1,t1⟩:=hys 1 _ rfl
  obtain ⟨y2,g2,t2⟩:=hys 2 _ rfl
  rw [c106] at hyl
  generalize hc:(cs.drop (i*3)).take 3=c at *
  match c,hyl with
  | [v0,v1,v2],_ =>
   rw [show Tryz.prog.cellsOf (9,0).1=1 from c9] at t0
   rw [show Tryz.prog.cellsOf (5,1).1=1 from c5] at t1
   rw [show Tryz.prog.cellsOf (3,2).1=1 from c3] at t2
   obtain ⟨s,e0,r0,_⟩:=DataW.trod_string u9 t0
   obtain ⟨b,e1,r1,_⟩:=DataW.trod_int u5 t1
   obtain ⟨k,e2,r2,_⟩:=DataW.trod_int u3 t2
   cases e0; cases e1; cases e2
   have hys3:ys=[y0,y1,y2]:=by
    apply List.ext_getElem?
    intro j
    match j with
    | 0=>exact g0
    | 1=>exact g1
    | 2=>exact g2
    | j+3=>rw [List.getElem?_eq_none (by rw [hyn]; simp),List.getElem?_eq_none (by simp)]
   have h2:(xs.map (·.1))[i]?=some (xs[i]'(by omega)).1:=by rw [List.getElem?_map,List.getElem?_eq_getElem (by omega)]; rfl
   rw [hxs] at h2
   have hk:k=((shpL.getD i 0:Nat):Int):=by
    have h3:(tabL.map shpOf)[i]?=some (shpOf (xs[i]'(by omega)).1):=by rw [List.getElem?_map,h2]; rfl
    rw [tabL_shp,List.getElem?_map,List.getElem?_range hi] at h3
    rw [hy,hys3,r0,r1,r2] at h3
    exact (Option.some.inj h3).symm
   have hb:b=opsB i:=by
    have h3:(tabL.map byOf)[i]?=some (byOf (xs[i]'(by omega)).1):=by rw [List.getElem?_map,h2]; rfl
    rw [tabL_by,List.getElem?_map,List.getElem?_range hi] at h3
    rw [hy,hys3,r0,r1,r2] at h3
    exact (Option.some.inj h3).symm
   have hs:s=opsN i:=by
    have h3:(tabL.map nmOf)[i]?=some (nmOf (xs[i]'(by omega)).1):=by rw [List.getElem?_map,h2]; rfl
    rw [tabL_nm,List.getElem?_map,List.getElem?_range hi] at h3
    rw [hy,hys3,r0,r1,r2] at h3
    exact ba_ext (Option.some.inj h3).symm
   rw [hk,hb,hs]
 apply List.ext_getElem?
 intro j
 by_cases hj:j<129
 ·obtain ⟨a,b,hab,hb⟩:∃ a b,j=a*3+b∧b<3:=⟨j / 3,j % 3,by omega,by omega⟩
  subst hab
  unfold rowsV
  rw [flat_get (fun k=>[Value.string (opsN k),.int .u8 (opsB k),.int .i64 (shpL.getD k 0:Nat)]) 3 (fun x=>rfl) _ a b hb,List.getElem?_range (by omega)]
  show cs[a*3+b]?=[Value.string (opsN a),.int .u8 (opsB a),.int .i64 ((shpL.getD a 0:Nat):Int)][b]?
  have:=each a (by omega)
  rw [← this,List.getElem?_take,if_pos hb,List.getElem?_drop]
 ·have hr:(rowsV opsN opsB).length=129:=rowsV_length _ _
  rw [List.getElem?_eq_none (by omega),List.getElem?_eq_none (by omega)]
theorem var_obj {P:Program} {W:World} {name:String} {g:Nat} {cs:Array Value} (hg:P.globalNamed name=some g) (hv:W.var? P name=some cs):∃ e f,W.heap[g]?=some (.cells cs e f):=by
 unfold World.var? at hv
 rw [hg] at hv
 have hv:(match (W.heap[g]?:Option Obj) with | some (.cells cs _ _)=>some cs | _=>none)=some cs:=hv
 split at hv
 ·rename_i cs' e f hh
  cases hv
  exact ⟨e,f,hh⟩
 ·cases hv
theorem u148 : Tryz.prog.underlying 148 = some (.interface #[("Error", 228)]) := by kernel_rfl
theorem laid_of {W:World} (h:laidMetH Tryz.prog Rows.itemReadsRow.laid W):TabN W.heap∧Laid W.heap:=by
 rw [MakeChecks.laidMetH_plain _ _ _ (by kernel_rfl)] at h
 obtain ⟨ps,⟨g0,t0,cs0,f0,p0,q0,hg0,ht0,hv0,hd0,⟨g1,t1,cs1,f1,p1,q1,hg1,ht1,hv1,hd1,⟨g2,t2,cs2,f2,p2,q2,hg2,ht2,hv2,hd2,⟨g3,t3,cs3,f3,p3,q3,hg3,ht3,hv3,hd3,⟨g4,t4,cs4,f4,p4,q4,hg4,ht4,hv4,hd4,⟨g5,t5,cs5,f5,p5,q5,hg5,ht5,hv5,hd5,_,_⟩,_⟩,_⟩,_⟩,_⟩,_⟩,_,_⟩:=h
 obtain rfl:=Option.some.inj ((show Tryz.prog.globalNamed _=some 0 by kernel_rfl).symm.trans hg3)
 obtain rfl:=Option.some.inj ((show Tryz.prog.globalNamed _=some 3 by kernel_rfl).symm.trans hg4)
 obtain rfl:=Option.some.inj ((show Tryz.prog.globalNamed _=some 2 by kernel_rfl).symm.trans hg5)
 have h3:(Tryz.prog.globals[0]?).map (·.type)=some 113:=by kernel_rfl
 obtain rfl:=Option.some.inj (h3.symm.trans ht3)
 have h4:(Tryz.prog.globals[3]?).map (·.type)=some 148:=by kernel_rfl
 obtain rfl:=Option.some.inj (h4.symm.trans ht4)
 have h5:(Tryz.prog.globals[2]?).map (·.type)=some 148:=by kernel_rfl
 obtain rfl:=Option.some.inj (h5.symm.trans ht5)
 have hr:=tab_cells hd3
 obtain ⟨e3,ff3,ho3⟩:=var_obj hg3 hv3
 obtain ⟨_,w4,v4,e4,_⟩:=iface_of_trod u148 hd4
 obtain ⟨_,w5,v5,e5,_⟩:=iface_of_trod u148 hd5
 have c4:=World.var?_cell hg4 hv4 0
 have c5:=World.var?_cell hg5 hv5 0
 rw [← Array.getElem?_toList,e4] at c4
 rw [← Array.getElem?_toList,e5] at c5
 refine ⟨⟨e3,ff3,?_⟩,⟨⟨_,c5,rfl⟩,⟨_,c4,rfl⟩⟩⟩
 rw [ho3,← hr]
theorem door_met (os:Os) (args:Array Value):laidMetH Tryz.prog Rows.itemReadsRow.laid ((World.doorLaid Tryz.prog 400 os).forCall (fun _ _=>0) ⟨#[],args,[]⟩).memory :=
 laidMetH_of_parts3 (fuel:=8) (laidMet_of_run' 8 (by kernel_rfl) (by kernel_rfl)) (by kernel_rfl) (by kernel_rfl)
theorem kidsT:Kids Tryz.prog (·<Tryz.prog.types.size):=kids_rows (by kernel_rfl) (by kernel_rfl)
theorem sliceB:((List.range Tryz.prog.types.size).all fun t=>match Tryz.prog.underlying t with | some (.slice e)=>decide (0<Tryz.prog.cellsOf e) | _=>true)=true:=by kernel_rfl
theorem sliceT {t e:TypeId} (ht:t<Tryz.prog.types.size) (hu:Tryz.prog.underlying t=some (.slice e)):0<Tryz.prog.cellsOf e:=by
 have:=List.all_eq_true.1 sliceB t (List.mem_range.2 ht)
 rw [hu] at this
 exact of_decide_eq_true this
theorem trodAll_stays {H:Type} {enc:TypeId × Value→H} {W W':World} {sp:Nat→Bool} (hB:Below W.heap.size W W'):∀ {ts:List TypeId} {vs:List Value} {ds:List (DataW H)} {ps:List MemPlace},(∀ t∈ts,t<Tryz.prog.types.size) →
  DataW.TrodAll enc Tryz.prog W 0 (fun _=>true) true ts vs ds ps→(∀ p∈ps,p.block<W.heap.size)→(∀ p∈ps,sp p.block=true)→DataW.TrodAll enc Tryz.prog W' 0 sp true ts vs ds ps
 | [],_,_,_,_,h,_,_=>by
  obtain ⟨rfl,rfl,rfl⟩:=trodAll_nil h
  exact trodAll_mk0
 | t::ts,_,_,_,ht,h,hl,hs=>by
  obtain ⟨v,vs1,d,ds1,a,b,rfl,rfl,rfl,⟨n,h1⟩,h2⟩:=trodAll_cons h
  exact ⟨a,b,⟨n,DataW.trod_stays kidsT (fun h hu=>sliceT h hu) (fun h=>by cases h) (ht t (List.mem_cons_self ..)) h1 (fun p hp=>below_same hB (hl p (List.mem_append_left _ hp))) (fun p hp=>hs p (List.mem_append_left _ hp))⟩,
   trodAll_stays hB (fun t h=>ht t (List.mem_cons_of_mem _ h)) h2 (fun p hp=>hl p (List.mem_append_right _ hp)) (fun p hp=>hs p (List.mem_append_right _ hp)),rfl⟩
theorem post_old {H:Type} {enc:TypeId × Value→H} {f:Func} {s:ChangeSpec} {apart fresh handsOn:Bool} {W W':World} {args:Array Value} {v:Value} {ds gs:List (DataW H)} {before:List MemPlace} (hv0:s.vars=[])
  (hW:DataW.Whole enc Tryz.prog f.params.toList s.vars apart W args.toList ds gs before)
  (hres:∀ (b:Nat) (sp:Nat→Bool) (hd:Bool),DataW.TrodAll enc Tryz.prog W' b sp hd f.resultTypes.toList (v.resultList f.resultTypes.size) (s.fn H (ds++gs)).results [])
  (hargs:(s.fn H (ds++gs)).args=ds) (hvs:(s.fn H (ds++gs)).vars=[]) (hts:∀ t∈f.params.toList,t<Tryz.prog.types.size) (hB:Below W.heap.size W W') :
  s.post enc Tryz.prog f apart fresh handsOn false W args v W':=by
 have hlt:=hW.lt
 have hW':=hW
 obtain ⟨p,q,hA,hV,rfl,hz,hn⟩:=hW
 rw [hv0] at hV
 obtain ⟨rfl,rfl⟩:=trodVars_none hV
 rw [List.append_nil] at hlt hW'
 refine ⟨ds,[],p,[],p,[],hW',hres _ _ _,?_,?_,hB.frame _,fun h=>by cases h⟩
 ·rw [hargs]
  exact trodAll_stays hB hts hA hlt (fun p hp=>decide_eq_true (hlt p hp))
 ·rw [hvs,hv0]
  rfl
theorem u52:Tryz.prog.underlying 24=some (.int .u32):=by kernel_rfl
theorem u21:Tryz.prog.underlying 21=some (.int .i32):=by kernel_rfl
theorem u53:Tryz.prog.underlying 23=some (.slice 50):=by kernel_rfl
theorem c86:Tryz.prog.cellsOf 50=2:=by kernel_rfl
theorem c55:Tryz.prog.cellsOf 26=2:=by kernel_rfl
theorem c53:Tryz.prog.cellsOf 23=1:=by kernel_rfl
theorem c52:Tryz.prog.cellsOf 24=1:=by kernel_rfl
theorem c21:Tryz.prog.cellsOf 21=1:=by kernel_rfl
theorem c77:Tryz.prog.cellsOf 52=5:=by kernel_rfl
theorem c79:Tryz.prog.cellsOf 54=10:=by kernel_rfl
theorem s86:flds2 Tryz.prog 50=some [(9,0),(24,1)]:=by kernel_rfl
theorem s55:flds2 Tryz.prog 26=some [(23,0),(24,1)]:=by kernel_rfl
theorem s77:flds2 Tryz.prog 52=some [(3,0),(3,1),(3,2),(21,3),(3,4)]:=by kernel_rfl
theorem s79:flds2 Tryz.prog 54=some [(3,0),(9,1),(52,2),(26,7),(3,9)]:=by kernel_rfl
section
variable {H:Type} {enc:TypeId × Value→H} {W:World} {base n:Nat} {sp:Nat→Bool} {held:Bool} {cs:List Value} {y:DataW H × List MemPlace}
theorem list2 {α:Type} {ys:List α} {a b:α} (hl:ys.length=2) (h0:ys[0]?=some a) (h1:ys[1]?=some b):ys=[a,b]:=by
 match ys,hl with
 | [x,y],_ =>
  simp only [List.getElem?_cons_zero,List.getElem?_cons_succ,Option.some.injEq] at h0 h1
  subst h0 h1
  rfl
def QT (t:ByteArray × Nat) (cs:List Value) (k:Nat):Prop:=cs=encT t∧t.1.size≤maxLen∧t.2<4294967296∧k=t.1.size+3
theorem open_term (h:DataW.trod enc Tryz.prog W base sp held n 50 cs=some y):∃ t,QT t cs (Rows.uptoBulk y.1):=by
 obtain ⟨ys,m,hy,hl,hyn,hys⟩:=open_struct s86 h
 obtain ⟨y0,g0,t0⟩:=hys 0 _ rfl
 obtain ⟨y1,g1,t1⟩:=hys 1 _ rfl
 have hys2:=list2 hyn g0 g1
 rw [c86] at hl
 match cs,hl with
 | [v,u],_ =>
  rw [show Tryz.prog.cellsOf (9,0).1=1 from c9] at t0
  rw [show Tryz.prog.cellsOf (24,1).1=1 from c52] at t1
  obtain ⟨s,e0,r0,hs⟩:=DataW.trod_string u9 t0
  obtain ⟨k,e1,r1,hk⟩:=DataW.trod_int u52 t1
  have hb:=bounds_u32 hk
  cases e0; cases e1
  refine ⟨(s,k.toNat),?_,hs,by show k.toNat<_; omega,?_⟩
  ·unfold encT
   simp only [List.cons.injEq,Value.int.injEq,true_and,and_true]
   omega
  ·rw [hy,hys2,r0,r1]
   simp only [List.map_cons,List.map_nil,Rows.uptoBulk,Rows.uptoBulkAll]
   rw [Array.length_toList]
   show s.data.size+1+(1+0)+1=s.data.size+3
   omega
structure LinNum (x:Lin):Prop where
 coef:∀ t,t∈x.terms→t.2<4294967296
 num:x.num<4294967296
structure LinK (h:Hp) (p:Option Addr) (l c:Nat) (x:Lin) (k:Nat):Prop where
 vw:VwT h p l x.terms
 names:∀ t,t∈x.terms→t.1.size≤maxLen
 num:LinNum x
 many:3*x.terms.length≤k
 size:(wLin x).length≤2*k
 cap:l≤c
theorem wTerms_len:∀ (ts:Tms) (ks:List Nat),ks.length=ts.length→(∀ i,(hi:i<ts.length)→(hk:i<ks.length)→ks[i]=ts[i].1.size+3)→(ts.flatMap wTerm).length=2*ks.sum-(ts.map (·.1.size)).sum∧(ts.map (·.1.size)).sum+3*ts.length=ks.sum
 | [],ks,hl,_=>by
  have:ks=[]:=List.length_eq_zero_iff.1 hl
  subst this
  simp
 | t::ts,[],hl,_=>by simp at hl
 | t::ts,k::ks,hl,h=>by
  have h0:=h 0 (by simp) (by simp)
  simp only [List.getElem_cons_zero] at h0
  obtain ⟨i1,i2⟩:=wTerms_len ts ks (by simpa using hl) (fun i hi hk=>h (i+1) (by simpa using hi) (by simpa using hk))
  have hw:(wTerm t).length=t.1.size+6:=by
   unfold wTerm wText
   simp only [List.length_append,bytB_length]
   have:t.1.data.toList.length=t.1.size:=by simp
   omega
  rw [List.flatMap_cons,List.length_append,List.sum_cons,List.map_cons,List.sum_cons,List.length_cons,hw,i1]
  omega
theorem open_lin (h:DataW.trod enc Tryz.prog W base sp held n 26 cs=some y) :
  ∃ p l c x,cs=[.slice p l c,.int .u32 ((x:Lin).num:Int)]∧LinK W.heap p l c x (Rows.uptoBulk y.1):=by
 obtain ⟨ys,m,hy,hl,hyn,hys⟩:=open_struct s55 h
 obtain ⟨y0,g0,t0⟩:=hys 0 _ rfl
 obtain ⟨y1,g1,t1⟩:=hys 1 _ rfl
 have hys2:=list2 hyn g0 g1
 rw [c55] at hl
 match cs,hl with
 | [v,u],_ =>
  rw [show Tryz.prog.cellsOf (23,0).1=1 from c53] at t0
  rw [show Tryz.prog.cellsOf (24,1).1=1 from c52] at t1
  obtain ⟨p,l,c,us,ks,e0,ls,hsum⟩:=open_slice u53 c86 QT (fun cs y n h=>open_term h) t0
  obtain ⟨k,e1,r1,hk⟩:=DataW.trod_int u52 t1
  have hb:=bounds_u32 hk
  cases e0; cases e1
  have hkk:((k.toNat:Nat):Int)=k:=by omega
  have hbulk:Rows.uptoBulk y.1=Rows.uptoBulk y0.1+2:=by
   rw [hy,hys2,r1]
   simp only [List.map_cons,List.map_nil,Rows.uptoBulk,Rows.uptoBulkAll]
  have hq:∀ i,(hi:i<us.length)→(hk:i<ks.length)→us[i].1.size≤maxLen∧us[i].2<4294967296∧ks[i]=us[i].1.size+3:=by
   intro i hi hk
   obtain ⟨a,cs,_,_,_,q2,q3,q4⟩:=ls.cells i hi hk
   exact ⟨q2,q3,q4⟩
  have hkl:=ls.lenk
  obtain ⟨w1,w2⟩:=wTerms_len us ks hkl (fun i hi hk=>(hq i hi hk).2.2)
  refine ⟨p,l,c,⟨us,k.toNat⟩,by rw [show ((⟨us,k.toNat⟩:Lin).num:Int)=k from hkk],⟨ls.len,fun i hi=>?_⟩,?_,⟨?_,by show k.toNat<_; omega⟩,?_,?_,ls.cap⟩
  ·have hi:i<us.length:=hi
   obtain ⟨a,cs,ha,hc,q1,_⟩:=ls.cells i hi (by omega)
   rw [q1] at hc
   exact ⟨a,ha,hc⟩
  ·intro t (ht:t∈us)
   obtain ⟨i,hi,rfl⟩:=List.getElem_of_mem ht
   exact (hq i hi (by omega)).1
  ·intro t (ht:t∈us)
   obtain ⟨i,hi,rfl⟩:=List.getElem_of_mem ht
   exact (hq i hi (by omega)).2.1
  ·show 3*us.length≤_
   omega
  ·show (bytB us.length 2++(us.flatMap wTerm++bytB k.toNat 4)).length≤_
   rw [List.length_append,List.length_append,bytB_length,bytB_length,w1]
   omega
theorem list5 {α:Type} {ys:List α} {a b c d e:α} (hl:ys.length=5) (h0:ys[0]?=some a) (h1:ys[1]?=some b) (h2:ys[2]?=some c) (h3:ys[3]?=some d) (h4:ys[4]?=some e):ys=[a,b,c,d,e]:=by
 match ys,hl with
 | [x0,x1,x2,x3,x4],_ =>
  simp only [List.getElem?_cons_zero,List.getElem?_cons_succ,Option.some.injEq] at h0 h1 h2 h3 h4
  subst h0 h1 h2 h3 h4
  rfl
theorem open_ins (h:DataW.trod enc Tryz.prog W base sp held n 52 cs=some y):∃ i:Ins,cs=insC i∧Sm i.op∧Rows.uptoBulk y.1=6:=by
 obtain ⟨ys,m,hy,hl,hyn,hys⟩:=open_struct s77 h
 obtain ⟨y0,g0,t0⟩:=hys 0 _ rfl
 obtain ⟨y1,g1,t1⟩:=hys 1 _ rfl
 obtain ⟨y2,g2,t2⟩:=hys 2 _ rfl
 obtain ⟨y3,g3,t3⟩:=hys 3 _ rfl
 obtain ⟨y4,g4,t4⟩:=hys 4 _ rfl
 have hys5:=list5 hyn g0 g1 g2 g3 g4
 rw [c77] at hl
 match cs,hl with
 | [v0,v1,v2,v3,v4],_ =>
  rw [show Tryz.prog.cellsOf (3,0).1=1 from c3] at t0
  rw [show Tryz.prog.cellsOf (3,1).1=1 from c3] at t1
  rw [show Tryz.prog.cellsOf (3,2).1=1 from c3] at t2
  rw [show Tryz.prog.cellsOf (21,3).1=1 from c21] at t3
  rw [show Tryz.prog.cellsOf (3,4).1=1 from c3] at t4
  obtain ⟨k0,e0,r0,w0⟩:=DataW.trod_int u3 t0
  obtain ⟨k1,e1,r1,w1⟩:=DataW.trod_int u3 t1
  obtain ⟨k2,e2,r2,w2⟩:=DataW.trod_int u3 t2
  obtain ⟨k3,e3,r3,w3⟩:=DataW.trod_int u21 t3
  obtain ⟨k4,e4,r4,w4⟩:=DataW.trod_int u3 t4
  cases e0; cases e1; cases e2; cases e3; cases e4
  refine ⟨⟨k0,k1,k2,k3,k4⟩,rfl,bounds_i64 w0,?_⟩
  rw [hy,hys5,r0,r1,r2,r3,r4]
  simp only [List.map_cons,List.map_nil,Rows.uptoBulk,Rows.uptoBulkAll]
def QI (h:Hp) (x:Itm) (cs:List Value) (k:Nat):Prop:=∃ p l c b,cs=encI p l c x∧LinK h p l c x.e b∧x.name.size≤maxLen∧Sm x.inst.op∧k=x.name.size+b+10
theorem open_item (h:DataW.trod enc Tryz.prog W base sp held n 54 cs=some y):∃ x,QI W.heap x cs (Rows.uptoBulk y.1):=by
 obtain ⟨ys,m,hy,hl,hyn,hys⟩:=open_struct s79 h
 obtain ⟨y0,g0,t0⟩:=hys 0 _ rfl
 obtain ⟨y1,g1,t1⟩:=hys 1 _ rfl
 obtain ⟨y2,g2,t2⟩:=hys 2 _ rfl
 obtain ⟨y3,g3,t3⟩:=hys 3 _ rfl
 obtain ⟨y4,g4,t4⟩:=hys 4 _ rfl
 have hys5:=list5 hyn g0 g1 g2 g3 g4
 rw [c79] at hl
 match cs,hl with
 | [v0,v1,v2,v3,v4,v5,v6,v7,v8,v9],_ =>
  rw [show Tryz.prog.cellsOf (3,0).1=1 from c3] at t0
  rw [show Tryz.prog.cellsOf (9,1).1=1 from c9] at t1
  rw [show Tryz.prog.cellsOf (52,2).1=5 from c77] at t2
  rw [show Tryz.prog.cellsOf (26,7).1=2 from c55] at t3
  rw [show Tryz.prog.cellsOf (3,9).1=1 from c3] at t4
  obtain ⟨k0,e0,r0,w0⟩:=DataW.trod_int u3 t0
  obtain ⟨s,e1,r1,w1⟩:=DataW.trod_string u9 t1
  obtain ⟨i,e2,w2,r2⟩:=open_ins t2
  obtain ⟨p,l,c,x,e3,lk⟩:=open_lin t3
  obtain ⟨k4,e4,r4,w4⟩:=DataW.trod_int u3 t4
  cases e0; cases e1; cases e2; cases e3; cases e4
  refine ⟨⟨k0,s,i,x,k4⟩,p,l,c,_,rfl,lk,w1,w2,?_⟩
  rw [hy,hys5,r0,r1,r4]
  simp only [List.map_cons,List.map_nil,Rows.uptoBulk,Rows.uptoBulkAll,r2]
  rw [Array.length_toList]
  show 1+(s.data.size+1+(6+(Rows.uptoBulk y3.1+(1+0))))+1=s.data.size+Rows.uptoBulk y3.1+10
  omega
theorem flds_u {P:Program} {t:TypeId} {l:List (TypeId × Nat)} (h:flds2 P t=some l):∃ fs,P.underlying t=some (.struct fs)∧fs.toList.map (·.type)=l.map (·.1):=by
 unfold flds2 at h
 cases hd:P.underlying t with
 | none=>rw [hd] at h; cases h
 | some d =>
  rw [hd] at h
  simp only [Option.bind_some] at h
  split at h
  ·rename_i fs
   injection h with h
   exact ⟨fs,rfl,by rw [← h]; simp⟩
  ·cases h
theorem terms_many (hw:(y.1.weights Tryz.prog 54).all (·≤reachBytes)=true) (h:DataW.trod enc Tryz.prog W base sp held n 54 cs=some y) {p:Option Addr} {l c:Nat} {x:Itm} (hcs:cs=encI p l c x):l≤2^47:=by
 obtain ⟨ys,m,hy,hl,hyn,hys⟩:=open_struct s79 h
 obtain ⟨y0,g0,t0⟩:=hys 0 _ rfl
 obtain ⟨y1,g1,t1⟩:=hys 1 _ rfl
 obtain ⟨y2,g2,t2⟩:=hys 2 _ rfl
 obtain ⟨y3,g3,t3⟩:=hys 3 _ rfl
 obtain ⟨y4,g4,t4⟩:=hys 4 _ rfl
 have hys5:=list5 hyn g0 g1 g2 g3 g4
 subst hcs
 rw [show Tryz.prog.cellsOf (26,7).1=2 from c55] at t3
 have t3:DataW.trod enc Tryz.prog W base sp held m 26 [.slice p l c,.int .u32 x.e.num]=some y3:=t3
 obtain ⟨zs,m2,hz,hzl,hzn,hzs⟩:=open_struct s55 t3
 obtain ⟨z0,k0,q0⟩:=hzs 0 _ rfl
 obtain ⟨z1,k1,q1⟩:=hzs 1 _ rfl
 have hzs2:=list2 hzn k0 k1
 rw [show Tryz.prog.cellsOf (23,0).1=1 from c53] at q0
 have q0:DataW.trod enc Tryz.prog W base sp held m2 23 [.slice p l c]=some z0:=q0
 rcases DataW.trod_slice u53 q0 with ⟨e0,hy0⟩ | ⟨a,len,cap,elems,rest,n',_,e0,hy0,hbase,hlc,hcm,hlen,hev,_,_⟩
 ·cases e0
  omega
 ·cases e0
  have hy0:=(Prod.mk.inj hy0).1
  obtain ⟨f54,u54,m54⟩:=flds_u s79
  obtain ⟨f26,u26,m26⟩:=flds_u s55
  simp only [List.map_cons,List.map_nil] at m54 m26
  rw [hy,hys5] at hw
  simp only [List.map_cons,List.map_nil,DataW.weights,u54,m54,DataW.weightsEach,List.all_append,Bool.and_eq_true] at hw
  have h3:=hw.2.2.2.1
  rw [hz,hzs2] at h3
  simp only [List.map_cons,List.map_nil,DataW.weights,u26,m26,DataW.weightsEach,List.all_append,Bool.and_eq_true] at h3
  have h4:=h3.1
  rw [hy0] at h4
  simp only [DataW.weights,u53,List.all_cons,Bool.and_eq_true,decide_eq_true_eq,List.length_map] at h4
  have hb:Tryz.prog.bytesOf 50=24:=by kernel_rfl
  have h5:=h4.1
  rw [hb] at h5
  have:reachBytes=140737488351232:=rfl
  omega
theorem open_itm {b0:Nat} {v:Value} {d:DataW H} {ps:List MemPlace} (hval:Value.okWide Tryz.prog W .any b0 54 v) (h:DataW.Trod enc Tryz.prog W base sp held 54 v d ps) (hw:(d.weights Tryz.prog 54).all (·≤reachBytes)=true) :
  ∃ p l c x,v=itmV p l c x∧ItmAt W.heap p l x:=by
 have hval':∃ cs,v=.agg cs∧cs.size=Tryz.prog.cellsOf 54:=by
  unfold Value.okWide at hval
  cases hu:Tryz.prog.underlying 54 with
  | none=>have:=s79; unfold flds2 at this; rw [hu] at this; cases this
  | some td =>
   have:=s79
   unfold flds2 at this
   rw [hu] at this hval
   simp only [Option.bind_some] at this
   split at this
   ·obtain ⟨cs,h1,h2,_⟩:=hval
    exact ⟨cs,h1,h2⟩
   ·cases this
 obtain ⟨cs,rfl,hsz⟩:=hval'
 obtain ⟨fuel,h⟩:=h
 have hlist:(Value.agg cs).cells.toList=cs.toList:=rfl
 rw [hlist] at h
 obtain ⟨x,p,l,c,b,hcs,lk,hn,ho,_⟩:=open_item h
 have hm:=terms_many hw h hcs
 refine ⟨p,l,c,x,?_,⟨lk.vw,?_,lk.names⟩,hn,ho⟩
 ·have:(Value.agg cs)=.agg (encI p l c x).toArray:=by
   congr 1
   apply Array.toList_inj.1
   rw [hcs]
  rw [this]; rfl
 ·rw [← lk.vw.len]; omega
end
open Go.ChangeMaps
theorem itemRight_small:(Tryz.f6.params.toList.all fun t=>decide (t<Tryz.prog.types.size))=true:=by kernel_rfl
theorem itemRight_cell0:Tryz.prog.inPlace 6=Rows.itemRightRow.inPlace:=by kernel_rfl
theorem itemRight_cell1:Tryz.prog.unfollowed 6=Rows.itemRightRow.unfollowed:=by kernel_rfl
theorem itemRight_cell2:Tryz.prog.recurses 6=Rows.itemRightRow.recurses:=by kernel_rfl
theorem itemRight_cell3:Tryz.prog.varsNamed 6=Rows.itemRightRow.named:=by kernel_rfl
theorem itemRight_facts:joinedFacts Tryz.prog 6 Tryz.f6 Rows.itemRightSpec Rows.itemRightRow=true:=by
 unfold joinedFacts
 rw [itemRight_cell0,itemRight_cell1,itemRight_cell2,itemRight_cell3]
 kernel_rfl
theorem itemRight_lifted (os:Os) (started:os.Started) (H:Type) (enc:TypeId × Value→H) :
  ReturnsInHanded {} Tryz.checked os 6 .any (fun w args=>(Rows.itemRightSpec.pre enc Tryz.prog Tryz.f6 [] false w args∧laidMetH Tryz.prog Rows.itemRightRow.laid w)∧sizedMet enc Tryz.prog Tryz.f6 (OpenSpec.ofChange Rows.itemRightSpec) false w args)
   (Rows.itemRightSpec.post enc Tryz.prog Tryz.f6 false true false false):=by
 refine returnsInHanded_of_change_and (C:=Tryz.checked) (X:=fun w _=>laidMetH Tryz.prog Rows.itemRightRow.laid w) (fun _ _ _ hh h=>h.of_heap hh) ownK started (by kernel_rfl) Tryz.func6
  (ChangeSpec.witness_shaped (enc:=enc) (C:=Tryz.checked) (os:=os) (X:=fun w _=>laidMetH Tryz.prog Rows.itemRightRow.laid w) false (World.doorLaid Tryz.prog 400 os) #[.agg #[.int .i64 0,.string ⟨#[]⟩,.int .i64 0,.int .i64 0,.int .i64 0,.int .i32 0,.int .i64 0,.slice none 0 0,.int .u32 0,.int .i64 0],.int .i64 0] 8 rfl (World.shaped_of_RefB (by kernel_rfl) (by kernel_rfl)) (by kernel_rfl) (by kernel_rfl) (by kernel_rfl) (door_met os _)) ?_
 intro W base args ds gs before hval0 hW _ hwt hL _
 have hval:∀ (j:Nat) t v,Tryz.f6.params[j]?=some t→args[j]?=some v→Value.okWide Tryz.prog W .any base t v:=hval0
 have hW':=hW
 obtain ⟨p,q,hA0,hV,rfl,hfz,hnd⟩:=hW
 have hA:DataW.TrodAll enc Tryz.prog W 0 (fun _=>true) true Tryz.f6.params.toList args.toList ds p:=hA0
 have hpf:Tryz.f6.params=#[54,3]:=by kernel_rfl
 rw [hpf] at hA hval
 clear hA0 hval0
 obtain ⟨v0,vs0,d0,ds0,p0,q0,hv0,rfl,rfl,t0,hA1⟩:=trodAll_cons hA
 obtain ⟨v1,vs1,d1,ds1,p1,q1,hv1,rfl,rfl,t1,hA2⟩:=trodAll_cons hA1
 subst hv1
 obtain ⟨rfl,rfl,rfl⟩:=trodAll_nil hA2
 obtain ⟨args⟩:=args
 simp only at hv0
 subst hv0
 obtain ⟨rfl,rfl⟩:=trodVars_none hV
 obtain ⟨a0,b0,c0,x0,rfl,h0⟩:=open_itm (hval 0 54 v0 rfl rfl) t0 (by
  rw [hpf] at hwt
  simp only [List.cons_append,List.nil_append,DataW.weightsEach,List.all_append,Bool.and_eq_true] at hwt
  exact hwt.1)
 obtain ⟨x1,rfl,rfl,rfl,h1⟩:=open_int u3 (hval 1 3 v1 rfl rfl) t1
 simp only [List.append_nil] at hW'
 refine (calls_of (itemRight_hc (laid_of hL).1 (laid_of hL).2 h0 x1) (fun _ _ h=>h.2)).mono fun e W' ⟨v,he,hB,hv,_⟩=>?_
 subst he hv
 exact ⟨_,rfl,post_old rfl hW' (fun _ _ _=>trodAll_mk1 (shut_bool u4 _)) rfl rfl (fun t ht=>of_decide_eq_true (List.all_eq_true.1 itemRight_small t ht)) hB⟩
theorem itemRight_holds:Rows.ItemRightSaid :=
 OpenClaim.holds_of_wide 6 Tryz.f6 rfl rfl rfl rfl rfl rfl rfl ⟨rfl,rfl,rfl,rfl,rfl⟩ rfl rfl rfl rfl rfl (by kernel_rfl) Tryz.func6 itemRight_facts
  (of_decide_eq_true (by kernel_rfl)) (by unfold Func.isWrapper; first | (rw [if_pos (by decide +kernel)]; kernel_rfl) | (rw [if_neg (by decide +kernel)]; exact ⟨rfl,rfl⟩))
  (fun os started H enc _=>itemRight_lifted os started H enc)
end Go.Sx.Ob
