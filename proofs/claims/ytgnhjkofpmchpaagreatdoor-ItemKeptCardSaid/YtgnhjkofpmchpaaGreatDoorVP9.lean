/- Contracts over heaps, and plain laws, for the functions that the laws of chapter 8 call, part 9: The sizes of what is read, and the law's own comparisons, over heaps. The law's runs over heaps: a line is refused with this; chapter 8's runs. Copies of lists, over heaps: copy of a slice into a slice. Roomy and Intact of the book of memory, of terms: a copy with room behind it; it stays as it was. Condition: as each statement says. -/
import Derived.Test.YtgnhjkofpmchpaaGreatDoorVP8
set_option linter.unusedVariables false
set_option linter.unusedSimpArgs false
set_option maxRecDepth 100000
namespace Go.Sx.Ob
open Go.Proofs
theorem parseX_len {ts:List Tok} {x:Lin} (hw:Wf ts) (h:parseX ts=.ok x):x.terms.length≤ts.length:=by
 unfold parseX at h
 have:=sumD_fine 32 ts hw
 cases hs:sumD 32 ts with
 | error e=>rw [hs] at h; cases h
 | ok q =>
  rw [hs] at h this
  simp only at h
  split at h
  ·injection h with h
   subst h
   obtain ⟨_,_,_,h4⟩:=this
   omega
  ·cases h
theorem valA_len {pool:Bool} {ts:List Tok} {x:Lin} (hw:Wf ts) (h:valA pool ts=.ok x):x.terms.length≤ts.length:=by
 unfold valA at h
 split at h
 ·exact parseX_len hw h
 ·split at h
  ·cases h
  ·split at h
   ·have:=parseX_len hw.tail h
    simp only [List.length_cons]; omega
   ·cases h
def Bd (n:Nat) (x:Itm):Prop:=x.e.terms.length≤n
theorem argA_len {n:Nat} {x y:Itm} {r:Rdr} {ts:List Tok} (hw:Wf ts) (hn:ts.length≤n) (hx:Bd n x) (h:argA x r ts=.ok y):Bd n y:=by
 unfold argA at h
 unfold Bd at *
 split at h
 ·split at h
  ·cases h
  ·injection h with h
   subst h
   split
   ·exact hx
   ·split
    ·exact hx
    ·exact hx
 ·split at h
  ·cases h
  ·injection h with h
   subst h
   exact hx
 ·split at h
  ·cases h
  ·rename_i hv
   injection h with h
   subst h
   have:=valA_len hw hv
   simp only [putE]; omega
theorem codeL_len {n:Nat}:∀ (rs:List Rdr) (args:List (List Tok)) (x y:Itm),(∀ a,a∈args→Wf a∧a.length≤n)→Bd n x→codeL x rs args=.ok y→Bd n y
 | [],args,x,y,_,hx,h=>by
  have h:Except.ok x=(Except.ok y:Except Nat Itm):=by cases args <;> exact h
  injection h with h
  subst h
  exact hx
 | r::rs,[],x,y,_,hx,h=>by
  simp only [codeL] at h
  injection h with h
  subst h
  exact hx
 | r::rs,a::args,x,y,ha,hx,h=>by
  simp only [codeL] at h
  split at h
  ·cases h
  ·rename_i z hz
   exact codeL_len rs args z y (fun b hb=>ha b (by simp [hb])) (argA_len (ha a (by simp)).1 (ha a (by simp)).2 hx hz) h
theorem codeA_len {n:Nat} {op:Int} {args:List (List Tok)} {y:Itm} (ha:∀ a,a∈args→Wf a∧a.length≤n) (h:codeA op args=.ok y):Bd n y:=by
 unfold codeA at h
 split at h
 ·cases h
 ·exact codeL_len _ _ _ _ ha (by simp [Bd,code0,itm,lin0]) h
theorem itemA_len {n k:Nat} {ts:List Tok} {y:Itm} (hw:Wf ts) (hn:ts.length≤n) (h:itemA k ts=.ok y):Bd n y:=by
 unfold itemA at h
 split at h
 ·split at h
  ·cases h
  ·injection h with h
   subst h
   simp [Bd,itm,lin0]
 ·split at h
  ·cases h
  ·rename_i x hx
   injection h with h
   subst h
   have:=parseX_len hw hx
   unfold Bd; simp only; omega
theorem itemsA_len {n k:Nat}:∀ (args:List (List Tok)) (l:List Itm),(∀ a,a∈args→Wf a∧a.length≤n)→itemsA k args=.ok l→l.length=args.length∧∀ x,x∈l→Bd n x
 | [],l,_,h=>by
  simp only [itemsA] at h
  injection h with h
  subst h
  simp
 | a::args,l,ha,h=>by
  simp only [itemsA] at h
  split at h
  ·cases h
  ·rename_i x hx
   split at h
   ·cases h
   ·rename_i l' hl
    injection h with h
    subst h
    have:=itemsA_len args l' (fun b hb=>ha b (by simp [hb])) hl
    refine ⟨by simp [this.1],fun y hy=>?_⟩
    rcases List.mem_cons.1 hy with rfl | hy
    ·exact itemA_len (ha a (by simp)).1 (ha a (by simp)).2 hx
    ·exact this.2 y hy
structure ThgSz (n:Nat) (t:Thg):Prop where
 many:t.items.length≤n
 item:∀ x,x∈t.items→Bd n x
 e:t.e.terms.length≤n
theorem ThgSz.z (n:Nat):ThgSz n thg0:=⟨by simp [thg0],by simp [thg0],by simp [thg0,lin0]⟩
theorem ThgSz.one {n:Nat} {x:Itm} (hn:1≤n) (h:Bd n x):ThgSz n (oneT x):=⟨by simp [oneT]; omega,by simp [oneT]; exact h,by simp [oneT,thg0,lin0]⟩
theorem dirA_sz {n:Nat} {op:ByteArray} {args:List (List Tok)} {t:Thg} {w:Nat} (hn:1≤n) (ha:∀ a,a∈args→Wf a∧a.length≤n) (hl:args.length≤n) (h:dirA op args=.ok (t,w)):ThgSz n t:=by
 have hag:∀ i,Wf (ag args i)∧(ag args i).length≤n:=by
  intro i
  unfold ag
  rw [List.getD_eq_getElem?_getD]
  cases hh:args[i]? with
  | none=>exact ⟨fun t ht=>by simp at ht,by simp⟩
  | some a=>exact ha a (List.mem_of_getElem? hh)
 have z:∀ x:Itm,x.e=lin0→Bd n x:=fun x hx=>by unfold Bd; rw [hx]; simp [lin0]
 unfold dirA at h
 simp only at h
 split at h
 ·cases h
 split at h
 ·injection h with h; injection h with h _; subst h
  exact ThgSz.one hn (z _ rfl)
 split at h
 ·split at h
  ·cases h
  split at h
  ·injection h with h; injection h with h _; subst h
   exact ThgSz.one hn (z _ rfl)
  ·cases h
 split at h
 ·split at h
  ·cases h
  injection h with h; injection h with h _; subst h
  exact ThgSz.one hn (z _ rfl)
 split at h
 ·split at h
  ·cases h
  split at h
  ·cases h
  rename_i l hh
  injection h with h; injection h with h _; subst h
  have:=itemsA_len args l ha hh
  exact ⟨by simp only; omega,this.2,by simp [thg0,lin0]⟩
 split at h
 ·split at h
  ·cases h
  split at h
  ·cases h
  rename_i l hh
  injection h with h; injection h with h _; subst h
  have:=itemsA_len args l ha hh
  exact ⟨by simp only; omega,this.2,by simp [thg0,lin0]⟩
 split at h
 ·split at h
  ·cases h
  split at h
  ·cases h
  rename_i x hx
  injection h with h; injection h with h _; subst h
  have:=parseX_len (hag 1).1 hx
  exact ⟨by simp [thg0],by simp [thg0],by have:=(hag 1).2; simp only; omega⟩
 split at h
 ·split at h
  ·cases h
  injection h with h; injection h with h _; subst h
  exact ⟨by simp [thg0],by simp [thg0],by simp [thg0,lin0]⟩
 split at h
 ·split at h
  ·injection h with h; injection h with h _; subst h
   exact ⟨by simp [thg0],by simp [thg0],by simp [thg0,lin0]⟩
  split at h
  ·injection h with h; injection h with h _; subst h
   exact ⟨by simp [thg0],by simp [thg0],by simp [thg0,lin0]⟩
  ·cases h
 ·cases h
theorem readA_sz {n:Nat} {l:Ln} {data:Bool} {t:Thg} (hn:1≤n) (ha:∀ a,a∈l.args→Wf a∧a.length≤n) (hl:l.args.length≤n) (h:readA l data=.ok t):ThgSz n t:=by
 unfold readA at h
 split at h
 ·injection h with h
  subst h
  exact ThgSz.z n
 split at h
 ·split at h
  ·cases h
  rename_i x hx
  split at h
  ·cases h
  injection h with h
  subst h
  exact ThgSz.one hn (codeA_len ha hx)
 split at h
 ·cases h
 rename_i t' w' hd
 by_cases g:w'=2∨w'=(if data then 1 else 0)
 ·rw [if_pos g] at h
  injection h with h
  subst h
  exact dirA_sz hn ha hl hd
 ·rw [if_neg g] at h
  cases h
theorem shp_sm {op:Int} (h:shp op≠0):Sm op:=by
 unfold shp at h
 unfold Sm
 split at h
 ·exact absurd rfl h
 ·by_cases g:op≤43
  ·omega
  ·exfalso
   apply h
   rw [List.getD_eq_getElem?_getD,List.getElem?_eq_none (by simp only [shpL,List.length_cons,List.length_nil]; omega)]
   rfl
theorem itmR_at {h:Hp} {p:Option Addr} {l:Nat} {x:Itm} {k n:Nat} (hn:n≤2^60) (hr:itmR x k=true) (g:Good x.e) (hx:Bd n x) (v:VwT h p l x.e.terms):ItmAt h p l x:=by
 refine ⟨⟨v,by unfold Bd at hx; omega,g.size⟩,?_,?_⟩
 ·have z:z1 x=true→x.name.size≤maxLen:=fun e=>by
   have e:x.name=nam0:=of_decide_eq_true e
   rw [e]; decide
  unfold itmR at hr
  repeat' split at hr
  all_goals try simp only [Bool.and_eq_true] at hr
  ·have:=legal_size hr.1.1.1
   unfold maxLen; omega
  all_goals first | exact z hr.1.1.1 | exact z hr.1.1 | exact z hr.1.2 | exact z hr.1.1.1.2 | exact z hr.1.1.2 | (cases hr; done)
 ·have z:z2 x=true→Sm x.inst.op:=fun e=>by
   have e:x.inst=ins0:=of_decide_eq_true e
   rw [e]; unfold Sm ins0; simp
  unfold itmR at hr
  repeat' split at hr
  all_goals try simp only [Bool.and_eq_true] at hr
  ·exact z hr.1.1.2
  ·have h1:=hr.1.1.2
   unfold insR at h1
   simp only [Bool.and_eq_true] at h1
   exact shp_sm (of_decide_eq_true h1.1.1)
  all_goals first | exact z hr.1.1.1.2 | exact z hr.1.1.2 | exact z hr.1.2 | exact z hr.2 | (cases hr; done)
structure ThgGd (t:Thg):Prop where
 ok:∃ d,ThgOk t d
 sz:ThgSz (2^40) t
theorem ThgAt.vwI {h:Hp} {b:Nat} {t:Thg} {sl se:Sli} {us:List (Sli × Itm)} (g:ThgGd t) (A:ThgAt h b t sl us se):VwI h sl.p sl.l t.items:=by
 obtain ⟨d,ok⟩:=g.ok
 have he:=A.eq
 have hlen:us.length=t.items.length:=by rw [← he,List.length_map]
 refine ⟨by rw [A.its.len,hlen],by have:=g.sz.many; omega,fun i hi=>?_⟩
 have hi':i<us.length:=by omega
 obtain ⟨a,ha,hc⟩:=A.its.out.cells (i:=i) (by rw [List.length_map]; exact hi')
 rw [List.getElem_map] at hc
 have e:t.items[i]=us[i].2:=by
  have:(us.map (·.2))[i]'(by rw [List.length_map]; exact hi')=us[i].2:=by simp
  rw [← this]
  exact getE he.symm _ _
 have hm:t.items[i]∈t.items:=List.getElem_mem hi
 have hr:=ok.items _ hm
 have hs:=g.sz.item _ hm
 have ho:=A.its.own us[i] (List.getElem_mem hi')
 rw [e] at hr hs ⊢
 exact ⟨a,us[i].1.p,us[i].1.l,us[i].1.c,ha,hc,itmR_at (by omega) hr.1 hr.2 hs ho.vwT⟩
theorem sayR_gd (s:ByteArray) (hs:s.size≤2^20) (sec:Int):ThgGd (sayR s sec).1:=by
 have z:ThgGd thg0:=⟨⟨false,ThgOk.z _⟩,ThgSz.z _⟩
 unfold sayR
 split
 ·exact z
 ·cases hr:readA (parseS s).1 (decide (sec=1)) with
  | error e=>exact z
  | ok t =>
   have f:=parse_facts s hs
   have f2:=(parseS_bound s).2
   exact ⟨⟨_,readA_right (fun a ha=>(f a ha).1) hr⟩,readA_sz (by decide) (fun a ha=>⟨(f a ha).1,(f a ha).2.1⟩) (by omega) hr⟩
theorem same10_hc {h:Hp} {b b':Nat} {t:Thg} {sl se sl' se':Sli} {us us':List (Sli × Itm)} (g:ThgGd t) (A:ThgAt h b t sl us se) (A':ThgAt h b' t sl' us' se') :
  HC Tryz.prog 10 #[thgV t.kind sl t.name se t.e.num t.sec,thgV t.kind sl' t.name se' t.e.num t.sec] h fun w h'=>w=.bool true∧Ext h h':=by
 refine hcr_of (args:=[thgV t.kind sl t.name se t.e.num t.sec,thgV t.kind sl' t.name se' t.e.num t.sec]) mixed Tryz.func10 (by kernel_rfl) (t_spandrellaw8_same_eq t.kind sl.p sl.l sl.c t.name se.p se.l se.c t.e.num t.sec t.kind sl'.p sl'.l sl'.c t.name se'.p se'.l se'.c t.e.num t.sec) ?_
 unfold t_spandrellaw8_same
 refine newB ?_
 intro g1 b1 e1 z1
 refine newB ?_
 intro g2 b2 e2 z2
 have b1:=b1.keep e2 (by simp)
 have e02:=e1.trans e2
 have b1:Box g2 h.size 28 (thgC t.kind sl.p sl.l sl.c t.name se.p se.l se.c t.e.num t.sec):=b1
 have b2:Box g2 g1.size 30 (thgC t.kind sl'.p sl'.l sl'.c t.name se'.p se'.l se'.c t.e.num t.sec):=b2
 refine loads_box b1 ((t.kind:Int),()) rfl ?_
 dsimp only [flat,unc,unc1,nA,cA]
 refine loads_box b2 ((t.kind:Int),()) rfl ?_
 dsimp only [flat,unc,unc1,nA,cA]
 refine cond_t (by simp) ?_
 rw [add_box,add_box]
 refine loads_box b1 ((sl.p,sl.l,sl.c),()) rfl ?_
 dsimp only [flat,unc,unc1,nA,cA]
 refine loads_box b2 ((sl'.p,sl'.l,sl'.c),()) rfl ?_
 dsimp only [flat,unc,unc1,nA,cA]
 refine call_of (sameItems_hc ((A.vwI g).keep e02) ((A'.vwI g).keep e02)) ?_
 rintro _ g3 ⟨bb,rfl,hb,e3⟩
 have hb:bb=true:=hb.2 rfl
 subst hb
 refine ⟨(true,()),rfl,?_⟩
 dsimp only [flat,unc,unc1,nA,cA]
 refine cond_t rfl ?_
 have b1:=b1.keep e3 (by simp)
 have b2:=b2.keep e3 (by simp)
 have e03:=e02.trans e3
 rw [add_box,add_box]
 refine loads_box b1 (t.name,()) rfl ?_
 dsimp only [flat,unc,unc1,nA,cA]
 refine loads_box b2 (t.name,()) rfl ?_
 dsimp only [flat,unc,unc1,nA,cA]
 refine cond_t (by simp) ?_
 rw [add_box,add_box]
 refine loads_box b1 ((se.p,se.l,se.c),(t.e.num:Int),()) rfl ?_
 dsimp only [flat,unc,unc1,nA,cA]
 refine loads_box b2 ((se'.p,se'.l,se'.c),(t.e.num:Int),()) rfl ?_
 dsimp only [flat,unc,unc1,nA,cA]
 refine call_of (same48_hc (A.e.vwT.keep e03 (by simp)) (A'.e.vwT.keep e03 (by simp)) (by have:=g.sz.e; omega)) ?_
 rintro _ g4 ⟨rfl,e4⟩
 rw [linB_refl]
 refine ⟨(true,()),rfl,?_⟩
 dsimp only [flat,unc,unc1,nA,cA]
 refine cond_t rfl ?_
 have b1:=b1.keep e4 (by simp)
 have b2:=b2.keep e4 (by simp)
 rw [add_box,add_box]
 refine loads_box b1 ((t.sec:Int),()) rfl ?_
 dsimp only [flat,unc,unc1,nA,cA]
 refine loads_box b2 ((t.sec:Int),()) rfl ?_
 dsimp only [flat,unc,unc1,nA,cA]
 exact ⟨by simp,e03.trans e4⟩
theorem says_hc {h:Hp} (tb:TabN h) (ld:Laid h) (s:ByteArray) (hs:s.size≤2^20) (sec why:Int):HC Tryz.prog 18 #[.string s,.int .i64 sec,.int .i64 why] h fun w h'=>w=.bool (decide (((sayR s sec).2:Int)=why))∧Ext h h':=by
 refine hcr_of (args:=[.string s,.int .i64 sec,.int .i64 why]) mixed Tryz.func18 (by kernel_rfl) (t_spandrellaw8_says_eq s sec why) ?_
 unfold t_spandrellaw8_says
 refine call_of (lread_hc tb ld s hs sec) ?_
 rintro _ g1 ⟨e1,sl,us,se,sl',us',se',rfl,A,A'⟩
 have gd:=sayR_gd s hs sec
 obtain ⟨R,hR⟩:∃ R,sayR s sec=R:=⟨_,rfl⟩
 rw [hR] at A A' gd ⊢
 refine ⟨((R.1.kind:Int),(sl.p,sl.l,sl.c),R.1.name,(se.p,se.l,se.c),(R.1.e.num:Int),(R.1.sec:Int),(R.2:Int),(R.1.kind:Int),(sl'.p,sl'.l,sl'.c),R.1.name,(se'.p,se'.l,se'.c),(R.1.e.num:Int),(R.1.sec:Int),(R.2:Int),true,()),rfl,?_⟩
 dsimp only [flat,unc,unc1,nA,cA]
 refine newB ?_
 intro g2 b2 e2 z2
 refine newB ?_
 intro g3 b3 e3 z3
 have b2:=b2.keep e3 (by simp)
 have e13:=e2.trans e3
 refine stores_of b2 rfl (by simp) ?_
 intro g4 b4 k4 z4
 have b34:=b3.keep k4 (by simp; omega)
 refine stores_of b34 rfl (by simp) ?_
 intro g5 b5 k5 z5
 have b45:=b4.keep k5 (by simp; omega)
 have b45:Box g5 g1.size 28 (thgC R.1.kind sl.p sl.l sl.c R.1.name se.p se.l se.c R.1.e.num R.1.sec):=b45
 have b5:Box g5 g2.size 30 (thgC R.1.kind sl'.p sl'.l sl'.c R.1.name se'.p se'.l se'.c R.1.e.num R.1.sec):=b5
 have e14:Ext g1 g4:=Ch.trans e13 k4 (fun i hi hl=>by simp at hi; omega)
 have e15:Ext g1 g5:=Ch.trans e14 k5 (fun i hi hl=>by simp at hi; omega)
 have e05:=e1.trans e15
 refine cond_t rfl ?_
 by_cases q:(R.2:Int)=why
 ·refine cond_t (by simpa using q) (cond_t (by simpa using q) ?_)
  refine loads_box b45 ((R.1.kind:Int),(sl.p,sl.l,sl.c),R.1.name,(se.p,se.l,se.c),(R.1.e.num:Int),(R.1.sec:Int),()) rfl ?_
  dsimp only [flat,unc,unc1,nA,cA]
  refine loads_box b5 ((R.1.kind:Int),(sl'.p,sl'.l,sl'.c),R.1.name,(se'.p,se'.l,se'.c),(R.1.e.num:Int),(R.1.sec:Int),()) rfl ?_
  dsimp only [flat,unc,unc1,nA,cA]
  refine call_of (same10_hc gd (A.keep e15 (by simp)) (A'.keep e15 (by simp))) ?_
  rintro _ g6 ⟨rfl,e6⟩
  refine ⟨(true,()),rfl,?_⟩
  dsimp only [flat,unc,unc1,nA,cA]
  exact ⟨by rw [decide_eq_true q],e05.trans e6⟩
 ·refine cond_f (by simpa using q) ?_
  exact ⟨by rw [decide_eq_false q],e05⟩
abbrev klA:ByteArray:=⟨#[97,100,100,32,114,49,44,32,114,50]⟩
abbrev klB:ByteArray:=⟨#[108,105,115,32,114,49,44,32,50,48,48]⟩
theorem sayA:sayR klA 0=(oneT { itm 2 with inst:=⟨14,1,2,0,0⟩ },0):=by kernel_rfl
theorem sayA1:(sayR klA 1).2=21:=by kernel_rfl
theorem sayB:(sayR klB 0).2=21:=by kernel_rfl
theorem known_hc {h:Hp} (tb:TabN h) (ld:Laid h):HC Tryz.prog 11 #[] h fun w h'=>w=.bool true∧Ext h h':=by
 refine hcr_of (args:=[]) mixed Tryz.func11 (by kernel_rfl) t_spandrellaw8_known_eq ?_
 unfold t_spandrellaw8_known
 refine call_of (lread_hc tb ld klA (by decide) 0) ?_
 rintro _ g1 ⟨e1,sl,us,se,sl',us',se',rfl,A,A'⟩
 rw [sayA] at A A' ⊢
 obtain ⟨x,hx⟩:∃ x:Itm,x={ itm 2 with inst:=⟨14,1,2,0,0⟩ }:=⟨_,rfl⟩
 rw [← hx] at A A' ⊢
 refine ⟨((1:Int),(sl.p,sl.l,sl.c),nam0,(se.p,se.l,se.c),(0:Int),(0:Int),(0:Int),(1:Int),(sl'.p,sl'.l,sl'.c),nam0,(se'.p,se'.l,se'.c),(0:Int),(0:Int),(0:Int),true,()),rfl,?_⟩
 dsimp only [flat,unc,unc1,nA,cA]
 refine newB ?_
 intro g2 b2 e2 z2
 refine newB ?_
 intro g3 b3 e3 z3
 have b2:=b2.keep e3 (by simp)
 have e13:=e2.trans e3
 refine stores_of b2 rfl (by simp) ?_
 intro g4 b4 k4 z4
 have b34:=b3.keep k4 (by simp; omega)
 refine stores_of b34 rfl (by simp) ?_
 intro g5 b5 k5 z5
 have b45:=b4.keep k5 (by simp; omega)
 have b45:Box g5 g1.size 28 (thgC 1 sl.p sl.l sl.c nam0 se.p se.l se.c 0 0):=b45
 have e14:Ext g1 g4:=Ch.trans e13 k4 (fun i hi hl=>by simp at hi; omega)
 have e15:Ext g1 g5:=Ch.trans e14 k5 (fun i hi hl=>by simp at hi; omega)
 have e05:=e1.trans e15
 refine cond_t rfl (cond_t rfl ?_)
 refine loads_box b45 ((1:Int),()) rfl ?_
 dsimp only [flat,unc,unc1,nA,cA]
 refine cond_t rfl ?_
 rw [add_box]
 have hlen:us.length=1:=by
  have:=congrArg List.length A.eq
  rw [List.length_map] at this
  exact this
 have hl:sl.l=1:=by rw [A.its.len,hlen]
 refine loads_box b45 ((sl.p,sl.l,sl.c),()) rfl ?_
 dsimp only [flat,unc,unc1,nA,cA]
 rw [hl]
 refine cond_t rfl ?_
 refine loads_box b45 ((sl.p,sl.l,sl.c),()) rfl ?_
 dsimp only [flat,unc,unc1,nA,cA]
 rw [hl]
 have A5:=A.keep e15 (by simp)
 obtain ⟨a,ha,hc⟩:=A5.its.out.cells (i:=0) (by rw [List.length_map]; omega)
 rw [List.getElem_map] at hc
 have hx0:us[0].2=x:=by
  have h1:(us.map (·.2))[0]'(by rw [List.length_map]; omega)=us[0].2:=by simp
  rw [← h1]
  exact getE (show us.map (·.2)=[x] from A.eq) _ (by simp)
 rw [show a.add (0*10)=a by simp [Addr.add]] at hc
 have hc:cellsAt g5 a 0 (encI us[0].1.p us[0].1.l us[0].1.c x):=by rw [← hx0]; exact hc
 rw [ha]
 refine need_of ⟨by decide,by decide⟩ (osome_mk rfl ?_)
 have hc2:cellsAt g5 (a.add 2) 0 [.int .i64 14,.int .i64 1,.int .i64 2,.int .i32 0,.int .i64 0]:=by
  rw [hx] at hc
  exact cellsAt_add _ 2 0 ⟨hc.2.2.1,hc.2.2.2.1,hc.2.2.2.2.1,hc.2.2.2.2.2.1,hc.2.2.2.2.2.2.1,trivial⟩
 refine loads_of ((14:Int),(1:Int),(2:Int),(0:Int),(0:Int),()) hc2 ?_
 dsimp only [flat,unc,unc1,nA,cA]
 refine sem_bool (fun K' hK=>cmpInsE _ _ ⟨14,1,2,0,0⟩ ⟨14,1,2,0,0⟩ g5 K' hK) ?_
 refine cond_t (by decide) ?_
 refine call_of (says_hc (tb.keep e05 (by simp)) (ld.ext e05) klA (by decide) 1 21) ?_
 rintro _ g6 ⟨rfl,e6⟩
 rw [sayA1]
 refine ⟨(true,()),rfl,?_⟩
 dsimp only [flat,unc,unc1,nA,cA]
 refine cond_t rfl ?_
 have e06:=e05.trans e6
 refine call_of (says_hc (tb.keep e06 (by simp)) (ld.ext e06) klB (by decide) 0 21) ?_
 rintro _ g7 ⟨rfl,e7⟩
 rw [sayB]
 refine ⟨(true,()),rfl,?_⟩
 dsimp only [flat,unc,unc1,nA,cA]
 exact ⟨rfl,e06.trans e7⟩
end Go.Sx.Ob
set_option linter.unusedVariables false
set_option linter.unusedSimpArgs false
set_option maxRecDepth 100000
namespace Go.Sx
open Go.Proofs
theorem chunk {α:Type} (sz:Nat):∀ (n:Nat) (ys:List α),ys.length=n*sz→∃ xs:List (List α),xs.length=n∧(∀ x,x∈xs→x.length=sz)∧xs.flatten=ys
 | 0,ys,h=>⟨[],rfl,by simp,by rw [Nat.zero_mul] at h; rw [List.length_eq_zero_iff.1 h]; rfl⟩
 | n+1,ys,h=>by
  rw [Nat.succ_mul] at h
  obtain ⟨xs,h1,h2,h3⟩:=chunk sz n (ys.drop sz) (by rw [List.length_drop]; omega)
  refine ⟨ys.take sz::xs,by simp [h1],?_,by rw [List.flatten_cons,h3,List.take_append_drop]⟩
  intro x hx
  rcases List.mem_cons.1 hx with rfl | hx
  ·rw [List.length_take]; omega
  ·exact h2 x hx
def t_spandrelbook_Same_api_Term_ (pp00:Option Addr) (ll00 cc00:Nat) (pp10:Option Addr) (ll10 cc10:Nat):T :=
 cond ((ll00:Int) != (ll10:Int))
 (T.ret (.bool false))
 (T.loop [(false,[.bool]),(false,[.int .i64])] [.bool false,.int .i64 (0:Int)] <| fun (b2:Bool) (n3:Int) =>
 cond (decide (n3<(ll00:Int)))
  (T.need (((0:Int)≤n3)∧(n3<(ll00:Int))) <|
  T.osome pp00 <| fun (a4:Addr) =>
  T.loads (a4.add ((Int.toNat n3)*2)) [.string,.int .u32] <| fun (s5:ByteArray) (n6:Int) =>
  T.need (((0:Int)≤n3)∧(n3<(ll10:Int))) <|
  T.osome pp10 <| fun (a7:Addr) =>
  T.loads (a7.add ((Int.toNat n3)*2)) [.string,.int .u32] <| fun (s8:ByteArray) (n9:Int) =>
  T.sem Tryz.prog (Sx.cmpS (BinOp.neq) 50 (Operand.tmp 20) (Operand.tmp 24) (.agg #[.string s5,.int .u32 n6]) (.agg #[.string s8,.int .u32 n9])) false [(false,[.bool])] <| fun (b10:Bool) =>
  cond b10
  (T.ret (.bool false))
  (T.again 0 [.bool b2,.int .i64 (IntKind.wrap .i64 (n3+(1:Int)))]))
  (T.ret (.bool true)))
theorem t_spandrelbook_Same_api_Term__eq (pp00:Option Addr) (ll00 cc00:Nat) (pp10:Option Addr) (ll10 cc10:Nat):xfun Tryz.prog [] Tryz.f33 [.slice pp00 ll00 cc00,.slice pp10 ll10 cc10]=t_spandrelbook_Same_api_Term_ pp00 ll00 cc00 pp10 ll10 cc10:=by kernel_rfl
def t_spandrelbook_Book_api_Term___Stays (p0:Option Addr):T :=
 T.loop [(false,[.int .i64])] [.int .i64 (0:Int)] <| fun (n1:Int) =>
 T.osome p0 <| fun (a2:Addr) =>
 T.loads a2 [.slice 23] <| fun (p3:Option Addr) (l4:Nat) (l5:Nat) =>
 cond (decide (n1<(l4:Int)))
 (T.osome p0 <| fun (a6:Addr) =>
 T.loads (a6.add 3) [.bool] <| fun (b7:Bool) =>
 cond b7
  (T.osome p0 <| fun (a8:Addr) =>
  T.stores (a8.add 3) [.bool true] <|
  T.again 0 [.int .i64 (IntKind.wrap .i64 (n1+(1:Int)))])
  (T.osome p0 <| fun (a8:Addr) =>
  T.loads a8 [.slice 23] <| fun (p9:Option Addr) (l10:Nat) (l11:Nat) =>
  T.need (((0:Int)≤n1)∧(n1<(l10:Int))) <|
  T.osome p9 <| fun (a12:Addr) =>
  T.loads (a12.add ((Int.toNat n1)*1)) [.slice 50] <| fun (p13:Option Addr) (l14:Nat) (l15:Nat) =>
  T.osome p0 <| fun (a16:Addr) =>
  T.loads (a16.add 1) [.slice 23] <| fun (p17:Option Addr) (l18:Nat) (l19:Nat) =>
  T.need (((0:Int)≤n1)∧(n1<(l18:Int))) <|
  T.osome p17 <| fun (a20:Addr) =>
  T.loads (a20.add ((Int.toNat n1)*1)) [.slice 50] <| fun (p21:Option Addr) (l22:Nat) (l23:Nat) =>
  T.call Tryz.prog 33 [.slice p13 l14 l15,.slice p21 l22 l23] false [(false,[.bool])] <| fun (b24:Bool) =>
  T.stable [((a16.add 1),[.slice p17 l18 l19]),(a8,[.slice p9 l10 l11]),((a6.add 3),[.bool b7])] <|
  T.osome p0 <| fun (a25:Addr) =>
  T.stores (a25.add 3) [.bool (!b24)] <|
  T.again 0 [.int .i64 (IntKind.wrap .i64 (n1+(1:Int)))]))
 (T.osome p0 <| fun (a6:Addr) =>
 T.loads (a6.add 3) [.bool] <| fun (b7:Bool) =>
 T.ret (.bool (!b7)))
theorem t_spandrelbook_Book_api_Term___Stays_eq (p0:Option Addr):xfun Tryz.prog [] Tryz.f34 [.pointer p0]=t_spandrelbook_Book_api_Term___Stays p0:=by kernel_rfl
def t_spandrellaw8_mark (n0:Int) (n1:Int):T :=
 T.new [.string ⟨#[]⟩,.int .u32 (0:Int)] 50 <| fun (a2:Addr) =>
 T.need ((0:Int)≤(16:Int)) <|
 T.stores a2 [.string ⟨#[109,97,114,107]⟩,.int .u32 (IntKind.wrap .u32 ((IntKind.wrap .u32 ((IntKind.wrap .u32 n0)*(65536:Int)))+(IntKind.wrap .u32 n1)))] <|
 T.loads a2 [.string,.int .u32] <| fun (s3:ByteArray) (n4:Int) =>
 T.ret (.agg #[.string s3,.int .u32 n4])
theorem t_spandrellaw8_mark_eq (n0:Int) (n1:Int):xfun Tryz.prog [] Tryz.f17 [.int .i64 n0,.int .i64 n1]=t_spandrellaw8_mark n0 n1:=by kernel_rfl
def t_spandrelbook_Book_api_Term___Keep (p0:Option Addr) (pp10:Option Addr) (ll10 cc10:Nat):T :=
 T.join []
 (T.osome p0 <| fun (a2:Addr) =>
 T.loads a2 [.slice 23] <| fun (p3:Option Addr) (l4:Nat) (l5:Nat) =>
 T.sem Tryz.prog (Instr.buildSlice 43 1 #[(0,.slice pp10 ll10 cc10)]) false [(false,[.slice 0])] <| fun (p6:Option Addr) (l7:Nat) (l8:Nat) =>
 T.sem Tryz.prog (Builtin.append_ #[43,43] 43 #[.slice p3 l4 l5,.slice p6 l7 l8]) false [(false,[.slice 0])] <| fun (p9:Option Addr) (l10:Nat) (l11:Nat) =>
 T.osome p0 <| fun (a12:Addr) =>
 T.stores a12 [.slice p9 l10 l11] <|
 T.again 0 []) <| T.join []
 (T.osome p0 <| fun (a2:Addr) =>
 T.loads (a2.add 1) [.slice 23] <| fun (p3:Option Addr) (l4:Nat) (l5:Nat) =>
 T.sem Tryz.prog (Builtin.append_ #[23,23] 23 #[.slice none 0 0,.slice pp10 ll10 cc10]) false [(false,[.slice 0])] <| fun (p6:Option Addr) (l7:Nat) (l8:Nat) =>
 T.stable [((a2.add 1),[.slice p3 l4 l5])] <|
 T.sem Tryz.prog (Instr.buildSlice 43 1 #[(0,.slice p6 l7 l8)]) false [(false,[.slice 0])] <| fun (p9:Option Addr) (l10:Nat) (l11:Nat) =>
 T.stable [((a2.add 1),[.slice p3 l4 l5])] <|
 T.sem Tryz.prog (Builtin.append_ #[43,43] 43 #[.slice p3 l4 l5,.slice p9 l10 l11]) false [(false,[.slice 0])] <| fun (p12:Option Addr) (l13:Nat) (l14:Nat) =>
 T.osome p0 <| fun (a15:Addr) =>
 T.stores (a15.add 1) [.slice p12 l13 l14] <|
 T.again 0 []) <| T.osome p0 <| fun (a2:Addr) =>
 T.loads (a2.add 2) [.int .i64] <| fun (n3:Int) =>
 T.osome p0 <| fun (a4:Addr) =>
 T.stores (a4.add 2) [.int .i64 (IntKind.wrap .i64 ((IntKind.wrap .i64 (n3+(cc10:Int)))+(1:Int)))] <|
 T.loop [] [] <| T.join []
 (T.osome p0 <| fun (a5:Addr) =>
 T.loads a5 [.slice 23] <| fun (p6:Option Addr) (l7:Nat) (l8:Nat) =>
 cond (decide ((l7:Int)>(1:Int)))
  (T.osome p0 <| fun (a9:Addr) =>
  T.loads (a9.add 2) [.int .i64] <| fun (n10:Int) =>
  cond (decide (n10>(1000000:Int)))
  (T.again 1 [])
  (T.osome p0 <| fun (a11:Addr) =>
  T.loads a11 [.slice 23] <| fun (p12:Option Addr) (l13:Nat) (l14:Nat) =>
  cond (decide ((l13:Int)>(4000:Int)))
   (T.again 1 [])
   (T.ret (.tuple #[]))))
  (T.ret (.tuple #[]))) <| T.join []
 (T.osome p0 <| fun (a5:Addr) =>
 T.loads (a5.add 3) [.bool] <| fun (b6:Bool) =>
 cond b6
  (T.osome p0 <| fun (a7:Addr) =>
  T.stores (a7.add 3) [.bool true] <|
  T.again 1 [])
  (T.osome p0 <| fun (a7:Addr) =>
  T.loads a7 [.slice 23] <| fun (p8:Option Addr) (l9:Nat) (l10:Nat) =>
  T.need (((0:Int)≤(0:Int))∧((0:Int)<(l9:Int))) <|
  T.osome p8 <| fun (a11:Addr) =>
  T.loads a11 [.slice 50] <| fun (p12:Option Addr) (l13:Nat) (l14:Nat) =>
  T.osome p0 <| fun (a15:Addr) =>
  T.loads (a15.add 1) [.slice 23] <| fun (p16:Option Addr) (l17:Nat) (l18:Nat) =>
  T.need (((0:Int)≤(0:Int))∧((0:Int)<(l17:Int))) <|
  T.osome p16 <| fun (a19:Addr) =>
  T.loads a19 [.slice 50] <| fun (p20:Option Addr) (l21:Nat) (l22:Nat) =>
  T.call Tryz.prog 33 [.slice p12 l13 l14,.slice p20 l21 l22] false [(false,[.bool])] <| fun (b23:Bool) =>
  T.stable [((a15.add 1),[.slice p16 l17 l18]),(a7,[.slice p8 l9 l10]),((a5.add 3),[.bool b6])] <|
  T.osome p0 <| fun (a24:Addr) =>
  T.stores (a24.add 3) [.bool (!b23)] <|
  T.again 1 [])) <| T.osome p0 <| fun (a5:Addr) =>
 T.loads (a5.add 2) [.int .i64] <| fun (n6:Int) =>
 T.osome p0 <| fun (a7:Addr) =>
 T.loads a7 [.slice 23] <| fun (p8:Option Addr) (l9:Nat) (l10:Nat) =>
 T.need (((0:Int)≤(0:Int))∧((0:Int)<(l9:Int))) <|
 T.osome p8 <| fun (a11:Addr) =>
 T.loads a11 [.slice 50] <| fun (p12:Option Addr) (l13:Nat) (l14:Nat) =>
 T.osome p0 <| fun (a15:Addr) =>
 T.stores (a15.add 2) [.int .i64 (IntKind.wrap .i64 ((IntKind.wrap .i64 (n6-(l14:Int)))-(1:Int)))] <|
 T.osome p0 <| fun (a16:Addr) =>
 T.loads a16 [.slice 23] <| fun (p17:Option Addr) (l18:Nat) (l19:Nat) =>
 T.need (((0:Int)≤(1:Int))∧(((1:Int)≤(l18:Int))∧((l18:Int)≤(l19:Int)))) <|
 T.osome p0 <| fun (a20:Addr) =>
 T.stores a20 [.slice (if (l19=1) then p17 else (Option.map (fun a=>Addr.add a 1) p17)) ((Int.toNat (l18:Int))-1) (l19-1)] <|
 T.osome p0 <| fun (a21:Addr) =>
 T.loads (a21.add 1) [.slice 23] <| fun (p22:Option Addr) (l23:Nat) (l24:Nat) =>
 T.need (((0:Int)≤(1:Int))∧(((1:Int)≤(l23:Int))∧((l23:Int)≤(l24:Int)))) <|
 T.osome p0 <| fun (a25:Addr) =>
 T.stores (a25.add 1) [.slice (if (l24=1) then p22 else (Option.map (fun a=>Addr.add a 1) p22)) ((Int.toNat (l23:Int))-1) (l24-1)] <|
 T.again 0 []
theorem t_spandrelbook_Book_api_Term___Keep_eq (p0:Option Addr) (pp10:Option Addr) (ll10 cc10:Nat):xfun Tryz.prog [0,1,1004,4] Tryz.f14 [.pointer p0,.slice pp10 ll10 cc10]=t_spandrelbook_Book_api_Term___Keep p0 pp10 ll10 cc10:=by kernel_rfl
def t_spandrelbook_Book_api_Term___Apart_s17 (p0:Option Addr):T :=
 T.call Tryz.prog 34 [.pointer p0] false [(false,[.bool])] <| fun (b1:Bool) =>
 cond (!b1)
 (T.ret (.bool false))
 (T.loop [(false,[.int .i64])] [.int .i64 (0:Int)] <| fun (n2:Int) =>
 T.osome p0 <| fun (a3:Addr) =>
 T.loads a3 [.slice 23] <| fun (p4:Option Addr) (l5:Nat) (l6:Nat) =>
 cond (decide (n2<(l5:Int)))
  (T.osome p0 <| fun (a7:Addr) =>
  T.loads a7 [.slice 23] <| fun (p8:Option Addr) (l9:Nat) (l10:Nat) =>
  T.need (((0:Int)≤n2)∧(n2<(l9:Int))) <|
  T.osome p8 <| fun (a11:Addr) =>
  T.loads (a11.add ((Int.toNat n2)*1)) [.slice 50] <| fun (p12:Option Addr) (l13:Nat) (l14:Nat) =>
  T.osome p0 <| fun (a15:Addr) =>
  T.loads a15 [.slice 23] <| fun (p16:Option Addr) (l17:Nat) (l18:Nat) =>
  T.need (((0:Int)≤n2)∧(n2<(l17:Int))) <|
  T.osome p16 <| fun (a19:Addr) =>
  T.loads (a19.add ((Int.toNat n2)*1)) [.slice 50] <| fun (p20:Option Addr) (l21:Nat) (l22:Nat) =>
  T.need (((0:Int)≤(0:Int))∧(((0:Int)≤(l22:Int))∧((l22:Int)≤(l14:Int)))) <|
  T.loop [(false,[.int .i64])] [.int .i64 (0:Int)] <| fun (n23:Int) =>
  cond (decide (n23<((((Int.toNat (l22:Int))-0):Nat):Int)))
  (T.callv Tryz.prog (.func (Fn.func 17) #[] #[]) [.int .i64 n2,.int .i64 n23] false [(true,[.string,.int .u32])] <| fun (s24:ByteArray) (n25:Int) =>
  T.need (((0:Int)≤n23)∧(n23<((((Int.toNat (l22:Int))-0):Nat):Int))) <|
  T.osome (if (l14=0) then p12 else (Option.map (fun a=>Addr.add a 0) p12)) <| fun (a26:Addr) =>
  T.stores (a26.add ((Int.toNat n23)*2)) [.string s24,.int .u32 n25] <|
  T.again 1 [.int .i64 (IntKind.wrap .i64 (n23+(1:Int)))])
  (T.again 0 [.int .i64 (IntKind.wrap .i64 (n2+(1:Int)))]))
  (T.loop [(false,[.bool]),(false,[.int .i64])] [.bool false,.int .i64 (0:Int)] <| fun (b7:Bool) (n8:Int) =>
  T.osome p0 <| fun (a9:Addr) =>
  T.loads a9 [.slice 23] <| fun (p10:Option Addr) (l11:Nat) (l12:Nat) =>
  cond (decide (n8<(l11:Int)))
  (T.osome p0 <| fun (a13:Addr) =>
  T.loads a13 [.slice 23] <| fun (p14:Option Addr) (l15:Nat) (l16:Nat) =>
  T.need (((0:Int)≤n8)∧(n8<(l15:Int))) <|
  T.osome p14 <| fun (a17:Addr) =>
  T.loads (a17.add ((Int.toNat n8)*1)) [.slice 50] <| fun (p18:Option Addr) (l19:Nat) (l20:Nat) =>
  T.osome p0 <| fun (a21:Addr) =>
  T.loads a21 [.slice 23] <| fun (p22:Option Addr) (l23:Nat) (l24:Nat) =>
  T.need (((0:Int)≤n8)∧(n8<(l23:Int))) <|
  T.osome p22 <| fun (a25:Addr) =>
  T.loads (a25.add ((Int.toNat n8)*1)) [.slice 50] <| fun (p26:Option Addr) (l27:Nat) (l28:Nat) =>
  T.need (((0:Int)≤(0:Int))∧(((0:Int)≤(l28:Int))∧((l28:Int)≤(l20:Int)))) <|
  T.loop [(false,[.bool]),(false,[.int .i64])] [.bool b7,.int .i64 (0:Int)] <| fun (b29:Bool) (n30:Int) =>
  cond (decide (n30<((((Int.toNat (l28:Int))-0):Nat):Int)))
   (T.need (((0:Int)≤n30)∧(n30<((((Int.toNat (l28:Int))-0):Nat):Int))) <|
   T.osome (if (l20=0) then p18 else (Option.map (fun a=>Addr.add a 0) p18)) <| fun (a31:Addr) =>
   T.loads (a31.add ((Int.toNat n30)*2)) [.string,.int .u32] <| fun (s32:ByteArray) (n33:Int) =>
   T.callv Tryz.prog (.func (Fn.func 17) #[] #[]) [.int .i64 n8,.int .i64 n30] false [(true,[.string,.int .u32])] <| fun (s34:ByteArray) (n35:Int) =>
   T.stable [((a31.add ((Int.toNat n30)*2)),[.string s32,.int .u32 n33])] <|
   T.sem Tryz.prog (Sx.cmpS (BinOp.neq) 50 (Operand.tmp 86) (Operand.tmp 90) (.agg #[.string s32,.int .u32 n33]) (.agg #[.string s34,.int .u32 n35])) false [(false,[.bool])] <| fun (b36:Bool) =>
   cond b36
   (T.ret (.bool false))
   (T.again 2 [.bool b29,.int .i64 (IntKind.wrap .i64 (n30+(1:Int)))]))
   (T.again 1 [.bool b29,.int .i64 (IntKind.wrap .i64 (n8+(1:Int)))]))
  (T.osome p0 <| fun (a13:Addr) =>
  T.stores a13 [.slice none 0 0] <|
  T.osome p0 <| fun (a14:Addr) =>
  T.stores (a14.add 1) [.slice none 0 0] <|
  T.osome p0 <| fun (a15:Addr) =>
  T.stores (a15.add 2) [.int .i64 (0:Int)] <|
  T.ret (.bool true))))
theorem t_spandrelbook_Book_api_Term___Apart_s17_eq (p0:Option Addr):xfun Tryz.prog [] Tryz.f16 [.pointer p0,.func (Fn.func 17) #[] #[]]=t_spandrelbook_Book_api_Term___Apart_s17 p0:=by kernel_rfl
theorem sameT_hc {h:Hp} {p0 p1:Option Addr} {l0 c0 l1 c1:Nat} {ts:Tms} (hlen:ts.length≤2^48) (s0:VwT h p0 l0 ts) (s1:VwT h p1 l1 ts) :
  HCp Tryz.prog 33 [.slice p0 l0 c0,.slice p1 l1 c1] h (.bool true):=by
 refine hcp_of mixed Tryz.func33 (by kernel_rfl) (t_spandrelbook_Same_api_Term__eq p0 l0 c0 p1 l1 c1) ?_
 unfold t_spandrelbook_Same_api_Term_
 have e0:=s0.len
 have e1:=s1.len
 refine cond_f (by rw [e0,e1]; simp) ?_
 refine loop_of (cs:=[(false,[.bool]),(false,[.int .i64])]) (fun x n h'=>h'=h∧∃ k:Nat,x.2.1=(k:Int)∧k≤ts.length∧n=ts.length-k) (false,(0:Int),()) ts.length rfl ⟨rfl,0,rfl,by omega,by omega⟩ ?_
 rintro ⟨b1,n2,⟨⟩⟩ m h' ⟨rfl,k,hk,hle,rfl⟩
 simp only at hk
 subst hk
 dsimp only [flat,unc,unc1,nA,cA]
 refine cond_mk (fun hb=>?_) (fun hb=>⟨rfl,rfl⟩)
 have hb:(k:Int)<(l0:Int):=of_decide_eq_true hb
 have hlt:k<ts.length:=by omega
 obtain ⟨a,rfl,hc⟩:=s0.cells k hlt
 obtain ⟨a',rfl,hc'⟩:=s1.cells k hlt
 generalize ts[k]=t at hc hc'
 have hkn:Int.toNat (k:Int)=k:=by omega
 rw [hkn]
 refine need_of ⟨by omega,by omega⟩ (osome_mk rfl (loads_of (t.1,(t.2:Int),()) hc ?_))
 refine need_of ⟨by omega,by omega⟩ (osome_mk rfl (loads_of (t.1,(t.2:Int),()) hc' ?_))
 refine sem_bool (b:=false) (fun K' hk=>cmpTrm _ _ _ _ _ _ _ _ (by rw [bytes_beq]; simpa using hk)) ?_
 refine cond_f rfl ?_
 have hw:IntKind.wrap .i64 ((k:Int)+1)=(k:Int)+1:=wrap_i64 (by omega) (by omega)
 exact again_mk (cs:=[(false,[.bool]),(false,[.int .i64])]) (b1,(k:Int)+1,()) (ts.length-(k+1)) rfl (by omega) (congrArg (fun z=>[Value.bool b1,.int .i64 z]) hw) ⟨rfl,k+1,(show ((k:Int)+1)=((k+1:Nat):Int) from by omega),by omega,rfl⟩
end Go.Sx
set_option linter.unusedVariables false
set_option maxRecDepth 100000
namespace Go.Sx.TB
open Go.Sx
open Go.Proofs
theorem sameTS_hc {h:Hp} {b b':Nat} {e e':TypeId} {p0 p1:Option Addr} {l0 c0 l1 c1:Nat} {ts:Tms} (hlen:ts.length≤2^48) (s0:SL h b e 2 p0 l0 c0 (ts.map encT)) (s1:SL h b' e' 2 p1 l1 c1 (ts.map encT)) :
  HCp Tryz.prog 33 [.slice p0 l0 c0,.slice p1 l1 c1] h (.bool true):=sameT_hc hlen s0.vwT s1.vwT
structure Ent where
 p:Option Addr
 l:Nat
 c:Nat
 q:Option Addr
 d:Nat
 ts:Tms
def Ent.one (e:Ent):List Value:=[.slice e.p e.l e.c]
def Ent.two (e:Ent):List Value:=[.slice e.q e.l e.d]
def Ent.blks (e:Ent):List Nat:=blkOf e.p++blkOf e.q
structure Book (h:Hp) (gb b:Nat) (pl:Option Addr) (cl:Nat) (pw:Option Addr) (cw:Nat) (es:List Ent):Prop where
 box:∃ held:Int,Box h gb 45 [.slice pl es.length cl,.slice pw es.length cw,.int .i64 held,.bool false]
 ge:b≤gb
 one:SL h b 23 1 pl es.length cl (es.map Ent.one)
 two:SL h b 23 1 pw es.length cw (es.map Ent.two)
 ent:∀ e,e∈es→SL h b 50 2 e.p e.l e.c (e.ts.map encT)∧SL h b 50 2 e.q e.l e.d (e.ts.map encT)∧e.ts.length≤2^40
 gpl:gb∉blkOf pl
 gpw:gb∉blkOf pw
 plw:∀ i,i∈blkOf pl→i∉blkOf pw
 eg:∀ e,e∈es→∀ i,i∈e.blks→i≠gb∧i∉blkOf pl∧i∉blkOf pw
 pq:∀ e,e∈es→∀ i,i∈blkOf e.p→i∉blkOf e.q
 ee:es.Pairwise fun e f=>∀ i,i∈e.blks→i∉f.blks
theorem Book.lt {h:Hp} {gb b:Nat} {pl:Option Addr} {cl:Nat} {pw:Option Addr} {cw:Nat} {es:List Ent} (B:Book h gb b pl cl pw cw es):gb<h.size∧(∀ i,i∈blkOf pl→i<h.size)∧(∀ i,i∈blkOf pw→i<h.size)∧∀ e,e∈es→∀ i,i∈e.blks→i<h.size:=by
 obtain ⟨held,hb⟩:=B.box
 refine ⟨hb.lt,fun i hi=>(B.one.blk hi).2,fun i hi=>(B.two.blk hi).2,fun e he i hi=>?_⟩
 rcases List.mem_append.1 hi with hi | hi
 ·exact ((B.ent e he).1.blk hi).2
 ·exact ((B.ent e he).2.1.blk hi).2
theorem Book.keep {ws:List Nat} {h h':Hp} {gb b:Nat} {pl:Option Addr} {cl:Nat} {pw:Option Addr} {cw:Nat} {es:List Ent} (B:Book h gb b pl cl pw cw es) (k:Ch ws h h')
  (h1:gb∉ws) (h2:∀ i,i∈blkOf pl→i∉ws) (h3:∀ i,i∈blkOf pw→i∉ws) (h4:∀ e,e∈es→∀ i,i∈e.blks→i∉ws):Book h' gb b pl cl pw cw es:=by
 obtain ⟨held,hb⟩:=B.box
 exact ⟨⟨held,hb.keep k h1⟩,B.ge,B.one.keep' k h2,B.two.keep' k h3,fun e he=>⟨(B.ent e he).1.keep' k fun i hi=>h4 e he i (List.mem_append_left _ hi),(B.ent e he).2.1.keep' k fun i hi=>h4 e he i (List.mem_append_right _ hi),(B.ent e he).2.2⟩,
  B.gpl,B.gpw,B.plw,B.eg,B.pq,B.ee⟩
theorem Book.rebox {h h' : Hp} {gb b : Nat} {pl : Option Addr} {cl : Nat} {pw : Option Addr} {cw : Nat} {es : List Ent} (B : Book h gb b pl cl pw cw es) (k : Ch [gb] h h') {held : Int}
    (hb : Box h' gb 45 [.slice pl es.length cl, .slice pw es.length cw, .int .i64 held, .bool false]) : Book h' gb b pl cl pw cw es :=
  ⟨⟨held, hb⟩, B.ge, B.one.keep' k fun i hi => by simp; exact fun e => B.gpl (e ▸ hi), B.two.keep' k fun i hi => by simp; exact fun e => B.gpw (e ▸ hi),
    fun e he => ⟨(B.ent e he).1.keep' k fun i hi => by simp; exact (B.eg e he i (List.mem_append_left _ hi)).1, (B.ent e he).2.1.keep' k fun i hi => by simp; exact (B.eg e he i (List.mem_append_right _ hi)).1, (B.ent e he).2.2⟩,
    B.gpl, B.gpw, B.plw, B.eg, B.pq, B.ee⟩
theorem blkOf_add (p:Option Addr) (k:Nat):blkOf (p.map fun a=>a.add k)=blkOf p:=by
 cases p with
 | none=>rfl
 | some a=>simp [blkOf,add_block]
theorem Book.tail {h h':Hp} {gb b:Nat} {pl:Option Addr} {cl:Nat} {pw:Option Addr} {cw:Nat} {es:List Ent} (B:Book h gb b pl cl pw cw es) (k:Ch [gb] h h') (h1:1≤es.length) {held:Int}
  (hb:Box h' gb 45 [.slice (pl.map fun a=>a.add 1) (es.length-1) (cl-1),.slice (pw.map fun a=>a.add 1) (es.length-1) (cw-1),.int .i64 held,.bool false]) :
  Book h' gb b (pl.map fun a=>a.add 1) (cl-1) (pw.map fun a=>a.add 1) (cw-1) (es.drop 1):=by
 have hl:(es.drop 1).length=es.length-1:=by rw [List.length_drop]
 have hm:∀ e,e∈es.drop 1→e∈es:=fun e he=>List.mem_of_mem_drop he
 have o1:=(B.one.drop (k:=1) h1).keep' k (fun i hi=>by rw [blkOf_add] at hi; simp; exact fun e=>B.gpl (e▸hi))
 have o2:=(B.two.drop (k:=1) h1).keep' k (fun i hi=>by rw [blkOf_add] at hi; simp; exact fun e=>B.gpw (e▸hi))
 rw [← List.map_drop] at o1 o2
 refine ⟨⟨held,by rw [hl]; exact hb⟩,B.ge,by rw [hl]; exact o1,by rw [hl]; exact o2,
  fun e he=>⟨(B.ent e (hm e he)).1.keep' k fun i hi=>by simp; exact (B.eg e (hm e he) i (List.mem_append_left _ hi)).1,(B.ent e (hm e he)).2.1.keep' k fun i hi=>by simp; exact (B.eg e (hm e he) i (List.mem_append_right _ hi)).1,(B.ent e (hm e he)).2.2⟩,
  by rw [blkOf_add]; exact B.gpl,by rw [blkOf_add]; exact B.gpw,by rw [blkOf_add,blkOf_add]; exact B.plw,?_,fun e he=>B.pq e (hm e he),B.ee.sublist (List.drop_sublist 1 es)⟩
 intro e he i hi
 rw [blkOf_add,blkOf_add]
 exact B.eg e (hm e he) i hi
def BookTo (h:Hp) (gb b:Nat) (pl pw:Option Addr) (es:List Ent) (p:Option Addr) (h':Hp) (es':List Ent):Prop :=
 ∃ pl' cl' pw' cw',Book h' gb b pl' cl' pw' cw' es'∧Ch (gb::(blkOf pl++blkOf pw)) h h'∧(∀ i,i∈blkOf pl'→i∈blkOf pl∨h.size≤i)∧(∀ i,i∈blkOf pw'→i∈blkOf pw∨h.size≤i) ∧
  ∀ e,e∈es'→∀ i,i∈e.blks→i∈blkOf p∨h.size≤i∨∃ f,f∈es∧i∈f.blks
theorem chGb {h h1 h2:Hp} {gb:Nat} {l:List Nat} (a:Ch (gb::l) h h1) (c:Ch [gb] h1 h2):Ch (gb::l) h h2:=a.trans c (fun i hi _=>by simp at hi; simp [hi])
theorem keep_hc {h:Hp} {gb b:Nat} {pl:Option Addr} {cl:Nat} {pw:Option Addr} {cw:Nat} {es:List Ent} (B:Book h gb b pl cl pw cw es) (hlen:es.length≤4000) {p:Option Addr} {l c:Nat} {ts:Tms}
  (s:SL h b 50 2 p l c (ts.map encT)) (hts:ts.length≤2^40) (hfresh:∀ i,i∈blkOf p→i≠gb∧i∉blkOf pl∧i∉blkOf pw∧∀ e,e∈es→i∉e.blks) (hbs:b≤h.size) :
  HC Tryz.prog 14 #[.pointer (some ⟨gb,0,none⟩),.slice p l c] h fun v h'=>v=.tuple #[]∧∃ es',es'.length≤4000∧BookTo h gb b pl pw es p h' es':=by
 refine hcr_of (args:=[.pointer (some ⟨gb,0,none⟩),.slice p l c]) mixed Tryz.func14 (by kernel_rfl) (t_spandrelbook_Book_api_Term___Keep_eq (some ⟨gb,0,none⟩) p l c) ?_
 unfold t_spandrelbook_Book_api_Term___Keep
 have hll:l=ts.length:=by rw [s.1,List.length_map]
 have hsz:=B.lt
 obtain ⟨held0,hb⟩:=B.box
 refine join_of (cs:=[]) (fun _ h2=>∃ p1 c1 h1,SL h1 b 23 1 p1 (es.length+1) c1 (es.map Ent.one++[[.slice p l c]])∧Ch (blkOf pl) h h1∧(p1=pl∨∃ a,p1=some a∧h.size≤a.block)∧Ch [gb] h1 h2 ∧
  Box h2 gb 45 [.slice p1 (es.length+1) c1,.slice pw es.length cw,.int .i64 held0,.bool false]) ?_ ?_
 ·refine osome_mk rfl (loads_box hb ((pl,es.length,cl),()) rfl ?_)
  dsimp only [flat,unc,unc1,nA,cA]
  refine push_of (e:=23) (z:=.slice none 0 0) (sz:=1) (by':=24) (vs:=[.slice p l c]) (by kernel_rfl) (by kernel_rfl) rfl (by omega) (by omega) (by kernel_rfl) rfl rfl B.one hbs (by omega) (by omega) ?_
  intro p1 c1 h1 o1 k1 hp1
  have hb1:=hb.keep k1 B.gpl
  refine osome_mk rfl (stores_of hb1 rfl (by simp) ?_)
  intro h2 hb2 k2 z2
  exact meet_mk (cs:=[]) () rfl rfl ⟨p1,c1,h1,o1,k1,hp1,k2,hb2⟩
 rintro ⟨⟩ h2 ⟨p1,c1,h1,o1,k1,hp1,k2,hb2⟩
 refine join_of (cs:=[]) (fun _ h'=>∃ es',es'.length≤4001∧BookTo h gb b pl pw es p h' es') ?_ ?_
 ·refine osome_mk rfl ?_
  rw [add_box]
  refine loads_box hb2 ((pw,es.length,cw),()) rfl ?_
  dsimp only [flat,unc,unc1,nA,cA]
  have s2:SL h2 b 50 2 p l c (ts.map encT):=(s.keep' k1 fun i hi=>(hfresh i hi).2.1).keep' k2 fun i hi=>by simp; exact (hfresh i hi).1
  have hpl:(ts.map encT).flatten.all plainV=true:=by
   rw [List.all_eq_true]
   intro v hv
   obtain ⟨x,hx,hv⟩:=List.mem_flatten.1 hv
   obtain ⟨t,_,rfl⟩:=List.mem_map.1 hx
   simp only [encT,List.mem_cons,List.not_mem_nil,or_false] at hv
   rcases hv with rfl | rfl <;> rfl
  have g1:=k1.size
  have g2:=k2.size
  refine copy_of (e:=50) (z:=.agg #[.string ⟨#[]⟩,.int .u32 0]) (sz:=2) (by':=24) (b':=b) (by kernel_rfl) (by kernel_rfl) rfl s2 hpl (by omega) (by omega) (by omega) ?_
  intro q d h3 sq k3 hq
  have hb3:=hb2.keep k3 (by simp)
  refine ⟨⟨hb3.cells _ rfl,trivial⟩,?_⟩
  have g3:=k3.size
  have w3:SL h3 b 23 1 pw es.length cw (es.map Ent.two):=((B.two.keep' k1 fun i hi hh=>B.plw i hh hi).keep' k2 fun i hi=>by simp; exact fun e=>B.gpw (e▸hi)).keep' k3 (by simp)
  refine push_st (e:=23) (z:=.slice none 0 0) (sz:=1) (by':=24) (vs:=[.slice q l d]) (by kernel_rfl) (by kernel_rfl) rfl (by omega) (by omega) (by kernel_rfl) rfl rfl w3 (by omega) (by omega) (by omega) (fun h' e=>⟨(hb3.keep e (by simp)).cells _ rfl,trivial⟩) ?_
  intro p2 c2 h4 o2 k4 hp2
  have hb4:=hb3.keep k4 B.gpw
  refine osome_mk rfl ?_
  rw [add_box]
  refine stores_of hb4 rfl (by simp) ?_
  intro h5 hb5 k5 z5
  have hb5:Box h5 gb 45 [.slice p1 (es.length+1) c1,.slice p2 (es.length+1) c2,.int .i64 held0,.bool false]:=hb5
  refine meet_mk (cs:=[]) () rfl rfl ⟨es++[⟨p,l,c,q,d,ts⟩],by simp; omega,p1,c1,p2,c2,?_,?_,?_,?_,?_⟩
  ·
   have bp1:∀ i,i∈blkOf p1→i∈blkOf pl∨h.size≤i:=by
    intro i hi
    rcases hp1 with rfl | ⟨a,rfl,ha⟩
    ·exact .inl hi
    ·simp [blkOf] at hi; right; omega
   have bp2:∀ i,i∈blkOf p2→i∈blkOf pw∨h3.size≤i:=by
    intro i hi
    rcases hp2 with rfl | ⟨a,rfl,ha⟩
    ·exact .inl hi
    ·simp [blkOf] at hi; right; omega
   have bq:∀ i,i∈blkOf q→h2.size≤i∧i<h3.size:=by
    intro i hi
    refine ⟨?_,(sq.blk hi).2⟩
    rcases hq with rfl | ⟨a,rfl,ha⟩
    ·simp [blkOf] at hi
    ·simp [blkOf] at hi; omega
   have lp1:∀ i,i∈blkOf p1→i<h1.size:=fun i hi=>(o1.blk hi).2
   have lp:∀ i,i∈blkOf p→i<h.size:=fun i hi=>(s.blk hi).2
   have o1':SL h5 b 23 1 p1 (es.length+1) c1 (es.map Ent.one++[[.slice p l c]]):=by
    refine (((o1.keep' k2 fun i hi=>?_).keep' k3 (by simp)).keep' k4 fun i hi hh=>?_).keep' k5 fun i hi=>?_
    ·simp; intro e; subst e
     rcases bp1 i hi with hh | hh
     ·exact B.gpl hh
     ·have:=hsz.1; omega
    ·rcases bp1 i hi with h' | h'
     ·exact B.plw i h' hh
     ·have:=hsz.2.2.1 i hh; omega
    ·simp; intro e; subst e
     rcases bp1 i hi with hh | hh
     ·exact B.gpl hh
     ·have:=hsz.1; omega
   have o2':SL h5 b 23 1 p2 (es.length+1) c2 (es.map Ent.two++[[.slice q l d]]):=o2.keep' k5 fun i hi=>by
    simp; intro e; subst e
    rcases bp2 i hi with hh | hh
    ·exact B.gpw hh
    ·have:=hsz.1; omega
   have kall:∀ {e':TypeId} {sz:Nat} {p':Option Addr} {l' c':Nat} {xs:List (List Value)},SL h b e' sz p' l' c' xs→(∀ i,i∈blkOf p'→i≠gb∧i∉blkOf pl∧i∉blkOf pw)→SL h5 b e' sz p' l' c' xs:=by
    intro e' sz p' l' c' xs s' hd
    exact ((((s'.keep' k1 fun i hi=>(hd i hi).2.1).keep' k2 fun i hi=>by simp; exact (hd i hi).1).keep' k3 (by simp)).keep' k4 fun i hi=>(hd i hi).2.2).keep' k5 fun i hi=>by simp; exact (hd i hi).1
   have hsq:SL h5 b 50 2 q l d (ts.map encT):=(sq.keep' k4 fun i hi hh=>by have:=(bq i hi).1; have:=hsz.2.2.1 i hh; omega).keep' k5 fun i hi=>by
    simp; intro e; subst e; have:=(bq i hi).1; have:=hsz.1; omega
   have hlen1:(es++[(⟨p,l,c,q,d,ts⟩:Ent)]).length=es.length+1:=by simp
   refine ⟨⟨held0,by rw [hlen1]; exact hb5⟩,B.ge,by rw [hlen1,List.map_append]; exact o1',by rw [hlen1,List.map_append]; exact o2',?_,?_,?_,?_,?_,?_,?_⟩
   ·intro e he
    rcases List.mem_append.1 he with he | he
    ·have hd:=B.eg e he
     exact ⟨kall (B.ent e he).1 fun i hi=>hd i (List.mem_append_left _ hi),kall (B.ent e he).2.1 fun i hi=>hd i (List.mem_append_right _ hi),(B.ent e he).2.2⟩
    ·have he:e=⟨p,l,c,q,d,ts⟩:=by simpa using he
     subst he
     exact ⟨kall s fun i hi=>⟨(hfresh i hi).1,(hfresh i hi).2.1,(hfresh i hi).2.2.1⟩,hsq,hts⟩
   ·intro hi
    rcases bp1 gb hi with hh | hh
    ·exact B.gpl hh
    ·have:=hsz.1; omega
   ·intro hi
    rcases bp2 gb hi with hh | hh
    ·exact B.gpw hh
    ·have:=hsz.1; omega
   ·intro i hi hi2
    rcases bp1 i hi with hh | hh <;> rcases bp2 i hi2 with h' | h'
    ·exact B.plw i hh h'
    ·have:=hsz.2.1 i hh; omega
    ·have:=hsz.2.2.1 i h'; omega
    ·have:=lp1 i hi; omega
   ·intro e he i hi
    rcases List.mem_append.1 he with he | he
    ·have hd:=B.eg e he i hi
     have hlt:=hsz.2.2.2 e he i hi
     exact ⟨hd.1,fun hh=>(bp1 i hh).elim hd.2.1 (by omega),fun hh=>(bp2 i hh).elim hd.2.2 (by omega)⟩
    ·have he:e=⟨p,l,c,q,d,ts⟩:=by simpa using he
     subst he
     rcases List.mem_append.1 hi with hi | hi
     ·have hd:=hfresh i hi
      have hlt:=lp i hi
      exact ⟨hd.1,fun hh=>(bp1 i hh).elim hd.2.1 (by omega),fun hh=>(bp2 i hh).elim hd.2.2.1 (by omega)⟩
     ·have:=bq i hi
      refine ⟨by have:=hsz.1; omega,fun hh=>?_,fun hh=>?_⟩
      ·have:=lp1 i hh; omega
      ·rcases bp2 i hh with hh | hh
       ·have:=hsz.2.2.1 i hh; omega
       ·omega
   ·intro e he i hi
    rcases List.mem_append.1 he with he | he
    ·exact B.pq e he i hi
    ·have he:e=⟨p,l,c,q,d,ts⟩:=by simpa using he
     subst he
     intro hh
     have:=(bq i hh).1
     have:=lp i hi
     omega
   ·refine List.pairwise_append.2 ⟨B.ee,by simp,?_⟩
    intro e he f hf i hi hh
    have hf:f=⟨p,l,c,q,d,ts⟩:=by simpa using hf
    subst hf
    rcases List.mem_append.1 hh with hh | hh
    ·exact (hfresh i hh).2.2.2 e he hi
    ·have:=(bq i hh).1
     have:=hsz.2.2.2 e he i hi
     omega
  ·refine Ch.trans (Ch.trans (Ch.trans (Ch.trans (k1.mono fun i hi _=>by simp [hi]) k2 fun i hi _=>by simp at hi; simp [hi]) k3 (by simp)) k4 fun i hi _=>by simp [hi]) k5 fun i hi _=>by simp at hi; simp [hi]
  ·intro i hi
   rcases hp1 with rfl | ⟨a,rfl,ha⟩
   ·exact .inl hi
   ·simp [blkOf] at hi; right; omega
  ·intro i hi
   rcases hp2 with rfl | ⟨a,rfl,ha⟩
   ·exact .inl hi
   ·simp [blkOf] at hi; right; omega
  ·intro e he i hi
   rcases List.mem_append.1 he with he | he
   ·exact .inr (.inr ⟨e,he,hi⟩)
   ·have he:e=⟨p,l,c,q,d,ts⟩:=by simpa using he
    subst he
    rcases List.mem_append.1 hi with hi | hi
    ·exact .inl hi
    ·right; left
     rcases hq with rfl | ⟨a,rfl,ha⟩
     ·simp [blkOf] at hi
     ·simp [blkOf] at hi; omega
 ·rintro ⟨⟩ h1 ⟨es1,hl1,pl1,cl1,pw1,cw1,B1,k1,a1,a2,a3⟩
  obtain ⟨held,hb⟩:=B1.box
  refine osome_mk rfl ?_
  rw [add_box]
  refine loads_box hb (held,()) rfl ?_
  dsimp only [flat,unc,unc1,nA,cA]
  refine osome_mk rfl ?_
  rw [add_box]
  refine stores_of hb rfl (by simp) ?_
  intro h2 hb2 k2 z2
  refine loop_of (cs:=[]) (fun _ n h'=>∃ es',es'.length≤4001∧n=es'.length∧BookTo h gb b pl pw es p h' es') () es1.length rfl ⟨es1,hl1,rfl,pl1,cl1,pw1,cw1,B1.rebox k2 hb2,chGb k1 k2,a1,a2,a3⟩ ?_
  clear hb k2 hb2 z2 B1 k1 a1 a2 a3 hl1 es1
  rintro ⟨⟩ m h3 ⟨es1,hl1,rfl,hB⟩
  refine join_of (cs:=[]) (fun _ h'=>∃ es',es'.length=es1.length∧1<es'.length∧BookTo h gb b pl pw es p h' es') ?_ ?_
  ·have hB0:=hB
   obtain ⟨pl1,cl1,pw1,cw1,B1,k1,a1,a2,a3⟩:=hB
   obtain ⟨held,hb⟩:=B1.box
   refine osome_mk rfl (loads_box hb ((pl1,es1.length,cl1),()) rfl ?_)
   dsimp only [flat,unc,unc1,nA,cA]
   refine cond_mk (fun g1=>?_) (fun g1=>?_)
   ·have g1:=of_decide_eq_true g1
    refine osome_mk rfl ?_
    rw [add_box]
    refine loads_box hb (held,()) rfl ?_
    dsimp only [flat,unc,unc1,nA,cA]
    have mt:∀ L,(T.again 1 []) [L,fun vs h'=>∃ y:HVs (flat []),vs=parts [] (hvs _ y)∧∃ es',es'.length=es1.length∧1<es'.length∧BookTo h gb b pl pw es p h' es'] (fun v h'=>v=.tuple #[]∧∃ es',es'.length≤4000∧BookTo h gb b pl pw es p h' es') h3 :=
     fun L=>meet_mk (cs:=[]) () rfl rfl ⟨es1,rfl,by omega,hB0⟩
    refine cond_mk (fun g2=>mt _) (fun g2=>?_)
    refine osome_mk rfl (loads_box hb ((pl1,es1.length,cl1),()) rfl ?_)
    dsimp only [flat,unc,unc1,nA,cA]
    refine cond_mk (fun g3=>mt _) (fun g3=>?_)
    have g3:=of_decide_eq_false g3
    exact ⟨rfl,es1,by omega,hB0⟩
   ·have g1:=of_decide_eq_false g1
    exact ⟨rfl,es1,by omega,hB0⟩
  ·rintro ⟨⟩ h4 ⟨es2,hl2,hg2,hB⟩
   refine join_of (cs:=[]) (fun _ h'=>∃ es',es'.length=es1.length∧1<es'.length∧BookTo h gb b pl pw es p h' es') ?_ ?_
   ·obtain ⟨pl1,cl1,pw1,cw1,B1,k1,a1,a2,a3⟩:=hB
    obtain ⟨held,hb⟩:=B1.box
    refine osome_mk rfl ?_
    rw [add_box]
    refine loads_box hb (false,()) rfl ?_
    dsimp only [flat,unc,unc1,nA,cA]
    refine cond_f rfl (osome_mk rfl (loads_box hb ((pl1,es2.length,cl1),()) rfl ?_))
    dsimp only [flat,unc,unc1,nA,cA]
    obtain ⟨q1,hq1,c1⟩:=B1.one.cells (i:=0) (by rw [List.length_map]; omega)
    obtain ⟨q2,hq2,c2⟩:=B1.two.cells (i:=0) (by rw [List.length_map]; omega)
    rw [List.getElem_map] at c1 c2
    have hent:=B1.ent es2[0] (List.getElem_mem (by omega))
    generalize es2[0]=e at c1 c2 hent
    refine need_of ⟨by omega,by omega⟩ (osome_mk hq1 (loads_of ((e.p,e.l,e.c),()) c1 ?_))
    dsimp only [flat,unc,unc1,nA,cA]
    refine osome_mk rfl ?_
    rw [add_box]
    refine loads_box hb ((pw1,es2.length,cw1),()) rfl ?_
    dsimp only [flat,unc,unc1,nA,cA]
    refine need_of ⟨by omega,by omega⟩ (osome_mk hq2 (loads_of ((e.q,e.l,e.d),()) c2 ?_))
    dsimp only [flat,unc,unc1,nA,cA]
    refine call_bool (sameTS_hc (by have:=hent.2.2; omega) hent.1 hent.2.1) ?_
    refine ⟨⟨hb.cells _ rfl,hb.cells _ rfl,?_,trivial⟩,?_⟩
    ·exact hb.cells _ rfl
    refine osome_mk rfl ?_
    rw [add_box]
    refine stores_of hb rfl (by simp) ?_
    intro h5 hb5 k5 z5
    exact meet_mk (cs:=[]) () rfl rfl ⟨es2,hl2,hg2,pl1,cl1,pw1,cw1,B1.rebox k5 hb5,chGb k1 k5,a1,a2,a3⟩
   ·clear hB hl2 hg2 es2
    rintro ⟨⟩ h5 ⟨es2,hl2,hg2,pl1,cl1,pw1,cw1,B0,k0,a1,a2,a3⟩
    obtain ⟨held5,hb5⟩:=B0.box
    refine osome_mk rfl ?_
    rw [add_box]
    refine loads_box hb5 (held5,()) rfl ?_
    dsimp only [flat,unc,unc1,nA,cA]
    refine osome_mk rfl (loads_box hb5 ((pl1,es2.length,cl1),()) rfl ?_)
    dsimp only [flat,unc,unc1,nA,cA]
    obtain ⟨q1,hq1,c1⟩:=B0.one.cells (i:=0) (by rw [List.length_map]; omega)
    rw [List.getElem_map] at c1
    generalize es2[0]=e at c1
    refine need_of ⟨by omega,by omega⟩ (osome_mk hq1 (loads_of ((e.p,e.l,e.c),()) c1 ?_))
    dsimp only [flat,unc,unc1,nA,cA]
    refine osome_mk rfl ?_
    rw [add_box]
    refine stores_of hb5 rfl (by simp) ?_
    intro h6 hb6 k6 z6
    have B1:=B0.rebox k6 hb6
    have k1:=chGb k0 k6
    obtain ⟨held,hb⟩:=B1.box
    have hcap:∀ {p':Option Addr} {c':Nat} {xs:List (List Value)},SL h6 b 23 1 p' es2.length c' xs→es2.length≤c':=by
     intro p' c' xs s'
     cases p' with
     | none =>
      have h1:=s'.2.2.2
      have h2:=s'.1
      rw [h1,List.length_nil] at h2; omega
     | some a=>obtain ⟨_,_,_,_,_,hh,_⟩:=s'.2.2; exact hh.1
    have hc1:=hcap B1.one
    have hc2:=hcap B1.two
    refine osome_mk rfl (loads_box hb ((pl1,es2.length,cl1),()) rfl ?_)
    dsimp only [flat,unc,unc1,nA,cA]
    refine need_of ⟨by omega,by omega,by omega⟩ (osome_mk rfl ?_)
    rw [if_neg (by omega)]
    refine stores_of hb rfl (by simp) ?_
    intro h7 hb7 k7 z7
    have hb7:Box h7 gb 45 [.slice (pl1.map fun a=>a.add 1) (es2.length-1) (cl1-1),.slice pw1 es2.length cw1,.int .i64 held,.bool false]:=hb7
    refine osome_mk rfl ?_
    rw [add_box]
    refine loads_box hb7 ((pw1,es2.length,cw1),()) rfl ?_
    dsimp only [flat,unc,unc1,nA,cA]
    refine need_of ⟨by omega,by omega,by omega⟩ (osome_mk rfl ?_)
    rw [if_neg (by omega),add_box]
    refine stores_of hb7 rfl (by simp) ?_
    intro h8 hb8 k8 z8
    have hb8:Box h8 gb 45 [.slice (pl1.map fun a=>a.add 1) (es2.length-1) (cl1-1),.slice (pw1.map fun a=>a.add 1) (es2.length-1) (cw1-1),.int .i64 held,.bool false]:=hb8
    have k78:Ch [gb] h6 h8:=k7.trans k8 (fun i hi _=>hi)
    refine again_mk (cs:=[]) () (es2.length-1) rfl (by omega) rfl ⟨es2.drop 1,by simp; omega,by simp,_,_,_,_,B1.tail k78 (by omega) hb8,chGb k1 k78,?_,?_,fun e he=>a3 e (List.mem_of_mem_drop he)⟩
    ·rw [blkOf_add]; exact a1
    ·rw [blkOf_add]; exact a2
def Since (b:Nat) (h h':Hp):Prop:=h.size≤h'.size∧∀ i,i<b→i<h.size→h'[i]?=h[i]?
theorem Since.of {ws:List Nat} {b:Nat} {h h':Hp} (k:Ch ws h h') (hw:∀ i,i∈ws→i<h.size→b≤i):Since b h h' :=
 ⟨k.size,fun i hi hl=>k.same i hl fun hm=>by have:=hw i hm hl; omega⟩
theorem Since.trans {b:Nat} {h h1 h2:Hp} (a:Since b h h1) (c:Since b h1 h2):Since b h h2 :=
 ⟨Nat.le_trans a.1 c.1,fun i hi hl=>(c.2 i hi (Nat.lt_of_lt_of_le hl a.1)).trans (a.2 i hi hl)⟩
theorem Since.ext {h h1 h2:Hp} (a:Ext h h1) (c:Since h.size h1 h2):Ext h h2 :=
 ⟨Nat.le_trans a.size c.1,fun i hi _=>(c.2 i hi (Nat.lt_of_lt_of_le hi a.size)).trans (a.same i hi (by simp))⟩
theorem stays_hc {h:Hp} {gb b:Nat} {pl:Option Addr} {cl:Nat} {pw:Option Addr} {cw:Nat} {es:List Ent} (B:Book h gb b pl cl pw cw es) (hlen:es.length≤4000) :
  HC Tryz.prog 34 #[.pointer (some ⟨gb,0,none⟩)] h fun v h'=>v=.bool true∧Book h' gb b pl cl pw cw es∧Ch [gb] h h':=by
 refine hcr_of (args:=[.pointer (some ⟨gb,0,none⟩)]) mixed Tryz.func34 (by kernel_rfl) (t_spandrelbook_Book_api_Term___Stays_eq (some ⟨gb,0,none⟩)) ?_
 unfold t_spandrelbook_Book_api_Term___Stays
 refine loop_of (cs:=[(false,[.int .i64])]) (fun x n h'=>∃ i:Nat,x.1=(i:Int)∧i≤es.length∧n=es.length-i∧Book h' gb b pl cl pw cw es∧Ch [gb] h h') ((0:Int),()) es.length rfl ⟨0,rfl,by omega,by omega,B,Ch.refl _ _⟩ ?_
 clear B
 rintro ⟨n1,⟨⟩⟩ m h1 ⟨i,hi,hile,rfl,B,k1⟩
 simp only at hi
 subst hi
 dsimp only [flat,unc,unc1,nA,cA]
 obtain ⟨held,hb⟩:=B.box
 refine osome_mk rfl (loads_box hb ((pl,es.length,cl),()) rfl ?_)
 dsimp only [flat,unc,unc1,nA,cA]
 refine cond_mk (fun g1=>?_) (fun g1=>?_)
 ·have g1:=of_decide_eq_true g1
  have hlt:i<es.length:=by omega
  refine osome_mk rfl ?_
  rw [add_box]
  refine loads_box hb (false,()) rfl ?_
  dsimp only [flat,unc,unc1,nA,cA]
  refine cond_f rfl (osome_mk rfl (loads_box hb ((pl,es.length,cl),()) rfl ?_))
  dsimp only [flat,unc,unc1,nA,cA]
  obtain ⟨q1,hq1,c1⟩:=B.one.cells (i:=i) (by rw [List.length_map]; omega)
  obtain ⟨q2,hq2,c2⟩:=B.two.cells (i:=i) (by rw [List.length_map]; omega)
  rw [List.getElem_map] at c1 c2
  have hent:=B.ent es[i] (List.getElem_mem hlt)
  generalize es[i]=e at c1 c2 hent
  rw [show Int.toNat (i:Int)=i by omega]
  refine need_of ⟨by omega,by omega⟩ (osome_mk hq1 (loads_of ((e.p,e.l,e.c),()) c1 ?_))
  dsimp only [flat,unc,unc1,nA,cA]
  refine osome_mk rfl ?_
  rw [add_box]
  refine loads_box hb ((pw,es.length,cw),()) rfl ?_
  dsimp only [flat,unc,unc1,nA,cA]
  refine need_of ⟨by omega,by omega⟩ (osome_mk hq2 (loads_of ((e.q,e.l,e.d),()) c2 ?_))
  refine call_bool (sameTS_hc (by have:=hent.2.2; omega) hent.1 hent.2.1) ?_
  refine ⟨⟨hb.cells _ rfl,hb.cells _ rfl,hb.cells _ rfl,trivial⟩,?_⟩
  refine osome_mk rfl ?_
  rw [add_box]
  refine stores_of hb rfl (by simp) ?_
  intro h5 hb5 k5 z5
  have hw:IntKind.wrap .i64 ((i:Int)+1)=((i+1:Nat):Int):=by rw [wrap_i64 (by omega) (by omega)]; omega
  exact again_mk (cs:=[(false,[.int .i64])]) (((i+1:Nat):Int),()) (es.length-(i+1)) rfl (by omega) (congrArg (fun z=>[Value.int .i64 z]) hw) ⟨i+1,rfl,by omega,rfl,B.rebox k5 hb5,k1.trans k5 (fun j hj _=>hj)⟩
 ·refine osome_mk rfl ?_
  rw [add_box]
  refine loads_box hb (false,()) rfl ?_
  exact ⟨rfl,B,k1⟩
def markB:ByteArray:=⟨#[109,97,114,107]⟩
def mkN (i j:Int):Int:=IntKind.wrap .u32 ((IntKind.wrap .u32 ((IntKind.wrap .u32 i)*(65536:Int)))+(IntKind.wrap .u32 j))
def mkL (k j:Nat):List Value:=[.string markB,.int .u32 (mkN k j)]
def Room (h:Hp) (b:Nat) (p:Option Addr) (c k m:Nat):Prop :=
 match p with
 | none=>c=0
 | some a=>∃ g o cells,a=⟨g,o,none⟩∧b≤g∧c<9223372036854775808∧Box h g 50 cells∧o+c*2≤cells.length∧∀ j,j<m→(cells.drop (o+j*2)).take 2=mkL k j
theorem Room.of_SL {h:Hp} {b:Nat} {p:Option Addr} {l c:Nat} {xs:List (List Value)} (s:SL h b 50 2 p l c xs) (k:Nat):Room h b p c k 0:=by
 cases p with
 | none=>exact s.2.2.1
 | some a =>
  obtain ⟨g,pre,rest,rfl,hbg,hlc,hbox,hr⟩:=s.2.2
  have hx:=flatten_length xs s.2.1
  have:=s.1
  refine ⟨g,pre.length,_,rfl,hbg,hlc.2,hbox,?_,fun j hj=>by omega⟩
  rw [List.length_append,List.length_append,hx,hr,← this]
  omega
theorem Room.keep {ws:List Nat} {h h':Hp} {b:Nat} {p:Option Addr} {c k m:Nat} (r:Room h b p c k m) (kk:Ch ws h h') (hw:∀ i,i∈blkOf p→i∉ws):Room h' b p c k m:=by
 cases p with
 | none=>exact r
 | some a =>
  obtain ⟨g,o,cells,rfl,hbg,hc,hbox,hr,hm⟩:=r
  exact ⟨g,o,cells,rfl,hbg,hc,hbox.keep kk (hw g (by simp [blkOf])),hr,hm⟩
theorem setL_take {cells vs:List Value} {o n:Nat} (hv:vs.length=n) (h:o+n≤cells.length):((setL cells o vs).drop o).take n=vs:=by
 rw [setL_eq _ _ _ (by omega),List.append_assoc]
 rw [List.drop_append_of_le_length (by rw [List.length_take]; omega),List.drop_of_length_le (by rw [List.length_take]; omega),List.nil_append,List.take_append_of_le_length (by omega),List.take_of_length_le (by omega)]
theorem setL_before {cells vs:List Value} {o o' n:Nat} (h:o+vs.length≤cells.length) (h':o'+n≤o):((setL cells o vs).drop o').take n=(cells.drop o').take n:=by
 rw [setL_eq _ _ _ (by omega),List.append_assoc]
 rw [List.drop_append_of_le_length (by rw [List.length_take]; omega),List.take_append_of_le_length (by rw [List.length_drop,List.length_take]; omega)]
 rw [List.drop_take,List.take_take,Nat.min_eq_left (by omega)]
theorem mark_hc (i j:Int) (h:Hp):HC Tryz.prog 17 #[.int .i64 i,.int .i64 j] h fun v h'=>v=.agg #[.string markB,.int .u32 (mkN i j)]∧Ext h h':=by
 refine hcr_of (args:=[.int .i64 i,.int .i64 j]) mixed Tryz.func17 (by kernel_rfl) (t_spandrellaw8_mark_eq i j) ?_
 unfold t_spandrellaw8_mark
 refine newB ?_
 intro h1 b1 e1 z1
 refine need_of (by decide) ?_
 refine stores_of b1 rfl (by simp) ?_
 intro h2 b2 k2 z2
 have b2:Box h2 h.size 50 [.string markB,.int .u32 (mkN i j)]:=b2
 refine loads_box b2 (markB,mkN i j,()) rfl ?_
 exact ⟨rfl,Ch.trans e1 k2 (fun i hi hl=>by simp at hi; omega)⟩
structure Marking (h:Hp) (gb b:Nat) (pl:Option Addr) (cl:Nat) (es:List Ent) (i m:Nat):Prop where
 box:∃ (v w:Value),Box h gb 45 [.slice pl es.length cl,v,w,.bool false]
 one:SL h b 23 1 pl es.length cl (es.map Ent.one)
 room:∀ k,(hk:k<es.length)→Room h b es[k].p es[k].c k (if k<i then es[k].c else if k=i then m else 0)
theorem Marking.keep {ws:List Nat} {h h':Hp} {gb b:Nat} {pl:Option Addr} {cl:Nat} {es:List Ent} {i m:Nat} (M:Marking h gb b pl cl es i m) (k:Ch ws h h') (h1:gb∉ws) (h2:∀ i,i∈blkOf pl→i∉ws) (h3:∀ e,e∈es→∀ i,i∈e.blks→i∉ws) :
  Marking h' gb b pl cl es i m:=by
 obtain ⟨v,w,hb⟩:=M.box
 exact ⟨⟨v,w,hb.keep k h1⟩,M.one.keep' k h2,fun j hj=>(M.room j hj).keep k fun x hx=>h3 es[j] (List.getElem_mem hj) x (List.mem_append_left _ hx)⟩
theorem apart_hc {h:Hp} {gb b:Nat} {pl:Option Addr} {cl:Nat} {pw:Option Addr} {cw:Nat} {es:List Ent} (B:Book h gb b pl cl pw cw es) (hlen:es.length≤4000) (hbs:b≤h.size) :
  HC Tryz.prog 16 #[.pointer (some ⟨gb,0,none⟩),.func (Fn.func 17) #[] #[]] h fun v h'=>v=.bool true∧Since b h h':=by
 refine hcr_of (args:=[.pointer (some ⟨gb,0,none⟩),.func (Fn.func 17) #[] #[]]) mixed Tryz.func16 (by kernel_rfl) (t_spandrelbook_Book_api_Term___Apart_s17_eq (some ⟨gb,0,none⟩)) ?_
 unfold t_spandrelbook_Book_api_Term___Apart_s17
 refine call_of (stays_hc B hlen) ?_
 rintro _ h0 ⟨rfl,B0,k0⟩
 refine ⟨(true,()),rfl,?_⟩
 dsimp only [flat,unc,unc1,nA,cA]
 refine cond_f rfl ?_
 have s0:Since b h h0:=Since.of k0 fun i hi _=>by simp at hi; subst hi; exact B.ge
 have M0:Marking h0 gb b pl cl es 0 0:=by
  obtain ⟨held,hb⟩:=B0.box
  refine ⟨⟨_,_,hb⟩,B0.one,fun k hk=>?_⟩
  have:=Room.of_SL (B0.ent es[k] (List.getElem_mem hk)).1 k
  rw [if_neg (by omega)]
  by_cases h:k=0
  ·rw [if_pos h]; exact this
  ·rw [if_neg h]; exact this
 have hsz:h.size≤h0.size:=k0.size
 have gpl:=B.gpl
 have eg:=B.eg
 have hge:=B.ge
 have hpw:∀ i j (hi:i<es.length) (hj:j<es.length),i≠j→∀ x,x∈es[i].blks→x∉es[j].blks:=by
  intro i j hi hj hij x hx
  rcases Nat.lt_or_ge i j with h1 | h1
  ·exact (List.pairwise_iff_getElem.1 B.ee) i j hi hj h1 x hx
  ·intro hx2
   exact (List.pairwise_iff_getElem.1 B.ee) j i hj hi (by omega) x hx2 hx
 have hlt:=B.lt
 clear B B0
 refine loop_of (cs:=[(false,[.int .i64])]) (fun x n h'=>∃ i:Nat,x.1=(i:Int)∧i≤es.length∧n=es.length-i∧Marking h' gb b pl cl es i 0∧Since b h h'∧h.size≤h'.size) ((0:Int),()) es.length rfl ⟨0,rfl,by omega,by omega,M0,s0,hsz⟩ ?_
 clear M0 s0 hsz k0 h0
 rintro ⟨n1,⟨⟩⟩ m0 h1 ⟨i,hi,hile,rfl,M,s1,z1⟩
 simp only at hi
 subst hi
 dsimp only [flat,unc,unc1,nA,cA]
 obtain ⟨v,w,hb⟩:=M.box
 refine osome_mk rfl (loads_box hb ((pl,es.length,cl),()) rfl ?_)
 dsimp only [flat,unc,unc1,nA,cA]
 refine cond_mk (fun g1=>?_) (fun g1=>?_)
 ·have g1:=of_decide_eq_true g1
  have hilt:i<es.length:=by omega
  obtain ⟨q1,hq1,c1⟩:=M.one.cells (i:=i) (by rw [List.length_map]; omega)
  rw [List.getElem_map] at c1
  rw [show Int.toNat (i:Int)=i by omega]
  refine osome_mk rfl (loads_box hb ((pl,es.length,cl),()) rfl ?_)
  dsimp only [flat,unc,unc1,nA,cA]
  refine need_of ⟨by omega,by omega⟩ (osome_mk hq1 (loads_of ((es[i].p,es[i].l,es[i].c),()) c1 ?_))
  dsimp only [flat,unc,unc1,nA,cA]
  refine osome_mk rfl (loads_box hb ((pl,es.length,cl),()) rfl ?_)
  dsimp only [flat,unc,unc1,nA,cA]
  refine need_of ⟨by omega,by omega⟩ (osome_mk hq1 (loads_of ((es[i].p,es[i].l,es[i].c),()) c1 ?_))
  dsimp only [flat,unc,unc1,nA,cA]
  refine need_of ⟨by omega,by omega,by omega⟩ ?_
  clear hb c1 hq1 q1
  refine loop_of (cs:=[(false,[.int .i64])]) (fun x n h'=>∃ j:Nat,x.1=(j:Int)∧j≤es[i].c∧n=es[i].c-j∧Marking h' gb b pl cl es i j∧Since b h h'∧h.size≤h'.size) ((0:Int),()) es[i].c rfl ⟨0,rfl,by omega,by omega,M,s1,z1⟩ ?_
  clear M s1 z1 v w
  rintro ⟨n2,⟨⟩⟩ m1 h2 ⟨j,hj,hjle,rfl,M,s2,z2⟩
  simp only at hj
  subst hj
  dsimp only [flat,unc,unc1,nA,cA]
  refine cond_mk (fun g2=>?_) (fun g2=>?_)
  ·have g2:=of_decide_eq_true g2
   have hjlt:j<es[i].c:=by omega
   refine callv_of (cap:=[]) (by kernel_rfl) rfl (mark_hc i j h2) ?_
   rintro _ h3 ⟨rfl,e3⟩
   refine ⟨(markB,mkN i j,()),rfl,?_⟩
   dsimp only [flat,unc,unc1,nA,cA]
   have M3:=M.keep e3 (by simp) (by simp) (by simp)
   refine need_of ⟨by omega,by omega⟩ ?_
   have hroom:=M3.room i hilt
   rw [if_neg (by omega),if_pos rfl] at hroom
   cases hp:es[i].p with
   | none =>
    rw [hp] at hroom
    have:es[i].c=0:=hroom
    omega
   | some a =>
    rw [hp] at hroom
    obtain ⟨g,o,cells,rfl,hbg,hcm,hbox,hr,hm⟩:=hroom
    have hgb:g∈es[i].blks:=by unfold Ent.blks; rw [hp]; simp [blkOf]
    rw [if_neg (by omega)]
    refine osome_mk (a:=⟨g,o,none⟩) (by rw [Option.map_some,add_box,Nat.add_zero]) ?_
    rw [add_box,show Int.toNat (j:Int)=j by omega]
    refine stores_of hbox rfl (by simp; omega) ?_
    intro h4 hb4 k4 z4
    have hw:IntKind.wrap .i64 ((j:Int)+1)=((j+1:Nat):Int):=by rw [wrap_i64 (by omega) (by omega)]; omega
    have hcl:(setL cells (o+j*2) (mkL i j)).length=cells.length:=setL_length _ _ _
    refine again_mk (cs:=[(false,[.int .i64])]) (((j+1:Nat):Int),()) (es[i].c-(j+1)) rfl (by omega) (congrArg (fun z=>[Value.int .i64 z]) hw) ⟨j+1,rfl,by omega,rfl,?_,?_,?_⟩
    ·obtain ⟨v,w,hb⟩:=M3.box
     refine ⟨⟨v,w,hb.keep k4 ?_⟩,M3.one.keep' k4 fun x hx=>?_,fun k hk=>?_⟩
     ·simp; exact fun e=>(eg es[i] (List.getElem_mem hilt) g hgb).1 e.symm
     ·simp; intro e; subst e; exact (eg es[i] (List.getElem_mem hilt) x hgb).2.1 hx
     ·by_cases hki:k=i
      ·subst hki
       rw [if_neg (by omega),if_pos rfl,hp]
       refine ⟨g,o,_,rfl,hbg,hcm,hb4,by rw [setL_length]; exact hr,fun j' hj'=>?_⟩
       by_cases hjj:j'=j
       ·subst hjj
        exact setL_take rfl (by omega)
       ·rw [← hm j' (by omega)]
        exact setL_before (vs:=mkL k j) (by show _+2≤_; omega) (by omega)
      ·have:=M3.room k hk
       rw [if_neg hki] at this ⊢
       refine this.keep k4 fun x hx=>?_
       simp; intro e; subst e
       exact hpw k i hk hilt hki x (List.mem_append_left _ hx) hgb
    ·exact (s2.trans (Since.of e3 (by simp))).trans (Since.of k4 fun x hx _=>by simp at hx; subst hx; exact hbg)
    ·have:=e3.size; have:=k4.size; omega
  ·have g2:=of_decide_eq_false g2
   have hj:j=es[i].c:=by omega
   subst hj
   have hw:IntKind.wrap .i64 ((i:Int)+1)=((i+1:Nat):Int):=by rw [wrap_i64 (by omega) (by omega)]; omega
   refine again_mk (cs:=[(false,[.int .i64])]) (((i+1:Nat):Int),()) (es.length-(i+1)) rfl (by omega) (congrArg (fun z=>[Value.int .i64 z]) hw) ⟨i+1,rfl,by omega,rfl,⟨M.box,M.one,fun k hk=>?_⟩,s2,z2⟩
   have:=M.room k hk
   by_cases hki:k<i
   ·rw [if_pos hki] at this
    rw [if_pos (by omega)]; exact this
   ·rw [if_neg hki] at this
    by_cases hke:k=i
    ·subst hke
     rw [if_pos rfl] at this
     rw [if_pos (by omega)]; exact this
    ·rw [if_neg hke] at this
     rw [if_neg (by omega)]
     by_cases hk1:k=i+1
     ·rw [if_pos hk1]; exact this
     ·rw [if_neg hk1]; exact this
 ·have g1:=of_decide_eq_false g1
  have hi:i=es.length:=by omega
  subst hi
  clear hb
  refine loop_of (cs:=[(false,[.bool]),(false,[.int .i64])]) (fun x n h'=>∃ i:Nat,x.2.1=(i:Int)∧i≤es.length∧n=es.length-i∧Marking h' gb b pl cl es es.length 0∧Since b h h'∧h.size≤h'.size) (false,(0:Int),()) es.length rfl ⟨0,rfl,by omega,by omega,M,s1,z1⟩ ?_
  clear M s1 z1 v w
  rintro ⟨b7,n8,⟨⟩⟩ m0 h2 ⟨i,hi,hile',rfl,M,s1,z1⟩
  simp only at hi
  subst hi
  dsimp only [flat,unc,unc1,nA,cA]
  obtain ⟨v,w,hb⟩:=M.box
  refine osome_mk rfl (loads_box hb ((pl,es.length,cl),()) rfl ?_)
  dsimp only [flat,unc,unc1,nA,cA]
  refine cond_mk (fun g2=>?_) (fun g2=>?_)
  ·have g2:=of_decide_eq_true g2
   have hilt:i<es.length:=by omega
   obtain ⟨q1,hq1,c1⟩:=M.one.cells (i:=i) (by rw [List.length_map]; omega)
   rw [List.getElem_map] at c1
   rw [show Int.toNat (i:Int)=i by omega]
   refine osome_mk rfl (loads_box hb ((pl,es.length,cl),()) rfl ?_)
   dsimp only [flat,unc,unc1,nA,cA]
   refine need_of ⟨by omega,by omega⟩ (osome_mk hq1 (loads_of ((es[i].p,es[i].l,es[i].c),()) c1 ?_))
   dsimp only [flat,unc,unc1,nA,cA]
   refine osome_mk rfl (loads_box hb ((pl,es.length,cl),()) rfl ?_)
   dsimp only [flat,unc,unc1,nA,cA]
   refine need_of ⟨by omega,by omega⟩ (osome_mk hq1 (loads_of ((es[i].p,es[i].l,es[i].c),()) c1 ?_))
   dsimp only [flat,unc,unc1,nA,cA]
   refine need_of ⟨by omega,by omega,by omega⟩ ?_
   clear hb c1 hq1 q1
   refine loop_of (cs:=[(false,[.bool]),(false,[.int .i64])]) (fun x n h'=>∃ j:Nat,x.2.1=(j:Int)∧j≤es[i].c∧n=es[i].c-j∧Marking h' gb b pl cl es es.length 0∧Since b h h'∧h.size≤h'.size) (b7,(0:Int),()) es[i].c rfl ⟨0,rfl,by omega,by omega,M,s1,z1⟩ ?_
   clear M s1 z1 v w
   rintro ⟨b29,n30,⟨⟩⟩ m1 h3 ⟨j,hj,hjle,rfl,M,s2,z2⟩
   simp only at hj
   subst hj
   dsimp only [flat,unc,unc1,nA,cA]
   refine cond_mk (fun g3=>?_) (fun g3=>?_)
   ·have g3:=of_decide_eq_true g3
    have hjlt:j<es[i].c:=by omega
    refine need_of ⟨by omega,by omega⟩ ?_
    have hroom:=M.room i hilt
    rw [if_pos hilt] at hroom
    cases hp:es[i].p with
    | none =>
     rw [hp] at hroom
     have:es[i].c=0:=hroom
     omega
    | some a =>
     rw [hp] at hroom
     obtain ⟨g,o,cells,rfl,hbg,hcm,hbox,hr,hm⟩:=hroom
     rw [if_neg (by omega)]
     refine osome_mk (a:=⟨g,o,none⟩) (by rw [Option.map_some,add_box,Nat.add_zero]) ?_
     rw [add_box,show Int.toNat (j:Int)=j by omega]
     refine loads_box hbox (markB,mkN i j,()) (hm j hjlt) ?_
     dsimp only [flat,unc,unc1,nA,cA]
     refine callv_of (cap:=[]) (by kernel_rfl) rfl (mark_hc i j h3) ?_
     rintro _ h4 ⟨rfl,e4⟩
     refine ⟨(markB,mkN i j,()),rfl,?_⟩
     dsimp only [flat,unc,unc1,nA,cA]
     refine ⟨⟨(hbox.keep e4 (by simp)).cells _ (hm j hjlt),trivial⟩,?_⟩
     refine sem_bool (b:=false) (fun K' hk=>cmpTrm _ _ _ _ _ _ _ _ (by rw [bytes_beq]; simpa using hk)) ?_
     refine cond_f rfl ?_
     have hw:IntKind.wrap .i64 ((j:Int)+1)=((j+1:Nat):Int):=by rw [wrap_i64 (by omega) (by omega)]; omega
     exact again_mk (cs:=[(false,[.bool]),(false,[.int .i64])]) (b29,((j+1:Nat):Int),()) (es[i].c-(j+1)) rfl (by omega) (congrArg (fun z=>[Value.bool b29,.int .i64 z]) hw)
      ⟨j+1,rfl,by omega,rfl,M.keep e4 (by simp) (by simp) (by simp),s2.trans (Since.of e4 (by simp)),by have:=e4.size; omega⟩
   ·have hw:IntKind.wrap .i64 ((i:Int)+1)=((i+1:Nat):Int):=by rw [wrap_i64 (by omega) (by omega)]; omega
    exact again_mk (cs:=[(false,[.bool]),(false,[.int .i64])]) (b29,((i+1:Nat):Int),()) (es.length-(i+1)) rfl (by omega) (congrArg (fun z=>[Value.bool b29,.int .i64 z]) hw) ⟨i+1,rfl,by omega,rfl,M,s2,z2⟩
  ·refine osome_mk rfl (stores_of hb rfl (by simp) ?_)
   intro h3 hb3 k3 z3
   refine osome_mk rfl ?_
   rw [add_box]
   refine stores_of hb3 rfl (by simp [setL]) ?_
   intro h4 hb4 k4 z4
   refine osome_mk rfl ?_
   rw [add_box]
   refine stores_of hb4 rfl (by simp [setL]) ?_
   intro h5 hb5 k5 z5
   have hs:∀ {a c:Hp},Ch [gb] a c→Since b a c:=fun k=>Since.of k fun x hx _=>by simp at hx; subst hx; exact hge
   exact ⟨rfl,((s1.trans (hs k3)).trans (hs k4)).trans (hs k5)⟩
end Go.Sx.TB
set_option linter.unusedVariables false
set_option linter.unusedSimpArgs false
set_option maxRecDepth 100000
namespace Go.Sx.Ob
open Go.Proofs
theorem SL.flat {h:Hp} {b:Nat} {e:TypeId} {sz:Nat} {a:Addr} {l c:Nat} {xs:List (List Value)} (s:SL h b e sz (some a) l c xs):cellsAt h a 0 xs.flatten:=by
 obtain ⟨g,pre,rest,rfl,hbg,hlc,hbox,hr⟩:=s.2.2
 refine hbox.cells _ ?_
 rw [List.drop_left,List.take_left]
theorem appSL_of {P:Program} {L:Lp} {K:Value→Hp→Prop} {h:Hp} {k:Option Addr→Nat→Nat→T} {t ty e:TypeId} {z:Value} {sz by':Nat} (ht:P.underlying t=some (.slice e)) (hinf:(P.info? e).map (fun i=>(i.zero,i.size,i.bytes))=some (some z,sz,by'))
  (hzs:z.cells.size=sz) {b b':Nat} {p:Option Addr} {l c:Nat} {xs:List (List Value)} (s:SL h b e sz p l c xs) {a:Addr} {m d:Nat} {ys:List (List Value)} (s':SL h b' e sz (some a) m d ys) (hp:ys.flatten.all plainV=true)
  (hby:(2*(l+m)+1024)*by'≤2^48) (hl:l+m≤2^48) (hb:b≤h.size)
  (hk:∀ p' c' h',SL h' b e sz p' (l+m) c' (xs++ys)→Ch (blkOf p) h h'→(p'=p∨∃ a,p'=some a∧h.size≤a.block)→k p' (l+m) c' L K h') :
  T.sem P (Builtin.append_ #[t,t] ty #[.slice p l c,.slice (some a) m d]) false [(false,[.slice 0])] k L K h:=by
 obtain ⟨i,hi,hz,rfl,rfl⟩:=inf_of hinf
 refine sem_slice ?_
 have:=append_of (P:=P) (h:=h) (K:=fun v h'=>∃ p l c,v=.slice p l c∧k p l c L K h') (ty:=ty) (ys:=ys) ht hi hz hzs s s'.1 s'.2.1 (SL.flat s') hp hby hl hb (cc:=d) ?_
 ·exact this
 ·intro p' c' h2 s2 c2 hp'
  exact ⟨p',l+m,c',rfl,hk p' c' h2 s2 c2 hp'⟩
def Mid (gb N0 N1:Nat) (W:Nat→Prop) (h h':Hp):Prop:=∃ ws,Ch ws h h'∧∀ i,i∈ws→i<h.size→(gb≤i∧i<N0)∨N1≤i∨W i
theorem Mid.size {gb N0 N1:Nat} {W:Nat→Prop} {h h':Hp} (m:Mid gb N0 N1 W h h'):h.size≤h'.size:=by
 obtain ⟨ws,k,_⟩:=m
 exact k.size
theorem Mid.mono {gb N0 N1:Nat} {W V:Nat→Prop} {h h':Hp} (m:Mid gb N0 N1 W h h') (hv:∀ i,W i→V i):Mid gb N0 N1 V h h':=by
 obtain ⟨ws,k,hw⟩:=m
 exact ⟨ws,k,fun i hi hl=>(hw i hi hl).imp id fun x=>x.imp id (hv i)⟩
theorem Mid.trans {gb N0 N1:Nat} {W:Nat→Prop} {a b c:Hp} (m:Mid gb N0 N1 W a b) (n:Mid gb N0 N1 W b c):Mid gb N0 N1 W a c:=by
 obtain ⟨ws,k,hw⟩:=m
 obtain ⟨vs,k',hv⟩:=n
 refine ⟨ws++vs,(k.mono fun i hi _=>List.mem_append_left _ hi).trans k' fun i hi _=>List.mem_append_right _ hi,fun i hi hl=>?_⟩
 rcases List.mem_append.1 hi with hi | hi
 ·exact hw i hi hl
 ·exact hv i hi (Nat.lt_of_lt_of_le hl k.size)
theorem Mid.sl {gb N0 N1:Nat} {W:Nat→Prop} {h h':Hp} (m:Mid gb N0 N1 W h h') {b:Nat} {e:TypeId} {sz:Nat} {p:Option Addr} {l c:Nat} {xs:List (List Value)} (s:SL h b e sz p l c xs) (hp:∀ i,i∈blkOf p→N0≤i∧i<N1∧¬ W i):SL h' b e sz p l c xs:=by
 obtain ⟨ws,k,hw⟩:=m
 refine Sx.SL.keep' s k fun i hi hm=>?_
 have h1:=hp i hi
 rcases hw i hm (Sx.SL.blk s hi).2 with h2 | h2 | h2
 ·omega
 ·omega
 ·exact h1.2.2 h2
theorem Mid.box {gb N0 N1:Nat} {W:Nat→Prop} {h h':Hp} (m:Mid gb N0 N1 W h h') {g:Nat} {e:TypeId} {xs:List Value} (s:Box h g e xs) (h1:N0≤g) (h2:g<N1) (h3:¬ W g):Box h' g e xs:=by
 obtain ⟨ws,k,hw⟩:=m
 refine s.keep k fun hm=>?_
 rcases hw g hm s.lt with x | x | x
 ·omega
 ·omega
 ·exact h3 x
theorem Mid.low {gb N0 N1:Nat} {W:Nat→Prop} {a h h':Hp} (c:Ch [gb] a h) (m:Mid gb N0 N1 W h h') (ha:a.size≤gb+1) (h1:gb≤N1) (hW:∀ i,W i→gb≤i):Ch [gb] a h':=by
 obtain ⟨ws,k,hw⟩:=m
 refine Ch.trans c k fun i hi hl=>?_
 have hl':=Nat.lt_of_lt_of_le hl c.size
 have:gb≤i:=by
  rcases hw i hi hl' with x | x | x
  ·exact x.1
  ·omega
  ·exact hW i x
 simp; omega
def Bk (h:Hp) (gb N0 N1:Nat) (S:Nat→Prop):Prop:=∃ pl cl pw cw,∃ es:List TB.Ent,es.length≤4000∧TB.Book h gb gb pl cl pw cw es∧(∀ i,i∈blkOf pl→i<N0∨N1≤i)∧(∀ i,i∈blkOf pw→i<N0∨N1≤i)∧∀ e,e∈es→∀ i,i∈e.blks→i<N0∨N1≤i∨S i
def BkN (h:Hp) (gb:Nat):Prop:=∃ pl cl pw cw,∃ es:List TB.Ent,es.length≤4000∧TB.Book h gb gb pl cl pw cw es
theorem Bk.n {h:Hp} {gb N0 N1:Nat} {S:Nat→Prop} (b:Bk h gb N0 N1 S):BkN h gb:=by
 obtain ⟨pl,cl,pw,cw,es,h1,h2,_⟩:=b
 exact ⟨pl,cl,pw,cw,es,h1,h2⟩
theorem BkN.b {h h':Hp} {gb:Nat} (b:BkN h gb) (e:Ext h h') (N1:Nat):Bk h' gb h.size N1 (fun _=>False):=by
 obtain ⟨pl,cl,pw,cw,es,h1,B⟩:=b
 have hl:=B.lt
 refine ⟨pl,cl,pw,cw,es,h1,TB.Book.keep B e (by simp) (by simp) (by simp) (by simp),fun i hi=>.inl (hl.2.1 i hi),fun i hi=>.inl (hl.2.2.1 i hi),fun x hx i hi=>.inl (hl.2.2.2 x hx i hi)⟩
theorem BkN.new {h:Hp} {gb:Nat} (b:Box h gb 45 [.slice none 0 0,.slice none 0 0,.int .i64 0,.bool false]):BkN h gb :=
 ⟨none,0,none,0,[],by simp,⟨⟨0,b⟩,Nat.le_refl _,SL.nil _ _ _ _,SL.nil _ _ _ _,by simp,by simp [blkOf],by simp [blkOf],by simp [blkOf],by simp,by simp,List.Pairwise.nil⟩⟩
theorem Bk.mono {h:Hp} {gb N0 N1:Nat} {S S':Nat→Prop} (b:Bk h gb N0 N1 S) (hs:∀ i,S i→S' i):Bk h gb N0 N1 S':=by
 obtain ⟨pl,cl,pw,cw,es,h1,h2,h3,h4,h5⟩:=b
 exact ⟨pl,cl,pw,cw,es,h1,h2,h3,h4,fun e he i hi=>(h5 e he i hi).imp id fun x=>x.imp id (hs i)⟩
theorem Bk.keep {h h':Hp} {gb N0 N1:Nat} {S:Nat→Prop} (b:Bk h gb N0 N1 S) {ws:List Nat} (k:Ch ws h h') (hg:gb<N0) (hw:∀ i,i∈ws→N0≤i∧i<N1∧¬ S i):Bk h' gb N0 N1 S:=by
 obtain ⟨pl,cl,pw,cw,es,h1,h2,h3,h4,h5⟩:=b
 refine ⟨pl,cl,pw,cw,es,h1,TB.Book.keep h2 k (fun hm=>?_) (fun i hi hm=>?_) (fun i hi hm=>?_) (fun e he i hi hm=>?_),h3,h4,h5⟩
 ·have:=hw gb hm; omega
 ·have:=hw i hm; have:=h3 i hi; omega
 ·have:=hw i hm; have:=h4 i hi; omega
 ·have h6:=hw i hm
  rcases h5 e he i hi with x | x | x
  ·omega
  ·omega
  ·exact h6.2.2 x
theorem keepB_hc {h:Hp} {gb N0 N1:Nat} {S:Nat→Prop} (B:Bk h gb N0 N1 S) (hN:N1≤h.size) (h01:N0≤N1) (hg:gb<N0) {p:Option Addr} {l c:Nat} {ts:Tms} (s:SL h gb 50 2 p l c (ts.map encT)) (hts:ts.length≤2^40) (hf:∀ i,i∈blkOf p→N0≤i∧i<N1∧¬ S i) :
  HC Tryz.prog 14 #[.pointer (some ⟨gb,0,none⟩),.slice p l c] h fun v h'=>v=.tuple #[]∧Mid gb N0 N1 (fun _=>False) h h'∧Bk h' gb N0 N1 (fun i=>S i∨i∈blkOf p):=by
 obtain ⟨pl,cl,pw,cw,es,hlen,B,h1,h2,h3⟩:=B
 have o1:=B.one
 have o2:=B.two
 refine (TB.keep_hc B hlen s hts (fun i hi=>?_) (by omega)).mono ?_
 ·have:=hf i hi
  refine ⟨by omega,fun x=>?_,fun x=>?_,fun e he x=>?_⟩
  ·have:=h1 i x; omega
  ·have:=h2 i x; omega
  ·rcases h3 e he i x with y | y | y
   ·omega
   ·omega
   ·exact this.2.2 y
 ·rintro v h' ⟨rfl,es',hlen',pl',cl',pw',cw',B',k,q1,q2,q3⟩
  refine ⟨rfl,⟨_,k,fun i hi hl=>?_⟩,pl',cl',pw',cw',es',hlen',B',fun i hi=>?_,fun i hi=>?_,fun e he i hi=>?_⟩
  ·rcases List.mem_cons.1 hi with rfl | hi
   ·exact .inl ⟨Nat.le_refl _,hg⟩
   ·rcases List.mem_append.1 hi with hi | hi
    ·have a:=(Sx.SL.blk o1 hi).1
     have:=h1 i hi
     omega
    ·have a:=(Sx.SL.blk o2 hi).1
     have:=h2 i hi
     omega
  ·rcases q1 i hi with x | x
   ·exact h1 i x
   ·exact .inr (by omega)
  ·rcases q2 i hi with x | x
   ·exact h2 i x
   ·exact .inr (by omega)
  ·rcases q3 e he i hi with x | x | ⟨f,hf',x⟩
   ·exact .inr (.inr (.inr x))
   ·exact .inr (.inl (by omega))
   ·rcases h3 f hf' i x with y | y | y
    ·exact .inl y
    ·exact .inr (.inl y)
    ·exact .inr (.inr (.inl y))
end Go.Sx.Ob
