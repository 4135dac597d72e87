/- Contracts over heaps, and plain laws, for the functions that the laws of chapter 9 call, part 6: The sizes of what is read, and the law's own comparisons, over heaps. Lists of n Condition: as each statement says. -/
import Derived.Test.YtfkjiiapldkoeaaGreatDoorP5
import Derived.Test.YtfkjiiapldkoeaaGreatDoorAtL
set_option linter.unusedVariables false
set_option linter.unusedSimpArgs false
set_option maxRecDepth 100000
namespace Go.Sx.Ob
open Go.Proofs
theorem parseX_len {ts:List Tok} {x:Lin} (hw:Wf ts) (h:parseX ts=.ok x):x.terms.length≤ts.length:=by
 unfold parseX at h
 have:=sumD_fine 32 ts hw
 cases hs:sumD 32 ts with
 | error e=>rw [hs] at h; cases h
 | ok q =>
  rw [hs] at h this
  simp only at h
  split at h
  ·injection h with h
   subst h
   obtain ⟨_,_,_,h4⟩:=this
   omega
  ·cases h
theorem valA_len {pool:Bool} {ts:List Tok} {x:Lin} (hw:Wf ts) (h:valA pool ts=.ok x):x.terms.length≤ts.length:=by
 unfold valA at h
 split at h
 ·exact parseX_len hw h
 ·split at h
  ·cases h
  ·split at h
   ·have:=parseX_len hw.tail h
    simp only [List.length_cons]; omega
   ·cases h
def Bd (n:Nat) (x:Itm):Prop:=x.e.terms.length≤n
theorem argA_len {n:Nat} {x y:Itm} {r:Rdr} {ts:List Tok} (hw:Wf ts) (hn:ts.length≤n) (hx:Bd n x) (h:argA x r ts=.ok y):Bd n y:=by
 unfold argA at h
 unfold Bd at *
 split at h
 ·split at h
  ·cases h
  ·injection h with h
   subst h
   split
   ·exact hx
   ·split
    ·exact hx
    ·exact hx
 ·split at h
  ·cases h
  ·injection h with h
   subst h
   exact hx
 ·split at h
  ·cases h
  ·rename_i hv
   injection h with h
   subst h
   have:=valA_len hw hv
   simp only [putE]; omega
theorem codeL_len {n:Nat}:∀ (rs:List Rdr) (args:List (List Tok)) (x y:Itm),(∀ a,a∈args→Wf a∧a.length≤n)→Bd n x→codeL x rs args=.ok y→Bd n y
 | [],args,x,y,_,hx,h=>by
  have h:Except.ok x=(Except.ok y:Except Nat Itm):=by cases args <;> exact h
  injection h with h
  subst h
  exact hx
 | r::rs,[],x,y,_,hx,h=>by
  simp only [codeL] at h
  injection h with h
  subst h
  exact hx
 | r::rs,a::args,x,y,ha,hx,h=>by
  simp only [codeL] at h
  split at h
  ·cases h
  ·rename_i z hz
   exact codeL_len rs args z y (fun b hb=>ha b (by simp [hb])) (argA_len (ha a (by simp)).1 (ha a (by simp)).2 hx hz) h
theorem codeA_len {n:Nat} {op:Int} {args:List (List Tok)} {y:Itm} (ha:∀ a,a∈args→Wf a∧a.length≤n) (h:codeA op args=.ok y):Bd n y:=by
 unfold codeA at h
 split at h
 ·cases h
 ·exact codeL_len _ _ _ _ ha (by simp [Bd,code0,itm,lin0]) h
theorem itemA_len {n k:Nat} {ts:List Tok} {y:Itm} (hw:Wf ts) (hn:ts.length≤n) (h:itemA k ts=.ok y):Bd n y:=by
 unfold itemA at h
 split at h
 ·split at h
  ·cases h
  ·injection h with h
   subst h
   simp [Bd,itm,lin0]
 ·split at h
  ·cases h
  ·rename_i x hx
   injection h with h
   subst h
   have:=parseX_len hw hx
   unfold Bd; simp only; omega
theorem itemsA_len {n k:Nat}:∀ (args:List (List Tok)) (l:List Itm),(∀ a,a∈args→Wf a∧a.length≤n)→itemsA k args=.ok l→l.length=args.length∧∀ x,x∈l→Bd n x
 | [],l,_,h=>by
  simp only [itemsA] at h
  injection h with h
  subst h
  simp
 | a::args,l,ha,h=>by
  simp only [itemsA] at h
  split at h
  ·cases h
  ·rename_i x hx
   split at h
   ·cases h
   ·rename_i l' hl
    injection h with h
    subst h
    have:=itemsA_len args l' (fun b hb=>ha b (by simp [hb])) hl
    refine ⟨by simp [this.1],fun y hy=>?_⟩
    rcases List.mem_cons.1 hy with rfl | hy
    ·exact itemA_len (ha a (by simp)).1 (ha a (by simp)).2 hx
    ·exact this.2 y hy
structure ThgSz (n:Nat) (t:Thg):Prop where
 many:t.items.length≤n
 item:∀ x,x∈t.items→Bd n x
 e:t.e.terms.length≤n
theorem ThgSz.z (n:Nat):ThgSz n thg0:=⟨by simp [thg0],by simp [thg0],by simp [thg0,lin0]⟩
theorem ThgSz.one {n:Nat} {x:Itm} (hn:1≤n) (h:Bd n x):ThgSz n (oneT x):=⟨by simp [oneT]; omega,by simp [oneT]; exact h,by simp [oneT,thg0,lin0]⟩
theorem dirA_sz {n:Nat} {op:ByteArray} {args:List (List Tok)} {t:Thg} {w:Nat} (hn:1≤n) (ha:∀ a,a∈args→Wf a∧a.length≤n) (hl:args.length≤n) (h:dirA op args=.ok (t,w)):ThgSz n t:=by
 have hag:∀ i,Wf (ag args i)∧(ag args i).length≤n:=by
  intro i
  unfold ag
  rw [List.getD_eq_getElem?_getD]
  cases hh:args[i]? with
  | none=>exact ⟨fun t ht=>by simp at ht,by simp⟩
  | some a=>exact ha a (List.mem_of_getElem? hh)
 have z:∀ x:Itm,x.e=lin0→Bd n x:=fun x hx=>by unfold Bd; rw [hx]; simp [lin0]
 unfold dirA at h
 simp only at h
 split at h
 ·cases h
 split at h
 ·injection h with h; injection h with h _; subst h
  exact ThgSz.one hn (z _ rfl)
 split at h
 ·split at h
  ·cases h
  split at h
  ·injection h with h; injection h with h _; subst h
   exact ThgSz.one hn (z _ rfl)
  ·cases h
 split at h
 ·split at h
  ·cases h
  injection h with h; injection h with h _; subst h
  exact ThgSz.one hn (z _ rfl)
 split at h
 ·split at h
  ·cases h
  split at h
  ·cases h
  rename_i l hh
  injection h with h; injection h with h _; subst h
  have:=itemsA_len args l ha hh
  exact ⟨by simp only; omega,this.2,by simp [thg0,lin0]⟩
 split at h
 ·split at h
  ·cases h
  split at h
  ·cases h
  rename_i l hh
  injection h with h; injection h with h _; subst h
  have:=itemsA_len args l ha hh
  exact ⟨by simp only; omega,this.2,by simp [thg0,lin0]⟩
 split at h
 ·split at h
  ·cases h
  split at h
  ·cases h
  rename_i x hx
  injection h with h; injection h with h _; subst h
  have:=parseX_len (hag 1).1 hx
  exact ⟨by simp [thg0],by simp [thg0],by have:=(hag 1).2; simp only; omega⟩
 split at h
 ·split at h
  ·cases h
  injection h with h; injection h with h _; subst h
  exact ⟨by simp [thg0],by simp [thg0],by simp [thg0,lin0]⟩
 split at h
 ·split at h
  ·injection h with h; injection h with h _; subst h
   exact ⟨by simp [thg0],by simp [thg0],by simp [thg0,lin0]⟩
  split at h
  ·injection h with h; injection h with h _; subst h
   exact ⟨by simp [thg0],by simp [thg0],by simp [thg0,lin0]⟩
  ·cases h
 ·cases h
theorem readA_sz {n:Nat} {l:Ln} {data:Bool} {t:Thg} (hn:1≤n) (ha:∀ a,a∈l.args→Wf a∧a.length≤n) (hl:l.args.length≤n) (h:readA l data=.ok t):ThgSz n t:=by
 unfold readA at h
 split at h
 ·injection h with h
  subst h
  exact ThgSz.z n
 split at h
 ·split at h
  ·cases h
  rename_i x hx
  split at h
  ·cases h
  injection h with h
  subst h
  exact ThgSz.one hn (codeA_len ha hx)
 split at h
 ·cases h
 rename_i t' w' hd
 by_cases g:w'=2∨w'=(if data then 1 else 0)
 ·rw [if_pos g] at h
  injection h with h
  subst h
  exact dirA_sz hn ha hl hd
 ·rw [if_neg g] at h
  cases h
theorem shp_sm {op:Int} (h:shp op≠0):Sm op:=by
 unfold shp at h
 unfold Sm
 split at h
 ·exact absurd rfl h
 ·by_cases g:op≤43
  ·omega
  ·exfalso
   apply h
   rw [List.getD_eq_getElem?_getD,List.getElem?_eq_none (by simp only [shpL,List.length_cons,List.length_nil]; omega)]
   rfl
def enN (s:ByteArray):List Value:=[.string s]
abbrev SN (h:Hp) (b:Nat) (p:Option Addr) (l c:Nat) (xs:List ByteArray):Prop:=SL h b 9 1 p l c (xs.map enN)
theorem SN.len {h:Hp} {b:Nat} {p:Option Addr} {l c:Nat} {xs:List ByteArray} (s:SN h b p l c xs):l=xs.length:=by
 have:=s.1
 rwa [List.length_map] at this
theorem SN.cell {h:Hp} {b:Nat} {p:Option Addr} {l c:Nat} {xs:List ByteArray} (s:SN h b p l c xs) {i:Nat} (hi:i<xs.length):∃ a,p=some a∧cellsAt h (a.add (i*1)) 0 [.string xs[i]]:=by
 obtain ⟨a,ha,hc⟩:=SL.cells s (i:=i) (by rw [List.length_map]; exact hi)
 refine ⟨a,ha,?_⟩
 rw [List.getElem_map] at hc
 exact hc
theorem anyT (D:List ByteArray) (s:ByteArray) (i:Nat) (hi:i<D.length):inN (D.take (i+1)) s=(inN (D.take i) s || decide (D[i]=s)):=by
 unfold inN
 rw [List.take_succ_eq_append_getElem hi,List.any_append]
 simp
theorem has_hc {h:Hp} {b:Nat} {p:Option Addr} {l c:Nat} {xs:List ByteArray} (v:SN h b p l c xs) (hl:xs.length≤2^61) (s:ByteArray):HCp Tryz.prog 50 [.slice p l c,.string s] h (.bool (inN xs s)):=by
 refine hcp_of mixed Tryz.func50 (by kernel_rfl) (t_spandrelref9_Has_eq p l c s) ?_
 unfold t_spandrelref9_Has
 have n:=SN.len v
 refine loop_of (cs:=[(false,[.bool]),(false,[.int .i64])]) (fun y m h'=>∃ i:Nat,y.2.1=(i:Int)∧m=xs.length-i∧i≤xs.length∧h'=h∧inN (xs.take i) s=false) (false,(0:Int),()) xs.length rfl
  ⟨0,rfl,rfl,by omega,rfl,rfl⟩ ?_
 rintro ⟨b2,n3,⟨⟩⟩ m h' ⟨i,hi,rfl,hle,rfl,hn⟩
 simp only at hi
 subst hi
 dsimp only [flat,unc,unc1,nA,cA]
 refine cond_mk (fun q=>?_) (fun q=>?_)
 ·have q:=of_decide_eq_true q
  have hil:i<xs.length:=by omega
  obtain ⟨a,ha,hc⟩:=SN.cell v hil
  refine need_of ⟨by omega,by omega⟩ (osome_mk ha ?_)
  rw [show Int.toNat (i:Int)=i by omega]
  refine loads_of (xs[i],()) hc ?_
  dsimp only [flat,unc,unc1,nA,cA]
  have hs:=anyT xs s i hil
  rw [beqL]
  refine cond_mk (fun r=>?_) (fun r=>?_)
  ·have r:=of_decide_eq_true r
   refine ⟨congrArg Value.bool ?_,rfl⟩
   unfold inN
   exact (List.any_eq_true.2 ⟨_,List.getElem_mem hil,decide_eq_true r⟩).symm
  ·rw [hn,r] at hs
   refine again_mk (cs:=[(false,[.bool]),(false,[.int .i64])]) (b2,((i+1:Nat):Int),()) (xs.length-(i+1)) rfl (by omega) (by rw [wrap_i64 (by omega) (by omega)]; rfl) ?_
   exact ⟨i+1,rfl,rfl,by omega,rfl,hs⟩
 ·have q:=of_decide_eq_false q
  have:i=xs.length:=by omega
  subst this
  rw [List.take_length] at hn
  exact ⟨by rw [hn],rfl⟩
def labs (l:List Itm):List ByteArray:=(l.filter fun x=>decide (x.kind=1)).map (·.name)
theorem labs_take (l:List Itm) (i:Nat) (hi:i<l.length):labs (l.take (i+1))=labs (l.take i)++if l[i].kind=1 then [l[i].name] else []:=by
 unfold labs
 rw [List.take_succ_eq_append_getElem hi,List.filter_append,List.map_append]
 congr 1
 by_cases hk:l[i].kind=1 <;> simp [hk]
theorem SN.push {L:Lp} {K:Value→Hp→Prop} {h:Hp} {b:Nat} {p:Option Addr} {l c:Nat} {xs:List ByteArray} (v:SN h b p l c xs) (x:ByteArray) (hl:xs.length≤2^40) (hb:b≤h.size) {k:Option Addr→Nat→Nat→T}
  (hk:∀ p' c' h',SN h' b p' (l+1) c' (xs++[x])→Ch (blkOf p) h h'→k p' (l+1) c' L K h') :
  T.sem Tryz.prog (Instr.buildSlice 25 1 #[(0,.string x)]) false [(false,[.slice 0])] (fun q m cc=>T.sem Tryz.prog (Builtin.append_ #[25,25] 25 #[.slice p l c,.slice q m cc]) false [(false,[.slice 0])] k) L K h:=by
 have n:=SN.len v
 refine push_of (vs:=[.string x]) und28 strZ rfl (by omega) (by omega) (by kernel_rfl) rfl rfl v hb (by omega) (by omega) ?_
 intro p' c' h' s' ch _
 refine hk p' c' h' ?_ ch
 unfold SN
 rw [List.map_append]
 exact s'
theorem SN.ext {h a b':Hp} {b:Nat} {p:Option Addr} {l c:Nat} {xs:List ByteArray} (e:Ext h a) (v:SN a b p l c xs) (hb:h.size≤b) (k:Ch (blkOf p) a b'):Ext h b' :=
 Ch.trans e k (fun i hi hl=>by have:=(Ob.SL.blk v i hi).1; omega)
theorem labels_hc {h:Hp} {p:Option Addr} {l c:Nat} {us:List Itm} (v:VwI h p l us) (hm:us.length≤2^20) :
  HC Tryz.prog 52 #[.slice p l c] h fun w h'=>∃ p' l' c',w=.slice p' l' c'∧SN h' h.size p' l' c' (labs us)∧Ext h h':=by
 refine hcr_of (args:=[.slice p l c]) mixed Tryz.func52 (by kernel_rfl) (t_spandrelref9_labels_eq p l c) ?_
 unfold t_spandrelref9_labels
 have n:=v.len
 refine loop_of (cs:=[(false,[.slice 0]),(false,[.int .i64])]) (fun y m h'=>∃ i:Nat,y.2.1=(i:Int)∧m=us.length-i∧i≤us.length∧Ext h h'∧(labs (us.take i)).length≤i∧SN h' h.size y.1.1 y.1.2.1 y.1.2.2 (labs (us.take i))) ((none,0,0),(0:Int),()) us.length rfl
  ⟨0,rfl,rfl,by omega,Ch.refl _ _,by simp [labs],SL.nil _ _ _ _⟩ ?_
 rintro ⟨⟨p1,l2,l3⟩,n4,⟨⟩⟩ m h1 ⟨i,hi,rfl,hle,e1,hll,s⟩
 simp only at hi s
 subst hi
 dsimp only [flat,unc,unc1,nA,cA]
 have hz:=e1.size
 refine cond_mk (fun q=>?_) (fun q=>?_)
 ·have q:=of_decide_eq_true q
  have hil:i<us.length:=by omega
  obtain ⟨aa,pp,ll,cc,rfl',hc,va⟩:=(v.keep e1).cells i hil
  have ht:=labs_take us i hil
  generalize us[i]=x at hc va ht
  refine need_of ⟨by omega,by omega⟩ (osome_mk rfl' ?_)
  rw [show Int.toNat (i:Int)=i by omega]
  refine loads_of (x.kind,()) ⟨hc.1,trivial⟩ ?_
  dsimp only [flat,unc,unc1,nA,cA]
  refine cond_mk (fun r=>?_) (fun r=>?_)
  ·have r:x.kind=1:=by simpa using r
   rw [if_pos r] at ht
   refine need_of ⟨by omega,by omega⟩ (osome_mk rfl' ?_)
   refine loads_of (x.name,()) ⟨by rw [add_add]; exact hc.2.1,trivial⟩ ?_
   dsimp only [flat,unc,unc1,nA,cA]
   refine SN.push s x.name (by omega) (by omega) ?_
   intro p' c' h2 s2 k2
   refine again_mk (cs:=[(false,[.slice 0]),(false,[.int .i64])]) ((p',l2+1,c'),((i+1:Nat):Int),()) (us.length-(i+1)) rfl (by omega) (by rw [wrap_i64 (by omega) (by omega)]; rfl) ?_
   exact ⟨i+1,rfl,rfl,by omega,SN.ext e1 s (Nat.le_refl _) k2,by rw [ht,List.length_append]; simp; omega,by rw [ht]; exact s2⟩
  ·have r:¬ x.kind=1:=by simpa using r
   rw [if_neg r,List.append_nil] at ht
   refine again_mk (cs:=[(false,[.slice 0]),(false,[.int .i64])]) ((p1,l2,l3),((i+1:Nat):Int),()) (us.length-(i+1)) rfl (by omega) (by rw [wrap_i64 (by omega) (by omega)]; rfl) ?_
   exact ⟨i+1,rfl,rfl,by omega,e1,by rw [ht]; omega,by rw [ht]; exact s⟩
 ·have q:=of_decide_eq_false q
  have:i=us.length:=by omega
  subst this
  rw [List.take_length] at s
  exact ⟨p1,l2,l3,rfl,s,e1⟩
theorem appS_of {L:Lp} {K:Value→Hp→Prop} {h:Hp} {k:Option Addr→Nat→Nat→T} {b b':Nat} {p:Option Addr} {l c:Nat} {xs:List ByteArray} (s:SN h b p l c xs) {q:Option Addr} {m d:Nat} {us:List ByteArray} (v:SN h b' q m d us)
  (hl:l+m≤2^40) (hb:b≤h.size)
  (hk:∀ p' c' h',SN h' b p' (l+m) c' (xs++us)→Ch (blkOf p) h h'→k p' (l+m) c' L K h') :
  T.sem Tryz.prog (Builtin.append_ #[25,25] 25 #[.slice p l c,.slice q m d]) false [(false,[.slice 0])] k L K h:=by
 obtain ⟨i,hi,hz,hsz,hby⟩:=inf_of strZ
 refine sem_slice ?_
 cases q with
 | none =>
  have h1:us=[]:=by
   have:=v.2.2.2
   simpa using this
  have h0:m=0:=by have:=SN.len v; rw [h1] at this; exact this
  have hd:d=0:=v.2.2.1
  subst h0 h1 hd
  have hc0:l≤c:=by
   cases p with
   | none =>
    have h2:=s.2.2.2
    have h3:=s.1
    rw [h2] at h3
    simp at h3
    omega
   | some a =>
    obtain ⟨g,pre,rest,rfl,hbg,hlc,_⟩:=s.2.2
    exact hlc.1
  simp [Builtin.append_,semW_bind',semW_underlying und28,semW_sizeOf hi,cellsOf_info hi,Builtin.lenOf,Builtin.firstCells,hc0]
  have hfin:∃ p' l' c',Value.slice p l c=.slice p' l' c'∧k p' l' c' L K h:=⟨p,l,c,rfl,by simpa using hk p c h (by simpa using s) (Ch.refl _ _)⟩
  cases p with
  | none=>exact hfin
  | some a=>exact hfin
 | some a =>
  have hc:cellsAt h a 0 (us.map enN).flatten:=by
   obtain ⟨g,pre,rest,rfl,hbg,hlc,hbox,hr⟩:=v.2.2
   refine hbox.cells _ ?_
   rw [List.drop_left,List.take_left]
  have hpl:(us.map enN).flatten.all plainV=true:=by
   rw [List.all_eq_true]
   intro x hx
   obtain ⟨y,hy,hxy⟩:=List.mem_flatten.1 hx
   obtain ⟨z,_,rfl⟩:=List.mem_map.1 hy
   rw [List.mem_singleton.1 hxy]
   rfl
  refine append_of und28 hi hz (by rw [hsz]; rfl) (by rw [hsz]; exact s) (ys:=us.map enN) (by rw [List.length_map]; exact SN.len v) (fun y hy=>?_) hc hpl (by rw [hby]; omega) (by omega) hb ?_
  ·obtain ⟨t,_,rfl⟩:=List.mem_map.1 hy
   rw [hsz]
   rfl
  ·intro p' c' h' s' k' hp'
   rw [hsz,← List.map_append] at s'
   exact ⟨_,_,_,rfl,hk p' c' h' s' k'⟩
def allN (u:Unt):List ByteArray:=labs u.text++labs u.data++u.equs.map (·.1)
theorem labs_len (l:List Itm):(labs l).length≤l.length:=by
 unfold labs
 rw [List.length_map]
 exact List.length_filter_le _ _
theorem all_hc {h:Hp} {a b c d:Sli} {u:Unt} (v:UntAt h a b c d u) (h1:u.text.length≤2^20) (h2:u.data.length≤2^20) (h3:u.equs.length≤2^20) :
  HC Tryz.prog 23 #[untV a b c d] h fun w h'=>∃ p' l' c',w=.slice p' l' c'∧SN h' h.size p' l' c' (allN u)∧Ext h h':=by
 refine hcr_of (args:=[untV a b c d]) mixed Tryz.func23 (by kernel_rfl) (t_spandrelref9_All_eq a.p a.l a.c b.p b.l b.c c.p c.l c.c d.p d.l d.c) ?_
 unfold t_spandrelref9_All
 refine newB ?_
 intro g1 b1 e1 z1
 have b1:Box g1 h.size 27 [a.v,b.v,c.v,d.v]:=b1
 simp only [add_box]
 refine loads_box b1 ((a.p,a.l,a.c),()) rfl ?_
 dsimp only [flat,unc,unc1,nA,cA]
 refine loads_box b1 ((b.p,b.l,b.c),()) rfl ?_
 dsimp only [flat,unc,unc1,nA,cA]
 refine call_of (labels_hc (c:=a.c) (v.text.keep e1) h1) ?_
 rintro _ g2 ⟨p8,l9,l10,rfl,s8,e2⟩
 refine ⟨((p8,l9,l10),()),rfl,?_⟩
 dsimp only [flat,unc,unc1,nA,cA]
 have b2:=b1.keep e2 (by simp)
 refine ⟨⟨b2.cells _ rfl,trivial⟩,?_⟩
 refine call_of (labels_hc (c:=b.c) (v.data.keep (e1.trans e2)) h2) ?_
 rintro _ g3 ⟨p11,l12,l13,rfl,s11,e3⟩
 refine ⟨((p11,l12,l13),()),rfl,?_⟩
 dsimp only [flat,unc,unc1,nA,cA]
 have b3:=b2.keep e3 (by simp)
 have q1:=e1.size
 have q2:=e2.size
 have q3:=e3.size
 refine ⟨⟨b3.cells _ rfl,trivial⟩,?_⟩
 have s8':SN g3 g1.size p8 l9 l10 (labs u.text):=s8.keep e3 (by simp)
 have n8:=SN.len s8
 have n11:=SN.len s11
 have k8:=labs_len u.text
 have k11:=labs_len u.data
 have e03:=(e1.trans e2).trans e3
 refine appS_of s8' s11 (by omega) (by omega) ?_
 intro p14 c14 g4 s14 k4
 have e4:=SN.ext e03 s8' (by omega) k4
 have nb:h.size∉blkOf p8:=fun hi=>by have:=(Ob.SL.blk s8' _ hi).1; omega
 have b4:=b3.keep k4 nb
 refine ⟨⟨b4.cells _ rfl,b4.cells _ rfl,trivial⟩,?_⟩
 have nc:=v.equs.len
 have hu:∀ i,i<u.equs.length→labs u.text++labs u.data++(u.equs.take (i+1)).map (·.1)=(labs u.text++labs u.data++(u.equs.take i).map (·.1))++[(u.equs.getD i (nam0,lin0)).1]:=by
  intro i hi
  rw [List.take_succ_eq_append_getElem hi,List.map_append,← List.append_assoc,List.getD_eq_getElem?_getD,List.getElem?_eq_getElem hi]
  rfl
 refine loop_of (cs:=[(false,[.slice 0]),(false,[.int .i64])]) (fun y m h'=>∃ i:Nat,y.2.1=(i:Int)∧m=u.equs.length-i∧i≤u.equs.length∧(Ext h h'∧g1.size≤h'.size)∧Box h' h.size 27 [a.v,b.v,c.v,d.v]∧SN h' g1.size y.1.1 y.1.2.1 y.1.2.2 (labs u.text++labs u.data++(u.equs.take i).map (·.1))) ((p14,l9+l12,c14),(0:Int),()) u.equs.length rfl
  ⟨0,rfl,rfl,by omega,⟨e4,by have:=k4.size; omega⟩,b4,by simpa using s14⟩ ?_
 rintro ⟨⟨p1,l2,l3⟩,n4,⟨⟩⟩ m g5 ⟨i,hi,rfl,hle,⟨e5,z5⟩,b5,s⟩
 simp only at hi s
 subst hi
 dsimp only [flat,unc,unc1,nA,cA]
 have hz:=e5.size
 refine loads_box b5 ((c.p,c.l,c.c),()) rfl ?_
 dsimp only [flat,unc,unc1,nA,cA]
 refine cond_mk (fun q=>?_) (fun q=>?_)
 ·have q:=of_decide_eq_true q
  have hil:i<u.equs.length:=by omega
  refine loads_box b5 ((c.p,c.l,c.c),()) rfl ?_
  dsimp only [flat,unc,unc1,nA,cA]
  obtain ⟨aa,pp,ll,cc,rfl',hc,va,vn⟩:=(v.equs.keep e5).cells i hil
  refine need_of ⟨by omega,by omega⟩ (osome_mk rfl' ?_)
  rw [show Int.toNat (i:Int)=i by omega]
  refine loads_of (u.equs[i].1,()) ⟨hc.1,trivial⟩ ?_
  dsimp only [flat,unc,unc1,nA,cA]
  have ns:=SN.len s
  have hg:(u.equs.getD i (nam0,lin0)).1=u.equs[i].1:=by
   rw [List.getD_eq_getElem?_getD,List.getElem?_eq_getElem hil]
   rfl
  refine SN.push s _ (by simp only [List.length_append,List.length_map,List.length_take]; omega) z5 ?_
  intro p' c' h2 s2 k2
  have nb2:h.size∉blkOf p1:=fun hi=>by have:=(Ob.SL.blk s _ hi).1; omega
  refine again_mk (cs:=[(false,[.slice 0]),(false,[.int .i64])]) ((p',l2+1,c'),((i+1:Nat):Int),()) (u.equs.length-(i+1)) rfl (by omega) (by rw [wrap_i64 (by omega) (by omega)]; rfl) ?_
  exact ⟨i+1,rfl,rfl,by omega,⟨SN.ext e5 s (by omega) k2,by have:=k2.size; omega⟩,b5.keep k2 nb2,by rw [hu i hil,hg]; exact s2⟩
 ·have q:=of_decide_eq_false q
  have:i=u.equs.length:=by omega
  subst this
  rw [List.take_length] at s
  exact ⟨p1,l2,l3,rfl,Sx.SL.mono s (by omega),e5⟩
theorem SN.put {L:Lp} {K:Value→Hp→Prop} {h:Hp} {b:Nat} {p:Option Addr} {l c:Nat} {xs:List ByteArray} (v:SN h b p l c xs) {i:Nat} (hi:i<xs.length) (x:ByteArray) {a:Addr} (ha:p=some a) {k:T}
  (hk:∀ h',SN h' b p l c (xs.set i x)→Ch (blkOf p) h h'→h'.size=h.size→k L K h'):T.stores (a.add (i*1)) [.string x] k L K h:=by
 refine SL.store (P:=Tryz.prog) v (i:=i) (vs:=enN x) (by rw [List.length_map]; exact hi) rfl rfl ha ?_
 intro h' s' ch z
 refine hk h' ?_ ch z
 unfold SN
 rw [List.map_set]
 exact s'
theorem erase_shift (zs:List ByteArray) (j:Nat) (hj:0<j) (hl:j<zs.length):(zs.set j (zs[j-1]'(by omega))).eraseIdx (j-1)=zs.eraseIdx j:=by
 apply List.ext_getElem?
 intro k
 rw [List.getElem?_eraseIdx,List.getElem?_eraseIdx]
 by_cases h1:k<j-1
 ·rw [if_pos h1,if_pos (by omega),List.getElem?_set_ne (by omega)]
 ·rw [if_neg h1]
  by_cases h2:k<j
  ·have:k=j-1:=by omega
   subst this
   rw [if_pos h2,show j-1+1=j by omega,List.getElem?_set_self hl,List.getElem?_eq_getElem (by omega)]
  ·rw [if_neg h2,List.getElem?_set_ne (by omega)]
theorem inN_set (zs:List ByteArray) (j:Nat) (hl:j<zs.length) (x s:ByteArray):inN (zs.set j x) s=(inN (zs.eraseIdx j) s || decide (x=s)):=by
 unfold inN
 rw [List.set_eq_take_append_cons_drop,if_pos hl,List.eraseIdx_eq_take_drop_succ]
 simp only [List.any_append,List.any_cons]
 all_goals (cases List.any (zs.take j) (fun t=>decide (t=s)) <;> cases List.any (zs.drop (j+1)) (fun t=>decide (t=s)) <;> cases decide (x=s) <;> rfl)
theorem inN_iff {D:List ByteArray} {s:ByteArray}:inN D s=true↔s∈D:=by
 unfold inN
 rw [List.any_eq_true]
 constructor
 ·rintro ⟨t,ht,e⟩
  rw [← of_decide_eq_true e]
  exact ht
 ·intro hs
  exact ⟨s,hs,decide_eq_true rfl⟩
theorem nodup_snoc (l:List ByteArray) (x:ByteArray):(l++[x]).Nodup↔l.Nodup∧x∉l:=by
 rw [List.nodup_append]
 constructor
 ·rintro ⟨a,_,c⟩
  exact ⟨a,fun hx=>c x hx x (by simp) rfl⟩
 ·rintro ⟨a,b⟩
  refine ⟨a,by simp,fun y hy z hz e=>?_⟩
  rw [List.mem_singleton.1 hz] at e
  exact b (e▸hy)
theorem sorted_hc {h : Hp} {b : Nat} {p : Option Addr} {l c : Nat} {xs : List ByteArray} (v : SN h b p l c xs) (hm : xs.length ≤ 2 ^ 30) :
    HC Tryz.prog 22 #[.slice p l c] h fun w h' => ∃ p' c' ys, w = .slice p' (ys : List ByteArray).length c' ∧ ys.length ≤ xs.length ∧ (ys.length = xs.length ↔ xs.Nodup) ∧ Ext h h' := by
  refine hcr_of (args := [.slice p l c]) mixed Tryz.func22 (by kernel_rfl) (t_spandrelref9_Sorted_eq p l c) ?_
  unfold t_spandrelref9_Sorted
  have n := SN.len v
  refine loop_of (cs := [(false, [.slice 0]), (false, [.int .i64])]) (fun y m h' => ∃ (i : Nat) (ys : List ByteArray), y.2.1 = (i : Int) ∧ m = xs.length - i ∧ i ≤ xs.length ∧ Ext h h' ∧ SN h' h.size y.1.1 y.1.2.1 y.1.2.2 ys ∧ ys.length ≤ i ∧ (∀ s, inN ys s = inN (xs.take i) s) ∧ (ys.length = i ↔ (xs.take i).Nodup)) ((none, 0, 0), (0 : Int), ()) xs.length rfl
    ⟨0, [], rfl, rfl, by omega, Ch.refl _ _, SL.nil _ _ _ _, by simp, fun s => rfl, by simp⟩ ?_
  rintro ⟨⟨p1, l2, l3⟩, n4, ⟨⟩⟩ m h1 ⟨i, ys, hi, rfl, hle, e1, s, hyl, hin, hnd⟩
  simp only at hi s
  subst hi
  dsimp only [flat, unc, unc1, nA, cA]
  have hz := e1.size
  have ny := SN.len s
  refine cond_mk (fun q => ?_) (fun q => ?_)
  · have q := of_decide_eq_true q
    have hil : i < xs.length := by omega
    have hx : ∀ {g}, Ext h g → ∃ a, p = some a ∧ cellsAt g (a.add (i * 1)) 0 [.string xs[i]] := by
      intro g e
      obtain ⟨a, ha, hc⟩ := SN.cell v hil
      exact ⟨a, ha, cellsAt_keep e (by simp) _ _ hc⟩
    have htk : xs.take (i + 1) = xs.take i ++ [xs[i]] := List.take_succ_eq_append_getElem hil
    generalize hxv : xs[i] = x at hx htk
    obtain ⟨a, ha, hc⟩ := hx e1
    refine need_of ⟨by omega, by omega⟩ (osome_mk ha ?_)
    rw [show Int.toNat (i : Int) = i by omega]
    refine loads_of (x, ()) hc ?_
    dsimp only [flat, unc, unc1, nA, cA]
    refine call_bool (has_hc s (by omega) x) ?_
    rw [hin]
    have hinx : inN (xs.take i) x = true ↔ x ∈ xs.take i := inN_iff
    refine cond_mk (fun r => ?_) (fun r => ?_)
    · have r2 := hinx.1 r
      refine again_mk (cs := [(false, [.slice 0]), (false, [.int .i64])]) ((p1, l2, l3), ((i + 1 : Nat) : Int), ()) (xs.length - (i + 1)) rfl (by omega) (by rw [wrap_i64 (by omega) (by omega)]; rfl) ?_
      refine ⟨i + 1, ys, rfl, rfl, by omega, e1, s, by omega, fun t => ?_, ?_⟩
      · rw [hin, htk]
        by_cases e : x = t
        · subst e
          rw [r]
          exact (inN_iff.2 (List.mem_append.2 (.inl r2))).symm
        · unfold inN
          rw [List.any_append]
          simp [e]
      · rw [htk, nodup_snoc]
        exact ⟨fun k => by omega, fun k => absurd r2 k.2⟩
    · have r2 : x ∉ xs.take i := fun k => by rw [hinx.2 k] at r; cases r
      refine need_of ⟨by omega, by omega⟩ (osome_mk ha ?_)
      refine loads_of (x, ()) hc ?_
      dsimp only [flat, unc, unc1, nA, cA]
      refine SN.push s x (by omega) hz ?_
      intro p' c' h2 s2 k2
      have e2 := SN.ext e1 s (Nat.le_refl _) k2
      refine loop_of (cs := [(false, [.int .i64])]) (fun y m h' => ∃ (j : Nat) (zs : List ByteArray), y.1 = (j : Int) ∧ m = j ∧ j ≤ ys.length ∧ zs.length = ys.length + 1 ∧ zs.eraseIdx j = ys ∧ Ext h h' ∧ SN h' h.size p' (l2 + 1) c' zs) ((l2 : Int), ()) ys.length rfl
        ⟨ys.length, ys ++ [x], by rw [ny], rfl, by omega, by simp, by rw [List.eraseIdx_append_of_length_le (by omega)]; simp, e2, s2⟩ ?_
      rintro ⟨n16, ⟨⟩⟩ m h3 ⟨j, zs, hj, rfl, hjl, hzl, hze, e3, s3⟩
      simp only at hj
      subst hj
      dsimp only [flat, unc, unc1, nA, cA]
      have hpl : ∃ a2, p' = some a2 := by
        obtain ⟨a2, h2, _⟩ := SN.cell s3 (i := 0) (by omega)
        exact ⟨a2, h2⟩
      obtain ⟨a2, ha2⟩ := hpl
      have last : (T.need (((0 : Int) ≤ (i : Int)) ∧ ((i : Int) < (l : Int))) <|
         T.osome p fun (a21 : Addr) =>
         T.loads (a21.add ((Int.toNat (i : Int)) * 1)) [.string] <| fun (s22 : ByteArray) =>
         T.need (((0 : Int) ≤ (m : Int)) ∧ ((m : Int) < ((l2 + 1 : Nat) : Int))) <|
         T.osome p' fun (a23 : Addr) =>
         T.stores (a23.add ((Int.toNat (m : Int)) * 1)) [.string s22] <|
         T.again 0 [.slice p' (l2 + 1) c', .int .i64 (IntKind.wrap .i64 ((i : Int) + (1 : Int)))])
         ([] ++ [Jl (cs := [(false, [.slice 0]), (false, [.int .i64])]) (fun y m h' => ∃ (i : Nat) (ys : List ByteArray), y.2.1 = (i : Int) ∧ m = xs.length - i ∧ i ≤ xs.length ∧ Ext h h' ∧ SN h' h.size y.1.1 y.1.2.1 y.1.2.2 ys ∧ ys.length ≤ i ∧ (∀ s, inN ys s = inN (xs.take i) s) ∧ (ys.length = i ↔ (xs.take i).Nodup)) (xs.length - i)] ++
          [Jl (cs := [(false, [.int .i64])]) (fun y m h' => ∃ (j : Nat) (zs : List ByteArray), y.1 = (j : Int) ∧ m = j ∧ j ≤ ys.length ∧ zs.length = ys.length + 1 ∧ zs.eraseIdx j = ys ∧ Ext h h' ∧ SN h' h.size p' (l2 + 1) c' zs) m])
         (fun w h' => ∃ p' c' ys, w = .slice p' (ys : List ByteArray).length c' ∧ ys.length ≤ xs.length ∧ (ys.length = xs.length ↔ xs.Nodup) ∧ Ext h h') h3 := by
        obtain ⟨a, ha, hc⟩ := hx e3
        refine need_of ⟨by omega, by omega⟩ (osome_mk ha ?_)
        rw [show Int.toNat (i : Int) = i by omega]
        refine loads_of (x, ()) hc ?_
        dsimp only [flat, unc, unc1, nA, cA]
        refine need_of ⟨by omega, by omega⟩ (osome_mk ha2 ?_)
        rw [show Int.toNat (m : Int) = m by omega]
        refine SN.put s3 (by omega) x ha2 ?_
        intro h4 s4 k4 z4
        refine again_mk (cs := [(false, [.slice 0]), (false, [.int .i64])]) ((p', l2 + 1, c'), ((i + 1 : Nat) : Int), ()) (xs.length - (i + 1)) rfl (by omega) (by rw [wrap_i64 (by omega) (by omega)]; rfl) ?_
        refine ⟨i + 1, zs.set m x, rfl, rfl, by omega, SN.ext e3 s3 (Nat.le_refl _) k4, s4, by rw [List.length_set]; omega, fun t => ?_, ?_⟩
        · rw [inN_set zs m (by omega), hze, hin, htk]
          unfold inN
          rw [List.any_append]
          simp
        · rw [List.length_set, htk, nodup_snoc, ← hnd, hzl]
          exact ⟨fun k => ⟨by omega, r2⟩, fun k => by omega⟩
      refine cond_mk (fun q2 => ?_) (fun q2 => last)
      have q2 := of_decide_eq_true q2
      rw [wrap_i64 (by omega) (by omega)]
      obtain ⟨a3, ha3, hc3⟩ := SN.cell s3 (i := m - 1) (by omega)
      refine need_of ⟨by omega, by omega⟩ (osome_mk ha3 ?_)
      rw [show Int.toNat ((m : Int) - 1) = m - 1 by omega]
      refine loads_of (zs[m - 1]'(by omega), ()) hc3 ?_
      dsimp only [flat, unc, unc1, nA, cA]
      obtain ⟨a, ha, hc⟩ := hx e3
      refine need_of ⟨by omega, by omega⟩ (osome_mk ha ?_)
      refine loads_of (x, ()) hc ?_
      dsimp only [flat, unc, unc1, nA, cA]
      refine cond_mk (fun q3 => ?_) (fun q3 => ?_)
      · refine need_of ⟨by omega, by omega⟩ (osome_mk ha3 ?_)
        refine loads_of (zs[m - 1]'(by omega), ()) hc3 ?_
        dsimp only [flat, unc, unc1, nA, cA]
        refine need_of ⟨by omega, by omega⟩ (osome_mk ha2 ?_)
        rw [show Int.toNat (m : Int) = m by omega]
        refine SN.put s3 (by omega) _ ha2 ?_
        intro h4 s4 k4 z4
        refine again_mk (cs := [(false, [.int .i64])]) (((m - 1 : Nat) : Int), ()) (m - 1) rfl (by omega) (by rw [show (m : Int) - 1 = ((m - 1 : Nat) : Int) by omega]; rfl) ?_
        exact ⟨m - 1, _, rfl, rfl, by omega, by rw [List.length_set]; exact hzl, by rw [erase_shift zs m (by omega) (by omega)]; exact hze, SN.ext e3 s3 (Nat.le_refl _) k4, s4⟩
      · have := last
        rw [show Int.toNat (i : Int) = i by omega] at this
        exact this
  · have q := of_decide_eq_false q
    have : i = xs.length := by omega
    subst this
    rw [List.take_length] at hnd
    exact ⟨p1, l3, ys, by rw [ny], hyl, hnd, e1⟩
end Go.Sx.Ob
set_option linter.unusedVariables false
set_option linter.unusedSimpArgs false
set_option maxRecDepth 100000
namespace Go.Sx.Ob
open Go.Proofs
structure Wld where
 text:List Itm
 data:List Itm
 equs:List Eqn
 names:List ByteArray
 globs:List (ByteArray × Nat)
 sec:Nat
def wld0:Wld:=⟨[],[],[],[],[],0⟩
def labI (s:ByteArray):Itm:={ itm 1 with name:=s }
def itsW (lab:ByteArray) (t:Thg):List Itm:=(if lab=nam0 then [] else [labI lab])++t.items
def putW (w:Wld) (n:Nat) (lab:ByteArray) (t:Thg):Wld :=
 let its:=itsW lab t
 let nm:=w.names++(if lab=nam0 then [] else [lab])
 { text:=if w.sec=0 then w.text++its else w.text,data:=if w.sec=0 then w.data else w.data++its,equs:=if t.kind=3 then w.equs++[(t.name,t.e)] else w.equs,names:=if t.kind=3 then nm++[t.name] else nm,globs:=if t.kind=4 then w.globs++[(t.name,n)] else w.globs,sec:=if t.kind=5 then t.sec else w.sec }
def dupW (w:Wld) (lab:ByteArray) (t:Thg):Prop:=(lab≠nam0∧inN w.names lab=true)∨(t.kind=3∧(inN w.names t.name=true∨t.name=lab))
instance (w:Wld) (lab:ByteArray) (t:Thg):Decidable (dupW w lab t):=by unfold dupW; infer_instance
def lineW (w:Wld) (n:Nat) (s:ByteArray):Except Nat Wld :=
 if (parseS s).2.2≠0 then .error (parseS s).2.2
 else if (parseS s).1.label≠nam0∧legalL (parseS s).1.label.data.toList=false then .error 21
 else match readA (parseS s).1 (decide (w.sec=1)) with
  | .error e=>.error e
  | .ok t=>if dupW w (parseS s).1.label t then .error 22
   else if 8192<w.text.length+w.data.length+(itsW (parseS s).1.label t).length then .error 4
   else .ok (putW w n (parseS s).1.label t)
def linesF:Nat→List UInt8→List (List UInt8)
 | 0,_=>[]
 | _+1,[]=>[]
 | f+1,s=>(s.takeWhile (·≠10))::linesF f ((s.dropWhile (·≠10)).drop 1)
def linesL (s:ByteArray):List ByteArray:=(linesF (s.size+1) s.data.toList).map fun l=>⟨l.toArray⟩
def runW:Wld→Nat→List ByteArray→Except (Nat × Nat) Wld
 | w,_,[]=>.ok w
 | w,n,s::l=>match lineW w n s with
  | .error e=>.error (n,e)
  | .ok w=>runW w (n+1) l
def undW (w:Wld):Option (ByteArray × Nat):=w.globs.find? fun g=>!inN w.names g.1
def insN (s:ByteArray):List ByteArray→List ByteArray
 | []=>[s]
 | t::l=>if ltN s t then s::t::l else if s=t then t::l else t::insN s l
def sortN (l:List ByteArray):List ByteArray:=l.foldl (fun d s=>insN s d) []
def asmS (src:ByteArray):Except (Nat × Nat) Unt :=
 if 65536<src.size then .error (0,3)
 else if 4096<(linesL src).length then .error (4097,4)
 else match runW wld0 1 (linesL src) with
  | .error e=>.error e
  | .ok w=>match undW w with
   | some g=>.error (g.2,23)
   | none=>.ok ⟨w.text,w.data,w.equs,sortN (w.globs.map (·.1))⟩
/-! What is put is right. -/
structure WOk (w:Wld):Prop where
 text:∀ x,x∈w.text→itmR x 0=true∧Good x.e
 data:∀ x,x∈w.data→itmR x 1=true∧Good x.e
 equs:∀ x,x∈w.equs→legalL x.1.data.toList=true∧Good x.2
 perm:w.names.Perm (labs w.text++labs w.data++w.equs.map (·.1))
 once:w.names.Nodup
 globs:∀ g,g∈w.globs→legalL g.1.data.toList=true
 sec:w.sec≤1
 many:w.text.length+w.data.length≤8192
theorem WOk.z:WOk wld0:=⟨by simp [wld0],by simp [wld0],by simp [wld0],by simp [wld0,labs],by simp [wld0],by simp [wld0],by simp [wld0],by simp [wld0]⟩
/-! No line's own items are labels. -/
theorem argA_kind {x y:Itm} {r:Rdr} {ts:List Tok} (h:argA x r ts=.ok y):y.kind=x.kind:=by
 unfold argA at h
 split at h
 ·split at h
  ·cases h
  ·injection h with h
   subst h
   split
   ·rfl
   ·split
    ·rfl
    ·rfl
 ·split at h
  ·cases h
  ·injection h with h
   subst h
   rfl
 ·split at h
  ·cases h
  ·injection h with h
   subst h
   rfl
theorem codeL_kind:∀ (rs:List Rdr) (args:List (List Tok)) (x y:Itm),codeL x rs args=.ok y→y.kind=x.kind
 | [],args,x,y,h=>by
  have h:Except.ok x=(Except.ok y:Except Nat Itm):=by cases args <;> exact h
  injection h with h
  rw [h]
 | r::rs,[],x,y,h=>by
  simp only [codeL] at h
  injection h with h
  rw [h]
 | r::rs,a::args,x,y,h=>by
  simp only [codeL] at h
  split at h
  ·cases h
  ·rename_i z hz
   rw [codeL_kind rs args z y h,argA_kind hz]
theorem codeA_kind {op:Int} {args:List (List Tok)} {y:Itm} (h:codeA op args=.ok y):y.kind=2:=by
 unfold codeA at h
 split at h
 ·cases h
 ·rw [codeL_kind _ _ _ _ h]; rfl
theorem itemsA_kind {k:Nat} (hk:k=5∨k=6):∀ (args:List (List Tok)) (l:List Itm),itemsA k args=.ok l→∀ x,x∈l→x.kind≠1
 | [],l,h=>by
  simp only [itemsA] at h
  injection h with h
  subst h
  simp
 | a::args,l,h=>by
  simp only [itemsA] at h
  split at h
  ·cases h
  ·rename_i x hx
   split at h
   ·cases h
   ·rename_i l' hl
    injection h with h
    subst h
    intro y hy
    rcases List.mem_cons.1 hy with rfl | hy
    ·unfold itemA at hx
     rcases hk with rfl | rfl
     ·rw [if_pos rfl] at hx
      split at hx
      ·cases hx
      ·injection hx with hx
       subst hx
       simp [itm]
     ·rw [if_neg (by decide)] at hx
      split at hx
      ·cases hx
      ·injection hx with hx
       subst hx
       simp [itm]
    ·exact itemsA_kind hk args l' hl y hy
theorem dirA_nolab {op:ByteArray} {args:List (List Tok)} {t:Thg} {w:Nat} (h:dirA op args=.ok (t,w)):(∀ x,x∈t.items→x.kind≠1)∧(t.kind=3→t.items=[]):=by
 unfold dirA at h
 simp only at h
 split at h
 ·cases h
 split at h
 ·injection h with h; injection h with h _; subst h
  exact ⟨by simp [oneT,itm],by simp [oneT]⟩
 split at h
 ·split at h
  ·cases h
  split at h
  ·injection h with h; injection h with h _; subst h
   exact ⟨by simp [oneT,itm],by simp [oneT]⟩
  ·cases h
 split at h
 ·split at h
  ·cases h
  injection h with h; injection h with h _; subst h
  exact ⟨by simp [oneT,itm],by simp [oneT]⟩
 split at h
 ·split at h
  ·cases h
  split at h
  ·cases h
  rename_i l hh
  injection h with h; injection h with h _; subst h
  exact ⟨itemsA_kind (.inl rfl) _ _ hh,by simp⟩
 split at h
 ·split at h
  ·cases h
  split at h
  ·cases h
  rename_i l hh
  injection h with h; injection h with h _; subst h
  exact ⟨itemsA_kind (.inr rfl) _ _ hh,by simp⟩
 split at h
 ·split at h
  ·cases h
  split at h
  ·cases h
  injection h with h; injection h with h _; subst h
  exact ⟨by simp [thg0],by simp [thg0]⟩
 split at h
 ·split at h
  ·cases h
  injection h with h; injection h with h _; subst h
  exact ⟨by simp [thg0],by simp [thg0]⟩
 split at h
 ·split at h
  ·injection h with h; injection h with h _; subst h
   exact ⟨by simp [thg0],by simp [thg0]⟩
  split at h
  ·injection h with h; injection h with h _; subst h
   exact ⟨by simp [thg0],by simp [thg0]⟩
  ·cases h
 ·cases h
theorem readA_nolab {l:Ln} {data:Bool} {t:Thg} (h:readA l data=.ok t):(∀ x,x∈t.items→x.kind≠1)∧(t.kind=3→t.items=[]):=by
 unfold readA at h
 split at h
 ·injection h with h
  subst h
  exact ⟨by simp [thg0],by simp [thg0]⟩
 split at h
 ·split at h
  ·cases h
  rename_i x hx
  split at h
  ·cases h
  injection h with h
  subst h
  exact ⟨by simp [oneT,codeA_kind hx],by simp [oneT]⟩
 split at h
 ·cases h
 rename_i t' w' hd
 by_cases g:w'=2∨w'=(if data then 1 else 0)
 ·rw [if_pos g] at h
  injection h with h
  subst h
  exact dirA_nolab hd
 ·rw [if_neg g] at h
  cases h
theorem labs_app (a b:List Itm):labs (a++b)=labs a++labs b:=by simp [labs]
theorem labs_its (lab:ByteArray) {t:Thg} (h:∀ x,x∈t.items→x.kind≠1):labs (itsW lab t)=if lab=nam0 then [] else [lab]:=by
 unfold itsW
 rw [labs_app]
 have:labs t.items=[]:=by
  unfold labs
  rw [List.map_eq_nil_iff,List.filter_eq_nil_iff]
  intro x hx
  simpa using h x hx
 rw [this,List.append_nil]
 split
 ·rfl
 ·rfl
theorem itmR_lab {s:ByteArray} (h:legalL s.data.toList=true) (k:Nat):itmR (labI s) k=true∧Good (labI s).e:=by
 refine ⟨?_,Good.z⟩
 unfold itmR
 rw [if_pos (show (labI s).kind=1 from rfl)]
 simp [labI,itm,z2,z3,z4,isZ0,h]
theorem lineW_ok {w w':Wld} {n:Nat} {s:ByteArray} (hs:s.size≤2^20) (W:WOk w) (h:lineW w n s=.ok w'):WOk w':=by
 unfold lineW at h
 split at h
 ·cases h
 split at h
 ·cases h
 rename_i hl
 split at h
 ·cases h
 rename_i t ht
 split at h
 ·cases h
 rename_i hd
 split at h
 ·cases h
 rename_i hm
 injection h with h
 have f:=parse_facts s hs
 have ok:=readA_right (fun a ha=>(f a ha).1) ht
 obtain ⟨nl,n3⟩:=readA_nolab ht
 generalize (parseS s).1.label=lab at *
 have hlab:lab≠nam0→legalL lab.data.toList=true:=by
  intro g
  by_cases q:legalL lab.data.toList=true
  ·exact q
  ·exact absurd ⟨g,by simpa using q⟩ hl
 have hits:∀ x,x∈itsW lab t→itmR x w.sec=true∧Good x.e:=by
  intro x hx
  unfold itsW at hx
  rcases List.mem_append.1 hx with hx | hx
  ·split at hx
   ·simp at hx
   ·rename_i g
    have:x=labI lab:=by simpa using hx
    rw [this]
    exact itmR_lab (hlab g) _
  ·have h1:=ok.items x hx
   have hs:=W.sec
   rcases (show w.sec=0∨w.sec=1 by omega) with e | e
   ·rw [e] at h1 ⊢; simpa using h1
   ·rw [e] at h1 ⊢; simpa using h1
 have hlb:=labs_its lab nl
 have hsec:=W.sec
 subst h
 refine ⟨?_,?_,?_,?_,?_,?_,?_,?_⟩
 ·intro x hx
  unfold putW at hx
  simp only at hx
  split at hx
  ·rename_i e
   rcases List.mem_append.1 hx with hx | hx
   ·exact W.text x hx
   ·have:=hits x hx
    rwa [e] at this
  ·exact W.text x hx
 ·intro x hx
  unfold putW at hx
  simp only at hx
  split at hx
  ·exact W.data x hx
  ·rename_i e
   rcases List.mem_append.1 hx with hx | hx
   ·exact W.data x hx
   ·have:=hits x hx
    rwa [show w.sec=1 by omega] at this
 ·intro x hx
  unfold putW at hx
  simp only at hx
  split at hx
  ·rename_i e
   rcases List.mem_append.1 hx with hx | hx
   ·exact W.equs x hx
   ·have:x=(t.name,t.e):=by simpa using hx
    rw [this]
    exact ⟨ok.name (.inl e),ok.e⟩
  ·exact W.equs x hx
 ·unfold putW
  simp only
  have P:=W.perm
  generalize hlw:(if lab=nam0 then ([]:List ByteArray) else [lab])=lw at *
  have base:(w.names++lw).Perm (labs (if w.sec=0 then w.text++itsW lab t else w.text)++labs (if w.sec=0 then w.data else w.data++itsW lab t)++w.equs.map (·.1)):=by
   refine (P.append_right lw).trans ?_
   split
   ·rw [labs_app,hlb]
    simp only [List.append_assoc]
    refine List.Perm.append_left _ ?_
    rw [← List.append_assoc,← List.append_assoc]
    exact List.perm_append_comm.trans (by simp)
   ·rw [labs_app,hlb]
    simp only [List.append_assoc]
    refine List.Perm.append_left _ (List.Perm.append_left _ ?_)
    exact List.perm_append_comm
  by_cases e:t.kind=3
  ·rw [if_pos e,if_pos e,List.map_append,← List.append_assoc]
   exact base.append_right _
  ·rw [if_neg e,if_neg e]
   exact base
 ·have hnd:∀ s',(s'∈w.names↔inN w.names s'=true):=fun s'=>inN_iff.symm
  unfold dupW at hd
  unfold putW
  simp only
  have h1:(w.names++(if lab=nam0 then [] else [lab])).Nodup:=by
   split
   ·simpa using W.once
   ·rename_i g
    rw [nodup_snoc]
    refine ⟨W.once,fun hm=>hd (.inl ⟨g,(hnd _).1 hm⟩)⟩
  split
  ·rename_i e
   rw [nodup_snoc]
   refine ⟨h1,fun hm=>?_⟩
   rcases List.mem_append.1 hm with hm | hm
   ·exact hd (.inr ⟨e,.inl ((hnd _).1 hm)⟩)
   ·split at hm
    ·simp at hm
    ·exact hd (.inr ⟨e,.inr (by simpa using hm)⟩)
  ·exact h1
 ·intro g hg
  unfold putW at hg
  simp only at hg
  split at hg
  ·rename_i e
   rcases List.mem_append.1 hg with hg | hg
   ·exact W.globs g hg
   ·have:g=(t.name,n):=by simpa using hg
    rw [this]
    exact ok.name (.inr e)
  ·exact W.globs g hg
 ·unfold putW
  simp only
  split
  ·exact ok.sec
  ·exact hsec
 ·unfold putW
  simp only
  have:=W.many
  split
  ·rw [List.length_append]; omega
  ·rw [List.length_append]; omega
theorem insN_mem (s:ByteArray):∀ (l:List ByteArray) (x:ByteArray),x∈insN s l↔x=s∨x∈l
 | [],x=>by simp [insN]
 | t::l,x=>by
  unfold insN
  split
  ·simp
  ·split
   ·rename_i e
    subst e
    simp
   ·rw [List.mem_cons,insN_mem s l,List.mem_cons]
    constructor
    ·rintro (h | h | h)
     ·exact .inr (.inl h)
     ·exact .inl h
     ·exact .inr (.inr h)
    ·rintro (h | h | h)
     ·exact .inr (.inl h)
     ·exact .inl h
     ·exact .inr (.inr h)
theorem insN_rise (s:ByteArray):∀ (l:List ByteArray),l.Pairwise ltN→(insN s l).Pairwise ltN
 | [],_=>by simp [insN]
 | t::l,h=>by
  obtain ⟨h1,h2⟩:=List.pairwise_cons.1 h
  unfold insN
  split
  ·rename_i g
   refine List.pairwise_cons.2 ⟨fun x hx=>?_,h⟩
   rcases List.mem_cons.1 hx with rfl | hx
   ·exact g
   ·exact ltN_trans g (h1 x hx)
  ·rename_i g
   split
   ·exact h
   ·rename_i e
    have g2:ltN t s:=by
     by_cases k:ltN t s
     ·exact k
     ·exact absurd (ltN_tri s t g k) e
    refine List.pairwise_cons.2 ⟨fun x hx=>?_,insN_rise s l h2⟩
    rcases (insN_mem s l x).1 hx with rfl | hx
    ·exact g2
    ·exact h1 x hx
theorem sortF_mem:∀ (l d:List ByteArray) (x:ByteArray),x∈l.foldl (fun d s=>insN s d) d↔x∈l∨x∈d
 | [],d,x=>by simp
 | s::l,d,x=>by
  rw [List.foldl_cons,sortF_mem l,insN_mem,List.mem_cons]
  constructor
  ·rintro (h | h | h)
   ·exact .inl (.inr h)
   ·exact .inl (.inl h)
   ·exact .inr h
  ·rintro ((h | h) | h)
   ·exact .inr (.inl h)
   ·exact .inl h
   ·exact .inr (.inr h)
theorem sortN_mem (l:List ByteArray) (x:ByteArray):x∈sortN l↔x∈l:=by unfold sortN; rw [sortF_mem]; simp
theorem sortF_rise:∀ (l d:List ByteArray),d.Pairwise ltN→(l.foldl (fun d s=>insN s d) d).Pairwise ltN
 | [],d,h=>h
 | s::l,d,h=>sortF_rise l _ (insN_rise s d h)
theorem sortN_rise (l:List ByteArray):(sortN l).Pairwise ltN:=sortF_rise l [] List.Pairwise.nil
theorem runW_ok:∀ (l:List ByteArray) (w w':Wld) (n:Nat),(∀ s,s∈l→s.size≤2^20)→WOk w→runW w n l=.ok w'→WOk w'
 | [],w,w',n,_,W,h=>by
  simp only [runW] at h
  injection h with h
  subst h
  exact W
 | s::l,w,w',n,hs,W,h=>by
  simp only [runW] at h
  split at h
  ·cases h
  ·rename_i w1 h1
   exact runW_ok l w1 w' (n+1) (fun x hx=>hs x (by simp [hx])) (lineW_ok (hs s (by simp)) W h1) h
theorem linesF_size:∀ (f:Nat) (s:List UInt8) (N:Nat),s.length≤N→∀ l,l∈linesF f s→l.length≤N
 | 0,s,N,_,l,h=>by simp [linesF] at h
 | f+1,[],N,_,l,h=>by simp [linesF] at h
 | f+1,c::s,N,hN,l,h=>by
  simp only [linesF] at h
  rcases List.mem_cons.1 h with rfl | h
  ·exact Nat.le_trans (List.IsPrefix.length_le (List.takeWhile_prefix _)) hN
  ·refine linesF_size f _ N ?_ l h
   have h1:((c::s).dropWhile (fun x=>decide (x≠10))).length≤(c::s).length:=by
    have:=List.IsSuffix.length_le (List.dropWhile_suffix (l:=c::s) (fun x=>decide (x≠10)))
    exact this
   rw [List.length_drop]
   omega
theorem linesL_size (src:ByteArray):∀ s,s∈linesL src→s.size≤src.size:=by
 intro s hs
 unfold linesL at hs
 obtain ⟨l,hl,rfl⟩:=List.mem_map.1 hs
 have:=linesF_size _ _ src.size (by simp) l hl
 show l.toArray.size≤_
 simpa using this
def nl:UInt8→Bool:=fun c=>decide (c≠10)
theorem tw_all:∀ (l:List UInt8),(∀ x,x∈l→nl x=true)→l.takeWhile nl=l∧l.dropWhile nl=[]
 | [],_=>⟨rfl,rfl⟩
 | c::l,h=>by
  have:=tw_all l (fun x hx=>h x (by simp [hx]))
  rw [List.takeWhile_cons,List.dropWhile_cons,if_pos (h c (by simp)),if_pos (h c (by simp)),this.1]
  exact ⟨rfl,this.2⟩
theorem linesF_cons (f:Nat) (c:UInt8) (s:List UInt8):linesF (f+1) (c::s)=((c::s).takeWhile nl)::linesF f (((c::s).dropWhile nl).drop 1):=rfl
theorem drop_lt (s:List UInt8):((s.dropWhile nl).drop 1).length≤s.length-1:=by
 have:=List.IsSuffix.length_le (List.dropWhile_suffix (l:=s) nl)
 rw [List.length_drop]
 omega
theorem linesF_len:∀ (f:Nat) (s:List UInt8),(linesF f s).length≤s.length
 | 0,s=>by simp [linesF]
 | f+1,[]=>by simp [linesF]
 | f+1,c::s=>by
  rw [linesF_cons]
  have h1:=drop_lt (c::s)
  have:=linesF_len f (((c::s).dropWhile nl).drop 1)
  simp only [List.length_cons] at *
  omega
def er (t:Tok):Tok:={ t with at_:=0 }
def eR:PRes→PRes
 | .error e=>.error e
 | .ok (x,r)=>.ok (x,r.map er)
def Blind (f:List Tok→PRes):Prop:=∀ ts,f (ts.map er)=eR (f ts)
theorem isS_er (t:Tok) (c:UInt8):isS (er t) c=isS t c:=rfl
theorem facH_blind {o:Option (List Tok→PRes)} (ho:∀ f,o=some f→Blind f):Blind (facH o):=by
 intro ts
 cases ts with
 | nil=>rfl
 | cons t r =>
  simp only [List.map_cons,facH]
  rw [show (er t).kind=t.kind from rfl,show (er t).text=t.text from rfl,show (er t).num=t.num from rfl,isS_er]
  by_cases h1:t.kind=1
  ·rw [if_pos h1,if_pos h1]
   by_cases h2:(regL t.text.data.toList).2.2=true
   ·rw [if_pos h2,if_pos h2]; rfl
   ·rw [if_neg h2,if_neg h2]; rfl
  rw [if_neg h1,if_neg h1]
  by_cases h2:t.kind=2
  ·rw [if_pos h2,if_pos h2]; rfl
  rw [if_neg h2,if_neg h2]
  by_cases h3:isS t 40=true
  ·rw [if_pos h3,if_pos h3]
   cases o with
   | none=>rfl
   | some f =>
    simp only
    rw [ho f rfl r]
    cases f r with
    | error e=>rfl
    | ok q =>
     obtain ⟨x,r'⟩:=q
     cases r' with
     | nil=>rfl
     | cons t' r'' =>
      simp only [eR,List.map_cons]
      rw [isS_er]
      by_cases h4:isS t' 41=true
      ·rw [if_pos h4,if_pos h4]
      ·rw [if_neg h4,if_neg h4]
  ·rw [if_neg h3,if_neg h3]; rfl
theorem facS_blind {o:Option (List Tok→PRes)} (ho:∀ f,o=some f→Blind f) (b:Bool):Blind (facS o b):=by
 intro ts
 unfold facS
 rw [facH_blind ho ts]
 cases facH o ts with
 | error e=>rfl
 | ok q=>rfl
theorem facN_blind {o:Option (List Tok→PRes)} (ho:∀ f,o=some f→Blind f):∀ (ts:List Tok) (b:Bool),facN o b (ts.map er)=eR (facN o b ts)
 | [],b=>facS_blind ho b []
 | t::r,b=>by
  simp only [List.map_cons,facN]
  rw [isS_er]
  split
  ·exact facN_blind ho r _
  ·exact facS_blind ho b (t::r)
theorem partL_blind {fac:List Tok→PRes} (hf:Blind fac):∀ (n:Nat) (x:Lin) (r:List Tok),partL fac n x (r.map er)=eR (partL fac n x r)
 | 0,x,r=>rfl
 | n+1,x,[]=>rfl
 | n+1,x,t::r=>by
  simp only [List.map_cons,partL]
  rw [isS_er]
  split
  ·rw [hf r]
   cases fac r with
   | error e=>rfl
   | ok q =>
    obtain ⟨y,r''⟩:=q
    simp only [eR]
    split
    ·rfl
    split
    ·exact partL_blind hf n _ _
    ·exact partL_blind hf n _ _
  ·rfl
theorem partG_blind {fac:List Tok→PRes} (hf:Blind fac):Blind (partG fac):=by
 intro ts
 unfold partG
 rw [hf ts]
 cases fac ts with
 | error e=>rfl
 | ok q =>
  obtain ⟨x,r⟩:=q
  simp only [eR,List.length_map]
  exact partL_blind hf _ _ _
theorem sumL_blind {part:List Tok→PRes} (hf:Blind part):∀ (n:Nat) (x:Lin) (r:List Tok),sumL part n x (r.map er)=eR (sumL part n x r)
 | 0,x,r=>rfl
 | n+1,x,[]=>rfl
 | n+1,x,t::r=>by
  simp only [List.map_cons,sumL]
  rw [isS_er,isS_er]
  split
  ·rw [hf r]
   cases part r with
   | error e=>rfl
   | ok q =>
    obtain ⟨y,r''⟩:=q
    exact sumL_blind hf n _ _
  split
  ·rw [hf r]
   cases part r with
   | error e=>rfl
   | ok q =>
    obtain ⟨y,r''⟩:=q
    exact sumL_blind hf n _ _
  ·rfl
theorem sumG_blind {part:List Tok→PRes} (hf:Blind part):Blind (sumG part):=by
 intro ts
 unfold sumG
 rw [hf ts]
 cases part ts with
 | error e=>rfl
 | ok q =>
  obtain ⟨x,r⟩:=q
  simp only [eR,List.length_map]
  exact sumL_blind hf _ _ _
theorem sumD_blind:∀ k,Blind (sumD k)
 | 0=>sumG_blind (partG_blind fun ts=>facN_blind (o:=none) (fun f h=>by cases h) ts false)
 | k+1=>sumG_blind (partG_blind fun ts=>facN_blind (o:=some (sumD k)) (fun f h=>by cases h; exact sumD_blind k) ts false)
theorem parseX_er (ts:List Tok):parseX (ts.map er)=parseX ts:=by
 unfold parseX
 rw [sumD_blind 32 ts]
 cases sumD 32 ts with
 | error e=>rfl
 | ok q =>
  obtain ⟨x,r⟩:=q
  simp only [eR,List.map_eq_nil_iff]
theorem regA_er (z:Bool) (ts:List Tok):regA z (ts.map er)=regA z ts:=by
 match ts with
 | []=>rfl
 | [t]=>rfl
 | t::u::r=>rfl
theorem namA_er (ts:List Tok):namA (ts.map er)=namA ts:=by
 match ts with
 | []=>rfl
 | [t]=>rfl
 | t::u::r=>rfl
theorem numA_er (lo hi:Int) (ts:List Tok):numA lo hi (ts.map er)=numA lo hi ts:=by unfold numA; rw [parseX_er]
theorem valA_er (p:Bool) (ts:List Tok):valA p (ts.map er)=valA p ts:=by
 cases p with
 | false=>exact parseX_er ts
 | true =>
  cases ts with
  | nil=>rfl
  | cons t r =>
   simp only [List.map_cons,valA]
   rw [isS_er,parseX_er]
theorem argA_er (x:Itm) (r:Rdr) (ts:List Tok):argA x r (ts.map er)=argA x r ts:=by
 cases r with
 | reg z s t=>simp only [argA,regA_er]
 | con lo hi=>simp only [argA,numA_er]
 | val p=>simp only [argA,valA_er]
theorem codeL_er:∀ (rs:List Rdr) (args:List (List Tok)) (x:Itm),codeL x rs (args.map (·.map er))=codeL x rs args
 | [],args,x=>by cases args <;> rfl
 | r::rs,[],x=>rfl
 | r::rs,a::args,x=>by
  simp only [List.map_cons,codeL,argA_er]
  cases argA x r a with
  | error e=>rfl
  | ok y=>exact codeL_er rs args y
theorem codeA_er (op:Int) (args:List (List Tok)):codeA op (args.map (·.map er))=codeA op args:=by unfold codeA; rw [List.length_map,codeL_er]
theorem itemA_er (k:Nat) (ts:List Tok):itemA k (ts.map er)=itemA k ts:=by unfold itemA; rw [numA_er,parseX_er]
theorem itemsA_er (k:Nat):∀ args:List (List Tok),itemsA k (args.map (·.map er))=itemsA k args
 | []=>rfl
 | a::args=>by simp only [List.map_cons,itemsA,itemA_er,itemsA_er k args]
theorem ag_er (args:List (List Tok)) (i:Nat):ag (args.map (·.map er)) i=(ag args i).map er:=by
 unfold ag
 rw [List.getD_eq_getElem?_getD,List.getD_eq_getElem?_getD,List.getElem?_map]
 all_goals (cases args[i]? <;> rfl)
theorem dirA_er (op:ByteArray) (args:List (List Tok)):dirA op (args.map (·.map er))=dirA op args:=by
 unfold dirA
 simp only [List.length_map,ag_er,numA_er,namA_er,parseX_er,itemsA_er,List.map_eq_nil_iff]
 generalize ag args 0=a
 match a with
 | []=>rfl
 | [t]=>rfl
 | t::u::r=>rfl
theorem readA_er (lab op:ByteArray) (args:List (List Tok)) (d:Bool):readA ⟨lab,op,args.map (·.map er)⟩ d=readA ⟨lab,op,args⟩ d:=by
 unfold readA
 simp only [codeA_er,dirA_er]
end Go.Sx.Ob
set_option linter.unusedVariables false
set_option linter.unusedSimpArgs false
set_option maxRecDepth 100000
namespace Go.Sx
open Go.Proofs
inductive Wr (s:ByteArray):Nat→Nat→Prop where
 | here (k:Nat):k≤s.size→lexD (s.data.toList.drop (k+rowN (s.data.toList.drop k) blanksL))=.wrong→Wr s k (k+rowN (s.data.toList.drop k) blanksL)
 | tok (k kind n m a:Nat):k≤s.size→lexD (s.data.toList.drop (k+rowN (s.data.toList.drop k) blanksL))=.tok kind n m→Wr s (k+rowN (s.data.toList.drop k) blanksL+n) a→Wr s k a
theorem wr_lexF {s:ByteArray} {k a:Nat} (h:Wr s k a):∀ (f:Nat) (acc:List Tok),s.size-k<f→lexF s f k acc=([],a,20):=by
 have hsz:s.data.toList.length=s.size:=by simp
 induction h with
 | here k hk hD =>
  intro f acc hf
  obtain ⟨f,rfl⟩:∃ f',f=f'+1:=⟨f-1,by omega⟩
  have hst:=lexStep_lexD hk
  rw [hD] at hst
  exact lexF_wrong hst
 | tok k kind n m a hk hD hc ih =>
  intro f acc hf
  obtain ⟨f,rfl⟩:∃ f',f=f'+1:=⟨f-1,by omega⟩
  have hst:=lexStep_lexD hk
  rw [hD] at hst
  obtain ⟨h1,h2⟩:=lexD_pos hD
  have ha:=blank_le hk
  rw [List.length_drop] at h2
  rw [lexF_tok hst,ih f _ (by omega)]
theorem lexF_or {s:ByteArray}:∀ (f k:Nat) (acc:List Tok),k≤s.size→s.size-k<f→(∃ ts,Chain s k ts)∨∃ a,Wr s k a
 | 0,k,acc,hk,hf=>by omega
 | f+1,k,acc,hk,hf=>by
  have ha:=blank_le hk
  have hsz:s.data.toList.length=s.size:=by simp
  cases hD:lexD (s.data.toList.drop (k+rowN (s.data.toList.drop k) blanksL)) with
  | stop=>exact .inl ⟨_,.stop k hk hD⟩
  | wrong=>exact .inr ⟨_,.here k hk hD⟩
  | tok kind n m =>
   obtain ⟨h1,h2⟩:=lexD_pos hD
   rw [List.length_drop] at h2
   rcases lexF_or (s:=s) f (k+rowN (s.data.toList.drop k) blanksL+n) [] (by omega) (by omega) with ⟨ts,hc⟩ | ⟨a,hw⟩
   ·exact .inl ⟨_,.tok k kind n m ts hk hD hc⟩
   ·exact .inr ⟨a,.tok k kind n m a hk hD hw⟩
theorem lexS_or (s:ByteArray):(∃ ts,Chain s 0 ts∧lexS s=(ts,0,0))∨∃ a,Wr s 0 a∧lexS s=([],a,20):=by
 rcases lexF_or (s:=s) (s.size+1) 0 [] (by omega) (by omega) with ⟨ts,hc⟩ | ⟨a,hw⟩
 ·exact .inl ⟨ts,hc,chain_lexS hc⟩
 ·exact .inr ⟨a,hw,wr_lexF hw _ _ (by omega)⟩
def sh (n:Nat) (t:Tok):Tok:=⟨t.kind,t.text,t.num,t.at_+n⟩
theorem shift_drop {s s':ByteArray} {P:List UInt8} (hs':s'.data.toList=P++s.data.toList) (k:Nat):s'.data.toList.drop (k+P.length)=s.data.toList.drop k:=by
 rw [hs',Nat.add_comm,← List.drop_drop,List.drop_left]
theorem chain_shift {s s':ByteArray} {P:List UInt8} (hs':s'.data.toList=P++s.data.toList) {k:Nat} {ts:List Tok} (h:Chain s k ts):Chain s' (k+P.length) (ts.map (sh P.length)):=by
 have hd:=shift_drop hs'
 have hsz':s'.size=s.size+P.length:=by
  have:=congrArg List.length hs'
  simp at this; omega
 induction h with
 | stop k hk hD =>
  refine .stop _ (by omega) ?_
  rw [hd,show k+P.length+rowN (s.data.toList.drop k) blanksL=k+rowN (s.data.toList.drop k) blanksL+P.length by omega,hd]
  exact hD
 | tok k kind n m ts hk hD hc ih =>
  have e1:k+P.length+rowN (s'.data.toList.drop (k+P.length)) blanksL=k+rowN (s.data.toList.drop k) blanksL+P.length:=by rw [hd]; omega
  have:=Chain.tok (s:=s') (k+P.length) kind n m (ts.map (sh P.length)) (by omega) (by rw [e1,hd]; exact hD) (by rw [e1,show k+rowN (s.data.toList.drop k) blanksL+P.length+n=k+rowN (s.data.toList.drop k) blanksL+n+P.length by omega]; exact ih)
  rw [e1] at this
  have e2:s'.extract (k+rowN (s.data.toList.drop k) blanksL+P.length) (k+rowN (s.data.toList.drop k) blanksL+P.length+n)=s.extract (k+rowN (s.data.toList.drop k) blanksL) (k+rowN (s.data.toList.drop k) blanksL+n):=by
   refine ba_ext ?_
   rw [ext_list,ext_list,hd]
   congr 1
   omega
  rw [e2] at this
  exact this
theorem wr_shift {s s':ByteArray} {P:List UInt8} (hs':s'.data.toList=P++s.data.toList) {k a:Nat} (h:Wr s k a):Wr s' (k+P.length) (a+P.length):=by
 have hd:=shift_drop hs'
 have hsz':s'.size=s.size+P.length:=by
  have:=congrArg List.length hs'
  simp at this; omega
 induction h with
 | here k hk hD =>
  have e1:k+P.length+rowN (s'.data.toList.drop (k+P.length)) blanksL=k+rowN (s.data.toList.drop k) blanksL+P.length:=by rw [hd]; omega
  have:=Wr.here (s:=s') (k+P.length) (by omega) (by rw [e1,hd]; exact hD)
  rw [e1] at this
  exact this
 | tok k kind n m a hk hD hc ih =>
  have e1:k+P.length+rowN (s'.data.toList.drop (k+P.length)) blanksL=k+rowN (s.data.toList.drop k) blanksL+P.length:=by rw [hd]; omega
  exact Wr.tok (k+P.length) kind n m _ (by omega) (by rw [e1,hd]; exact hD) (by rw [e1,show k+rowN (s.data.toList.drop k) blanksL+P.length+n=k+rowN (s.data.toList.drop k) blanksL+n+P.length by omega]; exact ih)
theorem chain_blanks {s:ByteArray} {k:Nat} {ts:List Tok} (hk:k≤s.size) (hb:rowN s.data.toList blanksL=k+rowN (s.data.toList.drop k) blanksL) (h:Chain s k ts):Chain s 0 ts:=by
 have e:0+rowN (s.data.toList.drop 0) blanksL=k+rowN (s.data.toList.drop k) blanksL:=by rw [List.drop_zero,hb,Nat.zero_add]
 cases h with
 | stop _ _ hD=>exact .stop 0 (by omega) (by rw [e]; exact hD)
 | tok _ kind n m ts _ hD hc =>
  have:=Chain.tok (s:=s) 0 kind n m ts (by omega) (by rw [e]; exact hD) (by rw [e]; exact hc)
  rw [e] at this
  exact this
theorem wr_blanks {s:ByteArray} {k a:Nat} (hk:k≤s.size) (hb:rowN s.data.toList blanksL=k+rowN (s.data.toList.drop k) blanksL) (h:Wr s k a):Wr s 0 a:=by
 have e:0+rowN (s.data.toList.drop 0) blanksL=k+rowN (s.data.toList.drop k) blanksL:=by rw [List.drop_zero,hb,Nat.zero_add]
 cases h with
 | here _ _ hD =>
  have:=Wr.here (s:=s) 0 (by omega) (by rw [e]; exact hD)
  rw [e] at this
  exact this
 | tok _ kind n m _ _ hD hc=>exact Wr.tok (s:=s) 0 kind n m a (by omega) (by rw [e]; exact hD) (by rw [e]; exact hc)
theorem argsS_sh (d n n':Nat):∀ (ts:List Tok) (done:List (List Tok)) (cur:List Tok),
  (∃ r,argsS n ts done cur=.ok r∧argsS n' (ts.map (sh d)) (done.map (List.map (sh d))) (cur.map (sh d))=.ok (r.map (List.map (sh d)))) ∨
  ∃ a a',argsS n ts done cur=.error a∧argsS n' (ts.map (sh d)) (done.map (List.map (sh d))) (cur.map (sh d))=.error a'∧(a'=a+d∨(a=n∧a'=n'))
 | [],done,cur=>by
  simp only [List.map_nil,argsS,List.map_eq_nil_iff]
  by_cases h:cur=[]
  ·rw [if_pos h,if_pos h]
   exact .inr ⟨_,_,rfl,rfl,.inr ⟨rfl,rfl⟩⟩
  ·rw [if_neg h,if_neg h]
   exact .inl ⟨_,rfl,by simp⟩
 | t::ts,done,cur=>by
  have hdec:decide (cur.map (sh d)=[])=decide (cur=[]):=by simp
  simp only [List.map_cons,argsS]
  by_cases h1:(isS t 58 || (isS t 44 && decide (cur=[])))=true
  ·rw [if_pos h1,if_pos (show (isS (sh d t) 58 || (isS (sh d t) 44 && decide (cur.map (sh d)=[])))=true by rw [hdec]; exact h1)]
   exact .inr ⟨_,_,rfl,rfl,.inl rfl⟩
  ·rw [if_neg h1,if_neg (show ¬ (isS (sh d t) 58 || (isS (sh d t) 44 && decide (cur.map (sh d)=[])))=true by rw [hdec]; exact h1)]
   by_cases h2:isS t 44=true
   ·rw [if_pos h2,if_pos (show isS (sh d t) 44=true from h2)]
    have:=argsS_sh d n n' ts (done++[cur]) []
    simpa using this
   ·rw [if_neg h2,if_neg (show ¬ isS (sh d t) 44=true from h2)]
    have:=argsS_sh d n n' ts done (cur++[t])
    simpa using this
def Spaced (d n n':Nat) (r r':Ln × Nat × Nat):Prop :=
 (r.2.2=0∧r'.2.2=0∧r'.1.label=r.1.label∧r'.1.op=r.1.op∧r'.1.args=r.1.args.map (List.map (sh d)))∨(r.2.2=20∧r'.2.2=20∧(r'.2.1=r.2.1+d∨(r.2.1=n∧r'.2.1=n')))
theorem parseT_sh (d n n':Nat) (lb:ByteArray) (us:List Tok):Spaced d n n' (parseT n lb us) (parseT n' lb (us.map (sh d))):=by
 cases us with
 | nil=>exact .inl ⟨rfl,rfl,rfl,rfl,rfl⟩
 | cons t us =>
  simp only [List.map_cons,parseT]
  by_cases h:t.kind≠1
  ·rw [if_pos h,if_pos (show (sh d t).kind≠1 from h)]
   exact .inr ⟨rfl,rfl,.inl rfl⟩
  ·rw [if_neg h,if_neg (show ¬ (sh d t).kind≠1 from h)]
   have hA:(∃ r,argsA n us=.ok r∧argsA n' (us.map (sh d))=.ok (r.map (List.map (sh d))))∨∃ a a',argsA n us=.error a∧argsA n' (us.map (sh d))=.error a'∧(a'=a+d∨(a=n∧a'=n')):=by
    unfold argsA
    simp only [List.map_eq_nil_iff]
    by_cases h2:us=[]
    ·rw [if_pos h2,if_pos h2]
     exact .inl ⟨_,rfl,rfl⟩
    ·rw [if_neg h2,if_neg h2]
     have:=argsS_sh d n n' us [] []
     simpa using this
   rcases hA with ⟨r,h1,h2⟩ | ⟨a,a',h1,h2,h3⟩
   ·rw [h1,h2]
    exact .inl ⟨rfl,rfl,rfl,rfl,rfl⟩
   ·rw [h1,h2]
    exact .inr ⟨rfl,rfl,h3⟩
theorem parseL_sh (d n n':Nat) (ts:List Tok):Spaced d n n' (parseL n ts) (parseL n' (ts.map (sh d))):=by
 have hlab:labB (ts.map (sh d))=labB ts:=by
  match ts with
  | []=>rfl
  | [_]=>rfl
  | t::u::r=>rfl
 unfold parseL
 rw [hlab]
 by_cases h:labB ts=true
 ·rw [if_pos h,if_pos h]
  have e1:(ts.map (sh d)).drop 2=(ts.drop 2).map (sh d):=by rw [List.map_drop]
  have e2:(((ts.map (sh d)).head?).map (·.text)).getD ⟨#[]⟩=((ts.head?).map (·.text)).getD ⟨#[]⟩:=by
   all_goals (cases ts <;> rfl)
  rw [e1,e2]
  exact parseT_sh d n n' _ _
 ·rw [if_neg h,if_neg h]
  exact parseT_sh d n n' _ _
theorem parse_ahead {P:List UInt8} (hP:rowN P blanksL=P.length) {s s':ByteArray} (hs':s'.data.toList=P++s.data.toList):Spaced P.length s.size s'.size (parseS s) (parseS s'):=by
 have hsz':P.length≤s'.size:=by
  have:=congrArg List.length hs'
  simp at this; omega
 have hbl:rowN s'.data.toList blanksL=P.length+rowN (s'.data.toList.drop P.length) blanksL:=by
  rw [hs',List.drop_left]
  exact rowN_append_all (D:=P) hP
 rcases lexS_or s with ⟨ts,hc,he⟩ | ⟨a,hw,he⟩
 ·have hc':=chain_blanks hsz' hbl (by simpa using chain_shift (P:=P) hs' hc)
  have he':=chain_lexS hc'
  have h1:parseS s=parseL s.size ts:=by unfold parseS; rw [he]; rfl
  have h2:parseS s'=parseL s'.size (ts.map (sh P.length)):=by unfold parseS; rw [he']; rfl
  rw [h1,h2]
  exact parseL_sh P.length _ _ ts
 ·have hw':=wr_blanks hsz' hbl (by simpa using wr_shift (P:=P) hs' hw)
  have he':lexS s'=([],a+P.length,20):=wr_lexF hw' _ _ (by omega)
  have h1:parseS s=(lnNil,a,20):=by unfold parseS; rw [he]; rfl
  have h2:parseS s'=(lnNil,a+P.length,20):=by unfold parseS; rw [he']; rfl
  rw [h1,h2]
  exact .inr ⟨rfl,rfl,.inl rfl⟩
end Go.Sx
set_option linter.unusedVariables false
set_option linter.unusedSimpArgs false
set_option maxRecDepth 100000
namespace Go.Sx.Ob
open Go.Proofs
structure Eqv (w v:Wld):Prop where
 text:v.text=w.text
 data:v.data=w.data
 equs:v.equs=w.equs
 names:v.names=w.names
 globs:v.globs.map (·.1)=w.globs.map (·.1)
 sec:v.sec=w.sec
theorem Eqv.rfl' (w:Wld):Eqv w w:=⟨rfl,rfl,rfl,rfl,rfl,rfl⟩
theorem Eqv.trans {a b c:Wld} (h:Eqv a b) (k:Eqv b c):Eqv a c:=⟨k.text.trans h.text,k.data.trans h.data,k.equs.trans h.equs,k.names.trans h.names,k.globs.trans h.globs,k.sec.trans h.sec⟩
theorem putW_eqv {w v:Wld} (e:Eqv w v) (n n':Nat) (lab:ByteArray) (t:Thg):Eqv (putW w n lab t) (putW v n' lab t):=by
 unfold putW
 simp only [e.text,e.data,e.equs,e.names,e.sec]
 refine ⟨rfl,rfl,rfl,rfl,?_,rfl⟩
 simp only
 split
 ·rw [List.map_append,List.map_append,e.globs]; rfl
 ·exact e.globs
theorem lineW_eqv {w v w1:Wld} (e:Eqv w v) {n n' d a b:Nat} {s s':ByteArray} (sp:Spaced d a b (parseS s) (parseS s')) (h:lineW w n s=.ok w1):∃ v1,lineW v n' s'=.ok v1∧Eqv w1 v1:=by
 unfold lineW at h
 split at h
 ·cases h
 rename_i h0
 rcases sp with ⟨p1,p2,p3,p4,p5⟩ | ⟨p1,_,_⟩
 ·have hr:∀ dd,readA (parseS s').1 dd=readA (parseS s).1 dd:=by
   intro dd
   generalize (parseS s').1=q at *
   generalize (parseS s).1=q0 at *
   obtain ⟨l1,o1,a1⟩:=q
   obtain ⟨l2,o2,a2⟩:=q0
   simp only at p3 p4 p5
   subst p3 p4 p5
   have h1:=readA_er l1 o1 (a2.map (List.map (sh d))) dd
   have h2:=readA_er l1 o1 a2 dd
   rw [← h1,← h2]
   congr 2
   rw [List.map_map]
   apply List.map_congr_left
   intro x _
   show (x.map (sh d)).map er=x.map er
   rw [List.map_map]
   rfl
  unfold lineW
  rw [if_neg (by omega),p3,hr,e.sec]
  split at h
  ·cases h
  rename_i hl
  rw [if_neg hl]
  split at h
  ·cases h
  rename_i t ht
  split at h
  ·cases h
  rename_i hd
  have hd':¬ dupW v (parseS s).1.label t:=by
   unfold dupW at hd ⊢
   rw [e.names]
   exact hd
  rw [if_neg hd',e.text,e.data]
  split at h
  ·cases h
  rename_i hm
  rw [if_neg hm]
  injection h with h
  subst h
  exact ⟨_,rfl,putW_eqv e n n' _ t⟩
 ·omega
theorem parseNil:parseS ⟨#[]⟩=(⟨nam0,nam0,[]⟩,0,0):=by kernel_rfl
theorem lineW_nil (w:Wld) (n:Nat) (hm:w.text.length+w.data.length≤8192):∃ w1,lineW w n ⟨#[]⟩=.ok w1∧Eqv w w1:=by
 unfold lineW
 rw [parseNil]
 have hr:∀ d,readA ⟨nam0,nam0,[]⟩ d=.ok thg0:=fun d=>by unfold readA; rw [if_pos rfl]
 simp only [hr]
 rw [if_neg (by decide),if_neg (by simp),if_neg (by unfold dupW; simp [thg0])]
 have hi:itsW nam0 thg0=[]:=by simp [itsW,thg0]
 rw [hi,if_neg (by simp; omega)]
 refine ⟨_,rfl,?_⟩
 unfold putW
 rw [hi]
 constructor <;> simp [thg0]
theorem linesF_first:∀ (f:Nat) (x y:List UInt8),(∀ c,c∈x→nl c=true)→linesF (f+1) (x++10::y)=x::linesF f y:=by
 intro f x y hx
 have h1:(x++10::y).takeWhile nl=x:=by
  rw [List.takeWhile_append,(tw_all x hx).1,if_pos rfl]
  simp [nl]
 have h2:(x++10::y).dropWhile nl=10::y:=by
  rw [List.dropWhile_append,(tw_all x hx).2]
  simp [nl]
 cases hq:x++10::y with
 | nil=>simp at hq
 | cons a l =>
  rw [linesF_cons,← hq,h1,h2]
  rfl
theorem linesF_last (f:Nat) (x:List UInt8) (hx:∀ c,c∈x→nl c=true) (hn:x≠[]):linesF (f+1) x=[x]:=by
 cases x with
 | nil=>exact absurd rfl hn
 | cons a l =>
  rw [linesF_cons,(tw_all _ hx).1,(tw_all _ hx).2]
  all_goals (cases f <;> rfl)
def spacedL (b:List UInt8) (s:List UInt8):List UInt8:=s.flatMap fun c=>if c=10 then 32::59::(b++[10,10,9,32]) else [c]
theorem split10:∀ (s:List UInt8),(∀ c,c∈s→nl c=true)∨∃ l r,s=l++10::r∧∀ c,c∈l→nl c=true
 | []=>.inl (by simp)
 | c::s=>by
  by_cases hc:c=10
  ·exact .inr ⟨[],s,by rw [hc]; rfl,by simp⟩
  ·rcases split10 s with h | ⟨l,r,h1,h2⟩
   ·refine .inl fun x hx=>?_
    rcases List.mem_cons.1 hx with rfl | hx
    ·simp [nl,hc]
    ·exact h x hx
   ·refine .inr ⟨c::l,r,by rw [h1]; rfl,fun x hx=>?_⟩
    rcases List.mem_cons.1 hx with rfl | hx
    ·simp [nl,hc]
    ·exact h2 x hx
def ba (l:List UInt8):ByteArray:=⟨l.toArray⟩
def runL (w:Wld) (n:Nat) (f:Nat) (s:List UInt8):Except (Nat × Nat) Wld:=runW w n ((linesF f s).map ba)
theorem base {b:List UInt8} (w v w':Wld) (n n' f g:Nat) (P:List UInt8) (hg:P.length+(spacedL b []).length<g) (hP:P=[]∨P=[9,32]) (e:Eqv w v) (W:WOk w) (h:runL w n f []=.ok w'):∃ v',runL v n' g (P++spacedL b [])=.ok v'∧Eqv w' v':=by
 have hl:∀ k,linesF k []=[]:=fun k=>by cases k <;> rfl
 unfold runL at h ⊢
 rw [hl] at h
 simp only [List.map_nil,runW] at h
 injection h with h
 subst h
 have hs:spacedL b []=[]:=rfl
 rw [hs,List.append_nil]
 rcases hP with rfl | rfl
 ·rw [hl]
  exact ⟨v,rfl,e⟩
 ·obtain ⟨g,rfl⟩:∃ k,g=k+1:=⟨g-1,by omega⟩
  rw [linesF_last g [9,32] (by decide) (by simp)]
  simp only [List.map_cons,List.map_nil,runW]
  obtain ⟨v0,hv0,ev0⟩:=lineW_nil v n' (by rw [e.text,e.data]; exact W.many)
  obtain ⟨v1,hv,ev⟩:=lineW_eqv (n':=n') (Eqv.rfl' v) (parse_ahead (P:=[9,32]) (by decide) (s:=⟨#[]⟩) (s':=ba [9,32]) rfl) hv0
  rw [hv]
  exact ⟨v1,rfl,(e.trans ev0).trans ev⟩
theorem runW_err:∀ (l:List ByteArray) (w:Wld) (n:Nat) (q:Nat × Nat),runW w n l=.error q→n≤q.1∧q.1<n+l.length
 | [],w,n,q,h=>by simp [runW] at h
 | s::l,w,n,q,h=>by
  simp only [runW] at h
  split at h
  ·injection h with h
   subst h
   simp
  ·have:=runW_err l _ (n+1) q h
   rw [List.length_cons]
   omega
theorem lineW_globs {w w':Wld} {n:Nat} {s:ByteArray} (h:lineW w n s=.ok w'):∀ g,g∈w'.globs→g∈w.globs∨g.2=n:=by
 unfold lineW at h
 split at h
 ·cases h
 split at h
 ·cases h
 split at h
 ·cases h
 split at h
 ·cases h
 split at h
 ·cases h
 injection h with h
 subst h
 intro g hg
 unfold putW at hg
 simp only at hg
 split at hg
 ·rcases List.mem_append.1 hg with hg | hg
  ·exact .inl hg
  ·have:=List.mem_singleton.1 hg
   subst this
   exact .inr rfl
 ·exact .inl hg
theorem runW_globs:∀ (l:List ByteArray) (w w':Wld) (n:Nat),runW w n l=.ok w'→∀ g,g∈w'.globs→g∈w.globs∨(n≤g.2∧g.2<n+l.length)
 | [],w,w',n,h,g,hg=>by
  simp only [runW] at h
  injection h with h
  subst h
  exact .inl hg
 | s::l,w,w',n,h,g,hg=>by
  simp only [runW] at h
  split at h
  ·cases h
  ·rename_i w1 h1
   rw [List.length_cons]
   rcases runW_globs l w1 w' (n+1) h g hg with k | k
   ·rcases lineW_globs h1 g k with k | k
    ·exact .inl k
    ·exact .inr (by omega)
   ·exact .inr (by omega)
/-! The document goes on behind a refused line. -/
theorem undE:Tryz.prog.underlying 24=some (.slice 99):=by kernel_rfl
def zEq:List Value:=[.string ⟨#[]⟩,.slice none 0 0,.int .u32 (0:Int)]
theorem infE:(Tryz.prog.info? 99).map (fun i=>(i.zero,i.size,i.bytes))=some (some (.agg zEq.toArray),3,48):=by kernel_rfl
theorem fillE (s:ByteArray) (p:Option Addr) (l c:Nat) (n:Int):Instr.fill (fun j=>some (j*3,3)) ((Array.range (1*3)).map ((Value.agg zEq.toArray).cells[· % (Value.agg zEq.toArray).cells.size]!)) [(0,.agg #[.string s,.slice p l c,.int .u32 n])]=some #[.string s,.slice p l c,.int .u32 n]:=by kernel_rfl
theorem undG:Tryz.prog.underlying 71=some (.slice 76):=by kernel_rfl
theorem infG:(Tryz.prog.info? 76).map (fun i=>(i.zero,i.size,i.bytes))=some (some (.agg #[.string ⟨#[]⟩,.int .i64 (0:Int)]),2,24):=by kernel_rfl
theorem fillG (s:ByteArray) (n:Int):Instr.fill (fun j=>some (j*2,2)) ((Array.range (1*2)).map ((Value.agg #[.string ⟨#[]⟩,.int .i64 (0:Int)]).cells[· % (Value.agg #[.string ⟨#[]⟩,.int .i64 (0:Int)]).cells.size]!)) [(0,.agg #[.string s,.int .i64 n])]=some #[.string s,.int .i64 n]:=by kernel_rfl
section
variable {P:Program} {h:Hp} {K:Value→Hp→Prop}
theorem append_sl {t ty e:TypeId} {i:TypeInfo} {z:Value} (ht:P.underlying t=some (.slice e)) (hi:P.info? e=some i) (hz:i.zero=some z) (hzs:z.cells.size=i.size)
  {b b':Nat} {p q:Option Addr} {l c m cc:Nat} {xs ys:List (List Value)} (s:SL h b e i.size p l c xs) (s':SL h b' e i.size q m cc ys) (hp:ys.flatten.all plainV=true) (hby:(2*(l+m)+1024)*i.bytes≤2^48) (hl:l+m≤2^48) (hb:b≤h.size)
  (hk:∀ p' c' h',SL h' b e i.size p' (l+m) c' (xs++ys)→Ch (blkOf p) h h'→(p'=p∨∃ a,p'=some a∧h.size≤a.block)→K (.slice p' (l+m) c') h') :
  semW P (Builtin.append_ #[t,t] ty #[.slice p l c,.slice q m cc]) h K:=by
 cases q with
 | some a =>
  refine append_of (ys:=ys) ht hi hz hzs s s'.1 s'.2.1 ?_ hp hby hl hb hk
  obtain ⟨g,pre,rest,rfl,hbg,hlc,hbox,hr⟩:=s'.2.2
  refine hbox.cells _ ?_
  rw [List.drop_left,List.take_left]
 | none =>
  have h1:ys=[]:=s'.2.2.2
  have h2:m=0:=by rw [s'.1,h1]; rfl
  subst h1 h2
  have hroom:l+0≤c:=by
   cases p with
   | none =>
    have h3:c=0:=s.2.2.1
    have h4:xs=[]:=s.2.2.2
    have h5:l=0:=by rw [s.1,h4]; rfl
    omega
   | some a =>
    obtain ⟨g,pre,rest,rfl,hbg,hlc,hbox,hr⟩:=s.2.2
    omega
  simp only [Nat.add_zero] at hroom
  have hk:=hk p c h (by rw [List.append_nil]; exact s) (Ch.refl _ _) (.inl rfl)
  cases p with
  | none =>
   have h3:c=0:=s.2.2.1
   have h4:xs=[]:=s.2.2.2
   have h5:l=0:=by rw [s.1,h4]; rfl
   subst h3 h5
   simp [Builtin.append_,semW_bind',semW_underlying ht,semW_sizeOf hi,cellsOf_info hi,Builtin.lenOf,Builtin.firstCells]
   exact hk
  | some a =>
   simp [Builtin.append_,semW_bind',semW_underlying ht,semW_sizeOf hi,cellsOf_info hi,Builtin.lenOf,Builtin.firstCells,hroom]
   exact hk
end
theorem flat_plain {α:Type} (f:α→List Value) (hf:∀ x,(f x).all plainV=true) (l:List α):(l.map f).flatten.all plainV=true:=by
 rw [List.all_flatten,List.all_map]
 exact List.all_eq_true.2 fun x _=>hf x
theorem encD_plain (u:Sli × Itm):(encD u).all plainV=true:=rfl
def encQ (u:Sli × Eqn):List Value:=encE u.1.p u.1.l u.1.c u.2
def encG (g:ByteArray × Nat):List Value:=[.string g.1,.int .i64 (g.2:Int)]
structure Core (h:Hp) (b:Nat) (tx dx:List Itm) (ex:List Eqn) (t d e:Sli) (ut ud:List (Sli × Itm)) (ue:List (Sli × Eqn)) (ow:Nat→Nat):Prop where
 t1:SL h b 96 10 t.p t.l t.c (ut.map encD)
 t2:∀ u,u∈ut→SL h b 109 2 u.1.p u.1.l u.1.c (u.2.e.terms.map encT)
 t3:ut.map (·.2)=tx
 d1:SL h b 96 10 d.p d.l d.c (ud.map encD)
 d2:∀ u,u∈ud→SL h b 109 2 u.1.p u.1.l u.1.c (u.2.e.terms.map encT)
 d3:ud.map (·.2)=dx
 e1:SL h b 99 3 e.p e.l e.c (ue.map encQ)
 e2:∀ u,u∈ue→SL h b 109 2 u.1.p u.1.l u.1.c (u.2.2.terms.map encT)
 e3:ue.map (·.2)=ex
 o3:∀ i,i∈blkOf t.p→ow i=3
 o4:∀ i,i∈blkOf d.p→ow i=4
 o5:∀ i,i∈blkOf e.p→ow i=5
 ot:∀ u,u∈ut→∀ i,i∈blkOf u.1.p→ow i=0
 od:∀ u,u∈ud→∀ i,i∈blkOf u.1.p→ow i=0
 oe:∀ u,u∈ue→∀ i,i∈blkOf u.1.p→ow i=0
section
variable {h h':Hp} {b:Nat} {tx dx:List Itm} {ex:List Eqn} {t d e:Sli} {ut ud:List (Sli × Itm)} {ue:List (Sli × Eqn)} {ow:Nat→Nat}
theorem Core.nil (h:Hp) (b:Nat) (ow:Nat→Nat):Core h b [] [] [] sl0 sl0 sl0 [] [] [] ow :=
 ⟨SL.nil _ _ _ _,by simp,rfl,SL.nil _ _ _ _,by simp,rfl,SL.nil _ _ _ _,by simp,rfl,by simp [sl0,blkOf],by simp [sl0,blkOf],by simp [sl0,blkOf],by simp,by simp,by simp⟩
theorem SL.keepL {ws:List Nat} {e':TypeId} {sz:Nat} {p:Option Addr} {l c:Nat} {xs:List (List Value)} (s:SL h b e' sz p l c xs) (k:Ch ws h h') {k0:Nat} (ho:∀ i,i∈blkOf p→ow i=k0) (hw:∀ i,i∈ws→i<h.size→b≤i→ow i≠k0):SL h' b e' sz p l c xs :=
 Sx.SL.keep' s k fun i hi hm=>by
  have h1:=Sx.SL.blk s hi
  exact hw i hm h1.2 h1.1 (ho i hi)
theorem Core.keep {ws:List Nat} (C:Core h b tx dx ex t d e ut ud ue ow) (k:Ch ws h h') (hw:∀ i,i∈ws→i<h.size→b≤i→6≤ow i):Core h' b tx dx ex t d e ut ud ue ow:=by
 have n:∀ k0,k0<6→∀ i,i∈ws→i<h.size→b≤i→ow i≠k0:=fun k0 hk i h1 h2 h3=>by have:=hw i h1 h2 h3; omega
 exact ⟨SL.keepL C.t1 k C.o3 (n 3 (by omega)),fun u hu=>SL.keepL (C.t2 u hu) k (C.ot u hu) (n 0 (by omega)),C.t3,
  SL.keepL C.d1 k C.o4 (n 4 (by omega)),fun u hu=>SL.keepL (C.d2 u hu) k (C.od u hu) (n 0 (by omega)),C.d3,
  SL.keepL C.e1 k C.o5 (n 5 (by omega)),fun u hu=>SL.keepL (C.e2 u hu) k (C.oe u hu) (n 0 (by omega)),C.e3,C.o3,C.o4,C.o5,C.ot,C.od,C.oe⟩
theorem Core.relabel (C:Core h b tx dx ex t d e ut ud ue ow) {ow':Nat→Nat} (ho:∀ i,i<h.size→ow' i=ow i):Core h b tx dx ex t d e ut ud ue ow' :=
 ⟨C.t1,C.t2,C.t3,C.d1,C.d2,C.d3,C.e1,C.e2,C.e3,fun i hi=>(ho i (Sx.SL.blk C.t1 hi).2).trans (C.o3 i hi),fun i hi=>(ho i (Sx.SL.blk C.d1 hi).2).trans (C.o4 i hi),fun i hi=>(ho i (Sx.SL.blk C.e1 hi).2).trans (C.o5 i hi),
  fun u hu i hi=>(ho i (Sx.SL.blk (C.t2 u hu) hi).2).trans (C.ot u hu i hi),fun u hu i hi=>(ho i (Sx.SL.blk (C.d2 u hu) hi).2).trans (C.od u hu i hi),fun u hu i hi=>(ho i (Sx.SL.blk (C.e2 u hu) hi).2).trans (C.oe u hu i hi)⟩
def lab (n k:Nat) (ow:Nat→Nat):Nat→Nat:=fun i=>if i<n then ow i else k
theorem lab_old {n k:Nat} {ow:Nat→Nat} {i:Nat} (hi:i<n):lab n k ow i=ow i:=if_pos hi
theorem lab_new {n k:Nat} {ow:Nat→Nat} {i:Nat} (hi:n≤i):lab n k ow i=k:=if_neg (by omega)
theorem blk_new {p p':Option Addr} {n k:Nat} {ow:Nat→Nat} (ho:∀ i,i∈blkOf p→ow i=k) (hl:∀ i,i∈blkOf p→i<n) (hp:p'=p∨∃ a,p'=some a∧n≤a.block):∀ i,i∈blkOf p'→lab n k ow i=k:=by
 intro i hi
 rcases hp with rfl | ⟨a,rfl,ha⟩
 ·rw [lab_old (hl i hi)]
  exact ho i hi
 ·simp [blkOf] at hi
  exact lab_new (by omega)
variable {L:Lp} {K:Value→Hp→Prop}
theorem Core.putT (C:Core h b tx dx ex t d e ut ud ue ow) (hb:b≤h.size) {b':Nat} {s:Sli} {us:List (Sli × Itm)} (hs:SL h b' 96 10 s.p s.l s.c (us.map encD)) (hu:∀ u,u∈us→SL h b 109 2 u.1.p u.1.l u.1.c (u.2.e.terms.map encT)) (ho:∀ u,u∈us→∀ i,i∈blkOf u.1.p→ow i=0)
  (hm:t.l+s.l≤2^30) {k:Option Addr→Nat→Nat→T}
  (hk:∀ (t':Sli) h',Core h' b (tx++us.map (·.2)) dx ex t' d e (ut++us) ud ue (lab h.size 3 ow)→Ch (blkOf t.p) h h'→t'.l=t.l+s.l→k t'.p t'.l t'.c L K h') :
  T.sem Tryz.prog (Builtin.append_ #[23,23] 23 #[.slice t.p t.l t.c,.slice s.p s.l s.c]) false [(false,[.slice 0])] k L K h:=by
 obtain ⟨i,hi,hz,h1,h2⟩:=inf_of itmZI
 refine sem_slice ?_
 have t1:=C.t1
 rw [← h1] at t1 hs
 refine append_sl undI hi hz (by rw [h1]; rfl) t1 hs (flat_plain _ encD_plain _) (by rw [h2]; omega) (by omega) hb ?_
 intro p' c' h' s' k' hp'
 have old:∀ {p:Option Addr} {k0:Nat},(∀ i,i∈blkOf p→i<h.size)→(∀ i,i∈blkOf p→ow i=k0)→∀ i,i∈blkOf p→lab h.size 3 ow i=k0:=fun hl ho i hi=>(lab_old (hl i hi)).trans (ho i hi)
 have n:∀ k0,k0≠3→∀ i,i∈blkOf t.p→i<h.size→b≤i→ow i≠k0:=fun k0 hk i h1 h2 h3=>by rw [C.o3 i h1]; omega
 refine ⟨p',t.l+s.l,c',rfl,hk ⟨p',t.l+s.l,c'⟩ h' ?_ k' rfl⟩
 rw [h1,← List.map_append] at s'
 refine ⟨s',?_,by rw [List.map_append,C.t3],SL.keepL C.d1 k' C.o4 (n 4 (by omega)),fun u hu=>SL.keepL (C.d2 u hu) k' (C.od u hu) (n 0 (by omega)),C.d3,SL.keepL C.e1 k' C.o5 (n 5 (by omega)),fun u hu=>SL.keepL (C.e2 u hu) k' (C.oe u hu) (n 0 (by omega)),C.e3,?_,?_,?_,?_,?_,?_⟩
 ·intro u hu'
  rcases List.mem_append.1 hu' with hu' | hu'
  ·exact SL.keepL (C.t2 u hu') k' (C.ot u hu') (n 0 (by omega))
  ·exact SL.keepL (hu u hu') k' (ho u hu') (n 0 (by omega))
 ·exact blk_new C.o3 (fun i hi=>(Sx.SL.blk C.t1 hi).2) hp'
 ·exact old (fun i hi=>(Sx.SL.blk C.d1 hi).2) C.o4
 ·exact old (fun i hi=>(Sx.SL.blk C.e1 hi).2) C.o5
 ·intro u hu'
  rcases List.mem_append.1 hu' with hu' | hu'
  ·exact old (fun i hi=>(Sx.SL.blk (C.t2 u hu') hi).2) (C.ot u hu')
  ·exact old (fun i hi=>(Sx.SL.blk (hu u hu') hi).2) (ho u hu')
 ·exact fun u hu'=>old (fun i hi=>(Sx.SL.blk (C.d2 u hu') hi).2) (C.od u hu')
 ·exact fun u hu'=>old (fun i hi=>(Sx.SL.blk (C.e2 u hu') hi).2) (C.oe u hu')
theorem Core.putD (C:Core h b tx dx ex t d e ut ud ue ow) (hb:b≤h.size) {b':Nat} {s:Sli} {us:List (Sli × Itm)} (hs:SL h b' 96 10 s.p s.l s.c (us.map encD)) (hu:∀ u,u∈us→SL h b 109 2 u.1.p u.1.l u.1.c (u.2.e.terms.map encT)) (ho:∀ u,u∈us→∀ i,i∈blkOf u.1.p→ow i=0)
  (hm:d.l+s.l≤2^30) {k:Option Addr→Nat→Nat→T}
  (hk:∀ (d':Sli) h',Core h' b tx (dx++us.map (·.2)) ex t d' e ut (ud++us) ue (lab h.size 4 ow)→Ch (blkOf d.p) h h'→d'.l=d.l+s.l→k d'.p d'.l d'.c L K h') :
  T.sem Tryz.prog (Builtin.append_ #[23,23] 23 #[.slice d.p d.l d.c,.slice s.p s.l s.c]) false [(false,[.slice 0])] k L K h:=by
 obtain ⟨i,hi,hz,h1,h2⟩:=inf_of itmZI
 refine sem_slice ?_
 have d1:=C.d1
 rw [← h1] at d1 hs
 refine append_sl undI hi hz (by rw [h1]; rfl) d1 hs (flat_plain _ encD_plain _) (by rw [h2]; omega) (by omega) hb ?_
 intro p' c' h' s' k' hp'
 have old:∀ {p:Option Addr} {k0:Nat},(∀ i,i∈blkOf p→i<h.size)→(∀ i,i∈blkOf p→ow i=k0)→∀ i,i∈blkOf p→lab h.size 4 ow i=k0:=fun hl ho i hi=>(lab_old (hl i hi)).trans (ho i hi)
 have n:∀ k0,k0≠4→∀ i,i∈blkOf d.p→i<h.size→b≤i→ow i≠k0:=fun k0 hk i h1 h2 h3=>by rw [C.o4 i h1]; omega
 refine ⟨p',d.l+s.l,c',rfl,hk ⟨p',d.l+s.l,c'⟩ h' ?_ k' rfl⟩
 rw [h1,← List.map_append] at s'
 refine ⟨SL.keepL C.t1 k' C.o3 (n 3 (by omega)),fun u hu=>SL.keepL (C.t2 u hu) k' (C.ot u hu) (n 0 (by omega)),C.t3,s',?_,by rw [List.map_append,C.d3],SL.keepL C.e1 k' C.o5 (n 5 (by omega)),fun u hu=>SL.keepL (C.e2 u hu) k' (C.oe u hu) (n 0 (by omega)),C.e3,?_,?_,?_,?_,?_,?_⟩
 ·intro u hu'
  rcases List.mem_append.1 hu' with hu' | hu'
  ·exact SL.keepL (C.d2 u hu') k' (C.od u hu') (n 0 (by omega))
  ·exact SL.keepL (hu u hu') k' (ho u hu') (n 0 (by omega))
 ·exact old (fun i hi=>(Sx.SL.blk C.t1 hi).2) C.o3
 ·exact blk_new C.o4 (fun i hi=>(Sx.SL.blk C.d1 hi).2) hp'
 ·exact old (fun i hi=>(Sx.SL.blk C.e1 hi).2) C.o5
 ·exact fun u hu'=>old (fun i hi=>(Sx.SL.blk (C.t2 u hu') hi).2) (C.ot u hu')
 ·intro u hu'
  rcases List.mem_append.1 hu' with hu' | hu'
  ·exact old (fun i hi=>(Sx.SL.blk (C.d2 u hu') hi).2) (C.od u hu')
  ·exact old (fun i hi=>(Sx.SL.blk (hu u hu') hi).2) (ho u hu')
 ·exact fun u hu'=>old (fun i hi=>(Sx.SL.blk (C.e2 u hu') hi).2) (C.oe u hu')
theorem Core.putE (C:Core h b tx dx ex t d e ut ud ue ow) (hb:b≤h.size) {st:List (Addr × List Value)} {s:Sli} {x:Eqn} (hu:SL h b 109 2 s.p s.l s.c (x.2.terms.map encT)) (ho:∀ i,i∈blkOf s.p→ow i=0)
  (hm:e.l+1≤2^30) {k:Option Addr→Nat→Nat→T} (hst:∀ h',Ext h h'→T.stab h' st)
  (hk:∀ (e':Sli) h',Core h' b tx dx (ex++[x]) t d e' ut ud (ue++[(s,x)]) (lab h.size 5 ow)→Ch (blkOf e.p) h h'→e'.l=e.l+1→k e'.p e'.l e'.c L K h') :
  T.sem Tryz.prog (Instr.buildSlice 24 1 #[(0,.agg #[.string x.1,.slice s.p s.l s.c,.int .u32 (x.2.num:Int)])]) false [(false,[.slice 0])] (fun q m cc=>T.stable st (T.sem Tryz.prog (Builtin.append_ #[24,24] 24 #[.slice e.p e.l e.c,.slice q m cc]) false [(false,[.slice 0])] k)) L K h:=by
 refine push_st undE infE rfl (by omega) (by omega) (fillE x.1 s.p s.l s.c x.2.num) rfl rfl C.e1 hb (by omega) (by omega) hst ?_
 intro p' c' h' s' k' hp'
 have old:∀ {p:Option Addr} {k0:Nat},(∀ i,i∈blkOf p→i<h.size)→(∀ i,i∈blkOf p→ow i=k0)→∀ i,i∈blkOf p→lab h.size 5 ow i=k0:=fun hl ho i hi=>(lab_old (hl i hi)).trans (ho i hi)
 have n:∀ k0,k0≠5→∀ i,i∈blkOf e.p→i<h.size→b≤i→ow i≠k0:=fun k0 hk i h1 h2 h3=>by rw [C.o5 i h1]; omega
 refine hk ⟨p',e.l+1,c'⟩ h' ?_ k' rfl
 refine ⟨SL.keepL C.t1 k' C.o3 (n 3 (by omega)),fun u hu=>SL.keepL (C.t2 u hu) k' (C.ot u hu) (n 0 (by omega)),C.t3,SL.keepL C.d1 k' C.o4 (n 4 (by omega)),fun u hu=>SL.keepL (C.d2 u hu) k' (C.od u hu) (n 0 (by omega)),C.d3,by rw [List.map_append]; exact s',?_,by rw [List.map_append,C.e3]; rfl,?_,?_,?_,?_,?_,?_⟩
 ·intro u hu'
  rcases List.mem_append.1 hu' with hu' | hu'
  ·exact SL.keepL (C.e2 u hu') k' (C.oe u hu') (n 0 (by omega))
  ·have:=List.mem_singleton.1 hu'
   subst this
   exact SL.keepL hu k' ho (n 0 (by omega))
 ·exact old (fun i hi=>(Sx.SL.blk C.t1 hi).2) C.o3
 ·exact old (fun i hi=>(Sx.SL.blk C.d1 hi).2) C.o4
 ·exact blk_new C.o5 (fun i hi=>(Sx.SL.blk C.e1 hi).2) hp'
 ·exact fun u hu'=>old (fun i hi=>(Sx.SL.blk (C.t2 u hu') hi).2) (C.ot u hu')
 ·exact fun u hu'=>old (fun i hi=>(Sx.SL.blk (C.d2 u hu') hi).2) (C.od u hu')
 ·intro u hu'
  rcases List.mem_append.1 hu' with hu' | hu'
  ·exact old (fun i hi=>(Sx.SL.blk (C.e2 u hu') hi).2) (C.oe u hu')
  ·have:=List.mem_singleton.1 hu'
   subst this
   exact old (fun i hi=>(Sx.SL.blk hu hi).2) ho
end
structure Ab (b:Nat) (q:Nat→Prop) (ow:Nat→Nat) (h h':Hp):Prop where
 size:h.size≤h'.size
 same:∀ i,i<h.size→(i<b∨q i)→h'[i]?=h[i]?
 qs:∀ i,q i→i<h.size
 qo:∀ i,q i→ow i=9
theorem Ab.of_ext {b:Nat} {q:Nat→Prop} {ow:Nat→Nat} {h h':Hp} (k:Ext h h') (qs:∀ i,q i→i<h.size) (qo:∀ i,q i→ow i=9):Ab b q ow h h' :=
 ⟨k.size,fun i hi _=>k.same i hi (by simp),qs,qo⟩
theorem Ab.step {b:Nat} {q:Nat→Prop} {ow ow':Nat→Nat} {h h1 h2:Hp} {ws:List Nat} (a:Ab b q ow h h1) (k:Ch ws h1 h2) (hw:∀ i,i∈ws→i<h1.size→b≤i∧ow i≠9) (ho:∀ i,i<h1.size→ow' i=ow i):Ab b q ow' h h2:=by
 have hlt:∀ i,i<h.size→i<h1.size:=fun i hi=>Nat.lt_of_lt_of_le hi a.size
 refine ⟨Nat.le_trans a.size k.size,fun i hi hq=>?_,a.qs,fun i hq=>(ho i (hlt i (a.qs i hq))).trans (a.qo i hq)⟩
 rw [← a.same i hi hq]
 refine k.same i (hlt i hi) fun hm=>?_
 have:=hw i hm (hlt i hi)
 rcases hq with hq | hq
 ·omega
 ·exact this.2 (a.qo i hq)
theorem Ab.ext_step {b:Nat} {q:Nat→Prop} {ow ow':Nat→Nat} {h h1 h2:Hp} (a:Ab b q ow h h1) (k:Ext h1 h2) (ho:∀ i,i<h1.size→ow' i=ow i):Ab b q ow' h h2:=a.step k (by simp) ho
theorem Ab.ext {b:Nat} {q:Nat→Prop} {ow:Nat→Nat} {h h':Hp} (k:Ab b q ow h h') (hb:h.size≤b):Ext h h':=⟨k.size,fun i hi _=>k.same i hi (.inl (by omega))⟩
def asmC (t d e:Sli) (sec items:Int) (g:Nat) (q:Sli):List Value:=[t.v,d.v,e.v,.slice none 0 0,.int .i64 sec,.int .i64 items,.map (some g),q.v]
structure AsmAt (h:Hp) (b A g:Nat) (w:Wld) (t d e q:Sli) (ut ud:List (Sli × Itm)) (ue:List (Sli × Eqn)) (ow:Nat→Nat):Prop where
 core:Core h b w.text w.data w.equs t d e ut ud ue ow
 box:Box h A 73 (asmC t d e (w.sec:Int) ((w.text.length+w.data.length:Nat):Int) g q)
 names:SetB h g w.names
 globs:SL h b 76 2 q.p q.l q.c (w.globs.map encG)
 oA:ow A=6
 og:ow g=7
 oq:∀ i,i∈blkOf q.p→ow i=8
 bA:b≤A
 bg:b≤g
section
variable {h h':Hp} {b A g:Nat} {w:Wld} {t d e q:Sli} {ut ud:List (Sli × Itm)} {ue:List (Sli × Eqn)} {ow:Nat→Nat}
theorem AsmAt.keep {ws:List Nat} (a:AsmAt h b A g w t d e q ut ud ue ow) (k:Ch ws h h') (hw:∀ i,i∈ws→i<h.size→b≤i→9≤ow i):AsmAt h' b A g w t d e q ut ud ue ow :=
 ⟨a.core.keep k (fun i h1 h2 h3=>by have:=hw i h1 h2 h3; omega),a.box.keep k (fun hm=>by have:=hw A hm a.box.lt a.bA; have:=a.oA; omega),a.names.keep k (fun hm=>by have:=hw g hm a.names.lt a.bg; have:=a.og; omega),
  SL.keepL a.globs k a.oq (fun i h1 h2 h3=>by have:=hw i h1 h2 h3; omega),a.oA,a.og,a.oq,a.bA,a.bg⟩
theorem AsmAt.relabel (a:AsmAt h b A g w t d e q ut ud ue ow) {ow':Nat→Nat} (ho:∀ i,i<h.size→ow' i=ow i):AsmAt h b A g w t d e q ut ud ue ow' :=
 ⟨a.core.relabel ho,a.box,a.names,a.globs,(ho A a.box.lt).trans a.oA,(ho g a.names.lt).trans a.og,fun i hi=>(ho i (Sx.SL.blk a.globs hi).2).trans (a.oq i hi),a.bA,a.bg⟩
theorem map_len {α β:Type} {us:List (α × β)} {l:List β} (h:us.map (·.2)=l):us.length=l.length:=by rw [← h,List.length_map]
theorem AsmAt.tl (a:AsmAt h b A g w t d e q ut ud ue ow):t.l=w.text.length:=by rw [a.core.t1.1,List.length_map,map_len a.core.t3]
theorem AsmAt.dl (a:AsmAt h b A g w t d e q ut ud ue ow):d.l=w.data.length:=by rw [a.core.d1.1,List.length_map,map_len a.core.d3]
theorem AsmAt.el (a:AsmAt h b A g w t d e q ut ud ue ow):e.l=w.equs.length:=by rw [a.core.e1.1,List.length_map,map_len a.core.e3]
theorem AsmAt.ql (a:AsmAt h b A g w t d e q ut ud ue ow):q.l=w.globs.length:=by rw [a.globs.1,List.length_map]
def addW (w:Wld) (its:List Itm):Wld:={ w with text:=if w.sec=0 then w.text++its else w.text,data:=if w.sec=0 then w.data else w.data++its }
theorem addW_len (w:Wld) (its:List Itm):(addW w its).text.length+(addW w its).data.length=w.text.length+w.data.length+its.length:=by
 unfold addW
 simp only
 split
 ·rw [List.length_append]; omega
 ·rw [List.length_append]; omega
def PutR (h:Hp) (b A g:Nat) (w:Wld) (e q:Sli) (us:List (Sli × Itm)) (ue:List (Sli × Eqn)) (ow:Nat→Nat) (v:Value) (h':Hp):Prop :=
 v=.tuple #[]∧∃ t' d' ut' ud' ow',AsmAt h' b A g (addW w (us.map (·.2))) t' d' e q ut' ud' ue ow'∧(∀ i,i<h.size→ow' i=ow i)∧∃ ws,Ch ws h h'∧∀ i,i∈ws→i<h.size→b≤i∧(ow i=3∨ow i=4∨ow i=6)
set_option maxHeartbeats 1000000 in
theorem put_hc (a : AsmAt h b A g w t d e q ut ud ue ow) (hb : b ≤ h.size) (hsec : w.sec ≤ 1) {b' : Nat} {s : Sli} {us : List (Sli × Itm)} (hs : SL h b' 96 10 s.p s.l s.c (us.map encD)) (hu : ∀ u, u ∈ us → SL h b 109 2 u.1.p u.1.l u.1.c (u.2.e.terms.map encT)) (ho : ∀ u, u ∈ us → ∀ i, i ∈ blkOf u.1.p → ow i = 0)
    (hm : w.text.length + w.data.length + us.length ≤ 2 ^ 29) : HC Tryz.prog 66 #[.pointer (some ⟨A, 0, none⟩), .int .i64 (w.sec : Int), .slice s.p s.l s.c] h (PutR h b A g w e q us ue ow) := by
  refine hcr_of (args := [.pointer (some ⟨A, 0, none⟩), .int .i64 (w.sec : Int), .slice s.p s.l s.c]) mixed Tryz.func66 (by kernel_rfl) (t_unit_assembler__put_eq (some ⟨A, 0, none⟩) w.sec s.p s.l s.c) ?_
  unfold t_unit_assembler__put
  have hsl : s.l = us.length := by rw [hs.1, List.length_map]
  have htl := a.tl
  have hdl := a.dl
  have hlt := a.box.lt
  refine cond_mk (fun r => ?_) (fun r => ?_)
  · have r : w.sec = 1 := by have := eq_of_beq r; omega
    refine osome_mk rfl ?_
    rw [add_box]
    refine loads_box a.box ((d.p, d.l, d.c), ()) rfl ?_
    dsimp only [flat, unc, unc1, List.nil_append, List.cons_append]
    refine a.core.putD hb hs hu ho (by omega) ?_
    intro d' h1 C1 k1 l1
    have nA : A ∉ blkOf d.p := fun hm => by have := a.core.o4 A hm; have := a.oA; omega
    refine osome_mk rfl ?_
    rw [add_box]
    refine stores_of (a.box.keep k1 nA) rfl (by simp [asmC]) ?_
    intro h2 b2 k2 z2
    have b2 : Box h2 A 73 (asmC t d' e (w.sec : Int) ((w.text.length + w.data.length : Nat) : Int) g q) := b2
    refine osome_mk rfl ?_
    rw [add_box]
    refine loads_box b2 (((w.text.length + w.data.length : Nat) : Int), ()) rfl ?_
    dsimp only [flat, unc, unc1, List.nil_append, List.cons_append]
    refine osome_mk rfl ?_
    rw [add_box]
    refine stores_of b2 rfl (by simp [asmC]) ?_
    intro h3 b3 k3 z3
    have b3 : Box h3 A 73 (asmC t d' e (w.sec : Int) (IntKind.wrap .i64 (((w.text.length + w.data.length : Nat) : Int) + (s.l : Int))) g q) := b3
    rw [wrap_i64 (by omega) (by omega), show (((w.text.length + w.data.length : Nat) : Int) + (s.l : Int)) = ((w.text.length + w.data.length + us.length : Nat) : Int) by omega] at b3
    have oA1 : lab h.size 4 ow A = 6 := (lab_old hlt).trans a.oA
    have C3 := (C1.keep k2 (fun i hi _ _ => by have hi := List.mem_singleton.1 hi; subst hi; omega)).keep k3 (fun i hi _ _ => by have hi := List.mem_singleton.1 hi; subst hi; omega)
    have ng : g ∉ blkOf d.p := fun hm => by have := a.core.o4 g hm; have := a.og; omega
    have ngA : g ∉ [A] := fun hm => by have hm := List.mem_singleton.1 hm; subst hm; have := a.oA; have := a.og; omega
    have qd : ∀ i, i ∈ blkOf q.p → i ∉ blkOf d.p := fun i hi hm => by have := a.core.o4 i hm; have := a.oq i hi; omega
    have qA : ∀ i, i ∈ blkOf q.p → i ∉ [A] := fun i hi hm => by have hm := List.mem_singleton.1 hm; subst hm; have := a.oA; have := a.oq i hi; omega
    refine ⟨rfl, t, d', ut, ud ++ us, lab h.size 4 ow, ⟨?_, ?_, ((a.names.keep k1 ng).keep k2 ngA).keep k3 ngA, Sx.SL.keep' (Sx.SL.keep' (Sx.SL.keep' a.globs k1 qd) k2 qA) k3 qA, oA1, (lab_old a.names.lt).trans a.og, fun i hi => (lab_old (Sx.SL.blk a.globs hi).2).trans (a.oq i hi), a.bA, a.bg⟩, fun i hi => lab_old hi, A :: blkOf d.p, ?_, ?_⟩
    · unfold addW
      simp only
      rw [if_neg (by omega), if_neg (by omega)]
      exact C3
    · rw [addW_len, List.length_map]
      exact b3
    · exact ((k1.mono (fun i hi _ => by simp [hi])).trans k2 (fun i hi _ => by have hi := List.mem_singleton.1 hi; simp [hi])).trans k3 (fun i hi _ => by have hi := List.mem_singleton.1 hi; simp [hi])
    · intro i hi hl
      rcases List.mem_cons.1 hi with rfl | hi
      · exact ⟨a.bA, .inr (.inr a.oA)⟩
      · exact ⟨(Sx.SL.blk a.core.d1 hi).1, .inr (.inl (a.core.o4 i hi))⟩
  · have r : w.sec = 0 := by have : ¬ w.sec = 1 := fun e => by rw [e] at r; simp at r
                             omega
    refine osome_mk rfl ?_
    refine loads_box a.box ((t.p, t.l, t.c), ()) rfl ?_
    dsimp only [flat, unc, unc1, List.nil_append, List.cons_append]
    refine a.core.putT hb hs hu ho (by omega) ?_
    intro t' h1 C1 k1 l1
    have nA : A ∉ blkOf t.p := fun hm => by have := a.core.o3 A hm; have := a.oA; omega
    refine osome_mk rfl ?_
    refine stores_of (a.box.keep k1 nA) rfl (by simp [asmC]) ?_
    intro h2 b2 k2 z2
    have b2 : Box h2 A 73 (asmC t' d e (w.sec : Int) ((w.text.length + w.data.length : Nat) : Int) g q) := b2
    refine osome_mk rfl ?_
    rw [add_box]
    refine loads_box b2 (((w.text.length + w.data.length : Nat) : Int), ()) rfl ?_
    dsimp only [flat, unc, unc1, List.nil_append, List.cons_append]
    refine osome_mk rfl ?_
    rw [add_box]
    refine stores_of b2 rfl (by simp [asmC]) ?_
    intro h3 b3 k3 z3
    have b3 : Box h3 A 73 (asmC t' d e (w.sec : Int) (IntKind.wrap .i64 (((w.text.length + w.data.length : Nat) : Int) + (s.l : Int))) g q) := b3
    rw [wrap_i64 (by omega) (by omega), show (((w.text.length + w.data.length : Nat) : Int) + (s.l : Int)) = ((w.text.length + w.data.length + us.length : Nat) : Int) by omega] at b3
    have oA1 : lab h.size 3 ow A = 6 := (lab_old hlt).trans a.oA
    have C3 := (C1.keep k2 (fun i hi _ _ => by have hi := List.mem_singleton.1 hi; subst hi; omega)).keep k3 (fun i hi _ _ => by have hi := List.mem_singleton.1 hi; subst hi; omega)
    have ng : g ∉ blkOf t.p := fun hm => by have := a.core.o3 g hm; have := a.og; omega
    have ngA : g ∉ [A] := fun hm => by have hm := List.mem_singleton.1 hm; subst hm; have := a.oA; have := a.og; omega
    have qd : ∀ i, i ∈ blkOf q.p → i ∉ blkOf t.p := fun i hi hm => by have := a.core.o3 i hm; have := a.oq i hi; omega
    have qA : ∀ i, i ∈ blkOf q.p → i ∉ [A] := fun i hi hm => by have hm := List.mem_singleton.1 hm; subst hm; have := a.oA; have := a.oq i hi; omega
    refine ⟨rfl, t', d, ut ++ us, ud, lab h.size 3 ow, ⟨?_, ?_, ((a.names.keep k1 ng).keep k2 ngA).keep k3 ngA, Sx.SL.keep' (Sx.SL.keep' (Sx.SL.keep' a.globs k1 qd) k2 qA) k3 qA, oA1, (lab_old a.names.lt).trans a.og, fun i hi => (lab_old (Sx.SL.blk a.globs hi).2).trans (a.oq i hi), a.bA, a.bg⟩, fun i hi => lab_old hi, A :: blkOf t.p, ?_, ?_⟩
    · unfold addW
      simp only
      rw [if_pos r, if_pos r]
      exact C3
    · rw [addW_len, List.length_map]
      exact b3
    · exact ((k1.mono (fun i hi _ => by simp [hi])).trans k2 (fun i hi _ => by have hi := List.mem_singleton.1 hi; simp [hi])).trans k3 (fun i hi _ => by have hi := List.mem_singleton.1 hi; simp [hi])
    · intro i hi hl
      rcases List.mem_cons.1 hi with rfl | hi
      · exact ⟨a.bA, .inr (.inr a.oA)⟩
      · exact ⟨(Sx.SL.blk a.core.t1 hi).1, .inl (a.core.o3 i hi)⟩
end
structure ThgO (h:Hp) (b:Nat) (t:Thg) (sl:Sli) (us:List (Sli × Itm)) (se:Sli) (ow:Nat→Nat):Prop where
 its:SL h b 96 10 sl.p sl.l sl.c (us.map encD)
 own:∀ u,u∈us→SL h b 109 2 u.1.p u.1.l u.1.c (u.2.e.terms.map encT)
 eq:us.map (·.2)=t.items
 e:SL h b 109 2 se.p se.l se.c (t.e.terms.map encT)
 o9:∀ i,i∈blkOf sl.p→ow i=9
 ou:∀ u,u∈us→∀ i,i∈blkOf u.1.p→ow i=0
 oe:∀ i,i∈blkOf se.p→ow i=0
section
variable {h h':Hp} {b:Nat} {t:Thg} {sl se:Sli} {us:List (Sli × Itm)} {ow:Nat→Nat}
theorem ThgO.keep {ws:List Nat} (o:ThgO h b t sl us se ow) (k:Ch ws h h') (hw:∀ i,i∈ws→i<h.size→b≤i→ow i≠0∧ow i≠9):ThgO h' b t sl us se ow :=
 ⟨SL.keepL o.its k o.o9 (fun i h1 h2 h3=>(hw i h1 h2 h3).2),fun u hu=>SL.keepL (o.own u hu) k (o.ou u hu) (fun i h1 h2 h3=>(hw i h1 h2 h3).1),o.eq,SL.keepL o.e k o.oe (fun i h1 h2 h3=>(hw i h1 h2 h3).1),o.o9,o.ou,o.oe⟩
theorem ThgO.relabel (o:ThgO h b t sl us se ow) {ow':Nat→Nat} (ho:∀ i,i<h.size→ow' i=ow i):ThgO h b t sl us se ow' :=
 ⟨o.its,o.own,o.eq,o.e,fun i hi=>(ho i (Sx.SL.blk o.its hi).2).trans (o.o9 i hi),fun u hu i hi=>(ho i (Sx.SL.blk (o.own u hu) hi).2).trans (o.ou u hu i hi),fun i hi=>(ho i (Sx.SL.blk o.e hi).2).trans (o.oe i hi)⟩
theorem ThgO.turn {ws:List Nat} (o:ThgO h b t sl us se ow) (k:Ch ws h h') (hw:∀ i,i∈ws→i<h.size→b≤i→ow i≠0∧ow i≠9) {ow':Nat→Nat} (ho:∀ i,i<h.size→ow' i=ow i):ThgO h' b t sl us se ow' :=
 (o.relabel ho).keep k (fun i h1 h2 h3=>by rw [ho i h2]; exact hw i h1 h2 h3)
theorem SL.ty {e1 e2:TypeId} {s1 s2 b1 b2:Nat} {p q:Option Addr} {l c m d:Nat} {xs ys:List (List Value)} (s:SL h b1 e1 s1 p l c xs) (r:SL h b2 e2 s2 q m d ys) (hne:e1≠e2):∀ i,i∈blkOf p→i∉blkOf q:=by
 intro i hi hj
 cases p with
 | none=>simp [blkOf] at hi
 | some a =>
  cases q with
  | none=>simp [blkOf] at hj
  | some a' =>
   obtain ⟨g,pre,rest,rfl,hbg,hlc,hbox,hr⟩:=s.2.2
   obtain ⟨g',pre',rest',rfl,hbg',hlc',hbox',hr'⟩:=r.2.2
   simp [blkOf] at hi hj
   subst hi
   subst hj
   unfold Box at hbox hbox'
   rw [hbox] at hbox'
   injection hbox' with hbox'
   injection hbox' with _ hbox' _
   exact hne hbox'
open Classical in
theorem ThgO.of {h0:Hp} {us:List (Sli × Itm)} (A:ThgAt h h0.size t sl us se) (hb:b≤h0.size) (ow:Nat→Nat):∃ ow',(∀ i,i<h0.size→ow' i=ow i)∧ThgO h b t sl us se ow':=by
 have ty:∀ {s:Sli} {xs:List (List Value)},SL h h0.size 109 2 s.p s.l s.c xs→∀ i,i∈blkOf s.p→i∉blkOf sl.p:=fun r i hi hj=>SL.ty A.its.out r (by decide) i hj hi
 refine ⟨fun i=>if i<h0.size then ow i else if i∈blkOf sl.p then 9 else 0,fun i hi=>if_pos hi,Sx.SL.mono A.its.out hb,fun u hu=>Sx.SL.mono (A.its.own u hu) hb,A.eq,Sx.SL.mono A.e hb,?_,?_,?_⟩
 ·intro i hi
  have:=(Sx.SL.blk A.its.out hi).1
  rw [if_neg (by omega),if_pos hi]
 ·intro u hu i hi
  have:=(Sx.SL.blk (A.its.own u hu) hi).1
  rw [if_neg (by omega),if_neg (ty (A.its.own u hu) i hi)]
 ·intro i hi
  have:=(Sx.SL.blk A.e hi).1
  rw [if_neg (by omega),if_neg (ty A.e i hi)]
end
theorem legal_ne {s:ByteArray} (h:legalL s.data.toList=true):s≠nam0:=by
 rintro rfl
 revert h
 decide
theorem legal_len {s:ByteArray} (h:legalL s.data.toList=true):s.size≤32:=by
 unfold legalL at h
 simp only [Bool.and_eq_true,decide_eq_true_eq] at h
 have:=h.1.1.1.2
 simpa using this
theorem WOk.noz {w:Wld} (W:WOk w):inN w.names nam0=false:=by
 cases h:inN w.names nam0 with
 | false=>rfl
 | true =>
  have h:=W.perm.mem_iff.1 (inN_iff.1 h)
  exfalso
  have key:∀ (l:List Itm) (k:Nat),(∀ x,x∈l→itmR x k=true∧Good x.e)→nam0∉labs l:=by
   intro l k hl hm
   unfold labs at hm
   obtain ⟨x,hx,hn⟩:=List.mem_map.1 hm
   obtain ⟨hx,hk⟩:=List.mem_filter.1 hx
   have:=(hl x hx).1
   have hk:x.kind=1:=by simpa using hk
   unfold itmR at this
   rw [if_pos hk] at this
   simp only [Bool.and_eq_true] at this
   have:legalL x.name.data.toList=true:=by
    rcases this with ⟨⟨⟨h1,h2⟩,h3⟩,h4⟩
    first | exact h1 | exact h2 | exact h3 | exact h4
   exact legal_ne this hn
  rcases List.mem_append.1 h with h | h
  ·rcases List.mem_append.1 h with h | h
   ·exact key _ 0 W.text h
   ·exact key _ 1 W.data h
  ·obtain ⟨x,hx,hn⟩:=List.mem_map.1 h
   exact legal_ne (W.equs x hx).1 hn
theorem SetB.congr {h:Hp} {g:Nat} {D D':List ByteArray} (m:SetB h g D) (e:∀ s,inN D s=inN D' s):SetB h g D':=by
 obtain ⟨n,m⟩:=m
 refine ⟨n,?_⟩
 have:(fun s=>if inN D' s then some true else none)=(fun s=>if inN D s then some true else none):=by funext s; rw [e]
 rw [this]
 exact m
theorem inN_snoc (D:List ByteArray) (x s:ByteArray):inN (x::D) s=inN (D++[x]) s:=by
 unfold inN
 rw [List.any_cons,List.any_append,List.any_cons,List.any_nil,Bool.or_false,Bool.or_comm]
def lineTail (p0 : Option Addr) (n1 : Int) (a10 a30 : Addr) (n29 : Int) : T :=
    cond (n29 != (0 : Int))
     (T.ret (.int .i64 n29))
     (T.join [(false, [.string])]
      (T.loads a30 [.int .i64] <| fun (n31 : Int) =>
      cond (n31 == (3 : Int))
       (T.loads (a30.add 2) [.string] <| fun (s32 : ByteArray) =>
       T.again 0 [.string s32])
       (T.again 0 [.string ⟨#[]⟩])) <| fun (s31 : ByteArray) =>
     T.join [(false, [.bool])]
      (T.loads a10 [.string] <| fun (s32 : ByteArray) =>
      cond (!((ByteArray.toList s32) == []))
       (T.osome p0 <| fun (a33 : Addr) =>
       T.loads (a33.add 6) [.map 9 4] <| fun (r34 : Option Nat) =>
       T.loads a10 [.string] <| fun (s35 : ByteArray) =>
       T.sem Tryz.prog (Instr.lookup 70 (.map r34) (.string s35) false) false [(false, [.bool])] <| fun (b36 : Bool) =>
       T.stable [(a10, [.string s32])] <|
       cond b36
        (T.again 0 [.bool true])
        (T.loads a10 [.string] <| fun (s37 : ByteArray) =>
        cond ((ByteArray.toList s37) == (ByteArray.toList s31))
         (T.again 0 [.bool true])
         (T.osome p0 <| fun (a38 : Addr) =>
         T.loads (a38.add 6) [.map 9 4] <| fun (r39 : Option Nat) =>
         T.sem Tryz.prog (Instr.lookup 70 (.map r39) (.string s31) false) false [(false, [.bool])] <| fun (b40 : Bool) =>
         T.stable [(a10, [.string s37]), (a10, [.string s35]), ((a33.add 6), [.map r34]), (a10, [.string s32])] <|
         T.again 0 [.bool b40])))
       (T.osome p0 <| fun (a33 : Addr) =>
       T.loads (a33.add 6) [.map 9 4] <| fun (r34 : Option Nat) =>
       T.sem Tryz.prog (Instr.lookup 70 (.map r34) (.string s31) false) false [(false, [.bool])] <| fun (b35 : Bool) =>
       T.stable [(a10, [.string s32])] <|
       T.again 0 [.bool b35])) <| fun (b32 : Bool) =>
     cond b32
      (T.ret (.int .i64 (22 : Int)))
      (T.loads (a30.add 1) [.slice 96] <| fun (p33 : Option Addr) (l34 : Nat) (l35 : Nat) =>
      T.join [(false, [.int .i64])]
       (T.loads a10 [.string] <| fun (s36 : ByteArray) =>
       cond (!((ByteArray.toList s36) == []))
        (T.again 0 [.int .i64 (IntKind.wrap .i64 ((l34 : Int) + (1 : Int)))])
        (T.again 0 [.int .i64 (l34 : Int)])) <| fun (n36 : Int) =>
      T.osome p0 <| fun (a37 : Addr) =>
      T.loads (a37.add 5) [.int .i64] <| fun (n38 : Int) =>
      cond (decide ((IntKind.wrap .i64 (n38 + n36)) > (8192 : Int)))
       (T.ret (.int .i64 (4 : Int)))
       (T.join []
        (T.loads a10 [.string] <| fun (s39 : ByteArray) =>
        cond (!((ByteArray.toList s39) == []))
         (T.osome p0 <| fun (a40 : Addr) =>
         T.loads (a40.add 6) [.map 9 4] <| fun (r41 : Option Nat) =>
         T.loads a10 [.string] <| fun (s42 : ByteArray) =>
         T.semU Tryz.prog (Instr.mapUpdate 70 (.map r41) (.string s42) (.bool true)) <|
         T.osome p0 <| fun (a43 : Addr) =>
         T.loads (a43.add 4) [.int .i64] <| fun (n44 : Int) =>
         T.loads a10 [.string] <| fun (s45 : ByteArray) =>
         T.sem Tryz.prog (Instr.buildSlice 23 1 #[(0, .agg #[.int .i64 (1 : Int), .string s45, .int .i64 (0 : Int), .int .i64 (0 : Int), .int .i64 (0 : Int), .int .i32 (0 : Int), .int .i64 (0 : Int), .slice none 0 0, .int .u32 (0 : Int), .int .i64 (0 : Int)])]) false [(false, [.slice 0])] <| fun (p46 : Option Addr) (l47 : Nat) (l48 : Nat) =>
         T.stable [(a10, [.string s45]), ((a43.add 4), [.int .i64 n44])] <|
         T.call Tryz.prog 66 [.pointer p0, .int .i64 n44, .slice p46 l47 l48] true [] <| T.stable [(a10, [.string s45])] <|
         T.again 0 [])
         (T.again 0 [])) <| T.osome p0 <| fun (a39 : Addr) =>
       T.loads (a39.add 4) [.int .i64] <| fun (n40 : Int) =>
       T.loads (a30.add 1) [.slice 96] <| fun (p41 : Option Addr) (l42 : Nat) (l43 : Nat) =>
       T.call Tryz.prog 66 [.pointer p0, .int .i64 n40, .slice p41 l42 l43] true [] <| T.join []
        (T.loads a30 [.int .i64] <| fun (n44 : Int) =>
        cond (n44 == (3 : Int))
         (T.osome p0 <| fun (a45 : Addr) =>
         T.loads (a45.add 6) [.map 9 4] <| fun (r46 : Option Nat) =>
         T.semU Tryz.prog (Instr.mapUpdate 70 (.map r46) (.string s31) (.bool true)) <|
         T.osome p0 <| fun (a47 : Addr) =>
         T.loads (a47.add 2) [.slice 99] <| fun (p48 : Option Addr) (l49 : Nat) (l50 : Nat) =>
         T.loads (a30.add 2) [.string] <| fun (s51 : ByteArray) =>
         T.loads (a30.add 3) [.slice 109, .int .u32] <| fun (p52 : Option Addr) (l53 : Nat) (l54 : Nat) (n55 : Int) =>
         T.sem Tryz.prog (Instr.buildSlice 24 1 #[(0, .agg #[.string s51, .slice p52 l53 l54, .int .u32 n55])]) false [(false, [.slice 0])] <| fun (p56 : Option Addr) (l57 : Nat) (l58 : Nat) =>
         T.stable [((a30.add 3), [.slice p52 l53 l54, .int .u32 n55]), ((a30.add 2), [.string s51]), ((a47.add 2), [.slice p48 l49 l50])] <|
         T.sem Tryz.prog (Builtin.append_ #[24, 24] 24 #[.slice p48 l49 l50, .slice p56 l57 l58]) false [(false, [.slice 0])] <| fun (p59 : Option Addr) (l60 : Nat) (l61 : Nat) =>
         T.stable [((a30.add 3), [.slice p52 l53 l54, .int .u32 n55]), ((a30.add 2), [.string s51])] <|
         T.osome p0 <| fun (a62 : Addr) =>
         T.stores (a62.add 2) [.slice p59 l60 l61] <|
         T.again 0 [])
         (cond (n44 == (4 : Int))
          (T.osome p0 <| fun (a45 : Addr) =>
          T.loads (a45.add 7) [.slice 76] <| fun (p46 : Option Addr) (l47 : Nat) (l48 : Nat) =>
          T.loads (a30.add 2) [.string] <| fun (s49 : ByteArray) =>
          T.sem Tryz.prog (Instr.buildSlice 71 1 #[(0, .agg #[.string s49, .int .i64 n1])]) false [(false, [.slice 0])] <| fun (p50 : Option Addr) (l51 : Nat) (l52 : Nat) =>
          T.stable [((a30.add 2), [.string s49]), ((a45.add 7), [.slice p46 l47 l48])] <|
          T.sem Tryz.prog (Builtin.append_ #[71, 71] 71 #[.slice p46 l47 l48, .slice p50 l51 l52]) false [(false, [.slice 0])] <| fun (p53 : Option Addr) (l54 : Nat) (l55 : Nat) =>
          T.stable [((a30.add 2), [.string s49])] <|
          T.osome p0 <| fun (a56 : Addr) =>
          T.stores (a56.add 7) [.slice p53 l54 l55] <|
          T.again 0 [])
          (cond (n44 == (5 : Int))
           (T.loads (a30.add 5) [.int .i64] <| fun (n45 : Int) =>
           T.osome p0 <| fun (a46 : Addr) =>
           T.stores (a46.add 4) [.int .i64 n45] <|
           T.again 0 [])
           (T.again 0 [])))) <| T.ret (.int .i64 (0 : Int)))))
def lineQ (b A g:Nat) (qq:Nat→Prop) (h:Hp) (r:Except Nat Wld) (v:Value) (h':Hp):Prop :=
 match r with
 | .error e=>v=.int .i64 (e:Int)∧e≠0∧Ext h h'
 | .ok w'=>v=.int .i64 0∧∃ t d e q ut ud ue ow,AsmAt h' b A g w' t d e q ut ud ue ow∧Ab b qq ow h h'
def tailR_ (w:Wld) (n:Nat) (lab:ByteArray) (r:Except Nat Thg):Except Nat Wld :=
 match r with
 | .error e=>.error e
 | .ok t=>if dupW w lab t then .error 22 else if 8192<w.text.length+w.data.length+(itsW lab t).length then .error 4 else .ok (putW w n lab t)
end Go.Sx.Ob
