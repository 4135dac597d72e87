/- Contracts over heaps, and plain laws, for the functions that the laws of chapter 9 call, part 5: The arguments of instructions over heaps: registers, constants, names; how a sha Condition: as each statement says. -/
import Derived.Test.YtfkjiiapldkoeaaGreatDoorP4
import Derived.Test.YtfkjiiapldkoeaaGreatDoorAtA
import Derived.Test.YtfkjiiapldkoeaaGreatDoorArY
import Derived.Test.YtfkjiiapldkoeaaGreatDoorAtC
import Derived.Test.YtfkjiiapldkoeaaGreatDoorAtB
import Derived.Test.YtfkjiiapldkoeaaGreatDoorAtD
import Derived.Test.YtfkjiiapldkoeaaGreatDoorAtH
import Derived.Test.YtfkjiiapldkoeaaGreatDoorAtI
import Derived.Test.YtfkjiiapldkoeaaGreatDoorAtJ
set_option linter.unusedVariables false
set_option linter.unusedSimpArgs false
set_option maxRecDepth 100000
namespace Go.Sx.Ob
open Go.Proofs
def resI (r:Except Nat Int):Value :=
 match r with
 | .ok n=>.tuple #[.int .i64 n,.int .i64 0]
 | .error e=>.tuple #[.int .i64 0,.int .i64 (e:Int)]
def resS (r:Except Nat ByteArray):Value :=
 match r with
 | .ok s=>.tuple #[.string s,.int .i64 0]
 | .error e=>.tuple #[.string ⟨#[]⟩,.int .i64 (e:Int)]
theorem one_of {ts:List Tok} (h:ts.length=1):∃ t,ts=[t]:=by
 match ts,h with
 | [t],_=>exact ⟨t,rfl⟩
theorem not1 {ts:List Tok} {α:Type} {f:Tok→Except Nat α} (h:¬ ts.length=1):(match ts with | [t]=>f t | _=>.error 20)=.error 20:=by
 match ts,h with
 | [],_=>rfl
 | [t],h=>exact absurd rfl h
 | _::_::_,_=>rfl
theorem reg_hc {h:Hp} {p:Option Addr} {l c:Nat} {ts:List Tok} (v:Vw h p l c ts) (z:Bool):HCp Tryz.prog 151 [.slice p l c,.bool z] h (resI (regA z ts)):=by
 refine hcp_of mixed Tryz.func151 (by kernel_rfl) (t_item_reg_eq p l c z) ?_
 unfold t_item_reg
 have hl:=v.len
 refine cond_mk (fun g=>?_) (fun g=>?_)
 ·have g:(l:Int)≠1:=by simpa using g
  refine ⟨?_,rfl⟩
  have:regA z ts=.error 20:=not1 (by omega)
  rw [this]
  rfl
 have g:(l:Int)=1:=by simpa using g
 obtain ⟨t,rfl⟩:=one_of (show ts.length=1 by omega)
 obtain ⟨a,rfl,c0⟩:=v.cells 0 (by simp)
 have c0:cellsAt h (a.add (0*4)) 0 (enc t):=c0
 obtain ⟨q1,q2,_⟩:=tok_cells c0
 refine need_of ⟨by omega,by omega⟩ (osome_mk rfl (loads_of ((t.kind:Int),()) q1 ?_))
 dsimp only [flat,unc,unc1,nA,cA]
 refine cond_mk (fun r=>?_) (fun r=>?_)
 ·have r:¬ t.kind=1:=by
   have:¬ (t.kind:Int)=1:=by simpa using r
   omega
  refine ⟨?_,rfl⟩
  have:regA z [t]=.error 20:=if_neg (fun hh=>r hh.1)
  rw [this]
  rfl
 have r:t.kind=1:=by
  have:(t.kind:Int)=1:=by simpa using r
  omega
 refine need_of ⟨by omega,by omega⟩ (osome_mk rfl (loads_of (t.text,()) q2 ?_))
 dsimp only [flat,unc,unc1,nA,cA]
 refine call_ibb (register_hc t.text h) ?_
 refine cond_mk (fun s=>?_) (fun s=>?_)
 ·have s:(regL t.text.data.toList).2.2=false:=by simpa using s
  refine ⟨?_,rfl⟩
  have:regA z [t]=.error 20:=if_neg (fun hh=>by rw [s] at hh; simp at hh)
  rw [this]
  rfl
 have s:(regL t.text.data.toList).2.2=true:=by simpa using s
 refine cond_mk (fun u=>?_) (fun u=>?_)
 ·have u:¬ (regL t.text.data.toList).2.1=z:=by simpa using u
  refine ⟨?_,rfl⟩
  have:regA z [t]=.error 20:=if_neg (fun hh=>u hh.2.2)
  rw [this]
  rfl
 have u:(regL t.text.data.toList).2.1=z:=by simpa using u
 refine ⟨?_,rfl⟩
 have:regA z [t]=.ok (regL t.text.data.toList).1:=if_pos ⟨r,s,u⟩
 rw [this]
 rfl
theorem name_hc {h:Hp} {p:Option Addr} {l c:Nat} {ts:List Tok} (v:Vw h p l c ts) (hs:∀ t,t∈ts→t.text.size≤9223372036854775807):HCp Tryz.prog 129 [.slice p l c] h (resS (namA ts)):=by
 refine hcp_of mixed Tryz.func129 (by kernel_rfl) (t_item_name_eq p l c) ?_
 unfold t_item_name
 have hl:=v.len
 refine cond_mk (fun g=>?_) (fun g=>?_)
 ·have g:(l:Int)≠1:=by simpa using g
  refine ⟨?_,rfl⟩
  have:namA ts=.error 20:=not1 (by omega)
  rw [this]
  rfl
 have g:(l:Int)=1:=by simpa using g
 obtain ⟨t,rfl⟩:=one_of (show ts.length=1 by omega)
 obtain ⟨a,rfl,c0⟩:=v.cells 0 (by simp)
 have c0:cellsAt h (a.add (0*4)) 0 (enc t):=c0
 obtain ⟨q1,q2,_⟩:=tok_cells c0
 refine need_of ⟨by omega,by omega⟩ (osome_mk rfl (loads_of ((t.kind:Int),()) q1 ?_))
 dsimp only [flat,unc,unc1,nA,cA]
 refine cond_mk (fun r=>?_) (fun r=>?_)
 ·have r:¬ t.kind=1:=by
   have:¬ (t.kind:Int)=1:=by simpa using r
   omega
  refine ⟨?_,rfl⟩
  have:namA [t]=.error 20:=if_neg (fun hh=>r hh.1)
  rw [this]
  rfl
 have r:t.kind=1:=by
  have:(t.kind:Int)=1:=by simpa using r
  omega
 refine need_of ⟨by omega,by omega⟩ (osome_mk rfl (loads_of (t.text,()) q2 ?_))
 dsimp only [flat,unc,unc1,nA,cA]
 refine call_bool (legal_hc t.text h (hs t (by simp))) ?_
 refine cond_mk (fun s=>?_) (fun s=>?_)
 ·have s:legalL t.text.data.toList=false:=by simpa using s
  refine ⟨?_,rfl⟩
  have:namA [t]=.error 20:=if_neg (fun hh=>by rw [s] at hh; simp at hh)
  rw [this]
  rfl
 have s:legalL t.text.data.toList=true:=by simpa using s
 refine need_of ⟨by omega,by omega⟩ (osome_mk rfl (loads_of (t.text,()) q2 ?_))
 dsimp only [flat,unc,unc1,nA,cA]
 refine ⟨?_,rfl⟩
 have:namA [t]=.ok t.text:=if_pos ⟨r,s⟩
 rw [this]
 rfl
theorem parseX_err {ts:List Tok} {e:Nat} (hw:Wf ts) (h:parseX ts=.error e):e=20∨e=21:=by
 unfold parseX at h
 have:=sumD_fine 32 ts hw
 cases hs:sumD 32 ts with
 | error e' =>
  rw [hs] at h this
  injection h with h
  subst h
  exact this
 | ok q =>
  rw [hs] at h
  simp only at h
  split at h
  ·cases h
  ·injection h with h
   exact .inl h.symm
theorem wrap32 {n:Nat} (hn:n<4294967296):IntKind.wrap .i64 (IntKind.wrap .i32 (n:Int))=s32 n:=by
 have h1:IntKind.wrap .i32 (n:Int)=s32 n:=by
  unfold s32
  by_cases g:n<2147483648
  ·rw [if_pos g]
   simp only [IntKind.wrap,IntKind.bits,IntKind.signed,Bool.true_and]
   split <;> rename_i hh
   ·have:=of_decide_eq_true hh; omega
   ·have:¬ _:=fun h=>hh (decide_eq_true h); omega
  ·rw [if_neg g]
   simp only [IntKind.wrap,IntKind.bits,IntKind.signed,Bool.true_and]
   split <;> rename_i hh
   ·have:=of_decide_eq_true hh; omega
   ·have:¬ _:=fun h=>hh (decide_eq_true h); omega
 rw [h1]
 unfold s32
 split <;> exact wrap_i64 (by omega) (by omega)
theorem numArg_hc {h:Hp} {p:Option Addr} {l c:Nat} {ts:List Tok} (v:Vw h p l c ts) (hp:∀ i,i∈blkOf p→i<h.size) (w:Wf ts) (hts:ts.length≤2^40) (lo hi:Int) :
  HC Tryz.prog 127 #[.slice p l c,.int .i64 lo,.int .i64 hi] h fun r h'=>r=resI (numA lo hi ts)∧Ext h h':=by
 refine hcr_of (args:=[.slice p l c,.int .i64 lo,.int .i64 hi]) mixed Tryz.func127 (by kernel_rfl) (t_item_number_eq p l c lo hi) ?_
 unfold t_item_number
 refine call_of (parse46_hc v hp w hts) ?_
 rintro r h1 ⟨e1,hr⟩
 unfold numA
 cases hx:parseX ts with
 | error e =>
  rw [hx] at hr
  have hr:r=.tuple #[.agg #[.slice none 0 0,.int .u32 0],.int .i64 (e:Int)]:=hr
  subst hr
  have he:=parseX_err w hx
  refine ⟨((none,0,0),(0:Int),(e:Int),()),rfl,?_⟩
  dsimp only [flat,unc,unc1,nA,cA]
  refine newB ?_
  intro h2 b2 e2 z2
  refine stores_of b2 rfl (by simp) ?_
  intro h3 b3 k3 z3
  refine cond_t (by simp; omega) ?_
  exact ⟨rfl,e1.trans (Ch.trans e2 k3 (fun i hi hl=>by simp at hi; omega))⟩
 | ok x =>
  rw [hx] at hr
  obtain ⟨p1,l1,c1,rfl,sl,gd⟩:=hr
  refine ⟨((p1,l1,c1),(x.num:Int),(0:Int),()),rfl,?_⟩
  dsimp only [flat,unc,unc1,nA,cA]
  refine newB ?_
  intro h2 b2 e2 z2
  refine stores_of b2 rfl (by simp) ?_
  intro h3 b3 k3 z3
  have b3:Box h3 h1.size 94 [.slice p1 l1 c1,.int .u32 (x.num:Int)]:=b3
  have e3:Ext h h3:=e1.trans (Ch.trans e2 k3 (fun i hi hl=>by simp at hi; omega))
  refine cond_f rfl ?_
  rw [add_box]
  refine loads_box b3 ((x.num:Int),()) rfl ?_
  dsimp only [flat,unc,unc1,nA,cA]
  refine loads_box b3 ((p1,l1,c1),()) rfl ?_
  dsimp only [flat,unc,unc1,nA,cA]
  rw [wrap32 gd.num]
  have hl1:l1=x.terms.length:=by rw [sl.1,List.length_map]
  refine cond_mk (fun g=>?_) (fun g=>?_)
  ·have g:=of_decide_eq_true g
   refine ⟨?_,e3⟩
   rw [if_pos (.inl (fun hh=>by rw [hh] at hl1; simp at hl1; omega))]
   rfl
  have g:=of_decide_eq_false g
  have hz:x.terms=[]:=List.eq_nil_of_length_eq_zero (by omega)
  refine cond_mk (fun g=>?_) (fun g=>?_)
  ·have g:=of_decide_eq_true g
   refine ⟨?_,e3⟩
   rw [if_pos (.inr (.inl g))]
   rfl
  have g:=of_decide_eq_false g
  refine cond_mk (fun g=>?_) (fun g=>?_)
  ·have g:=of_decide_eq_true g
   refine ⟨?_,e3⟩
   rw [if_pos (.inr (.inr g))]
   rfl
  have g':=of_decide_eq_false g
  refine ⟨?_,e3⟩
  rw [if_neg (by rintro (q | q | q) <;> first | exact q hz | omega)]
  rfl
def encR:Rdr→Value
 | .reg z s t=>.iface 253 (.agg #[.bool z,.bool s,.bool t])
 | .con lo hi=>.iface 255 (.agg #[.int .i64 lo,.int .i64 hi])
 | .val pool=>.iface 257 (.agg #[.bool pool])
theorem und116:Tryz.prog.underlying 221=some (.slice 20):=by kernel_rfl
theorem ifcZ:(Tryz.prog.info? 20).map (fun i=>(i.zero,i.size,i.bytes))=some (some .nilIface,1,16):=by kernel_rfl
theorem SL.lit {h:Hp} {b g:Nat} {e:TypeId} {xs:List Value} (bx:Box h g e xs) (hb:b≤g) (hn:xs.length<9223372036854775808):SL h b e 1 (some ⟨g,0,none⟩) xs.length xs.length (xs.map fun x=>[x]):=by
 refine ⟨by simp,by simp,g,[],[],rfl,hb,⟨Nat.le_refl _,hn⟩,?_,by simp⟩
 have:∀ l:List Value,(l.map fun x=>[x]).flatten=l:=by
  intro l
  induction l with
  | nil=>rfl
  | cons a l ih=>simp [ih]
 rw [this]
 simpa using bx
theorem readers_hc (s:Nat) (h:Hp):HC Tryz.prog 124 #[.int .i64 (s:Int)] h fun w h'=>∃ p c,w=.slice p (rdrs s).length c∧SL h' h.size 20 1 p (rdrs s).length c ((rdrs s).map fun r=>[encR r])∧Ext h h':=by
 refine hcr_of (args:=[.int .i64 (s:Int)]) mixed Tryz.func124 (by kernel_rfl) (t_item_readers_eq s) ?_
 unfold t_item_readers
 refine newB ?_
 intro h1 b1 e1 z1
 refine newB ?_
 intro h2 b2 e2 z2
 refine stores_of (b1.keep e2 (by simp)) rfl (by simp) ?_
 intro h3 b3 k3 z3
 have b3:Box h3 h.size 253 [.bool false,.bool false,.bool false]:=b3
 refine stores_of (b2.keep k3 (by simp; omega)) rfl (by simp) ?_
 intro h4 b4 k4 z4
 have b4:Box h4 h1.size 253 [.bool false,.bool true,.bool false]:=b4
 have b5:=b3.keep k4 (by simp; omega)
 have e04:Ext h h4:=Ch.trans (Ch.trans (e1.trans e2) k3 (fun i hi hl=>by simp at hi; omega)) k4 (fun i hi hl=>by simp at hi; omega)
 have fin:∀ {rs:List Rdr} {h':Hp},Box h' h4.size 20 (rs.map encR)→Ext h4 h'→rs.length<100→∃ p c,(Value.slice (some ⟨h4.size,0,none⟩) rs.length rs.length)=.slice p rs.length c∧SL h' h.size 20 1 p rs.length c (rs.map fun r=>[encR r])∧Ext h h':=by
  intro rs h' b e hl
  refine ⟨_,_,rfl,?_,e04.trans e⟩
  have:=SL.lit (b:=h.size) b (by omega) (by rw [List.length_map]; omega)
  rw [List.length_map,List.map_map] at this
  exact this
 clear k4 k3 e2 e1 b1 b2 b3
 refine cond_mk (fun q=>?_) (fun q=>?_)
 ·obtain rfl:s=1:=eqN_t q
  exact ⟨none,0,rfl,SL.nil _ _ _ _,e04⟩
 have r1:¬ s=1:=eqN_f q
 refine cond_mk (fun q=>?_) (fun q=>?_)
 ·obtain rfl:s=2:=eqN_t q
  refine loads_box b5 (false,false,false,()) rfl ?_
  dsimp only [flat,unc,unc1,nA,cA]
  refine lit_of (cells:=(rdrs 2).map encR) und116 ifcZ (by decide) (by decide) (by kernel_rfl) ?_
  intro h' b e z
  exact fin (rs:=rdrs 2) b e (by decide)
 have r2:¬ s=2:=eqN_f q
 refine cond_mk (fun q=>?_) (fun q=>?_)
 ·obtain rfl:s=3:=eqN_t q
  refine lit_of (cells:=(rdrs 3).map encR) und116 ifcZ (by decide) (by decide) (by kernel_rfl) ?_
  intro h' b e z
  exact fin (rs:=rdrs 3) b e (by decide)
 have r3:¬ s=3:=eqN_f q
 refine cond_mk (fun q=>?_) (fun q=>?_)
 ·obtain rfl:s=4:=eqN_t q
  refine loads_box b5 (false,false,false,()) rfl ?_
  dsimp only [flat,unc,unc1,nA,cA]
  refine loads_box b4 (false,true,false,()) rfl ?_
  dsimp only [flat,unc,unc1,nA,cA]
  refine lit_of (cells:=(rdrs 4).map encR) und116 ifcZ (by decide) (by decide) (by kernel_rfl) ?_
  intro h' b e z
  exact fin (rs:=rdrs 4) b e (by decide)
 have r4:¬ s=4:=eqN_f q
 refine cond_mk (fun q=>?_) (fun q=>?_)
 ·obtain rfl:s=5:=eqN_t q
  refine lit_of (cells:=(rdrs 5).map encR) und116 ifcZ (by decide) (by decide) (by kernel_rfl) ?_
  intro h' b e z
  exact fin (rs:=rdrs 5) b e (by decide)
 have r5:¬ s=5:=eqN_f q
 refine cond_mk (fun q=>?_) (fun q=>?_)
 ·obtain rfl:s=6:=eqN_t q
  refine loads_box b5 (false,false,false,()) rfl ?_
  dsimp only [flat,unc,unc1,nA,cA]
  refine lit_of (cells:=(rdrs 6).map encR) und116 ifcZ (by decide) (by decide) (by kernel_rfl) ?_
  intro h' b e z
  exact fin (rs:=rdrs 6) b e (by decide)
 have r6:¬ s=6:=eqN_f q
 refine cond_mk (fun q=>?_) (fun q=>?_)
 ·obtain rfl:s=7:=eqN_t q
  refine loads_box b4 (false,true,false,()) rfl ?_
  dsimp only [flat,unc,unc1,nA,cA]
  refine lit_of (cells:=(rdrs 7).map encR) und116 ifcZ (by decide) (by decide) (by kernel_rfl) ?_
  intro h' b e z
  exact fin (rs:=rdrs 7) b e (by decide)
 have r7:¬ s=7:=eqN_f q
 refine cond_mk (fun q=>?_) (fun q=>?_)
 ·obtain rfl:s=8:=eqN_t q
  refine loads_box b5 (false,false,false,()) rfl ?_
  dsimp only [flat,unc,unc1,nA,cA]
  refine lit_of (cells:=(rdrs 8).map encR) und116 ifcZ (by decide) (by decide) (by kernel_rfl) ?_
  intro h' b e z
  exact fin (rs:=rdrs 8) b e (by decide)
 have r8:¬ s=8:=eqN_f q
 refine cond_mk (fun q=>?_) (fun q=>?_)
 ·obtain rfl:s=9:=eqN_t q
  refine lit_of (cells:=(rdrs 9).map encR) und116 ifcZ (by decide) (by decide) (by kernel_rfl) ?_
  intro h' b e z
  exact fin (rs:=rdrs 9) b e (by decide)
 have r9:¬ s=9:=eqN_f q
 refine cond_mk (fun q=>?_) (fun q=>?_)
 ·obtain rfl:s=11:=eqN_t q
  refine loads_box b5 (false,false,false,()) rfl ?_
  dsimp only [flat,unc,unc1,nA,cA]
  refine lit_of (cells:=(rdrs 11).map encR) und116 ifcZ (by decide) (by decide) (by kernel_rfl) ?_
  intro h' b e z
  exact fin (rs:=rdrs 11) b e (by decide)
 have r11:¬ s=11:=eqN_f q
 refine cond_mk (fun q=>?_) (fun q=>?_)
 ·obtain rfl:s=12:=eqN_t q
  refine lit_of (cells:=(rdrs 12).map encR) und116 ifcZ (by decide) (by decide) (by kernel_rfl) ?_
  intro h' b e z
  exact fin (rs:=rdrs 12) b e (by decide)
 have r12:¬ s=12:=eqN_f q
 have hr:rdrs s=rdrs 13:=by
  unfold rdrs
  simp [r1,r2,r3,r4,r5,r6,r7,r8,r9,r11,r12]
 rw [hr]
 refine loads_box b5 (false,false,false,()) rfl ?_
 dsimp only [flat,unc,unc1,nA,cA]
 refine lit_of (cells:=(rdrs 13).map encR) und116 ifcZ (by decide) (by decide) (by kernel_rfl) ?_
 intro h' b e z
 exact fin (rs:=rdrs 13) b e (by decide)
def bB (s:Nat):Nat:=if s=4∨s=7 then 8 else if s=5∨s=6 then 4 else 0
def TabN (h:Hp):Prop:=∃ e f,h[1]?=some (.cells (rowsV opsN opsB).toArray e f)
theorem TabN.keep {ws:List Nat} {h h':Hp} (t:TabN h) (k:Ch ws h h') (hw:1∉ws):TabN h':=by
 obtain ⟨e,f,ht⟩:=t
 exact ⟨e,f,k.get ht hw⟩
theorem TabN.tab {h:Hp} (t:TabN h):Tab h:=by
 obtain ⟨e,f,ht⟩:=t
 exact ⟨_,_,e,f,ht⟩
theorem cells_blk {h:Hp} {g:Nat} {c:Array Value} {e:TypeId} {f:Nat × Nat} (hg:h[g]?=some (.cells c e f)):∀ (vs:List Value) (i:Nat),(∀ j,j<vs.length→c[i+j]?=vs[j]?)→cellsAt h ⟨g,0,none⟩ i vs
 | [],_,_=>trivial
 | v::vs,i,hv=>by
  refine ⟨?_,cells_blk hg vs (i+1) fun j hj=>?_⟩
  ·rw [add_box,hcell_of hg]
   have:=hv 0 (by simp)
   simpa using this
  ·have:=hv (j+1) (by simpa using hj)
   rw [List.getElem?_cons_succ] at this
   rw [← this]; congr 1; omega
theorem TabN.all {h:Hp} (t:TabN h):cellsAt h ⟨1,0,none⟩ 0 (rowsV opsN opsB):=by
 obtain ⟨e,f,ht⟩:=t
 exact cells_blk ht _ 0 (fun j hj=>by simp)
def tabV:Value:=.agg (rowsV opsN opsB).toArray
theorem idx_tab (h:Hp) (K:Value→Hp→Prop):∀ k:Nat,k<43→semW Tryz.prog (Instr.index 215 tabV (.int .i64 (k:Int))) h K=K (.agg #[.string (opsN k),.int .u8 (opsB k),.int .i64 (shpL.getD k 0:Nat)]) h
 | 0,_=>by kernel_rfl
 | 1,_=>by kernel_rfl
 | 2,_=>by kernel_rfl
 | 3,_=>by kernel_rfl
 | 4,_=>by kernel_rfl
 | 5,_=>by kernel_rfl
 | 6,_=>by kernel_rfl
 | 7,_=>by kernel_rfl
 | 8,_=>by kernel_rfl
 | 9,_=>by kernel_rfl
 | 10,_=>by kernel_rfl
 | 11,_=>by kernel_rfl
 | 12,_=>by kernel_rfl
 | 13,_=>by kernel_rfl
 | 14,_=>by kernel_rfl
 | 15,_=>by kernel_rfl
 | 16,_=>by kernel_rfl
 | 17,_=>by kernel_rfl
 | 18,_=>by kernel_rfl
 | 19,_=>by kernel_rfl
 | 20,_=>by kernel_rfl
 | 21,_=>by kernel_rfl
 | 22,_=>by kernel_rfl
 | 23,_=>by kernel_rfl
 | 24,_=>by kernel_rfl
 | 25,_=>by kernel_rfl
 | 26,_=>by kernel_rfl
 | 27,_=>by kernel_rfl
 | 28,_=>by kernel_rfl
 | 29,_=>by kernel_rfl
 | 30,_=>by kernel_rfl
 | 31,_=>by kernel_rfl
 | 32,_=>by kernel_rfl
 | 33,_=>by kernel_rfl
 | 34,_=>by kernel_rfl
 | 35,_=>by kernel_rfl
 | 36,_=>by kernel_rfl
 | 37,_=>by kernel_rfl
 | 38,_=>by kernel_rfl
 | 39,_=>by kernel_rfl
 | 40,_=>by kernel_rfl
 | 41,_=>by kernel_rfl
 | 42,_=>by kernel_rfl
 | k+43,hk=>by omega
def findT (s0:ByteArray):T :=
 T.loop [(false,[.int .i64]),(false,[.bool]),(false,[.int .i64])] [.int .i64 (0:Int),.bool false,.int .i64 (0:Int)] <| fun (n130:Int) (b131:Bool) (n132:Int) =>
 cond (decide (n132<(43:Int)))
 (T.sem Tryz.prog (Instr.index 215 tabV (.int .i64 n132)) false [(true,[.string,.int .u8,.int .i64])] <| fun (s133:ByteArray) (n134:Int) (n135:Int) =>
 T.new [.string ⟨#[]⟩,.int .u8 (0:Int),.int .i64 (0:Int)] 158 <| fun (a136:Addr) =>
 T.stores a136 [.string s133,.int .u8 n134,.int .i64 n135] <|
 T.loads a136 [.string] <| fun (s137:ByteArray) =>
 cond ((ByteArray.toList s137)==(ByteArray.toList s0))
  (T.ret (.tuple #[.int .i64 (IntKind.wrap .i64 (n132+(1:Int))),.bool true]))
  (T.again 0 [.int .i64 n130,.bool b131,.int .i64 (IntKind.wrap .i64 (n132+(1:Int)))]))
 (T.ret (.tuple #[.int .i64 (0:Int),.bool false]))
def tabX:HVs [.string,.int .u8,.int .i64,.string,.int .u8,.int .i64,.string,.int .u8,.int .i64,.string,.int .u8,.int .i64,.string,.int .u8,.int .i64,.string,.int .u8,.int .i64,.string,.int .u8,.int .i64,.string,.int .u8,.int .i64,.string,.int .u8,.int .i64,.string,.int .u8,.int .i64,.string,.int .u8,.int .i64,.string,.int .u8,.int .i64,.string,.int .u8,.int .i64,.string,.int .u8,.int .i64,.string,.int .u8,.int .i64,.string,.int .u8,.int .i64,.string,.int .u8,.int .i64,.string,.int .u8,.int .i64,.string,.int .u8,.int .i64,.string,.int .u8,.int .i64,.string,.int .u8,.int .i64,.string,.int .u8,.int .i64,.string,.int .u8,.int .i64,.string,.int .u8,.int .i64,.string,.int .u8,.int .i64,.string,.int .u8,.int .i64,.string,.int .u8,.int .i64,.string,.int .u8,.int .i64,.string,.int .u8,.int .i64,.string,.int .u8,.int .i64,.string,.int .u8,.int .i64,.string,.int .u8,.int .i64,.string,.int .u8,.int .i64,.string,.int .u8,.int .i64,.string,.int .u8,.int .i64,.string,.int .u8,.int .i64,.string,.int .u8,.int .i64,.string,.int .u8,.int .i64,.string,.int .u8,.int .i64,.string,.int .u8,.int .i64,.string,.int .u8,.int .i64,.string,.int .u8,.int .i64,.string,.int .u8,.int .i64]:=(opsN 0,opsB 0,((shpL.getD 0 0:Nat):Int),opsN 1,opsB 1,((shpL.getD 1 0:Nat):Int),opsN 2,opsB 2,((shpL.getD 2 0:Nat):Int),opsN 3,opsB 3,((shpL.getD 3 0:Nat):Int),opsN 4,opsB 4,((shpL.getD 4 0:Nat):Int),opsN 5,opsB 5,((shpL.getD 5 0:Nat):Int),opsN 6,opsB 6,((shpL.getD 6 0:Nat):Int),opsN 7,opsB 7,((shpL.getD 7 0:Nat):Int),opsN 8,opsB 8,((shpL.getD 8 0:Nat):Int),opsN 9,opsB 9,((shpL.getD 9 0:Nat):Int),opsN 10,opsB 10,((shpL.getD 10 0:Nat):Int),opsN 11,opsB 11,((shpL.getD 11 0:Nat):Int),opsN 12,opsB 12,((shpL.getD 12 0:Nat):Int),opsN 13,opsB 13,((shpL.getD 13 0:Nat):Int),opsN 14,opsB 14,((shpL.getD 14 0:Nat):Int),opsN 15,opsB 15,((shpL.getD 15 0:Nat):Int),opsN 16,opsB 16,((shpL.getD 16 0:Nat):Int),opsN 17,opsB 17,((shpL.getD 17 0:Nat):Int),opsN 18,opsB 18,((shpL.getD 18 0:Nat):Int),opsN 19,opsB 19,((shpL.getD 19 0:Nat):Int),opsN 20,opsB 20,((shpL.getD 20 0:Nat):Int),opsN 21,opsB 21,((shpL.getD 21 0:Nat):Int),opsN 22,opsB 22,((shpL.getD 22 0:Nat):Int),opsN 23,opsB 23,((shpL.getD 23 0:Nat):Int),opsN 24,opsB 24,((shpL.getD 24 0:Nat):Int),opsN 25,opsB 25,((shpL.getD 25 0:Nat):Int),opsN 26,opsB 26,((shpL.getD 26 0:Nat):Int),opsN 27,opsB 27,((shpL.getD 27 0:Nat):Int),opsN 28,opsB 28,((shpL.getD 28 0:Nat):Int),opsN 29,opsB 29,((shpL.getD 29 0:Nat):Int),opsN 30,opsB 30,((shpL.getD 30 0:Nat):Int),opsN 31,opsB 31,((shpL.getD 31 0:Nat):Int),opsN 32,opsB 32,((shpL.getD 32 0:Nat):Int),opsN 33,opsB 33,((shpL.getD 33 0:Nat):Int),opsN 34,opsB 34,((shpL.getD 34 0:Nat):Int),opsN 35,opsB 35,((shpL.getD 35 0:Nat):Int),opsN 36,opsB 36,((shpL.getD 36 0:Nat):Int),opsN 37,opsB 37,((shpL.getD 37 0:Nat):Int),opsN 38,opsB 38,((shpL.getD 38 0:Nat):Int),opsN 39,opsB 39,((shpL.getD 39 0:Nat):Int),opsN 40,opsB 40,((shpL.getD 40 0:Nat):Int),opsN 41,opsB 41,((shpL.getD 41 0:Nat):Int),opsN 42,opsB 42,((shpL.getD 42 0:Nat):Int),())
theorem tabX_eq:hvs _ tabX=rowsV opsN opsB:=by kernel_rfl
theorem find_tree {L:Lp} {K:Value→Hp→Prop} {h:Hp} (t:TabN h) {s:ByteArray} (hk:findT s L K h):t_isa_Find s L K h :=
 ⟨tabX,by rw [tabX_eq]; exact t.all,hk⟩
theorem findL_up (nm:Nat→List UInt8) (s:List UInt8):∀ (m k:Nat),k≤m→findL nm s k≠0→findL nm s m=findL nm s k
 | 0,k,h,_=>by
  have:k=0:=by omega
  rw [this]
 | m+1,k,h,hk=>by
  by_cases e:k=m+1
  ·rw [e]
  ·have ih:=findL_up nm s m k (by omega) hk
   show (match findL nm s m with | 0=>if nm m=s then m+1 else 0 | n=>n)=findL nm s k
   rw [ih]
   cases hh:findL nm s k with
   | zero=>exact absurd hh hk
   | succ n=>rfl
theorem findL_next (nm:Nat→List UInt8) (s:List UInt8) (k:Nat) (h:findL nm s k=0):findL nm s (k+1)=if nm k=s then k+1 else 0:=by
 show (match findL nm s k with | 0=>if nm k=s then k+1 else 0 | n=>n)=_
 rw [h]
 rfl
theorem find_hc {h:Hp} (t:TabN h) (s:ByteArray):HC Tryz.prog 98 #[.string s] h fun u h'=>u=.tuple #[.int .i64 (findA s:Nat),.bool (decide (findA s≠0))]∧Ext h h':=by
 refine hcr_of (args:=[.string s]) mixed Tryz.func98 (by kernel_rfl) (t_isa_Find_eq s) ?_
 refine find_tree t ?_
 unfold findT
 refine loop_of (cs:=[(false,[.int .i64]),(false,[.bool]),(false,[.int .i64])]) (fun x n h'=>∃ k:Nat,x.2.2.1=(k:Int)∧k≤43∧n=43-k∧Ext h h'∧findL opNm s.data.toList k=0) ((0:Int),false,(0:Int),()) 43 rfl ⟨0,rfl,by omega,by omega,Ch.refl _ _,rfl⟩ ?_
 rintro ⟨n130,b131,n132,⟨⟩⟩ n h1 ⟨k,hk,hk43,rfl,e1,h0⟩
 simp only at hk
 subst hk
 dsimp only [flat,unc,unc1,nA,cA]
 refine cond_mk (fun q=>?_) (fun q=>?_)
 ·have q:=of_decide_eq_true q
  have hlt:k<43:=by omega
  show semW _ _ _ _
  rw [idx_tab _ _ k hlt]
  refine ⟨(opsN k,opsB k,((shpL.getD k 0:Nat):Int),()),rfl,?_⟩
  dsimp only [flat,unc,unc1,nA,cA]
  refine newB ?_
  intro h2 b2 e2 z2
  refine stores_of b2 rfl (by simp) ?_
  intro h3 b3 k3 z3
  have b3:Box h3 h1.size 158 [.string (opsN k),.int .u8 (opsB k),.int .i64 ((shpL.getD k 0:Nat):Int)]:=b3
  have e3:Ext h h3:=e1.trans (Ch.trans e2 k3 (fun i hi hl=>by simp at hi; omega))
  refine loads_box b3 (opsN k,()) rfl ?_
  dsimp only [flat,unc,unc1,nA,cA]
  have hn:=findL_next opNm s.data.toList k h0
  have hw:IntKind.wrap .i64 ((k:Int)+1)=((k+1:Nat):Int):=by rw [wrap_i64 (by omega) (by omega)]; omega
  rw [ByteArray.toList_eq,ByteArray.toList_eq,hw]
  refine cond_mk (fun r=>?_) (fun r=>?_)
  ·have r:opNm k=s.data.toList:=eq_of_beq r
   rw [if_pos r] at hn
   have hf:findA s=k+1:=by
    unfold findA
    rw [findL_up _ _ 43 (k+1) (by omega) (by omega),hn]
   refine ⟨?_,e3⟩
   rw [hf]
   simp
  ·have r:¬ opNm k=s.data.toList:=ne_of_beq_false r
   rw [if_neg r] at hn
   exact again_mk (cs:=[(false,[.int .i64]),(false,[.bool]),(false,[.int .i64])]) (n130,b131,((k+1:Nat):Int),()) (43-(k+1)) rfl (by omega) rfl ⟨k+1,rfl,by omega,rfl,e3,hn⟩
 ·have q:=of_decide_eq_false q
  have:k=43:=by omega
  subst this
  refine ⟨?_,e1⟩
  unfold findA
  rw [h0]
  simp
end Go.Sx.Ob
set_option linter.unusedVariables false
set_option linter.unusedSimpArgs false
set_option maxRecDepth 100000
namespace Go.Sx
open Go.Proofs
def RQ (h:Hp) (A:Nat) (us ts:List Tok) (d:Int) (e:Nat):Prop:=∃ k,RB h A us k d e∧ts=us.drop k
theorem RQ.keep {ws:List Nat} {h h':Hp} {A:Nat} {us ts:List Tok} {d:Int} {e:Nat} (b:RQ h A us ts d e) (c:Ch ws h h') (hw:∀ i,i∈ws→A<i):RQ h' A us ts d e:=by
 obtain ⟨k,b,ht⟩:=b
 exact ⟨k,b.keep c hw,ht⟩
theorem RQ.lt {h:Hp} {A:Nat} {us ts:List Tok} {d:Int} {e:Nat} (b:RQ h A us ts d e):A<h.size:=by
 obtain ⟨k,b,ht⟩:=b
 exact b.lt
def ResR (h:Hp) (A:Nat) (us:List Tok) (n:Nat) (d:Int) (res:PRes) (v:Value) (h':Hp):Prop :=
 Ch [A] h h'∧∃ x p l c ts' d' e',v=linV p l c x∧SL h' h.size 109 2 p l c (x.terms.map encT)∧Good x∧RQ h' A us ts' d' e'∧PostR n d x ts' d' e' res
section rules
variable {L:Lp} {K:Value→Hp→Prop} {h:Hp}
theorem outR {h hx:Hp} {A:Nat} {us ts':List Tok} {n:Nat} {d d':Int} {res:PRes} {g1 g4 b:Nat} {x:Lin} {p:Option Addr} {l c e':Nat} {L:Lp} (kx:Ch [A] h hx) (hg1:h.size≤g1) (hAg:A<g1) (b1:Box hx g1 94 [.slice none 0 0,.int .u32 0]) (b4:Box hx g4 94 [.slice p l c,.int .u32 (x.num:Int)])
  (s:SL hx b 109 2 p l c (x.terms.map encT)) (hb:g1<b) (gx:Good x) (rq:RQ hx A us ts' d' e') (post:PostR n d x ts' d' e' res) :
  (T.loads ⟨g4,0,none⟩ [.slice 109,.int .u32] fun (p:Option Addr) (l c:Nat) (n:Int)=>T.stores ⟨g1,0,none⟩ [.slice p l c,.int .u32 n] <| T.loads ⟨g1,0,none⟩ [.slice 109,.int .u32] fun (p:Option Addr) (l c:Nat) (n:Int)=>T.ret (.agg #[.slice p l c,.int .u32 n])) L (ResR h A us n d res) hx:=by
 refine loads_box b4 ((p,l,c),(x.num:Int),()) rfl ?_
 dsimp only [flat,unc,unc1,nA,cA]
 refine stores_of b1 rfl (by simp) ?_
 intro h7 b7 k7 z7
 have b7:Box h7 g1 94 [.slice p l c,.int .u32 (x.num:Int)]:=b7
 refine loads_box b7 ((p,l,c),(x.num:Int),()) rfl ?_
 exact ⟨Ch.trans kx k7 (fun j hj hl=>by simp at hj; omega),x,p,l,c,ts',d',e',rfl,(s.keep' k7 (fun j hj=>by have:=(s.blk hj).1; simp; omega)).mono (by omega),gx,rq.keep k7 (by simp; omega),post⟩
end rules
theorem drop_lt {α:Type} {l r:List α} {p:α} {i:Nat} (h:l.drop i=p::r):i<l.length:=by
 rcases Nat.lt_or_ge i l.length with h1 | h1
 ·exact h1
 ·rw [List.drop_eq_nil_of_le h1] at h; cases h
end Go.Sx
set_option linter.unusedVariables false
set_option linter.unusedSimpArgs false
set_option maxRecDepth 100000
namespace Go.Sx.Ob
open Go.Proofs
structure VwA (h:Hp) (p:Option Addr) (l:Nat) (al:List In):Prop where
 len:l=al.length
 cells:∀ k,(hk:k<al.length)→∃ a,p=some a∧cellsAt h (a.add (k*1)) 0 al[k].val
 inn:∀ a,a∈al→Vw h a.p a.l a.c a.ts
 blk:∀ a,a∈al→∀ i,i∈blkOf a.p→i<h.size
 wf:∀ a,a∈al→Wf a.ts
 many:∀ a,a∈al→a.ts.length≤2^40
 ne:∀ a,a∈al→a.ts≠[]
 text:∀ a,a∈al→∀ t,t∈a.ts→t.text.size≤9223372036854775807
theorem VwA.keep {h h':Hp} {p:Option Addr} {l:Nat} {al:List In} (v:VwA h p l al) (e:Ext h h'):VwA h' p l al :=
 ⟨v.len,fun k hk=>by
  obtain ⟨a,ha,hc⟩:=v.cells k hk
  exact ⟨a,ha,cellsAt_keep e (by simp) _ _ hc⟩,fun a ha=>(v.inn a ha).keep e (by simp),fun a ha i hi=>Nat.lt_of_lt_of_le (v.blk a ha i hi) e.size,v.wf,v.many,v.ne,v.text⟩
theorem VwA.of {h:Hp} {b:Nat} {te es:TypeId} {p:Option Addr} {c:Nat} {al:List In} (A:Args h b te es p c al) (w:∀ a,a∈al→Wf a.ts∧a.ts.length≤2^40∧a.ts≠[]∧∀ t,t∈a.ts→t.text.size≤9223372036854775807):VwA h p al.length al:=by
 refine ⟨rfl,fun k hk=>?_,fun a ha=>(A.inn a ha).vw,fun a ha i hi=>((A.inn a ha).blk hi).2,fun a ha=>(w a ha).1,fun a ha=>(w a ha).2.1,fun a ha=>(w a ha).2.2.1,fun a ha=>(w a ha).2.2.2⟩
 obtain ⟨a,ha,hc⟩:=A.out.cells (i:=k) (by rw [List.length_map]; exact hk)
 rw [List.getElem_map] at hc
 exact ⟨a,ha,hc⟩
theorem asRR (z s t:Bool) (h:Hp) (K:Value→Hp→Prop):semW Tryz.prog (Instr.typeAssert (.iface 253 (.agg #[.bool z,.bool s,.bool t])) 20 253 true) h K=K (.tuple #[.agg #[.bool z,.bool s,.bool t],.bool true]) h:=by kernel_rfl
theorem asRC (lo hi:Int) (h:Hp) (K:Value→Hp→Prop):semW Tryz.prog (Instr.typeAssert (.iface 255 (.agg #[.int .i64 lo,.int .i64 hi])) 20 253 true) h K=K (.tuple #[.agg #[.bool false,.bool false,.bool false],.bool false]) h:=by kernel_rfl
theorem asCC (lo hi:Int) (h:Hp) (K:Value→Hp→Prop):semW Tryz.prog (Instr.typeAssert (.iface 255 (.agg #[.int .i64 lo,.int .i64 hi])) 20 255 true) h K=K (.tuple #[.agg #[.int .i64 lo,.int .i64 hi],.bool true]) h:=by kernel_rfl
theorem asRV (p:Bool) (h:Hp) (K:Value→Hp→Prop):semW Tryz.prog (Instr.typeAssert (.iface 257 (.agg #[.bool p])) 20 253 true) h K=K (.tuple #[.agg #[.bool false,.bool false,.bool false],.bool false]) h:=by kernel_rfl
theorem asCV (p:Bool) (h:Hp) (K:Value→Hp→Prop):semW Tryz.prog (Instr.typeAssert (.iface 257 (.agg #[.bool p])) 20 255 true) h K=K (.tuple #[.agg #[.int .i64 0,.int .i64 0],.bool false]) h:=by kernel_rfl
theorem asVV (p:Bool) (h:Hp) (K:Value→Hp→Prop):semW Tryz.prog (Instr.typeAssert (.iface 257 (.agg #[.bool p])) 20 257 true) h K=K (.tuple #[.agg #[.bool p],.bool true]) h:=by kernel_rfl
theorem wrap_i32 {n:Int} (h1:-2147483648≤n) (h2:n<2147483648):IntKind.wrap .i32 n=n:=by
 simp only [IntKind.wrap,IntKind.bits,IntKind.signed,Bool.true_and]
 split <;> rename_i hh
 ·have:=of_decide_eq_true hh; omega
 ·have:¬ _:=fun h=>hh (decide_eq_true h); omega
theorem s32_le (n:Nat) (h:n<4294967296):-2147483648≤s32 n∧s32 n<2147483648:=by
 unfold s32
 split <;> omega
theorem numA_32 {lo hi n:Int} {ts:List Tok} (w:Wf ts) (h:numA lo hi ts=.ok n):-2147483648≤n∧n<2147483648:=by
 unfold numA at h
 cases hx:parseX ts with
 | error e=>rw [hx] at h; cases h
 | ok x =>
  rw [hx] at h
  simp only at h
  split at h
  ·cases h
  ·injection h with h
   rw [← h]
   exact s32_le _ (parseX_good w hx).num
theorem numA_err {lo hi:Int} {ts:List Tok} {e:Nat} (w:Wf ts) (h:numA lo hi ts=.error e):e=20∨e=21:=by
 unfold numA at h
 cases hx:parseX ts with
 | error e' =>
  rw [hx] at h
  injection h with h
  subst h
  exact parseX_err w hx
 | ok x =>
  rw [hx] at h
  simp only at h
  split at h
  ·injection h with h
   exact .inr h.symm
  ·cases h
theorem regA_err {z:Bool} {ts:List Tok} {e:Nat} (h:regA z ts=.error e):e=20:=by
 unfold regA at h
 split at h
 ·split at h
  ·cases h
  ·injection h with h
   exact h.symm
 ·injection h with h
  exact h.symm
def argQ (h:Hp) (b0 B:Nat) (r:Except Nat Itm) (u:Value) (h':Hp):Prop:=Ch [B] h h'∧match r with
 | .error e=>u=.int .i64 (e:Int)∧(e=20∨e=21)∧∃ xs,Box h' B 96 xs∧xs.length=10
 | .ok y=>u=.int .i64 0∧∃ p l c,Box h' B 96 (encI p l c y)∧SL h' b0 109 2 p l c (y.e.terms.map encT)
theorem argument_hc {h:Hp} {b0 B:Nat} {x:Itm} {p:Option Addr} {l c:Nat} (b:Box h B 96 (encI p l c x)) (s:SL h b0 109 2 p l c (x.e.terms.map encT)) (hb0:b0≤h.size) (hB:B<b0) (r:Rdr)
  {q:Option Addr} {m d:Nat} {ts:List Tok} (v:Vw h q m d ts) (hq:∀ i,i∈blkOf q→i<h.size) (w:Wf ts) (hts:ts.length≤2^40) :
  HC Tryz.prog 125 #[.pointer (some ⟨B,0,none⟩),encR r,.slice q m d] h (argQ h b0 B (argA x r ts)):=by
 have hBs:=b.lt
 refine hcr_of (args:=[.pointer (some ⟨B,0,none⟩),encR r,.slice q m d]) mixed Tryz.func125 (by kernel_rfl) (t_item_argument_eq _ _ q m d) ?_
 unfold t_item_argument
 have hS:∀ {h1 h2:Hp},Ext h h1→Ch [B] h1 h2→SL h2 b0 109 2 p l c (x.e.terms.map encT):=fun e k=>(Sx.SL.keep' s e (by simp)).keep' k (fun i hi hm=>by have:=(Sx.SL.blk s hi).1; simp at hm; omega)
 have hC:∀ {h1 h2:Hp},Ext h h1→Ch [B] h1 h2→Ch [B] h h2:=fun e k=>Ch.trans (e.mono (by simp)) k (fun i hi _=>hi)
 cases r with
 | reg z s2 s3 =>
  show semW _ _ _ _
  unfold encR
  rw [asRR]
  refine ⟨(z,s2,s3,true,()),rfl,?_⟩
  dsimp only [flat,unc,unc1,nA,cA]
  refine cond_t rfl ?_
  refine newB ?_
  intro h1 b1 e1 z1
  refine stores_of b1 rfl (by simp) ?_
  intro h2 b2 k2 z2
  have b2:Box h2 h.size 253 [.bool z,.bool s2,.bool s3]:=b2
  have e2:Ext h h2:=Ch.trans e1 k2 (fun i hi hl=>by simp at hi; omega)
  refine loads_box b2 (z,()) rfl ?_
  dsimp only [flat,unc,unc1,nA,cA]
  have bB:=b.keep e2 (by simp)
  have st:∀ {L:Lp} (n e:Int) (y:Itm) (o:Nat) (val:Value),plainV val=true→o<10→(encI p l c x).set o val=encI p l c y→y.e=x.e→(∀ h',Box h' B 96 (encI p l c y)→Ch [B] h h'→SL h' b0 109 2 p l c (y.e.terms.map encT)→argQ h b0 B (argA x (.reg z s2 s3) ts) (.int .i64 e) h') →
    (T.stores ⟨B,o,none⟩ [val] <| T.ret (.int .i64 e)) L (argQ h b0 B (argA x (.reg z s2 s3) ts)) h2:=by
   intro L n e y o val hpv ho hset hy hk
   refine stores_of bB (by simp [hpv]) (by simp [encI]; omega) ?_
   intro h3 b3 k3 z3
   rw [show setL (encI p l c x) o [val]=(encI p l c x).set o val from rfl,hset] at b3
   exact hk h3 b3 (hC e2 k3) (by rw [hy]; exact hS e2 k3)
  cases hr:regA z ts with
  | error e =>
   have he:=regA_err hr
   have hA:argA x (.reg z s2 s3) ts=.error e:=by unfold argA; simp only [hr]
   refine call_p (v:=resI (regA z ts)) (reg_hc (v.keep e2 (by simp)) z) ((0:Int),(e:Int),()) (by rw [hr]; rfl) ?_
   dsimp only [flat,unc,unc1,nA,cA]
   rw [add_box]
   refine loads_box b2 (s3,()) rfl ?_
   dsimp only [flat,unc,unc1,nA,cA]
   have out:∀ {L:Lp} (o:Nat) (val:Value),plainV val=true→o<10→(T.stores ⟨B,o,none⟩ [val] <| T.ret (.int .i64 (e:Int))) L (argQ h b0 B (argA x (.reg z s2 s3) ts)) h2:=by
    intro L o val hpv ho
    refine stores_of bB (by simp [hpv]) (by simp [encI]; omega) ?_
    intro h3 b3 k3 z3
    refine ⟨hC e2 k3,?_⟩
    rw [hA]
    exact ⟨rfl,.inl he,_,b3,by rw [setL_length]; rfl⟩
   refine cond_mk (fun g=>?_) (fun g=>?_)
   ·refine osome_mk rfl ?_
    rw [add_box,add_box]
    exact out 5 _ rfl (by omega)
   ·rw [add_box]
    refine loads_box b2 (s2,()) rfl ?_
    dsimp only [flat,unc,unc1,nA,cA]
    refine cond_mk (fun g=>?_) (fun g=>?_)
    ·refine osome_mk rfl ?_
     rw [add_box,add_box]
     exact out 4 _ rfl (by omega)
    ·refine osome_mk rfl ?_
     rw [add_box,add_box]
     exact out 3 _ rfl (by omega)
  | ok n =>
   have hn:=regA_le hr
   have hn8:0≤n∧n<8:=by
    refine ⟨hn.1,?_⟩
    have:=hn.2
    split at this <;> omega
   refine call_p (v:=resI (regA z ts)) (reg_hc (v.keep e2 (by simp)) z) (n,(0:Int),()) (by rw [hr]; rfl) ?_
   dsimp only [flat,unc,unc1,nA,cA]
   rw [add_box]
   refine loads_box b2 (s3,()) rfl ?_
   dsimp only [flat,unc,unc1,nA,cA]
   have hA:argA x (.reg z s2 s3) ts=.ok (if s3 then putN x n else if s2 then putB x n else putA x n):=by unfold argA; simp only [hr]
   refine cond_mk (fun g=>?_) (fun g=>?_)
   ·refine osome_mk rfl ?_
    rw [add_box,add_box,wrap_i32 (by omega) (by omega)]
    refine st n 0 (putN x n) 5 _ rfl (by omega) rfl rfl ?_
    intro h' b' k' s'
    refine ⟨k',?_⟩
    rw [hA,if_pos g]
    exact ⟨rfl,p,l,c,b',s'⟩
   ·rw [add_box]
    refine loads_box b2 (s2,()) rfl ?_
    dsimp only [flat,unc,unc1,nA,cA]
    refine cond_mk (fun g'=>?_) (fun g'=>?_)
    ·refine osome_mk rfl ?_
     rw [add_box,add_box]
     refine st n 0 (putB x n) 4 _ rfl (by omega) rfl rfl ?_
     intro h' b' k' s'
     refine ⟨k',?_⟩
     rw [hA,if_neg (by rw [g]; simp),if_pos g']
     exact ⟨rfl,p,l,c,b',s'⟩
    ·refine osome_mk rfl ?_
     rw [add_box,add_box]
     refine st n 0 (putA x n) 3 _ rfl (by omega) rfl rfl ?_
     intro h' b' k' s'
     refine ⟨k',?_⟩
     rw [hA,if_neg (by rw [g]; simp),if_neg (by rw [g']; simp)]
     exact ⟨rfl,p,l,c,b',s'⟩
 | con lo hi =>
  show semW _ _ _ _
  unfold encR
  rw [asRC]
  refine ⟨(false,false,false,false,()),rfl,?_⟩
  dsimp only [flat,unc,unc1,nA,cA]
  refine cond_f rfl ?_
  show semW _ _ _ _
  rw [asCC]
  refine ⟨(lo,hi,true,()),rfl,?_⟩
  dsimp only [flat,unc,unc1,nA,cA]
  refine cond_t rfl ?_
  refine newB ?_
  intro h1 b1 e1 z1
  refine stores_of b1 rfl (by simp) ?_
  intro h2 b2 k2 z2
  have b2:Box h2 h.size 255 [.int .i64 lo,.int .i64 hi]:=b2
  have e2:Ext h h2:=Ch.trans e1 k2 (fun i hi hl=>by simp at hi; omega)
  refine loads_box b2 (lo,()) rfl ?_
  dsimp only [flat,unc,unc1,nA,cA]
  rw [add_box]
  refine loads_box b2 (hi,()) rfl ?_
  dsimp only [flat,unc,unc1,nA,cA]
  refine call_of (numArg_hc (v.keep e2 (by simp)) (fun i hi=>Nat.lt_of_lt_of_le (hq i hi) e2.size) w hts lo hi) ?_
  rintro _ h3 ⟨rfl,e3⟩
  have e3:=e2.trans e3
  have bB:=b.keep e3 (by simp)
  cases hr:numA lo hi ts with
  | error e =>
   have he:=numA_err w hr
   refine ⟨((0:Int),(e:Int),()),rfl,?_⟩
   dsimp only [flat,unc,unc1,nA,cA]
   refine osome_mk rfl ?_
   rw [add_box,add_box]
   refine stores_of bB rfl (by simp [encI]) ?_
   intro h4 b4 k4 z4
   refine ⟨hC e3 k4,?_⟩
   rw [show argA x (.con lo hi) ts=.error e by unfold argA; simp only [hr]]
   exact ⟨rfl,he,_,b4,by rw [setL_length]; rfl⟩
  | ok n =>
   have hn:=numA_32 w hr
   refine ⟨(n,(0:Int),()),rfl,?_⟩
   dsimp only [flat,unc,unc1,nA,cA]
   refine osome_mk rfl ?_
   rw [add_box,add_box,wrap_i32 hn.1 hn.2]
   refine stores_of bB rfl (by simp [encI]) ?_
   intro h4 b4 k4 z4
   refine ⟨hC e3 k4,?_⟩
   rw [show argA x (.con lo hi) ts=.ok (putN x n) by unfold argA; simp only [hr]]
   exact ⟨rfl,p,l,c,b4,hS e3 k4⟩
 | val pool =>
  show semW _ _ _ _
  unfold encR
  rw [asRV]
  refine ⟨(false,false,false,false,()),rfl,?_⟩
  dsimp only [flat,unc,unc1,nA,cA]
  refine cond_f rfl ?_
  show semW _ _ _ _
  rw [asCV]
  refine ⟨((0:Int),(0:Int),false,()),rfl,?_⟩
  dsimp only [flat,unc,unc1,nA,cA]
  refine cond_f rfl ?_
  show semW _ _ _ _
  rw [asVV]
  refine ⟨(pool,true,()),rfl,?_⟩
  dsimp only [flat,unc,unc1,nA,cA]
  refine cond_t rfl ?_
  refine newB ?_
  intro h1 b1 e1 z1
  refine stores_of b1 rfl (by simp) ?_
  intro h2 b2 k2 z2
  have b2:Box h2 h.size 257 [.bool pool]:=b2
  have e2:Ext h h2:=Ch.trans e1 k2 (fun i hi hl=>by simp at hi; omega)
  refine loads_box b2 (pool,()) rfl ?_
  dsimp only [flat,unc,unc1,nA,cA]
  have bB:=b.keep e2 (by simp)
  have put:∀ {L:Lp} {us:List Tok} {h3:Hp} {u:Value},Wf us→argA x (.val pool) ts=(match parseX us with | .error e=>.error e | .ok y=>.ok (putE x y))→ParseP h2 (parseX us) u h3 →
    ∃ y:HVs (flat [(true,[.slice 109,.int .u32]),(false,[.int .i64])]),u=rv true [(true,[.slice 109,.int .u32]),(false,[.int .i64])] (hvs _ y)∧@unc (flat [(true,[.slice 109,.int .u32]),(false,[.int .i64])]) T (fun (p18:Option Addr) (l19:Nat) (l20:Nat) (n21:Int) (n22:Int) =>
    T.osome (some (⟨B,0,none⟩:Addr)) <| fun (a23:Addr) =>
    T.stores (a23.add 7) [.slice p18 l19 l20,.int .u32 n21] <|
    T.ret (.int .i64 n22)) y L (argQ h b0 B (argA x (.val pool) ts)) h3:=by
   rintro L us h3 u hw hA ⟨e3,hu⟩
   have e3:=e2.trans e3
   cases hx:parseX us with
   | error e =>
    rw [hx] at hu hA
    have he:=parseX_err hw hx
    have hu:u=.tuple #[.agg #[.slice none 0 0,.int .u32 0],.int .i64 (e:Int)]:=hu
    subst hu
    refine ⟨((none,0,0),(0:Int),(e:Int),()),rfl,?_⟩
    dsimp only [flat,unc,unc1,nA,cA]
    refine osome_mk rfl ?_
    rw [add_box]
    refine stores_of (b.keep e3 (by simp)) rfl (by simp [encI]) ?_
    intro h4 b4 k4 z4
    refine ⟨hC e3 k4,?_⟩
    rw [hA]
    exact ⟨rfl,he,_,b4,by rw [setL_length]; rfl⟩
   | ok y =>
    rw [hx] at hu hA
    obtain ⟨p5,l5,c5,rfl,sl,gd⟩:=hu
    refine ⟨((p5,l5,c5),(y.num:Int),(0:Int),()),rfl,?_⟩
    dsimp only [flat,unc,unc1,nA,cA]
    refine osome_mk rfl ?_
    rw [add_box]
    refine stores_of (b.keep e3 (by simp)) rfl (by simp [encI]) ?_
    intro h4 b4 k4 z4
    refine ⟨hC e3 k4,?_⟩
    rw [hA]
    have hz:=e2.size
    exact ⟨rfl,p5,l5,c5,b4,((Sx.SL.mono sl (by omega)).keep' k4 (fun i hi hm=>by have:=(Sx.SL.blk sl hi).1; simp at hm; omega))⟩
  have v2:=v.keep e2 (by simp)
  have hq2:∀ i,i∈blkOf q→i<h2.size:=fun i hi=>Nat.lt_of_lt_of_le (hq i hi) e2.size
  cases pool with
  | false =>
   refine cond_f rfl ?_
   refine call_of (parse46_hc v2 hq2 w hts) ?_
   intro u h3 hu
   refine put w ?_ hu
   unfold argA valA
   rfl
  | true =>
   refine cond_t rfl ?_
   have hl:=v.len
   have bad:argA x (.val true) ts=.error 20→argQ h b0 B (argA x (.val true) ts) (.int .i64 20) h2:=by
    intro hA
    refine ⟨e2.mono (by simp),?_⟩
    rw [hA]
    exact ⟨rfl,.inl rfl,_,bB,rfl⟩
   refine cond_mk (fun g=>?_) (fun g=>?_)
   ·have g:m=0:=eqN_t g
    refine bad ?_
    have:ts=[]:=List.eq_nil_of_length_eq_zero (by omega)
    subst this
    rfl
   have g:¬ m=0:=eqN_f g
   cases ts with
   | nil=>simp at hl; omega
   | cons t r =>
    obtain ⟨a,rfl,c0⟩:=v2.cells 0 (by simp)
    have c0:cellsAt h2 (a.add (0*4)) 0 (enc t):=c0
    obtain ⟨q1,q2,_⟩:=tok_cells c0
    refine need_of ⟨by omega,by omega⟩ (osome_mk rfl (loads_of ((t.kind:Int),()) q1 ?_))
    dsimp only [flat,unc,unc1,nA,cA]
    refine cond_mk (fun g3=>?_) (fun g3=>?_)
    ·have g3:¬ t.kind=3:=by
      have:¬ (t.kind:Int)=3:=by simpa using g3
      omega
     refine bad ?_
     have:isS t 61=false:=by unfold isS; rw [beq_false_of_ne g3]; rfl
     unfold argA valA
     simp [this]
    have g3:t.kind=3:=by
     have:(t.kind:Int)=3:=by simpa using g3
     omega
    refine need_of ⟨by omega,by omega⟩ (osome_mk rfl (loads_of (t.text,()) q2 ?_))
    dsimp only [flat,unc,unc1,nA,cA]
    have hs:(ByteArray.toList t.text==[({ toBitVec:=61#8 }:UInt8)])=isS t 61:=by
     unfold isS
     rw [g3,ByteArray.toList_eq]
     rfl
    rw [hs]
    refine cond_mk (fun g4=>?_) (fun g4=>?_)
    ·have g4:isS t 61=false:=by simpa using g4
     refine bad ?_
     unfold argA valA
     simp [g4]
    have g4:isS t 61=true:=by simpa using g4
    refine need_of ⟨by omega,by simp at hl; omega,by have:=v.cap; omega⟩ ?_
    have vd:=v2.drop (k:=1) (by simp at hl; omega)
    refine call_of (args:=[.slice _ _ _]) (parse46_hc (ts:=r) (p:=if d=1 then some a else Option.map (fun a=>Addr.add a 4) (some a)) (l:=m-1) (c:=d-1) vd ?_ w.tail (by simp at hts; omega)) ?_
    ·intro i hi
     rw [show blkOf (if d=1 then some a else Option.map (fun a=>Addr.add a 4) (some a))=blkOf (some a) from blkOf_if _ _ _ _] at hi
     exact hq2 i hi
    ·intro u h3 hu
     refine put w.tail ?_ hu
     unfold argA valA
     simp only [g4,if_true]
     all_goals (cases parseX r <;> rfl)
theorem argA_err {x:Itm} {r:Rdr} {ts:List Tok} {e:Nat} (w:Wf ts) (h:argA x r ts=.error e):e=20∨e=21:=by
 unfold argA at h
 cases r with
 | reg z s t =>
  simp only at h
  cases hr:regA z ts with
  | error e' =>
   rw [hr] at h
   injection h with h
   subst h
   exact .inl (regA_err hr)
  | ok n=>rw [hr] at h; cases h
 | con lo hi =>
  simp only at h
  cases hr:numA lo hi ts with
  | error e' =>
   rw [hr] at h
   injection h with h
   subst h
   exact numA_err w hr
  | ok n=>rw [hr] at h; cases h
 | val p =>
  simp only at h
  cases hr:valA p ts with
  | error e' =>
   rw [hr] at h
   injection h with h
   subst h
   unfold valA at hr
   split at hr
   ·exact parseX_err w hr
   ·split at hr
    ·injection hr with hr
     exact .inl hr.symm
    ·split at hr
     ·exact parseX_err w.tail hr
     ·injection hr with hr
      exact .inl hr.symm
  | ok n=>rw [hr] at h; cases h
def itmQ (h:Hp) (r:Except Nat Itm) (u:Value) (h':Hp):Prop:=Ext h h'∧match r with
 | .error e=>u=.tuple #[itmV none 0 0 (itm 0),.int .i64 (e:Int)]
 | .ok y=>∃ p l c,u=.tuple #[itmV p l c y,.int .i64 0]∧SL h' h.size 109 2 p l c (y.e.terms.map encT)
def zI:List Value:=[.int .i64 (0:Int),.string ⟨#[]⟩,.int .i64 (0:Int),.int .i64 (0:Int),.int .i64 (0:Int),.int .i32 (0:Int),.int .i64 (0:Int),.slice none 0 0,.int .u32 (0:Int),.int .i64 (0:Int)]
theorem code_hc {h:Hp} (t:Tab h) {op:Nat} (h1:1≤op) (h2:op≤43) {p:Option Addr} {l c:Nat} {al:List In} (v:VwA h p l al) (hal:al.length≤2^40) :
  HC Tryz.prog 99 #[.int .i64 (op:Int),.slice p l c] h (itmQ h (codeA (op:Int) (al.map In.ts))):=by
 refine hcr_of (args:=[.int .i64 (op:Int),.slice p l c]) mixed Tryz.func99 (by kernel_rfl) (t_item_code_eq op p l c) ?_
 unfold t_item_code
 refine newB ?_
 intro g1 b1 e1 z1
 refine call_of (at_hc (t.keep e1 (by simp)) (op:Int) (by omega) (by omega)) ?_
 rintro _ g2 ⟨s,b,rfl,e2⟩
 refine ⟨(s,b,(shp (op:Int):Int),decide (shp (op:Int)≠0),()),rfl,?_⟩
 dsimp only [flat,unc,unc1,nA,cA]
 refine newB ?_
 intro g3 b3 e3 z3
 refine stores_of b3 rfl (by simp) ?_
 intro g4 b4 k4 z4
 have b4:Box g4 g2.size 158 [.string s,.int .u8 b,.int .i64 (shp (op:Int):Int)]:=b4
 have e24:Ext g2 g4:=Ch.trans e3 k4 (fun i hi hl=>by simp at hi; omega)
 have e04:Ext h g4:=(e1.trans e2).trans e24
 rw [add_box]
 refine loads_box b4 ((shp (op:Int):Int),()) rfl ?_
 dsimp only [flat,unc,unc1,nA,cA]
 refine call_of (readers_hc (shp (op:Int)) g4) ?_
 rintro _ g5 ⟨pr,cr,rfl,sr,e5⟩
 refine ⟨((pr,(rdrs (shp (op:Int))).length,cr),()),rfl,?_⟩
 dsimp only [flat,unc,unc1,nA,cA]
 have e05:=e04.trans e5
 have b1:Box g5 h.size 96 zI:=((b1.keep e2 (by simp)).keep e24 (by simp)).keep e5 (by simp)
 have hl:=v.len
 have out:∀ {L:Lp} {gg:Hp} {e:Nat},Ext h gg→(∃ xs,Box gg h.size 96 xs∧xs.length=10)→codeA (op:Int) (al.map In.ts)=.error e →
   (T.stores ⟨h.size,0,none⟩ zI <|
   T.loads ⟨h.size,0,none⟩ [.int .i64,.string,.int .i64,.int .i64,.int .i64,.int .i32,.int .i64,.slice 109,.int .u32,.int .i64] <| fun (n12:Int) (s13:ByteArray) (n14:Int) (n15:Int) (n16:Int) (n17:Int) (n18:Int) (p19:Option Addr) (l20:Nat) (l21:Nat) (n22:Int) (n23:Int) =>
   T.ret (.tuple #[.agg #[.int .i64 n12,.string s13,.int .i64 n14,.int .i64 n15,.int .i64 n16,.int .i32 n17,.int .i64 n18,.slice p19 l20 l21,.int .u32 n22,.int .i64 n23],.int .i64 (e:Int)])) L (itmQ h (codeA (op:Int) (al.map In.ts))) gg:=by
  rintro L gg e eg ⟨xs,bx,hx⟩ hA
  refine stores_of bx rfl (by rw [hx]; simp [zI]) ?_
  intro g' b' k' z'
  rw [setL_eq _ _ _ (by rw [hx]; simp [zI])] at b'
  have hd:xs.drop 10=[]:=List.drop_of_length_le (by omega)
  have b':Box g' h.size 96 zI:=by simpa [zI,hx,hd] using b'
  refine loads_box b' ((0:Int),(⟨#[]⟩:ByteArray),(0:Int),(0:Int),(0:Int),(0:Int),(0:Int),(none,0,0),(0:Int),(0:Int),()) rfl ?_
  refine ⟨Ch.trans eg k' (fun i hi hl=>by simp at hi; omega),?_⟩
  rw [hA]
  rfl
 refine cond_mk (fun q=>?_) (fun q=>?_)
 ·have q:¬ (rdrs (shp (op:Int))).length=l:=by
   have:¬ ((rdrs (shp (op:Int))).length:Int)=l:=by simpa using q
   omega
  exact out e05 ⟨_,b1,rfl⟩ (by unfold codeA; rw [if_pos (by rw [List.length_map]; omega)])
 have q:(rdrs (shp (op:Int))).length=l:=by
  have:((rdrs (shp (op:Int))).length:Int)=l:=by simpa using q
  omega
 have hcode:codeA (op:Int) (al.map In.ts)=codeL (code0 (op:Int)) (rdrs (shp (op:Int))) (al.map In.ts):=by
  unfold codeA
  rw [if_neg (by rw [List.length_map]; omega)]
 refine newB ?_
 intro g6 b6 e6 z6
 refine stores_of b6 rfl (by simp) ?_
 intro g7 b7 k7 z7
 have b7:Box g7 g5.size 96 (encI none 0 0 (code0 (op:Int))):=b7
 have e57:Ext g5 g7:=Ch.trans e6 k7 (fun i hi hl=>by simp at hi; omega)
 have e07:=e05.trans e57
 have b17:=b1.keep e57 (by simp)
 have sr7:=sr.keep' e57 (by simp)
 have hz5:=e05.size
 have hlt1:=b1.lt
 refine loop_of (cs:=[(false,[.int .i64]),(false,[.int .i64])]) (fun x n h'=>∃ (k:Nat) (y:Itm),x.2.1=(k:Int)∧k≤l∧n=l-k∧Ext g7 h'=Ext g7 h'∧Ch [g5.size] g7 h'∧codeL (code0 (op:Int)) (rdrs (shp (op:Int))) (al.map In.ts)=codeL y ((rdrs (shp (op:Int))).drop k) ((al.map In.ts).drop k) ∧
   ∃ p' l' c',Box h' g5.size 96 (encI p' l' c' y)∧SL h' (g5.size+1) 109 2 p' l' c' (y.e.terms.map encT)) ((0:Int),(0:Int),()) l rfl ⟨0,_,rfl,by omega,by omega,rfl,Ch.refl _ _,rfl,none,0,0,b7,SL.nil _ _ _ _⟩ ?_
 rintro ⟨n13,n14,⟨⟩⟩ n g8 ⟨k,y,hk,hkl,rfl,_,k8,hcl,p',l',c',b8,s8⟩
 simp only at hk
 subst hk
 dsimp only [flat,unc,unc1,nA,cA]
 have e58:Ext g5 g8:=Ch.trans e57 k8 (fun i hi hl=>by simp at hi; omega)
 have e08:=e05.trans e58
 have hz7:g7.size=g5.size+1:=by rw [z7,z6]
 refine cond_mk (fun r=>?_) (fun r=>?_)
 ·have r:=of_decide_eq_true r
  have hkr:k<(rdrs (shp (op:Int))).length:=by omega
  have hka:k<al.length:=by omega
  obtain ⟨ar,har,hcr⟩:=(sr.keep' e58 (by simp)).cells (i:=k) (by rw [List.length_map]; exact hkr)
  rw [List.getElem_map] at hcr
  obtain ⟨aa,haa,hca⟩:=(v.keep e08).cells k hka
  refine need_of ⟨by omega,by omega⟩ (osome_mk har ?_)
  rw [show Int.toNat (k:Int)=k by omega]
  refine loads_of (encR ((rdrs (shp (op:Int)))[k]),()) hcr ?_
  dsimp only [flat,unc,unc1,nA,cA]
  refine need_of ⟨by omega,by omega⟩ (osome_mk haa ?_)
  have hmem:al[k]∈al:=List.getElem_mem hka
  have hdr:(rdrs (shp (op:Int))).drop k=(rdrs (shp (op:Int)))[k]::(rdrs (shp (op:Int))).drop (k+1):=List.drop_eq_getElem_cons hkr
  have hda:(al.map In.ts).drop k=al[k].ts::(al.map In.ts).drop (k+1):=by
   rw [List.drop_eq_getElem_cons (by rw [List.length_map]; exact hka),List.getElem_map]
  rw [hdr,hda] at hcl
  simp only [codeL] at hcl
  generalize (rdrs (shp (op:Int)))[k]=rr at hcl ⊢
  generalize al[k]=a at hcl hca hmem ⊢
  refine loads_of ((a.p,a.l,a.c),()) hca ?_
  dsimp only [flat,unc,unc1,nA,cA]
  have hz8:g7.size≤g8.size:=k8.size
  refine call_of (argument_hc b8 s8 (by omega) (by omega) rr ((v.keep e08).inn a hmem) ((v.keep e08).blk a hmem) (v.wf a hmem) (v.many a hmem)) ?_
  rintro u g9 ⟨k9,hu⟩
  have e59:Ext g5 g9:=Ch.trans e58 k9 (fun i hi hl=>by simp at hi; omega)
  cases hA:argA y rr a.ts with
  | error e =>
   rw [hA] at hu hcl
   obtain ⟨rfl,he,xs,bx,hx⟩:=hu
   refine ⟨((e:Int),()),rfl,?_⟩
   dsimp only [flat,unc,unc1,nA,cA]
   refine cond_t (by simp; omega) ?_
   exact out (e05.trans e59) ⟨_,b1.keep e59 (by simp),rfl⟩ (by rw [hcode,hcl])
  | ok y' =>
   rw [hA] at hu hcl
   obtain ⟨rfl,p2,l2,c2,b9,s9⟩:=hu
   refine ⟨((0:Int),()),rfl,?_⟩
   dsimp only [flat,unc,unc1,nA,cA]
   refine cond_f rfl ?_
   have hw:IntKind.wrap .i64 ((k:Int)+1)=((k+1:Nat):Int):=by rw [wrap_i64 (by omega) (by omega)]; omega
   refine again_mk (cs:=[(false,[.int .i64]),(false,[.int .i64])]) (n13,((k+1:Nat):Int),()) (l-(k+1)) rfl (by omega) (by rw [hw]; rfl) ⟨k+1,y',rfl,by omega,rfl,rfl,Ch.trans k8 k9 (fun i hi _=>hi),hcl,p2,l2,c2,b9,s9⟩
 ·have r:=of_decide_eq_false r
  have hkl2:k=l:=by omega
  have hcl2:codeA (op:Int) (al.map In.ts)=.ok y:=by
   rw [hcode,hcl,List.drop_of_length_le (by omega)]
   rfl
  refine loads_box b8 (y.kind,y.name,y.inst.op,y.inst.a,y.inst.b,y.inst.n,y.inst.form,(p',l',c'),(y.e.num:Int),y.n,()) rfl ?_
  dsimp only [flat,unc,unc1,nA,cA]
  refine stores_of (b1.keep e58 (by simp)) rfl (by simp [zI]) ?_
  intro g9 b9 k9 z9
  have b9:Box g9 h.size 96 (encI p' l' c' y):=b9
  refine loads_box b9 (y.kind,y.name,y.inst.op,y.inst.a,y.inst.b,y.inst.n,y.inst.form,(p',l',c'),(y.e.num:Int),y.n,()) rfl ?_
  refine ⟨Ch.trans e08 k9 (fun i hi hl=>by simp at hi; omega),?_⟩
  rw [hcl2]
  refine ⟨p',l',c',rfl,(Sx.SL.mono s8 (by omega)).keep' k9 (fun i hi hm=>by have:=(Sx.SL.blk s8 hi).1; simp at hm; omega)⟩
def encD (u:Sli × Itm):List Value:=encI u.1.p u.1.l u.1.c u.2
structure ItsAt (h:Hp) (b:Nat) (p:Option Addr) (l c:Nat) (us:List (Sli × Itm)):Prop where
 out:SL h b 96 10 p l c (us.map encD)
 own:∀ u,u∈us→SL h b 109 2 u.1.p u.1.l u.1.c (u.2.e.terms.map encT)
 po:∀ u,u∈us→∀ i,i∈blkOf u.1.p→i∉blkOf p
 pp:us.Pairwise fun u v=>∀ i,i∈blkOf u.1.p→i∉blkOf v.1.p
theorem ItsAt.len {h:Hp} {b:Nat} {p:Option Addr} {l c:Nat} {us:List (Sli × Itm)} (A:ItsAt h b p l c us):l=us.length:=by rw [A.out.1,List.length_map]
theorem ItsAt.keep {ws:List Nat} {h h':Hp} {b:Nat} {p:Option Addr} {l c:Nat} {us:List (Sli × Itm)} (A:ItsAt h b p l c us) (k:Ch ws h h') (hw:∀ i,i∈ws→i<h.size→i<b):ItsAt h' b p l c us :=
 ⟨SL.keepN A.out k hw,fun u hu=>SL.keepN (A.own u hu) k hw,A.po,A.pp⟩
theorem ItsAt.mono {h:Hp} {b b':Nat} {p:Option Addr} {l c:Nat} {us:List (Sli × Itm)} (A:ItsAt h b p l c us) (hb:b'≤b):ItsAt h b' p l c us :=
 ⟨Sx.SL.mono A.out hb,fun u hu=>Sx.SL.mono (A.own u hu) hb,A.po,A.pp⟩
theorem ItsAt.nil (h:Hp) (b:Nat):ItsAt h b none 0 0 []:=⟨SL.nil _ _ _ _,by simp,by simp,List.Pairwise.nil⟩
theorem ItsAt.snoc {h h':Hp} {b:Nat} {p p':Option Addr} {l c c':Nat} {us:List (Sli × Itm)} (A:ItsAt h b p l c us) {u:Sli × Itm} (o:SL h' b 96 10 p' (l+1) c' (us.map encD++[encD u])) (k:Ch (blkOf p) h h') (hp:p'=p∨∃ x,p'=some x∧h.size≤x.block)
  (ha:SL h b 109 2 u.1.p u.1.l u.1.c (u.2.e.terms.map encT)) (h1:∀ i,i∈blkOf u.1.p→i∉blkOf p) (h2:∀ x,x∈us→∀ i,i∈blkOf x.1.p→i∉blkOf u.1.p):ItsAt h' b p' (l+1) c' (us++[u]):=by
 have hp':∀ i,i∈blkOf p'→i∈blkOf p∨h.size≤i:=by
  intro i hi
  rcases hp with rfl | ⟨x,rfl,hx⟩
  ·exact .inl hi
  ·simp [blkOf] at hi; right; omega
 refine ⟨by rw [List.map_append]; exact o,fun x hx=>?_,fun x hx i hi hh=>?_,List.pairwise_append.2 ⟨A.pp,by simp,fun x hx y hy i hi=>?_⟩⟩
 ·rcases List.mem_append.1 hx with hx | hx
  ·exact Sx.SL.keep' (A.own x hx) k fun i hi=>A.po x hx i hi
  ·have hx:x=u:=by simpa using hx
   subst hx
   exact Sx.SL.keep' ha k h1
 ·rcases List.mem_append.1 hx with hx | hx
  ·rcases hp' i hh with h' | h'
   ·exact A.po x hx i hi h'
   ·have:=(Sx.SL.blk (A.own x hx) hi).2; omega
  ·have hx:x=u:=by simpa using hx
   subst hx
   rcases hp' i hh with h' | h'
   ·exact h1 i hi h'
   ·have:=(Sx.SL.blk ha hi).2; omega
 ·have hy:y=u:=by simpa using hy
  subst hy
  exact h2 x hx i hi
theorem undI:Tryz.prog.underlying 23=some (.slice 96):=by kernel_rfl
theorem itmZI:(Tryz.prog.info? 96).map (fun i=>(i.zero,i.size,i.bytes))=some (some (.agg zI.toArray),10,104):=by kernel_rfl
theorem fillI (p:Option Addr) (l c:Nat) (x:Itm):Instr.fill (fun j=>some (j*10,10)) ((Array.range (1*10)).map ((Value.agg zI.toArray).cells[· % (Value.agg zI.toArray).cells.size]!)) [(0,.agg (encI p l c x).toArray)]=some (encI p l c x).toArray:=by kernel_rfl
theorem SL.one10 {h:Hp} {b g:Nat} {xs:List Value} (bx:Box h g 96 xs) (hb:b≤g) (hn:xs.length=10):SL h b 96 10 (some ⟨g,0,none⟩) 1 1 [xs]:=by
 refine ⟨rfl,by simpa using hn,g,[],[],rfl,hb,⟨Nat.le_refl _,by omega⟩,?_,by simp⟩
 simpa using bx
section
variable {L:Lp} {K:Value→Hp→Prop} {h:Hp}
theorem lit1_of {k:Option Addr→Nat→Nat→T} {p:Option Addr} {l c:Nat} {x:Itm} (hk:∀ h',SL h' h.size 96 10 (some ⟨h.size,0,none⟩) 1 1 [encI p l c x]→Ext h h'→h'.size=h.size+1→k (some ⟨h.size,0,none⟩) 1 1 L K h') :
  T.sem Tryz.prog (Instr.buildSlice 23 1 #[(0,.agg (encI p l c x).toArray)]) false [(false,[.slice 0])] k L K h:=by
 refine lit_of undI itmZI (by omega) (by omega) (fillI p l c x) ?_
 intro h' b e z
 exact hk h' (SL.one10 b (Nat.le_refl _) rfl) e z
end
def thgV (k:Int) (a:Sli) (s:ByteArray) (b:Sli) (n sec:Int):Value:=.agg #[.int .i64 k,a.v,.string s,b.v,.int .u32 n,.int .i64 sec]
structure ThgAt (h:Hp) (b:Nat) (t:Thg) (sl:Sli) (us:List (Sli × Itm)) (se:Sli):Prop where
 its:ItsAt h b sl.p sl.l sl.c us
 eq:us.map (·.2)=t.items
 e:SL h b 109 2 se.p se.l se.c (t.e.terms.map encT)
 apt:us=[]∨se.p=none
theorem ThgAt.keep {ws:List Nat} {h h':Hp} {b:Nat} {t:Thg} {sl:Sli} {us:List (Sli × Itm)} {se:Sli} (A:ThgAt h b t sl us se) (k:Ch ws h h') (hw:∀ i,i∈ws→i<h.size→i<b):ThgAt h' b t sl us se :=
 ⟨A.its.keep k hw,A.eq,SL.keepN A.e k hw,A.apt⟩
theorem ThgAt.mono {h:Hp} {b b':Nat} {t:Thg} {sl:Sli} {us:List (Sli × Itm)} {se:Sli} (A:ThgAt h b t sl us se) (hb:b'≤b):ThgAt h b' t sl us se:=⟨A.its.mono hb,A.eq,Sx.SL.mono A.e hb,A.apt⟩
def itsR (k:Nat) (args:List (List Tok)):Except Nat (List Itm):=if args=[] then .error 20 else itemsA k args
def itsQ (h:Hp) (r:Except Nat (List Itm)) (u:Value) (h':Hp):Prop:=Ext h h'∧match r with
 | .error e=>u=.tuple #[.slice none 0 0,.int .i64 (e:Int)]∧(e=20∨e=21)
 | .ok l=>∃ p n c us,u=.tuple #[.slice p n c,.int .i64 0]∧ItsAt h' h.size p n c us∧us.map (·.2)=l
theorem itemA_5 (ts:List Tok):itemA 5 ts=match numA (-128) 255 ts with | .error e=>.error e | .ok n=>.ok { itm 5 with n:=n }:=by
 unfold itemA
 rw [if_pos rfl]
 all_goals (cases numA (-128) 255 ts <;> rfl)
theorem itemA_6 (ts:List Tok):itemA 6 ts=match parseX ts with | .error e=>.error e | .ok x=>.ok { itm 6 with e:=x }:=by
 unfold itemA
 rw [if_neg (by decide)]
 all_goals (cases parseX ts <;> rfl)
theorem items_hc {h:Hp} {k:Nat} (hk56:k=5∨k=6) {p:Option Addr} {l c:Nat} {al:List In} (v:VwA h p l al) (hal:al.length≤2^32) :
  HC Tryz.prog 128 #[.int .i64 (k:Int),.slice p l c] h (itsQ h (itsR k (al.map In.ts))):=by
 refine hcr_of (args:=[.int .i64 (k:Int),.slice p l c]) mixed Tryz.func128 (by kernel_rfl) (t_item_items_eq k p l c) ?_
 unfold t_item_items
 have hl:=v.len
 refine cond_mk (fun q=>?_) (fun q=>?_)
 ·have q:l=0:=eqN_t q
  refine ⟨Ch.refl _ _,?_⟩
  have:itsR k (al.map In.ts)=.error 20:=by
   unfold itsR
   rw [if_pos (by rw [List.eq_nil_of_length_eq_zero (show al.length=0 by omega)]; rfl)]
  rw [this]
  exact ⟨rfl,.inl rfl⟩
 have q:¬ l=0:=eqN_f q
 have hR:itsR k (al.map In.ts)=itemsA k (al.map In.ts):=by
  unfold itsR
  rw [if_neg (fun hh=>by have:=congrArg List.length hh; simp at this; rw [this] at hl; simp at hl; omega)]
 rw [hR]
 refine loop_of (cs:=[(false,[.slice 0]),(false,[.int .i64]),(false,[.slice 0]),(false,[.int .i64])]) (fun x n h'=>∃ (i:Nat) (us:List (Sli × Itm)),x.2.2.2.1=(i:Int)∧i≤l∧n=l-i∧Ext h h'∧ItsAt h' h.size x.2.2.1.1 x.2.2.1.2.1 x.2.2.1.2.2 us∧us.length=i ∧
   itemsA k (al.map In.ts)=(match itemsA k ((al.map In.ts).drop i) with | .error e=>.error e | .ok r=>.ok (us.map (·.2)++r))) ((none,0,0),(0:Int),(none,0,0),(0:Int),()) l rfl
  ⟨0,[],rfl,by omega,by omega,Ch.refl _ _,ItsAt.nil _ _,rfl,by rw [List.drop_zero]; cases itemsA k (al.map In.ts) <;> rfl⟩ ?_
 rintro ⟨⟨p2,l3,l4⟩,n5,⟨p6,l7,l8⟩,n9,⟨⟩⟩ n h1 ⟨i,us,hi,hil,rfl,e1,A,hus,hit⟩
 simp only at hi A
 subst hi
 dsimp only [flat,unc,unc1,nA,cA]
 refine cond_mk (fun r=>?_) (fun r=>?_)
 ·have r:=of_decide_eq_true r
  have hia:i<al.length:=by omega
  obtain ⟨aa,haa,hca⟩:=(v.keep e1).cells i hia
  refine need_of ⟨by omega,by omega⟩ (osome_mk haa ?_)
  rw [show Int.toNat (i:Int)=i by omega]
  have hmem:al[i]∈al:=List.getElem_mem hia
  have hda:(al.map In.ts).drop i=al[i].ts::(al.map In.ts).drop (i+1):=by
   rw [List.drop_eq_getElem_cons (by rw [List.length_map]; exact hia),List.getElem_map]
  rw [hda] at hit
  simp only [itemsA] at hit
  generalize al[i]=a at hit hca hmem
  refine loads_of ((a.p,a.l,a.c),()) hca ?_
  dsimp only [flat,unc,unc1,nA,cA]
  refine newB ?_
  intro h2 b2 e2 z2
  refine stores_of b2 rfl (by simp) ?_
  intro h3 b3 k3 z3
  have b3:Box h3 h1.size 96 (encI none 0 0 (itm k)):=b3
  have e13:Ext h1 h3:=Ch.trans e2 k3 (fun j hj hl=>by simp at hj; omega)
  have e03:=e1.trans e13
  have A3:=A.keep e13 (by simp)
  have hz1:=e1.size
  have hlt3:=b3.lt
  have push:∀ {L:Lp} {K:Value→Hp→Prop} {kk:Option Addr→Nat→Nat→T} {hh:Hp} {sp:Sli} {y:Itm},Ext h3 hh∨Ch [h1.size] h3 hh→Ch [h1.size] h3 hh→SL hh (h1.size+1) 109 2 sp.p sp.l sp.c (y.e.terms.map encT) →
    (∀ p' c' h',Ext h h'→ItsAt h' h.size p' (l7+1) c' (us++[(sp,y)])→kk p' (l7+1) c' L K h') →
    T.sem Tryz.prog (Instr.buildSlice 23 1 #[(0,.agg (encI sp.p sp.l sp.c y).toArray)]) false [(false,[.slice 0])] (fun q m cc=>T.sem Tryz.prog (Builtin.append_ #[23,23] 23 #[.slice p6 l7 l8,.slice q m cc]) false [(false,[.slice 0])] kk) L K hh:=by
   intro L K kk hh sp y _ kc sy hk
   have hzh:=kc.size
   have e0h:Ext h hh:=Ch.trans e03 kc (fun j hj hl=>by simp at hj; omega)
   have Ah:ItsAt hh h.size p6 l7 l8 us:=by
    refine ⟨Sx.SL.keep' A3.out kc (fun j hj hm=>?_),fun u hu=>Sx.SL.keep' (A3.own u hu) kc (fun j hj hm=>?_),A3.po,A3.pp⟩
    ·have:=(Sx.SL.blk A.out hj).2; simp at hm; omega
    ·have:=(Sx.SL.blk (A.own u hu) hj).2; simp at hm; omega
   refine push_of (e:=96) (z:=.agg zI.toArray) (sz:=10) (by':=104) (vs:=encI sp.p sp.l sp.c y) undI itmZI rfl (by omega) (by omega) (fillI _ _ _ _) rfl rfl Ah.out e0h.size (by have:=A.len; omega) (by have:=A.len; omega) ?_
   intro p' c' h' o k' hp'
   refine hk p' c' h' (Ch.trans e0h k' (fun j hj hl=>by have:=(Sx.SL.blk Ah.out hj).1; omega)) (Ah.snoc (u:=(sp,y)) o k' hp' (Sx.SL.mono sy (by omega)) (fun j hj hm=>?_) (fun x hx j hj hm=>?_))
   ·have h1:=(Sx.SL.blk sy hj).1
    have h2:=(Sx.SL.blk A.out hm).2
    omega
   ·have h1:=(Sx.SL.blk sy hm).1
    have h2:=(Sx.SL.blk (A.own x hx) hj).2
    omega
  have hw:IntKind.wrap .i64 ((i:Int)+1)=((i+1:Nat):Int):=by rw [wrap_i64 (by omega) (by omega)]; omega
  have v3:=v.keep e03
  rcases hk56 with rfl | rfl
  ·refine cond_t rfl ?_
   refine call_of (numArg_hc (v3.inn a hmem) (v3.blk a hmem) (v.wf a hmem) (v.many a hmem) (-128) 255) ?_
   rintro _ h4 ⟨rfl,e4⟩
   rw [itemA_5] at hit
   cases hn:numA (-128) 255 a.ts with
   | error e =>
    rw [hn] at hit
    have he:=numA_err (v.wf a hmem) hn
    refine ⟨((0:Int),(e:Int),()),rfl,?_⟩
    dsimp only [flat,unc,unc1,nA,cA]
    rw [add_box]
    refine stores_of (b3.keep e4 (by simp)) rfl (by simp [encI]) ?_
    intro h5 b5 k5 z5
    refine cond_t (by simp; omega) ?_
    refine ⟨Ch.trans (e03.trans e4) k5 (fun j hj hl=>by simp at hj; omega),?_⟩
    rw [hit]
    exact ⟨rfl,he⟩
   | ok nn =>
    rw [hn] at hit
    refine ⟨(nn,(0:Int),()),rfl,?_⟩
    dsimp only [flat,unc,unc1,nA,cA]
    rw [add_box]
    refine stores_of (b3.keep e4 (by simp)) rfl (by simp [encI]) ?_
    intro h5 b5 k5 z5
    have b5:Box h5 h1.size 96 (encI none 0 0 { itm 5 with n:=nn }):=b5
    refine cond_f rfl ?_
    refine loads_box b5 ((5:Int),(⟨#[]⟩:ByteArray),(0:Int),(0:Int),(0:Int),(0:Int),(0:Int),(none,0,0),(0:Int),nn,()) rfl ?_
    dsimp only [flat,unc,unc1,nA,cA]
    have k35:Ch [h1.size] h3 h5:=Ch.trans (e4.mono (by simp)) k5 (fun j hj _=>hj)
    refine push (sp:=⟨none,0,0⟩) (y:={ itm 5 with n:=nn }) (.inr k35) k35 (SL.nil _ _ _ _) ?_
    intro p' c' h6 e6 A6
    refine again_mk (cs:=[(false,[.slice 0]),(false,[.int .i64]),(false,[.slice 0]),(false,[.int .i64])]) ((p2,l3,l4),n5,(p',l7+1,c'),((i+1:Nat):Int),()) (l-(i+1)) rfl (by omega) (by rw [hw]; rfl) ⟨i+1,_,rfl,by omega,rfl,e6,A6,by simp [hus],?_⟩
    rw [hit]
    cases itemsA 5 ((al.map In.ts).drop (i+1)) <;> simp
  ·refine cond_f rfl ?_
   refine call_of (parse46_hc (v3.inn a hmem) (v3.blk a hmem) (v.wf a hmem) (v.many a hmem)) ?_
   rintro u h4 ⟨e4,hu⟩
   rw [itemA_6] at hit
   cases hn:parseX a.ts with
   | error e =>
    rw [hn] at hit hu
    have he:=parseX_err (v.wf a hmem) hn
    have hu:u=.tuple #[.agg #[.slice none 0 0,.int .u32 0],.int .i64 (e:Int)]:=hu
    subst hu
    refine ⟨((none,0,0),(0:Int),(e:Int),()),rfl,?_⟩
    dsimp only [flat,unc,unc1,nA,cA]
    rw [add_box]
    refine stores_of (b3.keep e4 (by simp)) rfl (by simp [encI]) ?_
    intro h5 b5 k5 z5
    refine cond_t (by simp; omega) ?_
    refine ⟨Ch.trans (e03.trans e4) k5 (fun j hj hl=>by simp at hj; omega),?_⟩
    rw [hit]
    exact ⟨rfl,he⟩
   | ok y =>
    rw [hn] at hit hu
    obtain ⟨p5,l5,c5,rfl,sl,gd⟩:=hu
    refine ⟨((p5,l5,c5),(y.num:Int),(0:Int),()),rfl,?_⟩
    dsimp only [flat,unc,unc1,nA,cA]
    rw [add_box]
    refine stores_of (b3.keep e4 (by simp)) rfl (by simp [encI]) ?_
    intro h5 b5 k5 z5
    have b5:Box h5 h1.size 96 (encI p5 l5 c5 { itm 6 with e:=y }):=b5
    refine cond_f rfl ?_
    refine loads_box b5 ((6:Int),(⟨#[]⟩:ByteArray),(0:Int),(0:Int),(0:Int),(0:Int),(0:Int),(p5,l5,c5),(y.num:Int),(0:Int),()) rfl ?_
    dsimp only [flat,unc,unc1,nA,cA]
    have k35:Ch [h1.size] h3 h5:=Ch.trans (e4.mono (by simp)) k5 (fun j hj _=>hj)
    refine push (sp:=⟨p5,l5,c5⟩) (y:={ itm 6 with e:=y }) (.inr k35) k35 ((Sx.SL.mono sl (by omega)).keep' k5 (fun j hj hm=>by have:=(Sx.SL.blk sl hj).1; simp at hm; omega)) ?_
    intro p' c' h6 e6 A6
    refine again_mk (cs:=[(false,[.slice 0]),(false,[.int .i64]),(false,[.slice 0]),(false,[.int .i64])]) ((p2,l3,l4),n5,(p',l7+1,c'),((i+1:Nat):Int),()) (l-(i+1)) rfl (by omega) (by rw [hw]; rfl) ⟨i+1,_,rfl,by omega,rfl,e6,A6,by simp [hus],?_⟩
    rw [hit]
    cases itemsA 6 ((al.map In.ts).drop (i+1)) <;> simp
 ·have r:=of_decide_eq_false r
  have:i=l:=by omega
  subst this
  rw [List.drop_of_length_le (by rw [List.length_map]; omega)] at hit
  refine ⟨e1,?_⟩
  rw [hit]
  exact ⟨p6,l7,l8,us,rfl,A,by simp [itemsA]⟩
theorem counts_hc (s:ByteArray) (h:Hp):HCp Tryz.prog 126 [.string s] h (.tuple #[.int .i64 (if cntA s=-2 then 0 else cntA s),.bool (decide (cntA s≠-2))]):=by
 refine hcp_of mixed Tryz.func126 (by kernel_rfl) (t_item_counts_eq s) ?_
 unfold t_item_counts
 refine cond_mk (fun g=>?_) (fun g=>?_)
 ·have q0:s.data.toList=[112,111,111,108]:=(ByteArray.toList_eq s).symm.trans (eq_of_beq g)
  refine ⟨?_,rfl⟩
  have:cntA s=0:=by unfold cntA; simp [q0]
  rw [this]
  rfl
 ·have n0:¬ s.data.toList=[112,111,111,108]:=fun e=>ne_of_beq_false g ((ByteArray.toList_eq s).trans e)
  refine cond_mk (fun g=>?_) (fun g=>?_)
  ·have q1:s.data.toList=[97,108,105,103,110]:=(ByteArray.toList_eq s).symm.trans (eq_of_beq g)
   refine cond_t (by rw [ByteArray.toList_eq,q1]; rfl) ?_
   refine ⟨?_,rfl⟩
   have:cntA s=1:=by unfold cntA; simp [n0,q1]
   rw [this]
   rfl
  ·have n1:¬ s.data.toList=[97,108,105,103,110]:=fun e=>ne_of_beq_false g ((ByteArray.toList_eq s).trans e)
   refine cond_mk (fun g=>?_) (fun g=>?_)
   ·have q2:s.data.toList=[115,112,97,99,101]:=(ByteArray.toList_eq s).symm.trans (eq_of_beq g)
    refine cond_t (by rw [ByteArray.toList_eq,q2]; rfl) ?_
    refine ⟨?_,rfl⟩
    have:cntA s=1:=by unfold cntA; simp [n0,n1,q2]
    rw [this]
    rfl
   ·have n2:¬ s.data.toList=[115,112,97,99,101]:=fun e=>ne_of_beq_false g ((ByteArray.toList_eq s).trans e)
    refine cond_mk (fun g=>?_) (fun g=>?_)
    ·have q3:s.data.toList=[103,108,111,98,97,108]:=(ByteArray.toList_eq s).symm.trans (eq_of_beq g)
     refine cond_t (by rw [ByteArray.toList_eq,q3]; rfl) ?_
     refine ⟨?_,rfl⟩
     have:cntA s=1:=by unfold cntA; simp [n0,n1,n2,q3]
     rw [this]
     rfl
    ·have n3:¬ s.data.toList=[103,108,111,98,97,108]:=fun e=>ne_of_beq_false g ((ByteArray.toList_eq s).trans e)
     refine cond_mk (fun g=>?_) (fun g=>?_)
     ·have q4:s.data.toList=[115,101,99,116,105,111,110]:=(ByteArray.toList_eq s).symm.trans (eq_of_beq g)
      refine ⟨?_,rfl⟩
      have:cntA s=1:=by unfold cntA; simp [n0,n1,n2,n3,q4]
      rw [this]
      rfl
     ·have n4:¬ s.data.toList=[115,101,99,116,105,111,110]:=fun e=>ne_of_beq_false g ((ByteArray.toList_eq s).trans e)
      refine cond_mk (fun g=>?_) (fun g=>?_)
      ·have q5:s.data.toList=[101,113,117]:=(ByteArray.toList_eq s).symm.trans (eq_of_beq g)
       refine ⟨?_,rfl⟩
       have:cntA s=2:=by unfold cntA; simp [n0,n1,n2,n3,n4,q5]
       rw [this]
       rfl
      ·have n5:¬ s.data.toList=[101,113,117]:=fun e=>ne_of_beq_false g ((ByteArray.toList_eq s).trans e)
       refine cond_mk (fun g=>?_) (fun g=>?_)
       ·have q6:s.data.toList=[98,121,116,101]:=(ByteArray.toList_eq s).symm.trans (eq_of_beq g)
        refine cond_t (by rw [ByteArray.toList_eq,q6]; rfl) ?_
        refine ⟨?_,rfl⟩
        have:cntA s=-1:=by unfold cntA; simp [n0,n1,n2,n3,n4,n5,q6]
        rw [this]
        rfl
       ·have n6:¬ s.data.toList=[98,121,116,101]:=fun e=>ne_of_beq_false g ((ByteArray.toList_eq s).trans e)
        refine cond_mk (fun g=>?_) (fun g=>?_)
        ·have q7:s.data.toList=[119,111,114,100]:=(ByteArray.toList_eq s).symm.trans (eq_of_beq g)
         refine ⟨?_,rfl⟩
         have:cntA s=-1:=by unfold cntA; simp [n0,n1,n2,n3,n4,n5,n6,q7]
         rw [this]
         rfl
        ·have n7:¬ s.data.toList=[119,111,114,100]:=fun e=>ne_of_beq_false g ((ByteArray.toList_eq s).trans e)
         refine ⟨?_,rfl⟩
         have:cntA s=-2:=by unfold cntA; simp [n0,n1,n2,n3,n4,n5,n6,n7]
         rw [this]
         rfl
section
variable {L:Lp} {K:Value→Hp→Prop} {h:Hp}
def thgC (k:Int) (p:Option Addr) (l c:Nat) (nm:ByteArray) (p':Option Addr) (l' c':Nat) (n sec:Int):List Value:=[.int .i64 k,.slice p l c,.string nm,.slice p' l' c',.int .u32 n,.int .i64 sec]
theorem thg_st {g:Nat} {e:TypeId} {xs:List Value} {k:Int} {p:Option Addr} {l c:Nat} {nm:ByteArray} {p':Option Addr} {l' c':Nat} {n sec:Int} {cont:Int→Option Addr→Nat→Nat→ByteArray→Option Addr→Nat→Nat→Int→Int→T}
  (bx:Box h g e xs) (hx:xs.length=6) (hk:∀ h',Box h' g e (thgC k p l c nm p' l' c' n sec)→Ch [g] h h'→h'.size=h.size→cont k p l c nm p' l' c' n sec L K h') :
  (T.stores ⟨g,0,none⟩ [.int .i64 k,.slice p l c,.string nm,.slice p' l' c',.int .u32 n,.int .i64 sec] <| T.loads ⟨g,0,none⟩ [.int .i64,.slice 96,.string,.slice 109,.int .u32,.int .i64] cont) L K h:=by
 refine stores_of bx rfl (by rw [hx]; simp) ?_
 intro h' b k1 z
 rw [setL_eq _ _ _ (by rw [hx]; simp)] at b
 have hd:xs.drop 6=[]:=List.drop_of_length_le (by omega)
 have b:Box h' g e (thgC k p l c nm p' l' c' n sec):=by simpa [thgC,hx,hd] using b
 exact loads_box b (k,(p,l,c),nm,(p',l',c'),n,sec,()) rfl (hk h' b k1 z)
end
def whI (w:Nat):Int:=if w=2 then -1 else (w:Int)
def dirQ (h:Hp) (r:Except Nat (Thg × Nat)) (u:Value) (h':Hp):Prop:=Ext h h'∧match r with
 | .error e=>∃ k p l c nm p' l' c' n sec w,u=.tuple #[.agg (thgC k p l c nm p' l' c' n sec).toArray,.int .i64 w,.int .i64 (e:Int)]∧e≠0
 | .ok (t,w)=>∃ sl us se,u=.tuple #[thgV t.kind sl t.name se t.e.num t.sec,.int .i64 (whI w),.int .i64 0]∧ThgAt h' h.size t sl us se
theorem cells0 {h:Hp} {p:Option Addr} {l:Nat} {al:List In} (v:VwA h p l al) {k:Nat} (hk:k<al.length):∃ a,p=some a∧cellsAt h (a.add (k*1)) 0 [.slice al[k].p al[k].l al[k].c]:=v.cells k hk
theorem add0 (a:Addr):a.add (0*1)=a:=by simp [Addr.add]
theorem oneAt {h : Hp} {b : Nat} {p : Option Addr} {x : Itm} (s : SL h b 96 10 p 1 1 [encI none 0 0 x]) (he : x.e.terms = []) : ThgAt h b (oneT x) ⟨p, 1, 1⟩ [(⟨none, 0, 0⟩, x)] ⟨none, 0, 0⟩ :=
  ⟨⟨s, by intro u hu; have : u = (⟨none, 0, 0⟩, x) := by simpa using hu
          subst this
          rw [he]
          exact SL.nil _ _ _ _, by intro u hu; have : u = (⟨none, 0, 0⟩, x) := by simpa using hu
                                   subst this
                                   simp [blkOf], by simp⟩, rfl, SL.nil _ _ _ _, .inr rfl⟩
theorem namA_err {ts:List Tok} {e:Nat} (h:namA ts=.error e):e=20:=by
 unfold namA at h
 split at h
 ·split at h
  ·cases h
  ·injection h with h
   exact h.symm
 ·injection h with h
  exact h.symm
theorem directive_hc {h:Hp} {p:Option Addr} {l c:Nat} {al:List In} (v:VwA h p l al) (hal:al.length≤2^32) (s:ByteArray) :
  HC Tryz.prog 100 #[.string s,.slice p l c] h (dirQ h (dirA s (al.map In.ts))):=by
 refine hcr_of (args:=[.string s,.slice p l c]) mixed Tryz.func100 (by kernel_rfl) (t_item_directive_eq s p l c) ?_
 unfold t_item_directive
 have hl:=v.len
 refine newB ?_
 intro g1 b1 e1 z1
 refine call_p (counts_hc s g1) ((if cntA s=-2 then (0:Int) else cntA s:Int),decide (cntA s≠-2),()) rfl ?_
 dsimp only [flat,unc,unc1,nA,cA]
 have bad:∀ {gg:Hp} {k:Int} {nm:ByteArray} {sec w:Int} {e:Nat} {p1 p2:Option Addr} {l1 c1 l2 c2:Nat} {n1:Int} {L:Lp},Ext h gg→(∃ xs,Box gg h.size 134 xs∧xs.length=6)→dirA s (al.map In.ts)=.error e→e≠0 →
   (T.stores ⟨h.size,0,none⟩ [.int .i64 k,.slice p1 l1 c1,.string nm,.slice p2 l2 c2,.int .u32 n1,.int .i64 sec] <|
   T.loads ⟨h.size,0,none⟩ [.int .i64,.slice 96,.string,.slice 109,.int .u32,.int .i64] <| fun (n5:Int) (p6:Option Addr) (l7:Nat) (l8:Nat) (s9:ByteArray) (p10:Option Addr) (l11:Nat) (l12:Nat) (n13:Int) (n14:Int) =>
   T.ret (.tuple #[.agg #[.int .i64 n5,.slice p6 l7 l8,.string s9,.slice p10 l11 l12,.int .u32 n13,.int .i64 n14],.int .i64 w,.int .i64 (e:Int)])) L (dirQ h (dirA s (al.map In.ts))) gg:=by
  rintro gg k nm sec w e p1 p2 l1 c1 l2 c2 n1 L eg ⟨xs,bx,hx⟩ hA he
  refine thg_st bx hx ?_
  intro h' b' k' z'
  refine ⟨Ch.trans eg k' (fun i hi hl=>by simp at hi; omega),?_⟩
  rw [hA]
  exact ⟨k,p1,l1,c1,nm,p2,l2,c2,n1,sec,w,rfl,he⟩
 have good:∀ {gg:Hp} {t:Thg} {w:Nat} {wi:Int} {sl se:Sli} {us:List (Sli × Itm)} {L:Lp},Ext h gg→(∃ xs,Box gg h.size 134 xs∧xs.length=6)→dirA s (al.map In.ts)=.ok (t,w)→wi=whI w→ThgAt gg (h.size+1) t sl us se →
   (T.stores ⟨h.size,0,none⟩ [.int .i64 (t.kind:Int),.slice sl.p sl.l sl.c,.string t.name,.slice se.p se.l se.c,.int .u32 (t.e.num:Int),.int .i64 (t.sec:Int)] <|
   T.loads ⟨h.size,0,none⟩ [.int .i64,.slice 96,.string,.slice 109,.int .u32,.int .i64] <| fun (n5:Int) (p6:Option Addr) (l7:Nat) (l8:Nat) (s9:ByteArray) (p10:Option Addr) (l11:Nat) (l12:Nat) (n13:Int) (n14:Int) =>
   T.ret (.tuple #[.agg #[.int .i64 n5,.slice p6 l7 l8,.string s9,.slice p10 l11 l12,.int .u32 n13,.int .i64 n14],.int .i64 wi,.int .i64 (0:Int)])) L (dirQ h (dirA s (al.map In.ts))) gg:=by
  rintro gg t w wi sl se us L eg ⟨xs,bx,hx⟩ hA rfl A
  refine thg_st bx hx ?_
  intro h' b' k' z'
  refine ⟨Ch.trans eg k' (fun i hi hl=>by simp at hi; omega),?_⟩
  rw [hA]
  exact ⟨sl,us,se,rfl,(A.keep k' (fun i hi hl=>by simp at hi; omega)).mono (by omega)⟩
 have bz:∀ {gg:Hp},Ext g1 gg→∃ xs,Box gg h.size 134 xs∧xs.length=6:=fun e=>⟨_,b1.keep e (by simp),rfl⟩
 have hbad:cntA s=-2∨(0≤cntA s∧(al.length:Int)≠cntA s)→dirA s (al.map In.ts)=.error 20:=by
  intro hh
  unfold dirA
  simp only
  rw [if_pos (by rw [List.length_map]; exact hh)]
 refine join_of (cs:=[(false,[.int .i64]),(false,[.int .i64])]) (fun y h'=>h'=g1∧¬ (cntA s=-2∨(0≤cntA s∧((al.map In.ts).length:Int)≠cntA s))) ?_ ?_
 ·refine cond_mk (fun q=>?_) (fun q=>?_)
  ·have q:cntA s=-2:=by simpa using q
   exact bad (e:=20) e1 (bz (Ch.refl _ _)) (hbad (.inl q)) (by decide)
  have q:¬ cntA s=-2:=by simpa using q
  rw [if_neg q]
  refine cond_mk (fun r=>?_) (fun r=>?_)
  ·have r:=of_decide_eq_true r
   refine cond_mk (fun u=>?_) (fun u=>?_)
   ·have u:¬ (l:Int)=cntA s:=by simpa using u
    exact bad (e:=20) e1 (bz (Ch.refl _ _)) (hbad (.inr ⟨r,by omega⟩)) (by decide)
   ·have u:(l:Int)=cntA s:=by simpa using u
    exact meet_mk (cs:=[(false,[.int .i64]),(false,[.int .i64])]) ((0:Int),(0:Int),()) rfl rfl ⟨rfl,by rintro (x | x); exact q x; rw [List.length_map] at x; omega⟩
  ·have r:=of_decide_eq_false r
   exact meet_mk (cs:=[(false,[.int .i64]),(false,[.int .i64])]) ((0:Int),(0:Int),()) rfl rfl ⟨rfl,by rintro (x | x); exact q x; omega⟩
 rintro ⟨n5,n6,⟨⟩⟩ h9 ⟨e9,hcnt⟩
 have e9:=e9.symm
 subst e9
 dsimp only [flat,unc,unc1,nA,cA]
 clear hbad
 have hD:dirA s (al.map In.ts)=(if s.data.toList=[112,111,111,108] then .ok (oneT (itm 4),0)
 else if s.data.toList=[97,108,105,103,110] then match numA 1 256 (ag (al.map In.ts) 0) with
  | .error e=>.error e
  | .ok n=>if pow2 n then .ok (oneT { itm 3 with n:=n },2) else .error 21
 else if s.data.toList=[115,112,97,99,101] then match numA 0 1048576 (ag (al.map In.ts) 0) with
  | .error e=>.error e
  | .ok n=>.ok (oneT { itm 7 with n:=n },1)
 else if s.data.toList=[98,121,116,101] then match itsR 5 (al.map In.ts) with
  | .error e=>.error e
  | .ok l=>.ok ({ thg0 with kind:=2,items:=l },1)
 else if s.data.toList=[119,111,114,100] then match itsR 6 (al.map In.ts) with
  | .error e=>.error e
  | .ok l=>.ok ({ thg0 with kind:=2,items:=l },1)
 else if s.data.toList=[101,113,117] then match namA (ag (al.map In.ts) 0) with
  | .error e=>.error e
  | .ok s=>match parseX (ag (al.map In.ts) 1) with
   | .error e=>.error e
   | .ok x=>.ok ({ thg0 with kind:=3,name:=s,e:=x },2)
 else if s.data.toList=[103,108,111,98,97,108] then match namA (ag (al.map In.ts) 0) with
  | .error e=>.error e
  | .ok s=>.ok ({ thg0 with kind:=4,name:=s },2)
 else match ag (al.map In.ts) 0 with
  | [t]=>if t.kind=1∧t.text.data.toList=[116,101,120,116] then .ok ({ thg0 with kind:=5 },2) else if t.kind=1∧t.text.data.toList=[100,97,116,97] then .ok ({ thg0 with kind:=5,sec:=1 },2) else .error 20
  | _=>.error 20):=by
  unfold dirA itsR
  simp only
  rw [if_neg hcnt]
  by_cases hz:al.map In.ts=[]
  ·simp only [hz,if_true]
   rfl
  ·simp only [hz,if_false]
   rfl
 have v1:=v.keep e1
 have hh1:g1.size=h.size+1:=z1
 have arg:∀ i,(hi:i<al.length)→ag (al.map In.ts) i=al[i].ts:=by
  intro i hi
  unfold ag
  rw [List.getD_eq_getElem?_getD,List.getElem?_eq_getElem (by rw [List.length_map]; exact hi),Option.getD_some,List.getElem_map]
 have mem:∀ i,(hi:i<al.length)→al[i]∈al:=fun i hi=>List.getElem_mem hi
 refine cond_mk (fun q=>?_) (fun q=>?_)
 ·have q:s.data.toList=[112,111,111,108]:=(ByteArray.toList_eq s).symm.trans (eq_of_beq q)
  refine lit1_of (p:=none) (l:=0) (c:=0) (x:=itm 4) ?_
  intro h2 s2 e2 z2
  exact good (t:=oneT (itm 4)) (w:=0) (sl:=⟨some ⟨g1.size,0,none⟩,1,1⟩) (se:=⟨none,0,0⟩) (e1.trans e2) (bz e2) (hD.trans (if_pos q)) rfl (oneAt (Sx.SL.mono s2 (by omega)) rfl)
 have q1:¬ s.data.toList=[112,111,111,108]:=fun e=>ne_of_beq_false q ((ByteArray.toList_eq s).trans e)
 rw [if_neg q1] at hD
 refine cond_mk (fun q=>?_) (fun q=>?_)
 ·have q:s.data.toList=[97,108,105,103,110]:=(ByteArray.toList_eq s).symm.trans (eq_of_beq q)
  rw [if_pos q] at hD
  have hc:cntA s=1:=by unfold cntA; simp [q]
  rw [List.length_map] at hcnt
  have h1:0<al.length:=by omega
  obtain ⟨a0,ha0,hc0⟩:=cells0 v1 h1
  rw [add0] at hc0
  refine need_of ⟨by omega,by omega⟩ (osome_mk ha0 (loads_of ((al[0].p,al[0].l,al[0].c),()) hc0 ?_))
  dsimp only [flat,unc,unc1,nA,cA]
  refine call_of (numArg_hc (v1.inn _ (mem 0 h1)) (v1.blk _ (mem 0 h1)) (v.wf _ (mem 0 h1)) (v.many _ (mem 0 h1)) 1 256) ?_
  rintro _ h2 ⟨rfl,e2⟩
  rw [arg 0 h1] at hD
  cases hn:numA 1 256 al[0].ts with
  | error e =>
   have he:=numA_err (v.wf _ (mem 0 h1)) hn
   rw [hn] at hD
   refine ⟨((0:Int),(e:Int),()),rfl,?_⟩
   dsimp only [flat,unc,unc1,nA,cA]
   refine cond_f (by simp; omega) ?_
   refine lit1_of (p:=none) (l:=0) (c:=0) (x:={ itm 3 with n:=0 }) ?_
   intro h3 s3 e3 z3
   exact bad (e:=e) (e1.trans (e2.trans e3)) (bz (e2.trans e3)) hD (by omega)
  | ok n =>
   rw [hn] at hD
   refine ⟨(n,(0:Int),()),rfl,?_⟩
   dsimp only [flat,unc,unc1,nA,cA]
   refine cond_t rfl (call_bool (power_hc h2 n) ?_)
   refine cond_mk (fun r=>?_) (fun r=>?_)
   ·have r:pow2 n=false:=by simpa using r
    refine lit1_of (p:=none) (l:=0) (c:=0) (x:={ itm 3 with n:=n }) ?_
    intro h3 s3 e3 z3
    exact bad (e:=21) (e1.trans (e2.trans e3)) (bz (e2.trans e3)) (hD.trans (if_neg (by rw [r]; simp))) (by decide)
   ·have r:pow2 n=true:=by simpa using r
    refine lit1_of (p:=none) (l:=0) (c:=0) (x:={ itm 3 with n:=n }) ?_
    intro h3 s3 e3 z3
    have hz2:=e2.size
    exact good (t:=oneT { itm 3 with n:=n }) (w:=2) (sl:=⟨some ⟨h2.size,0,none⟩,1,1⟩) (se:=⟨none,0,0⟩) (e1.trans (e2.trans e3)) (bz (e2.trans e3)) (hD.trans (if_pos r)) rfl (oneAt (Sx.SL.mono s3 (by omega)) rfl)
 have q2:¬ s.data.toList=[97,108,105,103,110]:=fun e=>ne_of_beq_false q ((ByteArray.toList_eq s).trans e)
 rw [if_neg q2] at hD
 refine cond_mk (fun q=>?_) (fun q=>?_)
 ·have q:s.data.toList=[115,112,97,99,101]:=(ByteArray.toList_eq s).symm.trans (eq_of_beq q)
  rw [if_pos q] at hD
  have hc:cntA s=1:=by unfold cntA; simp [q]
  rw [List.length_map] at hcnt
  have h1:0<al.length:=by omega
  obtain ⟨a0,ha0,hc0⟩:=cells0 v1 h1
  rw [add0] at hc0
  refine need_of ⟨by omega,by omega⟩ (osome_mk ha0 (loads_of ((al[0].p,al[0].l,al[0].c),()) hc0 ?_))
  dsimp only [flat,unc,unc1,nA,cA]
  refine call_of (numArg_hc (v1.inn _ (mem 0 h1)) (v1.blk _ (mem 0 h1)) (v.wf _ (mem 0 h1)) (v.many _ (mem 0 h1)) 0 1048576) ?_
  rintro _ h2 ⟨rfl,e2⟩
  rw [arg 0 h1] at hD
  cases hn:numA 0 1048576 al[0].ts with
  | error e =>
   have he:=numA_err (v.wf _ (mem 0 h1)) hn
   rw [hn] at hD
   refine ⟨((0:Int),(e:Int),()),rfl,?_⟩
   dsimp only [flat,unc,unc1,nA,cA]
   refine lit1_of (p:=none) (l:=0) (c:=0) (x:={ itm 7 with n:=0 }) ?_
   intro h3 s3 e3 z3
   exact bad (e:=e) (e1.trans (e2.trans e3)) (bz (e2.trans e3)) hD (by omega)
  | ok n =>
   rw [hn] at hD
   refine ⟨(n,(0:Int),()),rfl,?_⟩
   dsimp only [flat,unc,unc1,nA,cA]
   refine lit1_of (p:=none) (l:=0) (c:=0) (x:={ itm 7 with n:=n }) ?_
   intro h3 s3 e3 z3
   have hz2:=e2.size
   exact good (t:=oneT { itm 7 with n:=n }) (w:=1) (sl:=⟨some ⟨h2.size,0,none⟩,1,1⟩) (se:=⟨none,0,0⟩) (e1.trans (e2.trans e3)) (bz (e2.trans e3)) hD rfl (oneAt (Sx.SL.mono s3 (by omega)) rfl)
 have q3:¬ s.data.toList=[115,112,97,99,101]:=fun e=>ne_of_beq_false q ((ByteArray.toList_eq s).trans e)
 rw [if_neg q3] at hD
 refine cond_mk (fun q=>?_) (fun q=>?_)
 ·have q:s.data.toList=[98,121,116,101]:=(ByteArray.toList_eq s).symm.trans (eq_of_beq q)
  rw [if_pos q] at hD
  refine call_of (items_hc (k:=5) (by omega) v1 hal) ?_
  rintro u h2 ⟨e2,hu⟩
  cases hn:itsR 5 (al.map In.ts) with
  | error e =>
   rw [hn] at hD hu
   obtain ⟨rfl,he⟩:=hu
   refine ⟨((none,0,0),(e:Int),()),rfl,?_⟩
   dsimp only [flat,unc,unc1,nA,cA]
   exact bad (e:=e) (e1.trans e2) (bz e2) hD (by omega)
  | ok li =>
   rw [hn] at hD hu
   obtain ⟨p5,l5,c5,us,rfl,A,hus⟩:=hu
   refine ⟨((p5,l5,c5),(0:Int),()),rfl,?_⟩
   dsimp only [flat,unc,unc1,nA,cA]
   exact good (t:={ thg0 with kind:=2,items:=li }) (w:=1) (sl:=⟨p5,l5,c5⟩) (se:=⟨none,0,0⟩) (us:=us) (e1.trans e2) (bz e2) hD rfl ⟨A.mono (by omega),hus,SL.nil _ _ _ _,.inr rfl⟩
 have q4:¬ s.data.toList=[98,121,116,101]:=fun e=>ne_of_beq_false q ((ByteArray.toList_eq s).trans e)
 rw [if_neg q4] at hD
 refine cond_mk (fun q=>?_) (fun q=>?_)
 ·have q:s.data.toList=[119,111,114,100]:=(ByteArray.toList_eq s).symm.trans (eq_of_beq q)
  rw [if_pos q] at hD
  refine call_of (items_hc (k:=6) (by omega) v1 hal) ?_
  rintro u h2 ⟨e2,hu⟩
  cases hn:itsR 6 (al.map In.ts) with
  | error e =>
   rw [hn] at hD hu
   obtain ⟨rfl,he⟩:=hu
   refine ⟨((none,0,0),(e:Int),()),rfl,?_⟩
   dsimp only [flat,unc,unc1,nA,cA]
   exact bad (e:=e) (e1.trans e2) (bz e2) hD (by omega)
  | ok li =>
   rw [hn] at hD hu
   obtain ⟨p5,l5,c5,us,rfl,A,hus⟩:=hu
   refine ⟨((p5,l5,c5),(0:Int),()),rfl,?_⟩
   dsimp only [flat,unc,unc1,nA,cA]
   exact good (t:={ thg0 with kind:=2,items:=li }) (w:=1) (sl:=⟨p5,l5,c5⟩) (se:=⟨none,0,0⟩) (us:=us) (e1.trans e2) (bz e2) hD rfl ⟨A.mono (by omega),hus,SL.nil _ _ _ _,.inr rfl⟩
 have q5:¬ s.data.toList=[119,111,114,100]:=fun e=>ne_of_beq_false q ((ByteArray.toList_eq s).trans e)
 rw [if_neg q5] at hD
 refine cond_mk (fun q=>?_) (fun q=>?_)
 ·have q:s.data.toList=[101,113,117]:=(ByteArray.toList_eq s).symm.trans (eq_of_beq q)
  rw [if_pos q] at hD
  have hc:cntA s=2:=by unfold cntA; simp [q]
  rw [List.length_map] at hcnt
  have h1:0<al.length:=by omega
  have h2:1<al.length:=by omega
  obtain ⟨a0,ha0,hc0⟩:=cells0 v1 h1
  rw [add0] at hc0
  refine need_of ⟨by omega,by omega⟩ (osome_mk ha0 (loads_of ((al[0].p,al[0].l,al[0].c),()) hc0 ?_))
  dsimp only [flat,unc,unc1,nA,cA]
  rw [arg 0 h1,arg 1 h2] at hD
  cases hn:namA al[0].ts with
  | error e =>
   have he:=namA_err hn
   rw [hn] at hD
   refine call_p (name_hc (v1.inn _ (mem 0 h1)) (v.text _ (mem 0 h1))) ((⟨#[]⟩:ByteArray),(e:Int),()) (by rw [hn]; rfl) ?_
   dsimp only [flat,unc,unc1,nA,cA]
   refine cond_t (by simp; omega) ?_
   exact bad (e:=e) e1 (bz (Ch.refl _ _)) hD (by omega)
  | ok nm =>
   rw [hn] at hD
   refine call_p (name_hc (v1.inn _ (mem 0 h1)) (v.text _ (mem 0 h1))) (nm,(0:Int),()) (by rw [hn]; rfl) ?_
   dsimp only [flat,unc,unc1,nA,cA]
   refine cond_f rfl ?_
   obtain ⟨a1,ha1,hc1⟩:=cells0 v1 h2
   rw [ha0] at ha1
   obtain rfl:=Option.some.inj ha1
   refine need_of ⟨by omega,by omega⟩ (osome_mk ha0 (loads_of ((al[1].p,al[1].l,al[1].c),()) hc1 ?_))
   dsimp only [flat,unc,unc1,nA,cA]
   refine call_of (parse46_hc (v1.inn _ (mem 1 h2)) (v1.blk _ (mem 1 h2)) (v.wf _ (mem 1 h2)) (v.many _ (mem 1 h2))) ?_
   rintro u h3 ⟨e3,hu⟩
   cases hx:parseX al[1].ts with
   | error e =>
    rw [hx] at hu hD
    have he:=parseX_err (v.wf _ (mem 1 h2)) hx
    have hu:u=.tuple #[.agg #[.slice none 0 0,.int .u32 0],.int .i64 (e:Int)]:=hu
    subst hu
    refine ⟨((none,0,0),(0:Int),(e:Int),()),rfl,?_⟩
    dsimp only [flat,unc,unc1,nA,cA]
    refine newB ?_
    intro h4 b4 e4 z4
    refine stores_of b4 rfl (by simp) ?_
    intro h5 b5 k5 z5
    have b5:Box h5 h3.size 94 [.slice none 0 0,.int .u32 (0:Int)]:=b5
    refine loads_box b5 ((none,0,0),(0:Int),()) rfl ?_
    dsimp only [flat,unc,unc1,nA,cA]
    have e35:Ext h3 h5:=Ch.trans e4 k5 (fun i hi hl=>by simp at hi; omega)
    exact bad (e:=e) (e1.trans (e3.trans e35)) (bz (e3.trans e35)) hD (by omega)
   | ok x =>
    rw [hx] at hu hD
    obtain ⟨p5,l5,c5,rfl,sl,gd⟩:=hu
    refine ⟨((p5,l5,c5),(x.num:Int),(0:Int),()),rfl,?_⟩
    dsimp only [flat,unc,unc1,nA,cA]
    refine newB ?_
    intro h4 b4 e4 z4
    refine stores_of b4 rfl (by simp) ?_
    intro h5 b5 k5 z5
    have b5:Box h5 h3.size 94 [.slice p5 l5 c5,.int .u32 (x.num:Int)]:=b5
    refine loads_box b5 ((p5,l5,c5),(x.num:Int),()) rfl ?_
    dsimp only [flat,unc,unc1,nA,cA]
    have e35:Ext h3 h5:=Ch.trans e4 k5 (fun i hi hl=>by simp at hi; omega)
    exact good (t:={ thg0 with kind:=3,name:=nm,e:=x }) (w:=2) (sl:=⟨none,0,0⟩) (se:=⟨p5,l5,c5⟩) (us:=[]) (e1.trans (e3.trans e35)) (bz (e3.trans e35)) hD rfl ⟨ItsAt.nil _ _,rfl,(Sx.SL.mono sl (by omega)).keep' e35 (by simp),.inl rfl⟩
 have q6:¬ s.data.toList=[101,113,117]:=fun e=>ne_of_beq_false q ((ByteArray.toList_eq s).trans e)
 rw [if_neg q6] at hD
 refine cond_mk (fun q=>?_) (fun q=>?_)
 ·have q:s.data.toList=[103,108,111,98,97,108]:=(ByteArray.toList_eq s).symm.trans (eq_of_beq q)
  rw [if_pos q] at hD
  have hc:cntA s=1:=by unfold cntA; simp [q]
  rw [List.length_map] at hcnt
  have h1:0<al.length:=by omega
  obtain ⟨a0,ha0,hc0⟩:=cells0 v1 h1
  rw [add0] at hc0
  refine need_of ⟨by omega,by omega⟩ (osome_mk ha0 (loads_of ((al[0].p,al[0].l,al[0].c),()) hc0 ?_))
  dsimp only [flat,unc,unc1,nA,cA]
  rw [arg 0 h1] at hD
  cases hn:namA al[0].ts with
  | error e =>
   have he:=namA_err hn
   rw [hn] at hD
   refine call_p (name_hc (v1.inn _ (mem 0 h1)) (v.text _ (mem 0 h1))) ((⟨#[]⟩:ByteArray),(e:Int),()) (by rw [hn]; rfl) ?_
   dsimp only [flat,unc,unc1,nA,cA]
   exact bad (e:=e) e1 (bz (Ch.refl _ _)) hD (by omega)
  | ok nm =>
   rw [hn] at hD
   refine call_p (name_hc (v1.inn _ (mem 0 h1)) (v.text _ (mem 0 h1))) (nm,(0:Int),()) (by rw [hn]; rfl) ?_
   dsimp only [flat,unc,unc1,nA,cA]
   exact good (t:={ thg0 with kind:=4,name:=nm }) (w:=2) (sl:=⟨none,0,0⟩) (se:=⟨none,0,0⟩) (us:=[]) e1 (bz (Ch.refl _ _)) hD rfl ⟨ItsAt.nil _ _,rfl,SL.nil _ _ _ _,.inl rfl⟩
 have q7:¬ s.data.toList=[103,108,111,98,97,108]:=fun e=>ne_of_beq_false q ((ByteArray.toList_eq s).trans e)
 rw [if_neg q7] at hD
 have hcn:cntA s=1:=by
  unfold cntA at hcnt ⊢
  simp only [if_neg q1,if_neg q6] at hcnt ⊢
  by_cases hs:s.data.toList=[115,101,99,116,105,111,110]
  ·simp [hs]
  ·exfalso
   apply hcnt
   left
   simp [q2,q3,q7,hs,q4,q5]
 rw [List.length_map] at hcnt
 have h1:0<al.length:=by omega
 obtain ⟨a0,ha0,hc0⟩:=cells0 v1 h1
 rw [add0] at hc0
 have va:=v1.inn _ (mem 0 h1)
 have hag:=arg 0 h1
 rw [hag] at hD
 refine need_of ⟨by omega,by omega⟩ (osome_mk ha0 (loads_of ((al[0].p,al[0].l,al[0].c),()) hc0 ?_))
 dsimp only [flat,unc,unc1,nA,cA]
 generalize al[0]=a at *
 have hla:=va.len
 refine cond_mk (fun r=>?_) (fun r=>?_)
 ·have r:a.l=1:=eqN_t r
  obtain ⟨t,ht⟩:=one_of (show a.ts.length=1 by omega)
  rw [ht] at va hD
  obtain ⟨aa,haa,c0⟩:=va.cells 0 (by simp)
  have c0:cellsAt g1 (aa.add (0*4)) 0 (enc t):=c0
  obtain ⟨u1,u2,_⟩:=tok_cells c0
  simp only at hD
  refine need_of ⟨by omega,by omega⟩ (osome_mk ha0 (loads_of ((a.p,a.l,a.c),()) hc0 ?_))
  dsimp only [flat,unc,unc1,nA,cA]
  refine need_of ⟨by omega,by omega⟩ (osome_mk haa (loads_of ((t.kind:Int),()) u1 ?_))
  dsimp only [flat,unc,unc1,nA,cA]
  refine cond_mk (fun g=>?_) (fun g=>?_)
  ·have g:t.kind=1:=eqN_t g
   refine need_of ⟨by omega,by omega⟩ (osome_mk ha0 (loads_of ((a.p,a.l,a.c),()) hc0 ?_))
   dsimp only [flat,unc,unc1,nA,cA]
   refine need_of ⟨by omega,by omega⟩ (osome_mk haa (loads_of (t.text,()) u2 ?_))
   dsimp only [flat,unc,unc1,nA,cA]
   refine cond_mk (fun w=>?_) (fun w=>?_)
   ·have w:t.text.data.toList=[116,101,120,116]:=(ByteArray.toList_eq _).symm.trans (eq_of_beq w)
    rw [if_pos ⟨g,w⟩] at hD
    exact good (t:={ thg0 with kind:=5 }) (w:=2) (sl:=⟨none,0,0⟩) (se:=⟨none,0,0⟩) (us:=[]) e1 (bz (Ch.refl _ _)) hD rfl ⟨ItsAt.nil _ _,rfl,SL.nil _ _ _ _,.inl rfl⟩
   have w:¬ t.text.data.toList=[116,101,120,116]:=fun e=>ne_of_beq_false w ((ByteArray.toList_eq _).trans e)
   rw [if_neg (fun hh=>w hh.2)] at hD
   refine cond_mk (fun x=>?_) (fun x=>?_)
   ·have x:t.text.data.toList=[100,97,116,97]:=(ByteArray.toList_eq _).symm.trans (eq_of_beq x)
    rw [if_pos ⟨g,x⟩] at hD
    exact good (t:={ thg0 with kind:=5,sec:=1 }) (w:=2) (sl:=⟨none,0,0⟩) (se:=⟨none,0,0⟩) (us:=[]) e1 (bz (Ch.refl _ _)) hD rfl ⟨ItsAt.nil _ _,rfl,SL.nil _ _ _ _,.inl rfl⟩
   have x:¬ t.text.data.toList=[100,97,116,97]:=fun e=>ne_of_beq_false x ((ByteArray.toList_eq _).trans e)
   rw [if_neg (fun hh=>x hh.2)] at hD
   exact bad (e:=20) e1 (bz (Ch.refl _ _)) hD (by decide)
  ·have g:¬ t.kind=1:=eqN_f g
   rw [if_neg (fun hh=>g hh.1),if_neg (fun hh=>g hh.1)] at hD
   exact bad (e:=20) e1 (bz (Ch.refl _ _)) hD (by decide)
 ·have r:¬ a.l=1:=eqN_f r
  have hD:dirA s (al.map In.ts)=.error 20:=by
   rw [hD]
   cases hts:a.ts with
   | nil=>rfl
   | cons t r =>
    cases r with
    | nil=>rw [hts] at hla; simp at hla; omega
    | cons _ _=>rfl
  exact bad (e:=20) e1 (bz (Ch.refl _ _)) hD (by decide)
section
variable {L:Lp} {K:Value→Hp→Prop} {hh:Hp}
end
set_option maxHeartbeats 1000000 in
def zT:List Value:=thgC 0 none 0 0 nam0 none 0 0 0 0
def thgQ (h:Hp) (r:Except Nat Thg) (u:Value) (h':Hp):Prop:=Ext h h'∧match r with
 | .error e=>u=.tuple #[.agg zT.toArray,.int .i64 (e:Int)]∧e≠0
 | .ok t=>∃ sl us se,u=.tuple #[thgV t.kind sl t.name se t.e.num t.sec,.int .i64 0]∧ThgAt h' h.size t sl us se
def opA (op:ByteArray) (args:List (List Tok)):Except Nat (Thg × Nat) :=
 if findA op≠0 then match codeA (findA op) args with
  | .error e=>.error e
  | .ok x=>.ok (oneT x,0)
 else dirA op args
theorem readA_op {l:Ln} {data:Bool} (h:¬ l.op=nam0):readA l data=match opA l.op l.args with
  | .error e=>.error e
  | .ok (t,w)=>if w=2∨w=(if data then 1 else 0) then .ok t else .error 21:=by
 unfold readA opA
 rw [if_neg h]
 by_cases hf:findA l.op≠0
 ·rw [if_pos hf,if_pos hf]
  cases codeA (findA l.op) l.args with
  | error e=>rfl
  | ok x=>cases data <;> simp
 ·rw [if_neg hf,if_neg hf]
  cases dirA l.op l.args with
  | error e=>rfl
  | ok q=>rfl
theorem codeA_err {op:Int} {args:List (List Tok)} {e:Nat} (hw:∀ a,a∈args→Wf a) (h:codeA op args=.error e):e=20∨e=21:=by
 unfold codeA at h
 split at h
 ·injection h with h
  exact .inl h.symm
 have key:∀ (rs:List Rdr) (args:List (List Tok)) (x:Itm),(∀ a,a∈args→Wf a)→codeL x rs args=.error e→e=20∨e=21:=by
  intro rs
  induction rs with
  | nil=>intro args x _ h; cases args <;> simp [codeL] at h
  | cons r rs ih =>
   intro args x hw h
   cases args with
   | nil=>simp [codeL] at h
   | cons a args =>
    simp only [codeL] at h
    cases ha:argA x r a with
    | error e' =>
     rw [ha] at h
     injection h with h
     subst h
     exact argA_err (hw a (by simp)) ha
    | ok y =>
     rw [ha] at h
     exact ih args y (fun b hb=>hw b (by simp [hb])) h
 exact key _ _ _ hw h
theorem dirA_w {op:ByteArray} {args:List (List Tok)} {t:Thg} {w:Nat} (hd:dirA op args=.ok (t,w)):w≤2:=by
 unfold dirA at hd
 simp only at hd
 repeat' split at hd
 all_goals first | (cases hd; done) | (injection hd with hd; injection hd with h1 h2; omega)
set_option maxHeartbeats 1000000 in
theorem read_hc {h:Hp} (tb:TabN h) {lab op:ByteArray} {p:Option Addr} {l c:Nat} {al:List In} (v:VwA h p l al) (hal:al.length≤2^32) (sec:Int) :
  HC Tryz.prog 65 #[.agg #[.string lab,.string op,.slice p l c],.int .i64 sec] h (thgQ h (readA ⟨lab,op,al.map In.ts⟩ (decide (sec=1)))):=by
 refine hcr_of (args:=[.agg #[.string lab,.string op,.slice p l c],.int .i64 sec]) mixed Tryz.func65 (by kernel_rfl) (t_item_Read_eq lab op p l c sec) ?_
 unfold t_item_Read
 refine newB ?_
 intro g1 b1 e1 z1
 refine newB ?_
 intro g2 b2 e2 z2
 have b1:=b1.keep e2 (by simp)
 have e02:=e1.trans e2
 have b2:Box g2 g1.size 134 zT:=b2
 obtain ⟨s4,hs4⟩:∃ s4:Int,s4=if sec=1 then 1 else 0:=⟨_,rfl⟩
 refine join_of (cs:=[(false,[.int .i64])]) (fun y h'=>g2=h'∧s4=y.1) ?_ ?_
 ·refine cond_mk (fun q=>?_) (fun q=>?_)
  ·have q:¬ sec=1:=by simpa using q
   exact meet_mk (cs:=[(false,[.int .i64])]) ((0:Int),()) rfl rfl ⟨rfl,by rw [hs4,if_neg q]⟩
  ·have q:sec=1:=by simpa using q
   exact meet_mk (cs:=[(false,[.int .i64])]) (sec,()) rfl rfl ⟨rfl,by rw [hs4,if_pos q,q]⟩
 rintro ⟨n4,⟨⟩⟩ g9 ⟨h9,h4⟩
 simp only at h4
 subst h9
 rw [← h4]
 clear h4
 dsimp only [flat,unc,unc1,nA,cA]
 rw [add_box]
 refine loads_box b1 (op,()) rfl ?_
 dsimp only [flat,unc,unc1,nA,cA]
 obtain ⟨r,hr⟩:∃ r,r=readA ⟨lab,op,al.map In.ts⟩ (decide (sec=1)):=⟨_,rfl⟩
 rw [← hr]
 have bad:∀ {gg:Hp} {xs:List Value} {e:Nat} {L:Lp},Ext h gg→Box gg g1.size 134 xs→xs.length=6→r=.error e→e≠0 →
   (T.stores ⟨g1.size,0,none⟩ [.int .i64 (0:Int),.slice none 0 0,.string ⟨#[]⟩,.slice none 0 0,.int .u32 (0:Int),.int .i64 (0:Int)] <|
   T.loads ⟨g1.size,0,none⟩ [.int .i64,.slice 96,.string,.slice 109,.int .u32,.int .i64] <| fun (n6:Int) (p7:Option Addr) (l8:Nat) (l9:Nat) (s10:ByteArray) (p11:Option Addr) (l12:Nat) (l13:Nat) (n14:Int) (n15:Int) =>
   T.ret (.tuple #[.agg #[.int .i64 n6,.slice p7 l8 l9,.string s10,.slice p11 l12 l13,.int .u32 n14,.int .i64 n15],.int .i64 (e:Int)])) L (thgQ h r) gg:=by
  intro gg xs e L eg bx hx hA he
  refine thg_st bx hx ?_
  intro h' b' k' z'
  refine ⟨Ch.trans eg k' (fun i hi hl=>by simp at hi; omega),?_⟩
  rw [hA]
  exact ⟨rfl,he⟩
 have good:∀ {gg:Hp} {xs:List Value} {t:Thg} {sl se:Sli} {us:List (Sli × Itm)} {L:Lp},Ext h gg→Box gg g1.size 134 xs→xs.length=6→r=.ok t→ThgAt gg (g1.size+1) t sl us se →
   (T.stores ⟨g1.size,0,none⟩ [.int .i64 (t.kind:Int),.slice sl.p sl.l sl.c,.string t.name,.slice se.p se.l se.c,.int .u32 (t.e.num:Int),.int .i64 (t.sec:Int)] <|
   T.loads ⟨g1.size,0,none⟩ [.int .i64,.slice 96,.string,.slice 109,.int .u32,.int .i64] <| fun (n6:Int) (p7:Option Addr) (l8:Nat) (l9:Nat) (s10:ByteArray) (p11:Option Addr) (l12:Nat) (l13:Nat) (n14:Int) (n15:Int) =>
   T.ret (.tuple #[.agg #[.int .i64 n6,.slice p7 l8 l9,.string s10,.slice p11 l12 l13,.int .u32 n14,.int .i64 n15],.int .i64 (0:Int)])) L (thgQ h r) gg:=by
  intro gg xs t sl se us L eg bx hx hA A
  refine thg_st bx hx ?_
  intro h' b' k' z'
  refine ⟨Ch.trans eg k' (fun i hi hl=>by simp at hi; omega),?_⟩
  rw [hA]
  exact ⟨sl,us,se,rfl,(A.keep k' (fun i hi hl=>by simp at hi; omega)).mono (by omega)⟩
 refine cond_mk (fun q=>?_) (fun q=>?_)
 ·have q:op=nam0:=by
   have q:op.data.toList=[]:=(ByteArray.toList_eq op).symm.trans (eq_of_beq q)
   exact ba_ext q
  have hA:r=.ok thg0:=by rw [hr]; unfold readA; rw [if_pos q]
  exact good (t:=thg0) (sl:=⟨none,0,0⟩) (se:=⟨none,0,0⟩) (us:=[]) e02 b2 rfl hA ⟨ItsAt.nil _ _,rfl,SL.nil _ _ _ _,.inl rfl⟩
 have q:¬ op=nam0:=fun e=>by
  subst e
  rw [ByteArray.toList_eq] at q
  simp [nam0] at q
 have hop:=readA_op (l:=⟨lab,op,al.map In.ts⟩) (data:=decide (sec=1)) q
 rw [← hr] at hop
 simp only at hop
 obtain ⟨ro,hro⟩:∃ ro,opA op (al.map In.ts)=ro:=⟨_,rfl⟩
 rw [hro] at hop
 refine newB ?_
 intro g3 b3 e3 z3
 have b3:Box g3 g2.size 134 zT:=b3
 have b1:=b1.keep e3 (by simp)
 have b2:=b2.keep e3 (by simp)
 have e03:=e02.trans e3
 have hlt2:=b2.lt
 have v3:=v.keep e03
 refine join_of (cs:=[(false,[.int .i64]),(false,[.int .i64])]) (fun y h'=>Ext h h'∧Box h' g1.size 134 zT∧match ro with
  | .error e=>y.2.1=(e:Int)∧e≠0
  | .ok (t,w)=>y.1=whI w∧y.2.1=(0:Int)∧w≤2∧∃ sl us se,Box h' g2.size 134 (thgC t.kind sl.p sl.l sl.c t.name se.p se.l se.c t.e.num t.sec)∧ThgAt h' (g1.size+1) t sl us se) ?_ ?_
 ·rw [add_box]
  refine loads_box b1 (op,()) rfl ?_
  dsimp only [flat,unc,unc1,nA,cA]
  refine call_of (find_hc (tb.keep e03 (by simp)) op) ?_
  obtain ⟨fo,hfo⟩:∃ fo,findA op=fo:=⟨_,rfl⟩
  have hle:fo≤43:=hfo▸findL_le _ _ _
  rintro u0 g4 ⟨hu0,e4⟩
  rw [hfo] at hu0
  subst hu0
  refine ⟨((fo:Int),decide (fo≠0),()),rfl,?_⟩
  dsimp only [flat,unc,unc1,nA,cA]
  have b14:=b1.keep e4 (by simp)
  have b24:=b2.keep e4 (by simp)
  have b34:=b3.keep e4 (by simp)
  have e04:=e03.trans e4
  refine cond_mk (fun f=>?_) (fun f=>?_)
  ·have f:fo≠0:=of_decide_eq_true f
   refine newB ?_
   intro g5 b5 e5 z5
   have b15:=b14.keep e5 (by simp)
   try rw [add_box]
   refine loads_box b15 ((p,l,c),()) rfl ?_
   dsimp only [flat,unc,unc1,nA,cA]
   have e05:=e04.trans e5
   refine call_of (code_hc ((tb.keep e05 (by simp)).tab) (op:=fo) (by omega) hle (v.keep e05) (by omega)) ?_
   rintro u g6 ⟨e6,hu⟩
   have e06:=e05.trans e6
   have hopA:ro=match codeA (fo:Int) (al.map In.ts) with
     | .error e=>.error e
     | .ok x=>.ok (oneT x,0):=by
    rw [← hro]
    unfold opA
    rw [hfo,if_pos f]
   have fin:∀ {x:Itm} {p':Option Addr} {l' c':Nat} {why:Int} {L:Lp} {K:Value→Hp→Prop},SL g6 g5.size 109 2 p' l' c' (x.e.terms.map encT)→(∀ h',Ext g6 h'∨True→Ch [g2.size] g6 h'∨True→Ext h h'→Box h' g1.size 134 zT→Box h' g2.size 134 (thgC 1 (some ⟨g6.size,0,none⟩) 1 1 nam0 none 0 0 0 0)→ItsAt h' (g1.size+1) (some ⟨g6.size,0,none⟩) 1 1 [(⟨p',l',c'⟩,x)]→T.again 0 [.int .i64 (0:Int),.int .i64 why] L K h') →
     (T.stores ⟨g4.size,0,none⟩ [.int .i64 x.kind,.string x.name,.int .i64 x.inst.op,.int .i64 x.inst.a,.int .i64 x.inst.b,.int .i32 x.inst.n,.int .i64 x.inst.form,.slice p' l' c',.int .u32 (x.e.num:Int),.int .i64 x.n] <|
     T.loads ⟨g4.size,0,none⟩ [.int .i64,.string,.int .i64,.int .i64,.int .i64,.int .i32,.int .i64,.slice 109,.int .u32,.int .i64] <| fun (n27:Int) (s28:ByteArray) (n29:Int) (n30:Int) (n31:Int) (n32:Int) (n33:Int) (p34:Option Addr) (l35:Nat) (l36:Nat) (n37:Int) (n38:Int) =>
     T.sem Tryz.prog (Instr.buildSlice 23 1 #[(0,.agg #[.int .i64 n27,.string s28,.int .i64 n29,.int .i64 n30,.int .i64 n31,.int .i32 n32,.int .i64 n33,.slice p34 l35 l36,.int .u32 n37,.int .i64 n38])]) false [(false,[.slice 0])] <| fun (p39:Option Addr) (l40:Nat) (l41:Nat) =>
     T.stores ⟨g2.size,0,none⟩ [.int .i64 (1:Int),.slice p39 l40 l41,.string ⟨#[]⟩,.slice none 0 0,.int .u32 (0:Int),.int .i64 (0:Int)] <|
     T.again 0 [.int .i64 (0:Int),.int .i64 why]) L K g6:=by
    intro x p' l' c' why L K sx hk
    refine stores_of (b5.keep e6 (by simp)) rfl (by simp) ?_
    intro g7 b7 k7 z7
    have b7:Box g7 g4.size 96 (encI p' l' c' x):=b7
    refine loads_box b7 (x.kind,x.name,x.inst.op,x.inst.a,x.inst.b,x.inst.n,x.inst.form,(p',l',c'),(x.e.num:Int),x.n,()) rfl ?_
    dsimp only [flat,unc,unc1,nA,cA]
    refine lit1_of (p:=p') (l:=l') (c:=c') (x:=x) ?_
    intro g8 s8 e8 z8
    have hz4:=e4.size
    have hz5:g5.size=g4.size+1:=z5
    have hz6:=e6.size
    have e07:Ext h g7:=Ch.trans e06 k7 (fun i hi hl=>by have:=e04.size; simp at hi; omega)
    have b38:Box g8 g2.size 134 zT:=(((b34.keep e5 (by simp)).keep e6 (by simp)).keep k7 (by have:=b34.lt; simp; omega)).keep e8 (by simp)
    refine stores_of b38 rfl (by simp [zT,thgC]) ?_
    intro g9 b9 k9 z9
    have b28:Box g8 g1.size 134 zT:=(((b24.keep e5 (by simp)).keep e6 (by simp)).keep k7 (by have:=b24.lt; simp; omega)).keep e8 (by simp)
    have e09:Ext h g9:=Ch.trans (e07.trans e8) k9 (fun i hi hl=>by have:=e02.size; simp at hi; omega)
    have s8':=SL.keepN (Sx.SL.mono s8 (show g1.size+1≤g7.size by omega)) (Ch.refl [] g8) (by simp)
    refine hk g9 (.inr trivial) (.inr trivial) e09 (b28.keep k9 (by simp; omega)) (by rw [z7] at b9; exact b9) ?_
    refine ⟨?_,?_,?_,by simp⟩
    ·rw [z7] at s8
     exact Sx.SL.keep' (Sx.SL.mono s8 (by omega)) k9 (fun i hi hm=>by simp [blkOf] at hi hm; omega)
    ·intro w hw
     have hw:w=(⟨p',l',c'⟩,x):=by simpa using hw
     subst hw
     refine Sx.SL.keep' (Sx.SL.keep' (Sx.SL.keep' (Sx.SL.mono sx (by omega)) k7 (fun i hi hm=>by have:=(Sx.SL.blk sx hi).1; simp at hm; omega)) e8 (by simp)) k9 (fun i hi hm=>by have:=(Sx.SL.blk sx hi).1; simp at hm; omega)
    ·intro w hw i hi hm
     have hw:w=(⟨p',l',c'⟩,x):=by simpa using hw
     subst hw
     have:=(Sx.SL.blk sx hi).2
     simp [blkOf] at hm
     omega
   cases hcd:codeA (fo:Int) (al.map In.ts) with
   | error e =>
    rw [hcd] at hu hopA
    have he:=codeA_err (fun a ha=>by obtain ⟨b,hb,rfl⟩:=List.mem_map.1 ha; exact v.wf b hb) hcd
    have hu:u=.tuple #[itmV none 0 0 (itm 0),.int .i64 (e:Int)]:=hu
    subst hu
    refine ⟨((0:Int),(⟨#[]⟩:ByteArray),(0:Int),(0:Int),(0:Int),(0:Int),(0:Int),(none,0,0),(0:Int),(0:Int),(e:Int),()),rfl,?_⟩
    dsimp only [flat,unc,unc1,nA,cA]
    refine fin (x:=itm 0) (p':=none) (l':=0) (c':=0) (SL.nil _ _ _ _) ?_
    intro g9 _ _ e09 b29 b39 _
    refine meet_mk (cs:=[(false,[.int .i64]),(false,[.int .i64])]) ((0:Int),(e:Int),()) rfl rfl ⟨e09,b29,?_⟩
    have hopA:ro=.error e:=hopA
    subst hopA
    exact ⟨rfl,by omega⟩
   | ok x =>
    rw [hcd] at hu hopA
    obtain ⟨p',l',c',rfl,sx⟩:=hu
    refine ⟨(x.kind,x.name,x.inst.op,x.inst.a,x.inst.b,x.inst.n,x.inst.form,(p',l',c'),(x.e.num:Int),x.n,(0:Int),()),rfl,?_⟩
    dsimp only [flat,unc,unc1,nA,cA]
    refine fin (x:=x) sx ?_
    intro g9 _ _ e09 b29 b39 A9
    refine meet_mk (cs:=[(false,[.int .i64]),(false,[.int .i64])]) ((0:Int),(0:Int),()) rfl rfl ⟨e09,b29,?_⟩
    have hopA:ro=.ok (oneT x,0):=hopA
    subst hopA
    exact ⟨rfl,rfl,by omega,⟨_,1,1⟩,_,⟨none,0,0⟩,b39,A9,rfl,SL.nil _ _ _ _,.inr rfl⟩
  ·have f:¬ fo≠0:=of_decide_eq_false f
   have hopA:ro=dirA op (al.map In.ts):=by
    rw [← hro]
    unfold opA
    rw [hfo,if_neg f]
   try rw [add_box]
   refine loads_box b14 (op,()) rfl ?_
   dsimp only [flat,unc,unc1,nA,cA]
   try rw [add_box]
   refine loads_box b14 ((p,l,c),()) rfl ?_
   dsimp only [flat,unc,unc1,nA,cA]
   refine call_of (directive_hc (v.keep e04) hal op) ?_
   rintro u g5 ⟨e5,hu⟩
   have e05:=e04.trans e5
   have hz2:=e2.size
   have hlt3:=b34.lt
   cases hd:dirA op (al.map In.ts) with
   | error e =>
    rw [hd] at hu
    obtain ⟨k,p1,l1,c1,nm,p2,l2,c2,n,sc,w,rfl,he⟩:=hu
    refine ⟨(k,(p1,l1,c1),nm,(p2,l2,c2),n,sc,w,(e:Int),()),rfl,?_⟩
    dsimp only [flat,unc,unc1,nA,cA]
    refine stores_of (b34.keep e5 (by simp)) rfl (by simp [zT,thgC]) ?_
    intro g6 b6 k6 z6
    refine meet_mk (cs:=[(false,[.int .i64]),(false,[.int .i64])]) (w,(e:Int),()) rfl rfl ⟨Ch.trans e05 k6 (fun i hi hl=>by have:=e02.size; simp at hi; omega),(b24.keep e5 (by simp)).keep k6 (by simp; omega),?_⟩
    have hopA:ro=.error e:=hopA.trans hd
    subst hopA
    exact ⟨rfl,he⟩
   | ok q =>
    obtain ⟨t,w⟩:=q
    rw [hd] at hu
    obtain ⟨sl,us,se,rfl,A⟩:=hu
    refine ⟨(((t.kind:Nat):Int),(sl.p,sl.l,sl.c),t.name,(se.p,se.l,se.c),(t.e.num:Int),((t.sec:Nat):Int),whI w,(0:Int),()),rfl,?_⟩
    dsimp only [flat,unc,unc1,nA,cA]
    refine stores_of (b34.keep e5 (by simp)) rfl (by simp [zT,thgC]) ?_
    intro g6 b6 k6 z6
    have hw2:w≤2:=dirA_w hd
    refine meet_mk (cs:=[(false,[.int .i64]),(false,[.int .i64])]) (whI w,(0:Int),()) rfl rfl ⟨Ch.trans e05 k6 (fun i hi hl=>by have:=e02.size; simp at hi; omega),(b24.keep e5 (by simp)).keep k6 (by simp; omega),?_⟩
    have hopA:ro=.ok (t,w):=hopA.trans hd
    subst hopA
    exact ⟨rfl,rfl,hw2,sl,us,se,b6,(A.keep k6 (fun i hi hl=>by simp at hi; omega)).mono (by have:=e4.size; omega)⟩
 rintro ⟨n7,n8,⟨⟩⟩ g4 ⟨e04,b24,hJ⟩
 simp only at hJ
 dsimp only [flat,unc,unc1,nA,cA]
 cases ho:ro with
 | error e =>
  subst ho
  obtain ⟨rfl,he⟩:=hJ
  refine cond_t (by simp; omega) ?_
  exact bad (e:=e) e04 b24 rfl hop he
 | ok q =>
  obtain ⟨t,w⟩:=q
  subst ho
  obtain ⟨rfl,rfl,hw,sl,us,se,b34,A⟩:=hJ
  simp only at hop
  refine cond_f rfl ?_
  have done_:w=2∨w=(if decide (sec=1)=true then 1 else 0)→∀ {L:Lp},(T.loads ⟨g2.size,0,none⟩ [.int .i64,.slice 96,.string,.slice 109,.int .u32,.int .i64] <| fun (n9:Int) (p10:Option Addr) (l11:Nat) (l12:Nat) (s13:ByteArray) (p14:Option Addr) (l15:Nat) (l16:Nat) (n17:Int) (n18:Int) =>
    T.stores ⟨g1.size,0,none⟩ [.int .i64 n9,.slice p10 l11 l12,.string s13,.slice p14 l15 l16,.int .u32 n17,.int .i64 n18] <|
    T.loads ⟨g1.size,0,none⟩ [.int .i64,.slice 96,.string,.slice 109,.int .u32,.int .i64] <| fun (n19:Int) (p20:Option Addr) (l21:Nat) (l22:Nat) (s23:ByteArray) (p24:Option Addr) (l25:Nat) (l26:Nat) (n27:Int) (n28:Int) =>
    T.ret (.tuple #[.agg #[.int .i64 n19,.slice p20 l21 l22,.string s23,.slice p24 l25 l26,.int .u32 n27,.int .i64 n28],.int .i64 (0:Int)])) L (thgQ h r) g4:=by
   intro hh L
   refine loads_box b34 (((t.kind:Nat):Int),(sl.p,sl.l,sl.c),t.name,(se.p,se.l,se.c),(t.e.num:Int),((t.sec:Nat):Int),()) rfl ?_
   dsimp only [flat,unc,unc1,nA,cA]
   exact good e04 b24 rfl (hop.trans (if_pos hh)) A
  refine cond_mk (fun g=>?_) (fun g=>?_)
  ·have g:=of_decide_eq_true g
   have hw2:¬ w=2:=fun e=>by rw [e] at g; simp [whI] at g
   have hwi:whI w=(w:Int):=by unfold whI; rw [if_neg hw2]
   rw [hwi,hs4]
   refine cond_mk (fun f=>?_) (fun f=>?_)
   ·have f:¬ (w:Int)=if sec=1 then 1 else 0:=by simpa using f
    refine bad (e:=21) e04 b24 rfl (hop.trans (if_neg ?_)) (by decide)
    rintro (x | x)
    ·exact hw2 x
    ·apply f
     rw [x]
     by_cases hs:sec=1 <;> simp [hs]
   ·have f:(w:Int)=if sec=1 then 1 else 0:=by simpa using f
    refine done_ (.inr ?_)
    by_cases hs:sec=1
    ·simp [hs] at f ⊢; omega
    ·simp [hs] at f ⊢; omega
  ·have g:=of_decide_eq_false g
   have hw2:w=2:=by
    by_cases e:w=2
    ·exact e
    ·exfalso
     apply g
     unfold whI
     rw [if_neg e]
     omega
   exact done_ (.inl hw2)
end Go.Sx.Ob
set_option linter.unusedVariables false
set_option linter.unusedSimpArgs false
set_option maxRecDepth 100000
namespace Go.Sx
open Go.Proofs
theorem wf_lexAt {s:ByteArray} {a k':Nat} {t:Tok} (ha:a≤s.size) (h:lexAt s a=.tok t k'):WfT t:=by
 have hsz:s.data.toList.length=s.size:=by simp
 unfold lexAt at h
 split at h
 ·cases h
 split at h
 ·cases h
 have hlen:(s.data.toList.drop a).length=s.size-a:=by rw [List.length_drop,hsz]
 split at h
 ·rename_i h1 h2 h3
  split at h
  ·cases h
  ·rename_i h4
   cases h
   refine ⟨by simp,fun _=>⟨rfl,?_⟩⟩
   have h5:=rowN_le (s.data.toList.drop a) gluedL
   have h0:(s.data.toList.drop a).getD 0 0=s.data.toList.getD a 0:=by simp [List.getD]
   have h6:=(rowN_pos (s:=s.data.toList.drop a) (set:=gluedL) (by omega)).2 (by
    rw [h0]
    show (lettersL++digitsL).contains _=true
    rw [glued_is,h3]; rfl)
   have e:(s.extract a (a+rowN (s.data.toList.drop a) gluedL)).data.toList=(s.data.toList.drop a).take (rowN (s.data.toList.drop a) gluedL):=by
    rw [ext_list,show a+rowN (s.data.toList.drop a) gluedL-a=rowN (s.data.toList.drop a) gluedL by omega]
   show legalL (s.extract a (a+rowN (s.data.toList.drop a) gluedL)).data.toList=!(regL (s.extract a (a+rowN (s.data.toList.drop a) gluedL)).data.toList).2.2
   rw [e]
   unfold legalL
   have l1:((s.data.toList.drop a).take (rowN (s.data.toList.drop a) gluedL)).length=rowN (s.data.toList.drop a) gluedL:=by rw [List.length_take]; omega
   have l2:((s.data.toList.drop a).take (rowN (s.data.toList.drop a) gluedL)).getD 0 0=s.data.toList.getD a 0:=by rw [← h0]; exact getD_take (by omega)
   have l3:((s.data.toList.drop a).take (rowN (s.data.toList.drop a) gluedL)).all (fun c=>isLet c || isDig c)=true:=by
    refine List.all_eq_true.2 fun c hc=>?_
    obtain ⟨i,hi,rfl⟩:=List.getElem_of_mem hc
    rw [l1] at hi
    have h7:=rowN_get hi
    have h8:(lettersL++digitsL).contains ((s.data.toList.drop a).getD i 0)=true:=h7
    rw [glued_is] at h8
    rw [List.getElem_take]
    rw [List.getD,List.getElem?_eq_getElem (by omega)] at h8
    exact h8
   rw [l1,l2,l3,h3,decide_eq_true (by omega),decide_eq_true (by omega)]
   rfl
 split at h
 ·split at h
  ·cases h
  ·cases h
   exact ⟨(numL_le _).2,by simp⟩
 split at h
 ·split at h
  ·cases h
  ·cases h
   exact ⟨by show (s.data.toList.getD (a+1) 0).toNat<4294967296; have:=(s.data.toList.getD (a+1) 0).toNat_lt; omega,by simp⟩
 split at h
 ·cases h
  exact ⟨by simp,by simp⟩
 ·cases h
theorem wf_lexF {s:ByteArray}:∀ (f k:Nat) (acc:List Tok),k≤s.size→Wf acc→Wf (lexF s f k acc).1
 | 0,k,acc,hk,w=>w
 | f+1,k,acc,hk,w=>by
  unfold lexF
  cases h:lexStep s k with
  | stop=>exact w
  | wrong a=>intro t ht; simp at ht
  | tok t k' =>
   simp only
   have h1:=lexStep_tok hk h
   have hle:k+rowN (s.data.toList.drop k) blanksL≤s.size:=by
    have:=rowN_le (s.data.toList.drop k) blanksL
    rw [List.length_drop] at this
    have hsz:s.data.toList.length=s.size:=by simp
    omega
   refine wf_lexF f k' _ h1.2 ?_
   intro u hu
   rcases List.mem_append.1 hu with hu | hu
   ·exact w u hu
   ·rw [List.mem_singleton] at hu
    subst hu
    exact wf_lexAt hle h
theorem wf_lexS (s:ByteArray):Wf (lexS s).1:=wf_lexF _ 0 [] (Nat.zero_le _) (by intro t ht; simp at ht)
theorem size_lexF {s:ByteArray}:∀ (f k:Nat) (acc:List Tok),k≤s.size→(∀ t,t∈acc→t.text.size≤s.size)→∀ t,t∈(lexF s f k acc).1→t.text.size≤s.size
 | 0,k,acc,hk,w=>w
 | f+1,k,acc,hk,w=>by
  unfold lexF
  cases h:lexStep s k with
  | stop=>exact w
  | wrong a=>intro t ht; simp at ht
  | tok t k' =>
   simp only
   have h1:=lexStep_tok hk h
   have hle:k+rowN (s.data.toList.drop k) blanksL≤s.size:=by
    have:=rowN_le (s.data.toList.drop k) blanksL
    rw [List.length_drop] at this
    have hsz:s.data.toList.length=s.size:=by simp
    omega
   refine size_lexF f k' _ h1.2 ?_
   intro u hu
   rcases List.mem_append.1 hu with hu | hu
   ·exact w u hu
   ·rw [List.mem_singleton] at hu
    subst hu
    obtain ⟨_,_,_,h4⟩:=lexAt_tok hle h
    rw [h4,ext_size]
    omega
theorem size_lexS (s:ByteArray):∀ t,t∈(lexS s).1→t.text.size≤s.size:=size_lexF _ 0 [] (Nat.zero_le _) (by intro t ht; simp at ht)
theorem argsS_ne (n:Nat):∀ (ts:List Tok) (done:List (List Tok)) (cur:List Tok) (r:List (List Tok)),argsS n ts done cur=.ok r→(∀ l,l∈done→l≠[])→∀ l,l∈r→l≠[]
 | [],done,cur,r,h,hd=>by
  simp only [argsS] at h
  split at h
  ·cases h
  ·rename_i hc
   injection h with h
   subst h
   intro l hl
   rcases List.mem_append.1 hl with hl | hl
   ·exact hd l hl
   ·have:l=cur:=by simpa using hl
    subst this
    exact hc
 | t::ts,done,cur,r,h,hd=>by
  simp only [argsS] at h
  split at h
  ·cases h
  ·rename_i h0
   split at h
   ·rename_i h1
    refine argsS_ne n ts _ _ r h fun l hl=>?_
    rcases List.mem_append.1 hl with hl | hl
    ·exact hd l hl
    ·have:l=cur:=by simpa using hl
     subst this
     intro hh
     subst hh
     rw [h1] at h0
     simp at h0
   ·exact argsS_ne n ts _ _ r h hd
theorem parseT_ne (n:Nat) (lb:ByteArray) (us:List Tok):∀ l,l∈(parseT n lb us).1.args→l≠[]:=by
 cases us with
 | nil=>simp [parseT]
 | cons t us =>
  simp only [parseT]
  split
  ·simp [lnNil]
  ·cases hA:argsA n us with
   | error a=>simp [lnNil]
   | ok r =>
    unfold argsA at hA
    split at hA
    ·injection hA with hA
     subst hA
     simp
    ·exact argsS_ne n us [] [] r hA (by simp)
theorem parseS_ne (s:ByteArray):∀ l,l∈(parseS s).1.args→l≠[]:=by
 unfold parseS
 split
 ·simp [lnNil]
 ·unfold parseL
  split
  ·exact parseT_ne _ _ _
  ·exact parseT_ne _ _ _
theorem argsS_all (P:Tok→Prop) (n:Nat):∀ (ts:List Tok) (done:List (List Tok)) (cur:List Tok) (r:List (List Tok)),argsS n ts done cur=.ok r→(∀ l,l∈done→∀ t,t∈l→P t)→(∀ t,t∈cur→P t)→(∀ t,t∈ts→P t)→∀ l,l∈r→∀ t,t∈l→P t
 | [],done,cur,r,h,hd,hc,ht=>by
  simp only [argsS] at h
  split at h
  ·cases h
  ·injection h with h
   subst h
   intro l hl
   rcases List.mem_append.1 hl with hl | hl
   ·exact hd l hl
   ·have:l=cur:=by simpa using hl
    subst this
    exact hc
 | t::ts,done,cur,r,h,hd,hc,ht=>by
  simp only [argsS] at h
  split at h
  ·cases h
  ·split at h
   ·refine argsS_all P n ts _ _ r h (fun l hl=>?_) (by simp) (fun x hx=>ht x (by simp [hx]))
    rcases List.mem_append.1 hl with hl | hl
    ·exact hd l hl
    ·have:l=cur:=by simpa using hl
     subst this
     exact hc
   ·refine argsS_all P n ts _ _ r h hd (fun x hx=>?_) (fun x hx=>ht x (by simp [hx]))
    rcases List.mem_append.1 hx with hx | hx
    ·exact hc x hx
    ·have:x=t:=by simpa using hx
     subst this
     exact ht x (by simp)
theorem parseT_all (Q:Tok→Prop) (n:Nat) (lb:ByteArray) (us:List Tok) (h:∀ t,t∈us→Q t):∀ l,l∈(parseT n lb us).1.args→∀ t,t∈l→Q t:=by
 cases us with
 | nil=>simp [parseT]
 | cons t us =>
  simp only [parseT]
  split
  ·simp [lnNil]
  ·cases hA:argsA n us with
   | error a=>simp [lnNil]
   | ok r =>
    unfold argsA at hA
    split at hA
    ·injection hA with hA
     subst hA
     simp
    ·exact argsS_all Q n us [] [] r hA (by simp) (by simp) (fun x hx=>h x (by simp [hx]))
theorem parseS_all (Q:Tok→Prop) (s:ByteArray) (h:∀ t,t∈(lexS s).1→Q t):∀ l,l∈(parseS s).1.args→∀ t,t∈l→Q t:=by
 unfold parseS
 split
 ·simp [lnNil]
 ·unfold parseL
  split
  ·exact parseT_all Q _ _ _ fun t ht=>h t (List.mem_of_mem_drop ht)
  ·exact parseT_all Q _ _ _ h
theorem parse_facts (s:ByteArray) (hs:s.size≤2^20):∀ a,a∈(parseS s).1.args→Wf a∧a.length≤2^40∧a≠[]∧∀ t,t∈a→t.text.size≤9223372036854775807:=fun a ha =>
 ⟨parseS_all WfT s (wf_lexS s) a ha,by have:=(parseS_bound s).1 a ha; omega,parseS_ne s a ha,fun t ht=>by have:=parseS_all (fun t=>t.text.size≤s.size) s (size_lexS s) a ha t ht; omega⟩
end Go.Sx
namespace Go.Sx.Ob
open Go.Proofs
theorem VwA.parse {h:Hp} {b:Nat} {te es:TypeId} {p:Option Addr} {c:Nat} {al:List In} (s:ByteArray) (hs:s.size≤2^20) (A:Args h b te es p c al) (ha:al.map In.ts=(parseS s).1.args):VwA h p al.length al∧al.length≤2^32:=by
 refine ⟨VwA.of A fun a hm=>parse_facts s hs a.ts (ha▸List.mem_map_of_mem hm),?_⟩
 have:=(parseS_bound s).2
 rw [← ha,List.length_map] at this
 omega
theorem ThgAt.z (h:Hp) (b:Nat):ThgAt h b thg0 ⟨none,0,0⟩ [] ⟨none,0,0⟩:=⟨ItsAt.nil _ _,rfl,SL.nil _ _ _ _,.inl rfl⟩
end Go.Sx.Ob
