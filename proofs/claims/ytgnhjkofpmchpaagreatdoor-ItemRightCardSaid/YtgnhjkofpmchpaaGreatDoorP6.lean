/- Contracts over heaps, and plain laws, for the functions that the laws of chapter 8 call, part 6: The arguments of instructions over heaps: registers, constants, names; how a sha Condition: as each statement says. -/
import Derived.Test.YtgnhjkofpmchpaaGreatDoorP5
import Derived.Test.YtgnhjkofpmchpaaGreatDoorItA
import Derived.Test.YtgnhjkofpmchpaaGreatDoorIrY
set_option linter.unusedVariables false
set_option linter.unusedSimpArgs false
set_option maxRecDepth 100000
namespace Go.Sx.Ob
open Go.Proofs
def resI (r:Except Nat Int):Value :=
 match r with
 | .ok n=>.tuple #[.int .i64 n,.int .i64 0]
 | .error e=>.tuple #[.int .i64 0,.int .i64 (e:Int)]
def resS (r:Except Nat ByteArray):Value :=
 match r with
 | .ok s=>.tuple #[.string s,.int .i64 0]
 | .error e=>.tuple #[.string ⟨#[]⟩,.int .i64 (e:Int)]
theorem one_of {ts:List Tok} (h:ts.length=1):∃ t,ts=[t]:=by
 match ts,h with
 | [t],_=>exact ⟨t,rfl⟩
theorem not1 {ts:List Tok} {α:Type} {f:Tok→Except Nat α} (h:¬ ts.length=1):(match ts with | [t]=>f t | _=>.error 20)=.error 20:=by
 match ts,h with
 | [],_=>rfl
 | [t],h=>exact absurd rfl h
 | _::_::_,_=>rfl
theorem reg_hc {h:Hp} {p:Option Addr} {l c:Nat} {ts:List Tok} (v:Vw h p l c ts) (z:Bool):HCp Tryz.prog 83 [.slice p l c,.bool z] h (resI (regA z ts)):=by
 refine hcp_of mixed Tryz.func83 (by kernel_rfl) (t_item_reg_eq p l c z) ?_
 unfold t_item_reg
 have hl:=v.len
 refine cond_mk (fun g=>?_) (fun g=>?_)
 ·have g:(l:Int)≠1:=by simpa using g
  refine ⟨?_,rfl⟩
  have:regA z ts=.error 20:=not1 (by omega)
  rw [this]
  rfl
 have g:(l:Int)=1:=by simpa using g
 obtain ⟨t,rfl⟩:=one_of (show ts.length=1 by omega)
 obtain ⟨a,rfl,c0⟩:=v.cells 0 (by simp)
 have c0:cellsAt h (a.add (0*4)) 0 (enc t):=c0
 obtain ⟨q1,q2,_⟩:=tok_cells c0
 refine need_of ⟨by omega,by omega⟩ (osome_mk rfl (loads_of ((t.kind:Int),()) q1 ?_))
 dsimp only [flat,unc,unc1,nA,cA]
 refine cond_mk (fun r=>?_) (fun r=>?_)
 ·have r:¬ t.kind=1:=by
   have:¬ (t.kind:Int)=1:=by simpa using r
   omega
  refine ⟨?_,rfl⟩
  have:regA z [t]=.error 20:=if_neg (fun hh=>r hh.1)
  rw [this]
  rfl
 have r:t.kind=1:=by
  have:(t.kind:Int)=1:=by simpa using r
  omega
 refine need_of ⟨by omega,by omega⟩ (osome_mk rfl (loads_of (t.text,()) q2 ?_))
 dsimp only [flat,unc,unc1,nA,cA]
 refine call_ibb (register_hc t.text h) ?_
 refine cond_mk (fun s=>?_) (fun s=>?_)
 ·have s:(regL t.text.data.toList).2.2=false:=by simpa using s
  refine ⟨?_,rfl⟩
  have:regA z [t]=.error 20:=if_neg (fun hh=>by rw [s] at hh; simp at hh)
  rw [this]
  rfl
 have s:(regL t.text.data.toList).2.2=true:=by simpa using s
 refine cond_mk (fun u=>?_) (fun u=>?_)
 ·have u:¬ (regL t.text.data.toList).2.1=z:=by simpa using u
  refine ⟨?_,rfl⟩
  have:regA z [t]=.error 20:=if_neg (fun hh=>u hh.2.2)
  rw [this]
  rfl
 have u:(regL t.text.data.toList).2.1=z:=by simpa using u
 refine ⟨?_,rfl⟩
 have:regA z [t]=.ok (regL t.text.data.toList).1:=if_pos ⟨r,s,u⟩
 rw [this]
 rfl
theorem name_hc {h:Hp} {p:Option Addr} {l c:Nat} {ts:List Tok} (v:Vw h p l c ts) (hs:∀ t,t∈ts→t.text.size≤9223372036854775807):HCp Tryz.prog 62 [.slice p l c] h (resS (namA ts)):=by
 refine hcp_of mixed Tryz.func62 (by kernel_rfl) (t_item_name_eq p l c) ?_
 unfold t_item_name
 have hl:=v.len
 refine cond_mk (fun g=>?_) (fun g=>?_)
 ·have g:(l:Int)≠1:=by simpa using g
  refine ⟨?_,rfl⟩
  have:namA ts=.error 20:=not1 (by omega)
  rw [this]
  rfl
 have g:(l:Int)=1:=by simpa using g
 obtain ⟨t,rfl⟩:=one_of (show ts.length=1 by omega)
 obtain ⟨a,rfl,c0⟩:=v.cells 0 (by simp)
 have c0:cellsAt h (a.add (0*4)) 0 (enc t):=c0
 obtain ⟨q1,q2,_⟩:=tok_cells c0
 refine need_of ⟨by omega,by omega⟩ (osome_mk rfl (loads_of ((t.kind:Int),()) q1 ?_))
 dsimp only [flat,unc,unc1,nA,cA]
 refine cond_mk (fun r=>?_) (fun r=>?_)
 ·have r:¬ t.kind=1:=by
   have:¬ (t.kind:Int)=1:=by simpa using r
   omega
  refine ⟨?_,rfl⟩
  have:namA [t]=.error 20:=if_neg (fun hh=>r hh.1)
  rw [this]
  rfl
 have r:t.kind=1:=by
  have:(t.kind:Int)=1:=by simpa using r
  omega
 refine need_of ⟨by omega,by omega⟩ (osome_mk rfl (loads_of (t.text,()) q2 ?_))
 dsimp only [flat,unc,unc1,nA,cA]
 refine call_bool (legal_hc t.text h (hs t (by simp))) ?_
 refine cond_mk (fun s=>?_) (fun s=>?_)
 ·have s:legalL t.text.data.toList=false:=by simpa using s
  refine ⟨?_,rfl⟩
  have:namA [t]=.error 20:=if_neg (fun hh=>by rw [s] at hh; simp at hh)
  rw [this]
  rfl
 have s:legalL t.text.data.toList=true:=by simpa using s
 refine need_of ⟨by omega,by omega⟩ (osome_mk rfl (loads_of (t.text,()) q2 ?_))
 dsimp only [flat,unc,unc1,nA,cA]
 refine ⟨?_,rfl⟩
 have:namA [t]=.ok t.text:=if_pos ⟨r,s⟩
 rw [this]
 rfl
theorem parseX_err {ts:List Tok} {e:Nat} (hw:Wf ts) (h:parseX ts=.error e):e=20∨e=21:=by
 unfold parseX at h
 have:=sumD_fine 32 ts hw
 cases hs:sumD 32 ts with
 | error e' =>
  rw [hs] at h this
  injection h with h
  subst h
  exact this
 | ok q =>
  rw [hs] at h
  simp only at h
  split at h
  ·cases h
  ·injection h with h
   exact .inl h.symm
theorem wrap32 {n:Nat} (hn:n<4294967296):IntKind.wrap .i64 (IntKind.wrap .i32 (n:Int))=s32 n:=by
 have h1:IntKind.wrap .i32 (n:Int)=s32 n:=by
  unfold s32
  by_cases g:n<2147483648
  ·rw [if_pos g]
   simp only [IntKind.wrap,IntKind.bits,IntKind.signed,Bool.true_and]
   split <;> rename_i hh
   ·have:=of_decide_eq_true hh; omega
   ·have:¬ _:=fun h=>hh (decide_eq_true h); omega
  ·rw [if_neg g]
   simp only [IntKind.wrap,IntKind.bits,IntKind.signed,Bool.true_and]
   split <;> rename_i hh
   ·have:=of_decide_eq_true hh; omega
   ·have:¬ _:=fun h=>hh (decide_eq_true h); omega
 rw [h1]
 unfold s32
 split <;> exact wrap_i64 (by omega) (by omega)
theorem numArg_hc {h:Hp} {p:Option Addr} {l c:Nat} {ts:List Tok} (v:Vw h p l c ts) (hp:∀ i,i∈blkOf p→i<h.size) (w:Wf ts) (hts:ts.length≤2^40) (lo hi:Int) :
  HC Tryz.prog 60 #[.slice p l c,.int .i64 lo,.int .i64 hi] h fun r h'=>r=resI (numA lo hi ts)∧Ext h h':=by
 refine hcr_of (args:=[.slice p l c,.int .i64 lo,.int .i64 hi]) mixed Tryz.func60 (by kernel_rfl) (t_item_number_eq p l c lo hi) ?_
 unfold t_item_number
 refine call_of (parse46_hc v hp w hts) ?_
 rintro r h1 ⟨e1,hr⟩
 unfold numA
 cases hx:parseX ts with
 | error e =>
  rw [hx] at hr
  have hr:r=.tuple #[.agg #[.slice none 0 0,.int .u32 0],.int .i64 (e:Int)]:=hr
  subst hr
  have he:=parseX_err w hx
  refine ⟨((none,0,0),(0:Int),(e:Int),()),rfl,?_⟩
  dsimp only [flat,unc,unc1,nA,cA]
  refine newB ?_
  intro h2 b2 e2 z2
  refine stores_of b2 rfl (by simp) ?_
  intro h3 b3 k3 z3
  refine cond_t (by simp; omega) ?_
  exact ⟨rfl,e1.trans (Ch.trans e2 k3 (fun i hi hl=>by simp at hi; omega))⟩
 | ok x =>
  rw [hx] at hr
  obtain ⟨p1,l1,c1,rfl,sl,gd⟩:=hr
  refine ⟨((p1,l1,c1),(x.num:Int),(0:Int),()),rfl,?_⟩
  dsimp only [flat,unc,unc1,nA,cA]
  refine newB ?_
  intro h2 b2 e2 z2
  refine stores_of b2 rfl (by simp) ?_
  intro h3 b3 k3 z3
  have b3:Box h3 h1.size 26 [.slice p1 l1 c1,.int .u32 (x.num:Int)]:=b3
  have e3:Ext h h3:=e1.trans (Ch.trans e2 k3 (fun i hi hl=>by simp at hi; omega))
  refine cond_f rfl ?_
  rw [add_box]
  refine loads_box b3 ((x.num:Int),()) rfl ?_
  dsimp only [flat,unc,unc1,nA,cA]
  refine loads_box b3 ((p1,l1,c1),()) rfl ?_
  dsimp only [flat,unc,unc1,nA,cA]
  rw [wrap32 gd.num]
  have hl1:l1=x.terms.length:=by rw [sl.1,List.length_map]
  refine cond_mk (fun g=>?_) (fun g=>?_)
  ·have g:=of_decide_eq_true g
   refine ⟨?_,e3⟩
   rw [if_pos (.inl (fun hh=>by rw [hh] at hl1; simp at hl1; omega))]
   rfl
  have g:=of_decide_eq_false g
  have hz:x.terms=[]:=List.eq_nil_of_length_eq_zero (by omega)
  refine cond_mk (fun g=>?_) (fun g=>?_)
  ·have g:=of_decide_eq_true g
   refine ⟨?_,e3⟩
   rw [if_pos (.inr (.inl g))]
   rfl
  have g:=of_decide_eq_false g
  refine cond_mk (fun g=>?_) (fun g=>?_)
  ·have g:=of_decide_eq_true g
   refine ⟨?_,e3⟩
   rw [if_pos (.inr (.inr g))]
   rfl
  have g':=of_decide_eq_false g
  refine ⟨?_,e3⟩
  rw [if_neg (by rintro (q | q | q) <;> first | exact q hz | omega)]
  rfl
def encR:Rdr→Value
 | .reg z s t=>.iface 152 (.agg #[.bool z,.bool s,.bool t])
 | .con lo hi=>.iface 154 (.agg #[.int .i64 lo,.int .i64 hi])
 | .val pool=>.iface 156 (.agg #[.bool pool])
theorem und116:Tryz.prog.underlying 116=some (.slice 20):=by kernel_rfl
theorem ifcZ:(Tryz.prog.info? 20).map (fun i=>(i.zero,i.size,i.bytes))=some (some .nilIface,1,16):=by kernel_rfl
theorem SL.lit {h:Hp} {b g:Nat} {e:TypeId} {xs:List Value} (bx:Box h g e xs) (hb:b≤g) (hn:xs.length<9223372036854775808):SL h b e 1 (some ⟨g,0,none⟩) xs.length xs.length (xs.map fun x=>[x]):=by
 refine ⟨by simp,by simp,g,[],[],rfl,hb,⟨Nat.le_refl _,hn⟩,?_,by simp⟩
 have:∀ l:List Value,(l.map fun x=>[x]).flatten=l:=by
  intro l
  induction l with
  | nil=>rfl
  | cons a l ih=>simp [ih]
 rw [this]
 simpa using bx
theorem readers_hc (s:Nat) (h:Hp):HC Tryz.prog 57 #[.int .i64 (s:Int)] h fun w h'=>∃ p c,w=.slice p (rdrs s).length c∧SL h' h.size 20 1 p (rdrs s).length c ((rdrs s).map fun r=>[encR r])∧Ext h h':=by
 refine hcr_of (args:=[.int .i64 (s:Int)]) mixed Tryz.func57 (by kernel_rfl) (t_item_readers_eq s) ?_
 unfold t_item_readers
 refine newB ?_
 intro h1 b1 e1 z1
 refine newB ?_
 intro h2 b2 e2 z2
 refine stores_of (b1.keep e2 (by simp)) rfl (by simp) ?_
 intro h3 b3 k3 z3
 have b3:Box h3 h.size 152 [.bool false,.bool false,.bool false]:=b3
 refine stores_of (b2.keep k3 (by simp; omega)) rfl (by simp) ?_
 intro h4 b4 k4 z4
 have b4:Box h4 h1.size 152 [.bool false,.bool true,.bool false]:=b4
 have b5:=b3.keep k4 (by simp; omega)
 have e04:Ext h h4:=Ch.trans (Ch.trans (e1.trans e2) k3 (fun i hi hl=>by simp at hi; omega)) k4 (fun i hi hl=>by simp at hi; omega)
 have fin:∀ {rs:List Rdr} {h':Hp},Box h' h4.size 20 (rs.map encR)→Ext h4 h'→rs.length<100→∃ p c,(Value.slice (some ⟨h4.size,0,none⟩) rs.length rs.length)=.slice p rs.length c∧SL h' h.size 20 1 p rs.length c (rs.map fun r=>[encR r])∧Ext h h':=by
  intro rs h' b e hl
  refine ⟨_,_,rfl,?_,e04.trans e⟩
  have:=SL.lit (b:=h.size) b (by omega) (by rw [List.length_map]; omega)
  rw [List.length_map,List.map_map] at this
  exact this
 clear k4 k3 e2 e1 b1 b2 b3
 refine cond_mk (fun q=>?_) (fun q=>?_)
 ·obtain rfl:s=1:=eqN_t q
  exact ⟨none,0,rfl,SL.nil _ _ _ _,e04⟩
 have r1:¬ s=1:=eqN_f q
 refine cond_mk (fun q=>?_) (fun q=>?_)
 ·obtain rfl:s=2:=eqN_t q
  refine loads_box b5 (false,false,false,()) rfl ?_
  dsimp only [flat,unc,unc1,nA,cA]
  refine lit_of (cells:=(rdrs 2).map encR) und116 ifcZ (by decide) (by decide) (by kernel_rfl) ?_
  intro h' b e z
  exact fin (rs:=rdrs 2) b e (by decide)
 have r2:¬ s=2:=eqN_f q
 refine cond_mk (fun q=>?_) (fun q=>?_)
 ·obtain rfl:s=3:=eqN_t q
  refine lit_of (cells:=(rdrs 3).map encR) und116 ifcZ (by decide) (by decide) (by kernel_rfl) ?_
  intro h' b e z
  exact fin (rs:=rdrs 3) b e (by decide)
 have r3:¬ s=3:=eqN_f q
 refine cond_mk (fun q=>?_) (fun q=>?_)
 ·obtain rfl:s=4:=eqN_t q
  refine loads_box b5 (false,false,false,()) rfl ?_
  dsimp only [flat,unc,unc1,nA,cA]
  refine loads_box b4 (false,true,false,()) rfl ?_
  dsimp only [flat,unc,unc1,nA,cA]
  refine lit_of (cells:=(rdrs 4).map encR) und116 ifcZ (by decide) (by decide) (by kernel_rfl) ?_
  intro h' b e z
  exact fin (rs:=rdrs 4) b e (by decide)
 have r4:¬ s=4:=eqN_f q
 refine cond_mk (fun q=>?_) (fun q=>?_)
 ·obtain rfl:s=5:=eqN_t q
  refine lit_of (cells:=(rdrs 5).map encR) und116 ifcZ (by decide) (by decide) (by kernel_rfl) ?_
  intro h' b e z
  exact fin (rs:=rdrs 5) b e (by decide)
 have r5:¬ s=5:=eqN_f q
 refine cond_mk (fun q=>?_) (fun q=>?_)
 ·obtain rfl:s=6:=eqN_t q
  refine loads_box b5 (false,false,false,()) rfl ?_
  dsimp only [flat,unc,unc1,nA,cA]
  refine lit_of (cells:=(rdrs 6).map encR) und116 ifcZ (by decide) (by decide) (by kernel_rfl) ?_
  intro h' b e z
  exact fin (rs:=rdrs 6) b e (by decide)
 have r6:¬ s=6:=eqN_f q
 refine cond_mk (fun q=>?_) (fun q=>?_)
 ·obtain rfl:s=7:=eqN_t q
  refine loads_box b4 (false,true,false,()) rfl ?_
  dsimp only [flat,unc,unc1,nA,cA]
  refine lit_of (cells:=(rdrs 7).map encR) und116 ifcZ (by decide) (by decide) (by kernel_rfl) ?_
  intro h' b e z
  exact fin (rs:=rdrs 7) b e (by decide)
 have r7:¬ s=7:=eqN_f q
 refine cond_mk (fun q=>?_) (fun q=>?_)
 ·obtain rfl:s=8:=eqN_t q
  refine loads_box b5 (false,false,false,()) rfl ?_
  dsimp only [flat,unc,unc1,nA,cA]
  refine lit_of (cells:=(rdrs 8).map encR) und116 ifcZ (by decide) (by decide) (by kernel_rfl) ?_
  intro h' b e z
  exact fin (rs:=rdrs 8) b e (by decide)
 have r8:¬ s=8:=eqN_f q
 refine cond_mk (fun q=>?_) (fun q=>?_)
 ·obtain rfl:s=9:=eqN_t q
  refine lit_of (cells:=(rdrs 9).map encR) und116 ifcZ (by decide) (by decide) (by kernel_rfl) ?_
  intro h' b e z
  exact fin (rs:=rdrs 9) b e (by decide)
 have r9:¬ s=9:=eqN_f q
 refine cond_mk (fun q=>?_) (fun q=>?_)
 ·obtain rfl:s=11:=eqN_t q
  refine loads_box b5 (false,false,false,()) rfl ?_
  dsimp only [flat,unc,unc1,nA,cA]
  refine lit_of (cells:=(rdrs 11).map encR) und116 ifcZ (by decide) (by decide) (by kernel_rfl) ?_
  intro h' b e z
  exact fin (rs:=rdrs 11) b e (by decide)
 have r11:¬ s=11:=eqN_f q
 refine cond_mk (fun q=>?_) (fun q=>?_)
 ·obtain rfl:s=12:=eqN_t q
  refine lit_of (cells:=(rdrs 12).map encR) und116 ifcZ (by decide) (by decide) (by kernel_rfl) ?_
  intro h' b e z
  exact fin (rs:=rdrs 12) b e (by decide)
 have r12:¬ s=12:=eqN_f q
 have hr:rdrs s=rdrs 13:=by
  unfold rdrs
  simp [r1,r2,r3,r4,r5,r6,r7,r8,r9,r11,r12]
 rw [hr]
 refine loads_box b5 (false,false,false,()) rfl ?_
 dsimp only [flat,unc,unc1,nA,cA]
 refine lit_of (cells:=(rdrs 13).map encR) und116 ifcZ (by decide) (by decide) (by kernel_rfl) ?_
 intro h' b e z
 exact fin (rs:=rdrs 13) b e (by decide)
def aA (s:Nat):Nat:=if s=2∨s=8∨s=10∨s=11∨s=13∨s=4∨s=6 then 8 else if s=3∨s=5∨s=7 then 4 else 0
def bB (s:Nat):Nat:=if s=4∨s=7 then 8 else if s=5∨s=6 then 4 else 0
theorem regs_iff {s:Nat} (hs:1≤s∧s≤13) (a b n:Int):regsR s a b n=true↔(0≤a∧0≤b∧(a<(aA s:Int)∨(aA s=0∧a=0))∧(b<(bB s:Int)∨(bB s=0∧b=0))∧(s=7→0≤n∧n≤7)):=by
 have:s=1∨s=2∨s=3∨s=4∨s=5∨s=6∨s=7∨s=8∨s=9∨s=10∨s=11∨s=12∨s=13:=by omega
 unfold regsR blw aA bB
 rcases this with rfl | rfl | rfl | rfl | rfl | rfl | rfl | rfl | rfl | rfl | rfl | rfl | rfl <;> simp <;> omega
theorem regs2_hc' (h:Hp) (op a b n form:Int) (ho:Sm op) (hs:shp op≠0):HC Tryz.prog 70 #[insV op a b n form] h fun w h'=>w=.bool (regsR (shp op) a b n)∧Ext h h':=by
 refine hcr_of (args:=[insV op a b n form]) mixed Tryz.func70 (by kernel_rfl) (t_spandrelref5_registers_eq op a b n form) ?_
 unfold t_spandrelref5_registers
 have hc:1≤shp op∧shp op≤13:=by have:=shp_cases op; omega
 refine newB ?_
 intro h1 b1 e1 z1
 refine loads_box b1 (op,()) rfl ?_
 dsimp only [flat,unc,unc1,nA,cA]
 refine call_of (shape_hc h1 op ho) ?_
 rintro _ h2 ⟨rfl,e2⟩
 refine ⟨(((shp op:Nat):Int),()),rfl,?_⟩
 dsimp only [flat,unc,unc1,nA,cA]
 have b2:=b1.keep e2 (by simp)
 have e02:=e1.trans e2
 have hiff:=regs_iff hc a b n
 generalize shp op=s at *
 generalize regsR s a b n=R at *
 refine join_of (cs:=[(false,[.int .i64]),(false,[.int .i64])]) (fun y h'=>y=(((aA s:Nat):Int),((bB s:Nat):Int),())∧h2=h') ?_ ?_
 ·have:s=1∨s=2∨s=3∨s=4∨s=5∨s=6∨s=7∨s=8∨s=9∨s=10∨s=11∨s=12∨s=13:=by omega
  rcases this with rfl | rfl | rfl | rfl | rfl | rfl | rfl | rfl | rfl | rfl | rfl | rfl | rfl
  all_goals (repeat (first | refine cond_t rfl ?_ | refine cond_f rfl ?_))
  all_goals exact meet_mk (cs:=[(false,[.int .i64]),(false,[.int .i64])]) (((aA _:Nat):Int),((bB _:Nat):Int),()) rfl rfl ⟨rfl,rfl⟩
 rintro ⟨A,B,⟨⟩⟩ _ ⟨hy,rfl⟩
 cases hy
 dsimp only [flat,unc,unc1,nA,cA]
 simp only [add_box]
 have fin:∀ b:Bool,(b=true↔R=true)→(T.ret (.bool b)) [] (fun w h'=>w=.bool R∧Ext h h') h2:=by
  intro b hb
  refine ⟨?_,e02⟩
  cases b <;> cases R <;> simp_all
 repeat' (first
  | (refine loads_box b2 (a,()) rfl ?_; dsimp only [flat,unc,unc1,nA,cA])
  | (refine loads_box b2 (b,()) rfl ?_; dsimp only [flat,unc,unc1,nA,cA])
  | (refine loads_box b2 (n,()) rfl ?_; dsimp only [flat,unc,unc1,nA,cA])
  | refine fin _ ?_
  | refine cond_mk (fun q=>?_) (fun q=>?_))
 all_goals (rw [hiff]; simp only [decide_eq_true_eq,decide_eq_false_iff_not,bne_iff_ne,ne_eq,bne_eq_false_iff_eq,Bool.false_eq_true,false_iff,true_iff] at *; omega)
def fitV (n w:Int):Bool:=(decide (w=1) || decide (w=2) || decide (w=4)) && nReach n w
def fitP (n w:Int):Prop:=(w=1∧-128≤n∧n≤127)∨(w=2∧-32768≤n∧n≤32767)∨w=4
theorem fit_iff (n w:Int):fitV n w=true↔fitP n w:=by
 unfold fitV nReach fitP
 by_cases h1:w=1
 ·subst h1; simp
 ·by_cases h2:w=2
  ·subst h2; simp
  ·by_cases h4:w=4
   ·subst h4; simp
   ·simp [h1,h2,h4]
theorem fit_no (n w:Int):fitV n w=false↔¬ fitP n w:=by
 rw [← fit_iff]
 simp
theorem chk_iff {i:Ins} (h0:shp i.op≠0) (hR:regsR (shp i.op) i.a i.b i.n=true) (P:Prop) (hP:P↔((shp i.op=12∨shp i.op=13→fitP i.n i.form)∧(shp i.op≠12∧shp i.op≠13→i.form=0)∧(shp i.op=8→-128≤i.n∧i.n≤127)∧(shp i.op=9→0≤i.n∧i.n≤255)∧(shp i.op=11→0≤i.n∧i.n≤4095) ∧
  (shp i.op<7→i.n=0))):(P→chkR i=0)∧(¬ P→chkR i=13):=by
 obtain ⟨op,a,b,n,form⟩:=i
 simp only at *
 have hc:=shp_cases op
 have key:(!spn op && decide (form≠0) || !nR (shp op) n form)=true↔¬ P:=by
  rw [hP]
  unfold spn nR nReach fitP
  have:shp op=1∨shp op=2∨shp op=3∨shp op=4∨shp op=5∨shp op=6∨shp op=7∨shp op=8∨shp op=9∨shp op=10∨shp op=11∨shp op=12∨shp op=13:=by omega
  rcases this with h | h | h | h | h | h | h | h | h | h | h | h | h <;> rw [h]
  all_goals (
   by_cases f1:form=1
   ·subst f1; simp; try omega
   ·by_cases f2:form=2
    ·subst f2; simp; try omega
    ·by_cases f4:form=4
     ·subst f4; simp; try omega
     ·by_cases f0:form=0
      ·subst f0; simp; try omega
      ·simp [f1,f2,f4,f0])
 unfold chkR
 simp only
 rw [if_neg h0,hR,if_neg (by simp)]
 refine ⟨fun hp=>?_,fun hp=>?_⟩
 ·rw [if_neg (fun e=>key.1 e hp)]
 ·rw [if_pos (key.2 hp)]
theorem check2_hc (h:Hp) (op a b n form:Int) (ho:Sm op):HC Tryz.prog 42 #[insV op a b n form] h fun w h'=>w=.int .i64 (chkR ⟨op,a,b,n,form⟩)∧Ext h h':=by
 refine hcr_of (args:=[insV op a b n form]) mixed Tryz.func42 (by kernel_rfl) (t_spandrelref5_Check_eq op a b n form) ?_
 unfold t_spandrelref5_Check
 refine newB ?_
 intro h1 b1 e1 z1
 refine loads_box b1 (op,()) rfl ?_
 dsimp only [flat,unc,unc1,nA,cA]
 refine call_of (shape_hc h1 op ho) ?_
 rintro _ h2 ⟨rfl,e2⟩
 refine ⟨(((shp op:Nat):Int),()),rfl,?_⟩
 dsimp only [flat,unc,unc1,nA,cA]
 have b2:=b1.keep e2 (by simp)
 have e02:=e1.trans e2
 refine cond_mk (fun q=>?_) (fun q=>?_)
 ·have q:shp op=0:=eqN_t q
  exact ⟨by unfold chkR; simp only; rw [if_pos q],e02⟩
 have q:¬ shp op=0:=eqN_f q
 refine loads_box b2 (op,a,b,n,form,()) rfl ?_
 dsimp only [flat,unc,unc1,nA,cA]
 refine call_boolx (regs2_hc' h2 op a b n form ho q) ?_
 intro h3 e3
 have b3:=b2.keep e3 (by simp)
 have e03:=e02.trans e3
 refine cond_mk (fun r=>?_) (fun r=>?_)
 ·have r:regsR (shp op) a b n=false:=by simpa using r
  exact ⟨by unfold chkR; simp only; rw [if_neg q,r,if_pos rfl],e03⟩
 have r:regsR (shp op) a b n=true:=by simpa using r
 have hc:=shp_cases op
 obtain ⟨k0,k13⟩:=chk_iff (i:=⟨op,a,b,n,form⟩) q r _ Iff.rfl
 simp only at k0 k13
 generalize chkR ⟨op,a,b,n,form⟩=C at *
 generalize shp op=s at *
 clear r
 have f0:((s=12∨s=13→fitP n form)∧(s≠12∧s≠13→form=0)∧(s=8→-128≤n∧n≤127)∧(s=9→0≤n∧n≤255)∧(s=11→0≤n∧n≤4095)∧(s<7→n=0))→(T.ret (.int .i64 (0:Int))) [] (fun w h'=>w=.int .i64 C∧Ext h h') h3:=fun hp=>⟨by rw [k0 hp],e03⟩
 have f13:¬ ((s=12∨s=13→fitP n form)∧(s≠12∧s≠13→form=0)∧(s=8→-128≤n∧n≤127)∧(s=9→0≤n∧n≤255)∧(s=11→0≤n∧n≤4095)∧(s<7→n=0))→(T.ret (.int .i64 (13:Int))) [] (fun w h'=>w=.int .i64 C∧Ext h h') h3:=fun hp=>⟨by rw [k13 hp],e03⟩
 clear k0 k13
 simp only [add_box]
 repeat' (first
  | (refine loads_box b3 (n,()) rfl ?_; dsimp only [flat,unc,unc1,nA,cA])
  | (refine loads_box b3 (form,()) rfl ?_; dsimp only [flat,unc,unc1,nA,cA])
  | refine f0 ?_
  | refine f13 ?_
  | refine call_bool (b:=fitV n form) (fits_hc h3 n form) ?_
  | refine cond_mk (fun q=>?_) (fun q=>?_))
 all_goals (
  clear f0 f13
  simp only [decide_eq_true_eq,decide_eq_false_iff_not,bne_iff_ne,ne_eq,bne_eq_false_iff_eq,beq_iff_eq,beq_eq_false_iff_ne,Bool.not_eq_true',Bool.not_eq_false',fit_iff,fit_no,fitP] at *
  omega)
def bareV (x:Itm) (b1 b2 b3 b4:Bool):Bool:=(!b1 || z1 x) && ((!b2 || z2 x) && ((!b3 || z3 x) && (!b4 || z4 x)))
theorem emptyL (s:ByteArray):(ByteArray.toList s==([]:List UInt8))=decide (s=nam0):=by
 have:=beqL s nam0
 rw [show ByteArray.toList nam0=[] by rw [ByteArray.toList_eq]; rfl] at this
 exact this
theorem cmpIns0 (n:Nat) (m:Nat) (i:Ins) (h:Hp) (K:Value→Hp→Prop) (hk:K (.bool (decide (i=ins0))) h) :
  semW Tryz.prog (Sx.cmpS (BinOp.eql) 52 (Operand.tmp n) (Operand.tmp m) (.agg #[.int .i64 i.op,.int .i64 i.a,.int .i64 i.b,.int .i32 i.n,.int .i64 i.form]) (.agg #[.int .i64 (0:Int),.int .i64 (0:Int),.int .i64 (0:Int),.int .i32 (0:Int),.int .i64 (0:Int)])) h K :=
 cmpInsE _ _ i ins0 h K hk
theorem bare_hc {h:Hp} {x:Itm} {p:Option Addr} {l c:Nat} (v:VwT h p l x.e.terms) (b1 b2 b3 b4:Bool) :
  HC Tryz.prog 40 #[itmV p l c x,.bool b1,.bool b2,.bool b3,.bool b4] h fun w h'=>w=.bool (bareV x b1 b2 b3 b4)∧Ext h h':=by
 refine hcr_of (args:=[itmV p l c x,.bool b1,.bool b2,.bool b3,.bool b4]) mixed Tryz.func40 (by kernel_rfl) (t_spandrelref8_bare_eq x.kind x.name x.inst.op x.inst.a x.inst.b x.inst.n x.inst.form p l c x.e.num x.n b1 b2 b3 b4) ?_
 unfold t_spandrelref8_bare
 have hl:=v.len
 have hz:isZ x.e=(decide (l=0) && decide (x.e.num=0)):=by
  unfold isZ
  congr 1
  rw [hl]
  simp
 refine newB ?_
 intro h1 bx e1 zz1
 have bx:Box h1 h.size 54 (encI p l c x):=bx
 simp only [add_box]
 unfold bareV z1 z2 z3 z4
 rw [hz]
 repeat' (first
  | (refine loads_box bx (x.n,()) rfl ?_; dsimp only [flat,unc,unc1,nA,cA])
  | (refine loads_box bx (x.name,()) rfl ?_; dsimp only [flat,unc,unc1,nA,cA])
  | (refine loads_box bx ((p,l,c),()) rfl ?_; dsimp only [flat,unc,unc1,nA,cA])
  | (refine loads_box bx ((x.e.num:Int),()) rfl ?_; dsimp only [flat,unc,unc1,nA,cA])
  | (refine loads_box bx (x.inst.op,x.inst.a,x.inst.b,x.inst.n,x.inst.form,()) rfl ?_; dsimp only [flat,unc,unc1,nA,cA])
  | refine sem_bool (fun K' hK=>cmpIns0 _ _ x.inst h1 K' hK) ?_
  | refine ⟨congrArg Value.bool ?_,e1⟩
  | refine cond_mk (fun q=>?_) (fun q=>?_))
 all_goals (
  try simp only [emptyL] at *
  simp_all [beqD])
 all_goals omega
def bareT (g:Nat) (b1 b2 b3 b4:Bool) (k:Bool→T):T :=
 T.loads ⟨g,0,none⟩ [.int .i64,.string,.int .i64,.int .i64,.int .i64,.int .i32,.int .i64,.slice 50,.int .u32,.int .i64] <| fun (n5:Int) (s6:ByteArray) (n7:Int) (n8:Int) (n9:Int) (n10:Int) (n11:Int) (p12:Option Addr) (l13:Nat) (l14:Nat) (n15:Int) (n16:Int) =>
  T.call Tryz.prog 40 [.agg #[.int .i64 n5,.string s6,.int .i64 n7,.int .i64 n8,.int .i64 n9,.int .i32 n10,.int .i64 n11,.slice p12 l13 l14,.int .u32 n15,.int .i64 n16],.bool b1,.bool b2,.bool b3,.bool b4] false [(false,[.bool])] k
theorem bareT_of {L:Lp} {K:Value→Hp→Prop} {h:Hp} {g:Nat} {x:Itm} {p:Option Addr} {l c:Nat} {b1 b2 b3 b4:Bool} {k:Bool→T} (bx:Box h g 54 (encI p l c x)) (v:VwT h p l x.e.terms) (hk:∀ h',Ext h h'→k (bareV x b1 b2 b3 b4) L K h'):bareT g b1 b2 b3 b4 k L K h:=by
 unfold bareT
 refine loads_box bx (x.kind,x.name,x.inst.op,x.inst.a,x.inst.b,x.inst.n,x.inst.form,(p,l,c),(x.e.num:Int),x.n,()) rfl ?_
 dsimp only [flat,unc,unc1,nA,cA]
 exact call_boolx (bare_hc v b1 b2 b3 b4) hk
theorem power2_hc (h:Hp) (n:Int):HCp Tryz.prog 45 [.int .i64 n] h (.bool (pow2 n)):=by
 refine hcp_of mixed Tryz.func45 (by kernel_rfl) (t_spandrelref8_power_eq n) ?_
 unfold t_spandrelref8_power
 refine loop_of (cs:=[(false,[.bool]),(false,[.int .i64])]) (fun y m h'=>∃ k:Nat,y=(false,((2^k:Nat):Int),())∧m=9-k∧k≤9∧h'=h∧(∀ j,j<k→¬ n=((2^j:Nat):Int))) (false,(1:Int),()) 9 rfl
  ⟨0,rfl,rfl,by omega,rfl,fun j hj=>by omega⟩ ?_
 rintro ⟨b1,n2,⟨⟩⟩ m h1 ⟨k,hy,hm,hk,rfl,hj⟩
 cases hy
 dsimp only [flat,unc,unc1,nA,cA]
 refine cond_mk (fun q=>?_) (fun q=>?_)
 ·have q:=of_decide_eq_true q
  have hk8:k≤8:=by
   by_cases g:k=9
   ·subst g
    exact absurd q (by decide)
   ·omega
  refine cond_mk (fun r=>?_) (fun r=>?_)
  ·have r:n=((2^k:Nat):Int):=by simpa using r
   refine ⟨?_,rfl⟩
   have:k=0∨k=1∨k=2∨k=3∨k=4∨k=5∨k=6∨k=7∨k=8:=by omega
   rcases this with rfl | rfl | rfl | rfl | rfl | rfl | rfl | rfl | rfl <;> (rw [r]; rfl)
  ·have r:¬ n=((2^k:Nat):Int):=by simpa using r
   have hp:2^k≤2^8:=Nat.pow_le_pow_right (by omega) hk8
   have hp2:((2^k:Nat):Int)≤256:=by exact_mod_cast hp
   have hp3:(0:Int)≤((2^k:Nat):Int):=Int.natCast_nonneg _
   rw [wrap_i64 (by omega) (by omega)]
   have h2:(2:Int)*((2^k:Nat):Int)=((2^(k+1):Nat):Int):=by rw [Nat.pow_succ]; omega
   rw [h2]
   refine again_mk (cs:=[(false,[.bool]),(false,[.int .i64])]) (false,((2^(k+1):Nat):Int),()) (9-(k+1)) rfl (by omega) rfl ⟨k+1,rfl,rfl,by omega,rfl,fun j hj'=>?_⟩
   by_cases g:j=k
   ·subst g; exact r
   ·exact hj j (by omega)
 ·have q:=of_decide_eq_false q
  have hk9:k=9:=by
   by_cases g:k=9
   ·exact g
   ·have hp:2^k≤2^8:=Nat.pow_le_pow_right (by omega) (by omega)
    omega
  subst hk9
  refine ⟨?_,rfl⟩
  have a0:=hj 0 (by omega)
  have a1:=hj 1 (by omega)
  have a2:=hj 2 (by omega)
  have a3:=hj 3 (by omega)
  have a4:=hj 4 (by omega)
  have a5:=hj 5 (by omega)
  have a6:=hj 6 (by omega)
  have a7:=hj 7 (by omega)
  have a8:=hj 8 (by omega)
  unfold pow2
  simp only [Nat.reducePow] at a0 a1 a2 a3 a4 a5 a6 a7 a8
  rw [decide_eq_false (by omega),decide_eq_false (by omega),decide_eq_false (by omega),decide_eq_false (by omega),decide_eq_false (by omega),decide_eq_false (by omega),decide_eq_false (by omega),decide_eq_false (by omega),decide_eq_false (by omega)]
  rfl
theorem right2_0 {h:Hp} {x:Itm} {p:Option Addr} {l c:Nat} (v:ItmAt h p l x):HC Tryz.prog 20 #[itmV p l c x,.int .i64 (0:Int)] h fun w h'=>w=no31 (itmR x 0)∧Ext h h':=by
 refine hcr_of (args:=[itmV p l c x,.int .i64 (0:Int)]) mixed Tryz.func20 (by kernel_rfl) (t_spandrelref8_Right_s0_eq x.kind x.name x.inst.op x.inst.a x.inst.b x.inst.n x.inst.form p l c x.e.num x.n) ?_
 unfold t_spandrelref8_Right_s0
 have hml:maxLen=9223372036854775807:=rfl
 refine newB ?_
 intro h1 b1 e1 z1'
 have b1:Box h1 h.size 54 (encI p l c x):=b1
 have v1:=v.keep e1
 simp only [add_box]
 refine join_of (cs:=[(false,[.bool])]) (fun y h'=>y.1=itmR x 0∧Ext h h') ?_ ?_
 rotate_left
 ·rintro ⟨b2,⟨⟩⟩ h' ⟨hy,e'⟩
  simp only at hy
  subst hy
  dsimp only [flat,unc,unc1,nA,cA]
  cases hr:itmR x 0
  ·exact ⟨rfl,e'⟩
  ·exact ⟨rfl,e'⟩
 have fin:∀ (b:Bool) (h':Hp),b=itmR x 0→Ext h h'→T.again 0 [.bool b] [fun vs h'=>∃ y:HVs (flat [(false,[.bool])]),vs=parts [(false,[.bool])] (hvs _ y)∧(y.1=itmR x 0∧Ext h h')] (fun w h'=>w=no31 (itmR x 0)∧Ext h h') h':=by
  rintro b h' rfl e'
  exact meet_mk (cs:=[(false,[.bool])]) (J:=fun y h'=>y.1=itmR x 0∧Ext h h') (itmR x 0,()) rfl rfl ⟨rfl,e'⟩
 refine loads_box b1 (x.kind,()) rfl ?_
 dsimp only [flat,unc,unc1,nA,cA]
 by_cases k1:x.kind=1
 ·refine cond_t (by rw [k1]; rfl) ?_
  have hit:itmR x 0=(legalL x.name.data.toList && z2 x && z3 x && z4 x):=by unfold itmR; rw [if_pos k1]
  refine loads_box b1 (x.name,()) rfl ?_
  dsimp only [flat,unc,unc1,nA,cA]
  refine call_bool (legal2_hc x.name h1 (by have:=v.name; omega)) ?_
  refine cond_mk (fun q=>?_) (fun q=>fin _ _ (by rw [hit,q]; rfl) e1)
  refine bareT_of b1 v1.lin.vw ?_
  intro h2 e2
  exact fin _ _ (by rw [hit,q]; unfold bareV; simp [Bool.and_assoc]) (e1.trans e2)
 refine cond_f (by simpa using k1) ?_
 by_cases k2:x.kind=2
 ·refine cond_t (by rw [k2]; rfl) ?_
  have hit:itmR x 0=(insR x.inst x.e && z1 x && z4 x):=by unfold itmR; rw [if_neg k1,if_pos k2]; simp
  refine loads_box b1 (x.inst.op,x.inst.a,x.inst.b,x.inst.n,x.inst.form,()) rfl ?_
  dsimp only [flat,unc,unc1,nA,cA]
  refine newB ?_
  intro h2 b2 e2 z2'
  refine stores_of b2 rfl (by simp) ?_
  intro h3 b3 k3 z3'
  have b3:Box h3 h1.size 52 (insC x.inst):=b3
  have e13:Ext h1 h3:=e2.st k3 (Nat.le_refl _)
  have b13:=b1.keep e13 (by simp)
  rw [add_box]
  refine loads_box b3 (x.inst.form,()) rfl ?_
  dsimp only [flat,unc,unc1,nA,cA]
  refine join_of (cs:=[]) (fun _ h'=>Box h' h1.size 52 (insC { x.inst with form:=if spn x.inst.op then 1 else x.inst.form })∧Ext h1 h') ?_ ?_
  ·refine loads_box b3 (x.inst.op,()) rfl ?_
   dsimp only [flat,unc,unc1,nA,cA]
   refine call_boolx (spans2_hc h3 x.inst.op v.op) ?_
   intro h4 e4
   have b4:=b3.keep e4 (by simp)
   refine cond_mk (fun q=>?_) (fun q=>?_)
   ·refine stores_of b4 rfl (by simp [insC]) ?_
    intro h5 b5 k5 z5
    exact meet_mk (cs:=[]) () rfl rfl ⟨by rw [if_pos q]; exact b5,(e13.trans e4).st k5 (by have:=e13.size; omega)⟩
   ·exact meet_mk (cs:=[]) () rfl rfl ⟨by rw [if_neg (by rw [q]; decide)]; exact b4,e13.trans e4⟩
  rintro _ h5 ⟨b5,e5⟩
  dsimp only [flat,unc,unc1,nA,cA]
  have b15:=b1.keep e5 (by simp)
  have v5:=v1.keep e5
  refine join_of (cs:=[(false,[.bool])]) (fun y h'=>y.1=(decide (x.inst.form=0) && decide (chkR { x.inst with form:=if spn x.inst.op then 1 else x.inst.form }=0) && (z1 x && z4 x))∧Ext h5 h') ?_ ?_
  ·refine cond_mk (fun q=>?_) (fun q=>?_)
   ·have q:x.inst.form=0:=by simpa using q
    refine loads_box b5 (x.inst.op,x.inst.a,x.inst.b,x.inst.n,((if spn x.inst.op then (1:Int) else x.inst.form):Int),()) rfl ?_
    dsimp only [flat,unc,unc1,nA,cA]
    refine call_of (check2_hc h5 x.inst.op x.inst.a x.inst.b x.inst.n (if spn x.inst.op then 1 else x.inst.form) v.op) ?_
    rintro _ h6 ⟨rfl,e6⟩
    refine ⟨(chkR { x.inst with form:=if spn x.inst.op then 1 else x.inst.form },()),rfl,?_⟩
    dsimp only [flat,unc,unc1,nA,cA]
    refine cond_mk (fun r=>?_) (fun r=>?_)
    ·have r:chkR { x.inst with form:=if spn x.inst.op then 1 else x.inst.form }=0:=by simpa using r
     refine bareT_of (b15.keep e6 (by simp)) (v5.keep e6).lin.vw ?_
     intro h7 e7
     exact meet_mk (cs:=[(false,[.bool])]) (bareV x true false false true,()) rfl rfl ⟨by rw [decide_eq_true q,decide_eq_true r]; rfl,e6.trans e7⟩
    ·have r:¬ chkR { x.inst with form:=if spn x.inst.op then 1 else x.inst.form }=0:=by simpa using r
     exact meet_mk (cs:=[(false,[.bool])]) (false,()) rfl rfl ⟨by rw [decide_eq_true q,decide_eq_false r]; rfl,e6⟩
   ·have q:¬ x.inst.form=0:=by simpa using q
    exact meet_mk (cs:=[(false,[.bool])]) (false,()) rfl rfl ⟨by rw [decide_eq_false q]; rfl,Ch.refl _ _⟩
  rintro ⟨b10,⟨⟩⟩ h6 ⟨hy,e6⟩
  simp only at hy
  subst hy
  dsimp only [flat,unc,unc1,nA,cA]
  have b6:=b5.keep e6 (by simp)
  have b16:=b15.keep e6 (by simp)
  have v6:=v5.keep e6
  refine loads_box b6 (x.inst.op,()) rfl ?_
  dsimp only [flat,unc,unc1,nA,cA]
  refine call_boolx (hasE_hc h6 x.inst.op v.op) ?_
  intro h7 e7
  have b7:=b6.keep e7 (by simp)
  have b17:=b16.keep e7 (by simp)
  have v7:=v6.keep e7
  have e07:=((e1.trans e5).trans e6).trans e7
  have hchk:wnt x.inst.op=true→(decide (x.inst.form=0) && decide (chkR { x.inst with form:=if spn x.inst.op then 1 else x.inst.form }=0) && (z1 x && z4 x) && (decide (x.inst.n=0) && rtR none x.e.terms))=itmR x 0:=by
   intro hw
   rw [hit]
   unfold insR
   rw [if_pos hw]
   by_cases f0:x.inst.form=0
   ·rw [decide_eq_true f0,f0]
    by_cases c0:chkR { x.inst with form:=if spn x.inst.op then 1 else 0 }=0
    ·have hs:=(chk_regs c0).1
     simp only at hs
     rw [decide_eq_true c0,decide_eq_true hs]
     simp only [Bool.true_and]
     ac_rfl
    ·rw [decide_eq_false c0]
     simp
   ·rw [decide_eq_false f0]
    simp
  have hchk2:wnt x.inst.op=false→(decide (x.inst.form=0) && decide (chkR { x.inst with form:=if spn x.inst.op then 1 else x.inst.form }=0) && (z1 x && z4 x) && z3 x)=itmR x 0:=by
   intro hw
   rw [hit]
   unfold insR
   rw [if_neg (show ¬ (wnt x.inst.op=true) by rw [hw]; decide)]
   have hsp:spn x.inst.op=false:=by
    unfold wnt at hw
    unfold spn
    rw [decide_eq_false_iff_not] at hw ⊢
    omega
   rw [if_neg (show ¬ (spn x.inst.op=true) by rw [hsp]; decide)]
   by_cases f0:x.inst.form=0
   ·rw [decide_eq_true f0]
    have hi:({ x.inst with form:=x.inst.form }:Ins)=x.inst:=rfl
    rw [hi]
    by_cases c0:chkR x.inst=0
    ·have hs:=(chk_regs c0).1
     rw [decide_eq_true c0,decide_eq_true hs]
     unfold z3
     simp only [Bool.true_and]
     ac_rfl
    ·rw [decide_eq_false c0]
     simp
   ·rw [decide_eq_false f0]
    simp
  generalize (decide (x.inst.form=0) && decide (chkR { x.inst with form:=if spn x.inst.op then 1 else x.inst.form }=0) && (z1 x && z4 x))=G at *
  refine cond_mk (fun hw=>?_) (fun hw=>?_)
  ·have hchk:=hchk hw
   refine cond_mk (fun g=>?_) (fun g=>fin _ _ (by rw [← hchk,g]; rfl) e07)
   refine loads_box b7 (x.inst.n,()) rfl ?_
   dsimp only [flat,unc,unc1,nA,cA]
   refine cond_mk (fun r=>?_) (fun r=>?_)
   ·have r:x.inst.n=0:=by simpa using r
    refine loads_box b17 ((p,l,c),(x.e.num:Int),()) rfl ?_
    dsimp only [flat,unc,unc1,nA,cA]
    refine call_of (right50_hc (c:=c) v7.lin.vw (by have:=v.lin.many; omega) v.lin.names) ?_
    rintro _ h8 ⟨rfl,e8⟩
    refine ⟨(rtR none x.e.terms,()),rfl,?_⟩
    exact fin _ _ (by rw [← hchk,g,decide_eq_true r]; simp) (e07.trans e8)
   ·have r:¬ x.inst.n=0:=by simpa using r
    exact fin _ _ (by rw [← hchk,decide_eq_false r]; simp) e07
  ·have hchk:=hchk2 hw
   refine cond_mk (fun g=>?_) (fun g=>fin _ _ (by rw [← hchk,g]; rfl) e07)
   refine bareT_of b17 v7.lin.vw ?_
   intro h8 e8
   exact fin _ _ (by rw [← hchk,g]; unfold bareV; simp) (e07.trans e8)
 refine cond_f (by simpa using k2) ?_
 by_cases k3:x.kind=3
 ·refine cond_t (by rw [k3]; rfl) ?_
  have hit:itmR x 0=(pow2 x.n && z1 x && z2 x && z3 x):=by unfold itmR; rw [if_neg k1,if_neg k2,if_pos k3]
  refine loads_box b1 (x.n,()) rfl ?_
  dsimp only [flat,unc,unc1,nA,cA]
  refine call_bool (power2_hc h1 x.n) ?_
  refine cond_mk (fun q=>?_) (fun q=>fin _ _ (by rw [hit,q]; rfl) e1)
  refine bareT_of b1 v1.lin.vw ?_
  intro h2 e2
  exact fin _ _ (by rw [hit,q]; unfold bareV; simp [Bool.and_assoc]) (e1.trans e2)
 refine cond_f (by simpa using k3) ?_
 by_cases k4:x.kind=4
 ·refine cond_t (by rw [k4]; rfl) ?_
  have hit:itmR x 0=(z1 x && z2 x && z3 x && z4 x):=by unfold itmR; rw [if_neg k1,if_neg k2,if_neg k3,if_pos k4]; simp
  refine bareT_of b1 v1.lin.vw ?_
  intro h2 e2
  exact fin _ _ (by rw [hit]; unfold bareV; simp [Bool.and_assoc]) (e1.trans e2)
 refine cond_f (by simpa using k4) ?_
 by_cases k5:x.kind=5
 ·refine cond_t (by rw [k5]; rfl) ?_
  exact fin _ _ (by unfold itmR; rw [if_neg k1,if_neg k2,if_neg k3,if_neg k4,if_pos k5]; simp) e1
 refine cond_f (by simpa using k5) ?_
 by_cases k6:x.kind=6
 ·refine cond_t (by rw [k6]; rfl) ?_
  exact fin _ _ (by unfold itmR; rw [if_neg k1,if_neg k2,if_neg k3,if_neg k4,if_neg k5,if_pos k6]; simp) e1
 refine cond_f (by simpa using k6) ?_
 by_cases k7:x.kind=7
 ·refine cond_t (by rw [k7]; rfl) ?_
  exact fin _ _ (by unfold itmR; rw [if_neg k1,if_neg k2,if_neg k3,if_neg k4,if_neg k5,if_neg k6,if_pos k7]; simp) e1
 refine cond_f (by simpa using k7) ?_
 exact fin _ _ (by unfold itmR; rw [if_neg k1,if_neg k2,if_neg k3,if_neg k4,if_neg k5,if_neg k6,if_neg k7]) e1
theorem right2_1 {h:Hp} {x:Itm} {p:Option Addr} {l c:Nat} (v:ItmAt h p l x):HC Tryz.prog 20 #[itmV p l c x,.int .i64 (1:Int)] h fun w h'=>w=no31 (itmR x 1)∧Ext h h':=by
 refine hcr_of (args:=[itmV p l c x,.int .i64 (1:Int)]) mixed Tryz.func20 (by kernel_rfl) (t_spandrelref8_Right_s1_eq x.kind x.name x.inst.op x.inst.a x.inst.b x.inst.n x.inst.form p l c x.e.num x.n) ?_
 unfold t_spandrelref8_Right_s1
 have hml:maxLen=9223372036854775807:=rfl
 refine newB ?_
 intro h1 b1 e1 z1'
 have b1:Box h1 h.size 54 (encI p l c x):=b1
 have v1:=v.keep e1
 simp only [add_box]
 refine join_of (cs:=[(false,[.bool])]) (fun y h'=>y.1=itmR x 1∧Ext h h') ?_ ?_
 rotate_left
 ·rintro ⟨b2,⟨⟩⟩ h' ⟨hy,e'⟩
  simp only at hy
  subst hy
  dsimp only [flat,unc,unc1,nA,cA]
  cases hr:itmR x 1
  ·exact ⟨rfl,e'⟩
  ·exact ⟨rfl,e'⟩
 have fin:∀ (b:Bool) (h':Hp),b=itmR x 1→Ext h h'→T.again 0 [.bool b] [fun vs h'=>∃ y:HVs (flat [(false,[.bool])]),vs=parts [(false,[.bool])] (hvs _ y)∧(y.1=itmR x 1∧Ext h h')] (fun w h'=>w=no31 (itmR x 1)∧Ext h h') h':=by
  rintro b h' rfl e'
  exact meet_mk (cs:=[(false,[.bool])]) (J:=fun y h'=>y.1=itmR x 1∧Ext h h') (itmR x 1,()) rfl rfl ⟨rfl,e'⟩
 refine loads_box b1 (x.kind,()) rfl ?_
 dsimp only [flat,unc,unc1,nA,cA]
 by_cases k1:x.kind=1
 ·refine cond_t (by rw [k1]; rfl) ?_
  have hit:itmR x 1=(legalL x.name.data.toList && z2 x && z3 x && z4 x):=by unfold itmR; rw [if_pos k1]
  refine loads_box b1 (x.name,()) rfl ?_
  dsimp only [flat,unc,unc1,nA,cA]
  refine call_bool (legal2_hc x.name h1 (by have:=v.name; omega)) ?_
  refine cond_mk (fun q=>?_) (fun q=>fin _ _ (by rw [hit,q]; rfl) e1)
  refine bareT_of b1 v1.lin.vw ?_
  intro h2 e2
  exact fin _ _ (by rw [hit,q]; unfold bareV; simp [Bool.and_assoc]) (e1.trans e2)
 refine cond_f (by simpa using k1) ?_
 by_cases k2:x.kind=2
 ·refine cond_t (by rw [k2]; rfl) ?_
  have hit:itmR x 1=(false):=by unfold itmR; rw [if_neg k1,if_pos k2]; simp
  refine loads_box b1 (x.inst.op,x.inst.a,x.inst.b,x.inst.n,x.inst.form,()) rfl ?_
  dsimp only [flat,unc,unc1,nA,cA]
  refine newB ?_
  intro h2 b2 e2 z2'
  refine stores_of b2 rfl (by simp) ?_
  intro h3 b3 k3 z3'
  have b3:Box h3 h1.size 52 (insC x.inst):=b3
  have e13:Ext h1 h3:=e2.st k3 (Nat.le_refl _)
  have b13:=b1.keep e13 (by simp)
  rw [add_box]
  refine loads_box b3 (x.inst.form,()) rfl ?_
  dsimp only [flat,unc,unc1,nA,cA]
  refine join_of (cs:=[]) (fun _ h'=>Box h' h1.size 52 (insC { x.inst with form:=if spn x.inst.op then 1 else x.inst.form })∧Ext h1 h') ?_ ?_
  ·refine loads_box b3 (x.inst.op,()) rfl ?_
   dsimp only [flat,unc,unc1,nA,cA]
   refine call_boolx (spans2_hc h3 x.inst.op v.op) ?_
   intro h4 e4
   have b4:=b3.keep e4 (by simp)
   refine cond_mk (fun q=>?_) (fun q=>?_)
   ·refine stores_of b4 rfl (by simp [insC]) ?_
    intro h5 b5 k5 z5
    exact meet_mk (cs:=[]) () rfl rfl ⟨by rw [if_pos q]; exact b5,(e13.trans e4).st k5 (by have:=e13.size; omega)⟩
   ·exact meet_mk (cs:=[]) () rfl rfl ⟨by rw [if_neg (by rw [q]; decide)]; exact b4,e13.trans e4⟩
  rintro _ h5 ⟨b5,e5⟩
  dsimp only [flat,unc,unc1,nA,cA]
  have b15:=b1.keep e5 (by simp)
  have v5:=v1.keep e5
  refine join_of (cs:=[(false,[.bool])]) (fun y h'=>y.1=false∧Ext h5 h') (meet_mk (cs:=[(false,[.bool])]) (false,()) rfl rfl ⟨rfl,Ch.refl _ _⟩) ?_
  rintro ⟨b10,⟨⟩⟩ h6 ⟨hy,e6⟩
  simp only at hy
  subst hy
  dsimp only [flat,unc,unc1,nA,cA]
  have b6:=b5.keep e6 (by simp)
  have b16:=b15.keep e6 (by simp)
  have v6:=v5.keep e6
  refine loads_box b6 (x.inst.op,()) rfl ?_
  dsimp only [flat,unc,unc1,nA,cA]
  refine call_boolx (hasE_hc h6 x.inst.op v.op) ?_
  intro h7 e7
  have b7:=b6.keep e7 (by simp)
  have b17:=b16.keep e7 (by simp)
  have v7:=v6.keep e7
  have e07:=((e1.trans e5).trans e6).trans e7
  refine cond_mk (fun hw=>?_) (fun hw=>?_)
  ·exact cond_f rfl (fin _ _ (by rw [hit]) e07)
  ·exact cond_f rfl (fin _ _ (by rw [hit]) e07)
 refine cond_f (by simpa using k2) ?_
 by_cases k3:x.kind=3
 ·refine cond_t (by rw [k3]; rfl) ?_
  have hit:itmR x 1=(pow2 x.n && z1 x && z2 x && z3 x):=by unfold itmR; rw [if_neg k1,if_neg k2,if_pos k3]
  refine loads_box b1 (x.n,()) rfl ?_
  dsimp only [flat,unc,unc1,nA,cA]
  refine call_bool (power2_hc h1 x.n) ?_
  refine cond_mk (fun q=>?_) (fun q=>fin _ _ (by rw [hit,q]; rfl) e1)
  refine bareT_of b1 v1.lin.vw ?_
  intro h2 e2
  exact fin _ _ (by rw [hit,q]; unfold bareV; simp [Bool.and_assoc]) (e1.trans e2)
 refine cond_f (by simpa using k3) ?_
 by_cases k4:x.kind=4
 ·refine cond_t (by rw [k4]; rfl) ?_
  exact fin _ _ (by unfold itmR; rw [if_neg k1,if_neg k2,if_neg k3,if_pos k4]; simp) e1
 refine cond_f (by simpa using k4) ?_
 by_cases k5:x.kind=5
 ·refine cond_t (by rw [k5]; rfl) ?_
  have hit:itmR x 1=(decide (-128≤x.n) && decide (x.n≤255) && z1 x && z2 x && z3 x):=by unfold itmR; rw [if_neg k1,if_neg k2,if_neg k3,if_neg k4,if_pos k5]; simp
  refine loads_box b1 (x.n,()) rfl ?_
  dsimp only [flat,unc,unc1,nA,cA]
  refine cond_mk (fun q=>?_) (fun q=>fin _ _ (by rw [hit,show decide (-128≤x.n)=false from q]; rfl) e1)
  refine loads_box b1 (x.n,()) rfl ?_
  dsimp only [flat,unc,unc1,nA,cA]
  refine cond_mk (fun r=>?_) (fun r=>fin _ _ (by rw [hit,r]; simp) e1)
  refine bareT_of b1 v1.lin.vw ?_
  intro h2 e2
  exact fin _ _ (by rw [hit,r,show decide (-128≤x.n)=true from q]; unfold bareV; simp [Bool.and_assoc]) (e1.trans e2)
 refine cond_f (by simpa using k5) ?_
 by_cases k6:x.kind=6
 ·refine cond_t (by rw [k6]; rfl) ?_
  have hit:itmR x 1=(rtR none x.e.terms && z1 x && z2 x && z4 x):=by unfold itmR; rw [if_neg k1,if_neg k2,if_neg k3,if_neg k4,if_neg k5,if_pos k6]; simp
  refine loads_box b1 ((p,l,c),(x.e.num:Int),()) rfl ?_
  dsimp only [flat,unc,unc1,nA,cA]
  refine call_of (right50_hc (c:=c) v1.lin.vw (by have:=v.lin.many; omega) v.lin.names) ?_
  rintro _ h2 ⟨rfl,e2⟩
  refine ⟨(rtR none x.e.terms,()),rfl,?_⟩
  dsimp only [flat,unc,unc1,nA,cA]
  refine cond_mk (fun q=>?_) (fun q=>fin _ _ (by rw [hit,q]; rfl) (e1.trans e2))
  refine bareT_of (b1.keep e2 (by simp)) (v1.keep e2).lin.vw ?_
  intro h3 e3
  exact fin _ _ (by rw [hit,q]; unfold bareV; simp [Bool.and_assoc]) ((e1.trans e2).trans e3)
 refine cond_f (by simpa using k6) ?_
 by_cases k7:x.kind=7
 ·refine cond_t (by rw [k7]; rfl) ?_
  have hit:itmR x 1=(decide (0≤x.n) && decide (x.n≤1048576) && z1 x && z2 x && z3 x):=by unfold itmR; rw [if_neg k1,if_neg k2,if_neg k3,if_neg k4,if_neg k5,if_neg k6,if_pos k7]; simp
  refine loads_box b1 (x.n,()) rfl ?_
  dsimp only [flat,unc,unc1,nA,cA]
  refine cond_mk (fun q=>?_) (fun q=>fin _ _ (by rw [hit,show decide (0≤x.n)=false from q]; rfl) e1)
  refine loads_box b1 (x.n,()) rfl ?_
  dsimp only [flat,unc,unc1,nA,cA]
  refine cond_mk (fun r=>?_) (fun r=>fin _ _ (by rw [hit,r]; simp) e1)
  refine bareT_of b1 v1.lin.vw ?_
  intro h2 e2
  exact fin _ _ (by rw [hit,r,show decide (0≤x.n)=true from q]; unfold bareV; simp [Bool.and_assoc]) (e1.trans e2)
 refine cond_f (by simpa using k7) ?_
 exact fin _ _ (by unfold itmR; rw [if_neg k1,if_neg k2,if_neg k3,if_neg k4,if_neg k5,if_neg k6,if_neg k7]) e1
theorem rightR_hc {h:Hp} {x:Itm} {p:Option Addr} {l c k:Nat} (v:ItmAt h p l x) (hk:k<2):HC Tryz.prog 20 #[itmV p l c x,.int .i64 (k:Int)] h fun w h'=>w=no31 (itmR x k)∧Ext h h':=by
 have:k=0∨k=1:=by omega
 rcases this with rfl | rfl
 ·exact right2_0 v
 ·exact right2_1 v
def TabN (h:Hp):Prop:=∃ e f,h[0]?=some (.cells (rowsV opsN opsB).toArray e f)
theorem TabN.keep {ws:List Nat} {h h':Hp} (t:TabN h) (k:Ch ws h h') (hw:0∉ws):TabN h':=by
 obtain ⟨e,f,ht⟩:=t
 exact ⟨e,f,k.get ht hw⟩
theorem TabN.tab {h:Hp} (t:TabN h):Tab h:=by
 obtain ⟨e,f,ht⟩:=t
 exact ⟨_,_,e,f,ht⟩
theorem cells_blk {h:Hp} {g:Nat} {c:Array Value} {e:TypeId} {f:Nat × Nat} (hg:h[g]?=some (.cells c e f)):∀ (vs:List Value) (i:Nat),(∀ j,j<vs.length→c[i+j]?=vs[j]?)→cellsAt h ⟨g,0,none⟩ i vs
 | [],_,_=>trivial
 | v::vs,i,hv=>by
  refine ⟨?_,cells_blk hg vs (i+1) fun j hj=>?_⟩
  ·rw [add_box,hcell_of hg]
   have:=hv 0 (by simp)
   simpa using this
  ·have:=hv (j+1) (by simpa using hj)
   rw [List.getElem?_cons_succ] at this
   rw [← this]; congr 1; omega
theorem TabN.all {h:Hp} (t:TabN h):cellsAt h ⟨0,0,none⟩ 0 (rowsV opsN opsB):=by
 obtain ⟨e,f,ht⟩:=t
 exact cells_blk ht _ 0 (fun j hj=>by simp)
def tabV:Value:=.agg (rowsV opsN opsB).toArray
theorem idx_tab (h:Hp) (K:Value→Hp→Prop):∀ k:Nat,k<43→semW Tryz.prog (Instr.index 113 tabV (.int .i64 (k:Int))) h K=K (.agg #[.string (opsN k),.int .u8 (opsB k),.int .i64 (shpL.getD k 0:Nat)]) h
 | 0,_=>by kernel_rfl
 | 1,_=>by kernel_rfl
 | 2,_=>by kernel_rfl
 | 3,_=>by kernel_rfl
 | 4,_=>by kernel_rfl
 | 5,_=>by kernel_rfl
 | 6,_=>by kernel_rfl
 | 7,_=>by kernel_rfl
 | 8,_=>by kernel_rfl
 | 9,_=>by kernel_rfl
 | 10,_=>by kernel_rfl
 | 11,_=>by kernel_rfl
 | 12,_=>by kernel_rfl
 | 13,_=>by kernel_rfl
 | 14,_=>by kernel_rfl
 | 15,_=>by kernel_rfl
 | 16,_=>by kernel_rfl
 | 17,_=>by kernel_rfl
 | 18,_=>by kernel_rfl
 | 19,_=>by kernel_rfl
 | 20,_=>by kernel_rfl
 | 21,_=>by kernel_rfl
 | 22,_=>by kernel_rfl
 | 23,_=>by kernel_rfl
 | 24,_=>by kernel_rfl
 | 25,_=>by kernel_rfl
 | 26,_=>by kernel_rfl
 | 27,_=>by kernel_rfl
 | 28,_=>by kernel_rfl
 | 29,_=>by kernel_rfl
 | 30,_=>by kernel_rfl
 | 31,_=>by kernel_rfl
 | 32,_=>by kernel_rfl
 | 33,_=>by kernel_rfl
 | 34,_=>by kernel_rfl
 | 35,_=>by kernel_rfl
 | 36,_=>by kernel_rfl
 | 37,_=>by kernel_rfl
 | 38,_=>by kernel_rfl
 | 39,_=>by kernel_rfl
 | 40,_=>by kernel_rfl
 | 41,_=>by kernel_rfl
 | 42,_=>by kernel_rfl
 | k+43,hk=>by omega
def findT (s0:ByteArray):T :=
 T.loop [(false,[.int .i64]),(false,[.bool]),(false,[.int .i64])] [.int .i64 (0:Int),.bool false,.int .i64 (0:Int)] <| fun (n130:Int) (b131:Bool) (n132:Int) =>
 cond (decide (n132<(43:Int)))
 (T.sem Tryz.prog (Instr.index 113 tabV (.int .i64 n132)) false [(true,[.string,.int .u8,.int .i64])] <| fun (s133:ByteArray) (n134:Int) (n135:Int) =>
 T.new [.string ⟨#[]⟩,.int .u8 (0:Int),.int .i64 (0:Int)] 112 <| fun (a136:Addr) =>
 T.stores a136 [.string s133,.int .u8 n134,.int .i64 n135] <|
 T.loads a136 [.string] <| fun (s137:ByteArray) =>
 cond ((ByteArray.toList s137)==(ByteArray.toList s0))
  (T.ret (.tuple #[.int .i64 (IntKind.wrap .i64 (n132+(1:Int))),.bool true]))
  (T.again 0 [.int .i64 n130,.bool b131,.int .i64 (IntKind.wrap .i64 (n132+(1:Int)))]))
 (T.ret (.tuple #[.int .i64 (0:Int),.bool false]))
def tabX:HVs [.string,.int .u8,.int .i64,.string,.int .u8,.int .i64,.string,.int .u8,.int .i64,.string,.int .u8,.int .i64,.string,.int .u8,.int .i64,.string,.int .u8,.int .i64,.string,.int .u8,.int .i64,.string,.int .u8,.int .i64,.string,.int .u8,.int .i64,.string,.int .u8,.int .i64,.string,.int .u8,.int .i64,.string,.int .u8,.int .i64,.string,.int .u8,.int .i64,.string,.int .u8,.int .i64,.string,.int .u8,.int .i64,.string,.int .u8,.int .i64,.string,.int .u8,.int .i64,.string,.int .u8,.int .i64,.string,.int .u8,.int .i64,.string,.int .u8,.int .i64,.string,.int .u8,.int .i64,.string,.int .u8,.int .i64,.string,.int .u8,.int .i64,.string,.int .u8,.int .i64,.string,.int .u8,.int .i64,.string,.int .u8,.int .i64,.string,.int .u8,.int .i64,.string,.int .u8,.int .i64,.string,.int .u8,.int .i64,.string,.int .u8,.int .i64,.string,.int .u8,.int .i64,.string,.int .u8,.int .i64,.string,.int .u8,.int .i64,.string,.int .u8,.int .i64,.string,.int .u8,.int .i64,.string,.int .u8,.int .i64,.string,.int .u8,.int .i64,.string,.int .u8,.int .i64,.string,.int .u8,.int .i64,.string,.int .u8,.int .i64,.string,.int .u8,.int .i64,.string,.int .u8,.int .i64,.string,.int .u8,.int .i64]:=(opsN 0,opsB 0,((shpL.getD 0 0:Nat):Int),opsN 1,opsB 1,((shpL.getD 1 0:Nat):Int),opsN 2,opsB 2,((shpL.getD 2 0:Nat):Int),opsN 3,opsB 3,((shpL.getD 3 0:Nat):Int),opsN 4,opsB 4,((shpL.getD 4 0:Nat):Int),opsN 5,opsB 5,((shpL.getD 5 0:Nat):Int),opsN 6,opsB 6,((shpL.getD 6 0:Nat):Int),opsN 7,opsB 7,((shpL.getD 7 0:Nat):Int),opsN 8,opsB 8,((shpL.getD 8 0:Nat):Int),opsN 9,opsB 9,((shpL.getD 9 0:Nat):Int),opsN 10,opsB 10,((shpL.getD 10 0:Nat):Int),opsN 11,opsB 11,((shpL.getD 11 0:Nat):Int),opsN 12,opsB 12,((shpL.getD 12 0:Nat):Int),opsN 13,opsB 13,((shpL.getD 13 0:Nat):Int),opsN 14,opsB 14,((shpL.getD 14 0:Nat):Int),opsN 15,opsB 15,((shpL.getD 15 0:Nat):Int),opsN 16,opsB 16,((shpL.getD 16 0:Nat):Int),opsN 17,opsB 17,((shpL.getD 17 0:Nat):Int),opsN 18,opsB 18,((shpL.getD 18 0:Nat):Int),opsN 19,opsB 19,((shpL.getD 19 0:Nat):Int),opsN 20,opsB 20,((shpL.getD 20 0:Nat):Int),opsN 21,opsB 21,((shpL.getD 21 0:Nat):Int),opsN 22,opsB 22,((shpL.getD 22 0:Nat):Int),opsN 23,opsB 23,((shpL.getD 23 0:Nat):Int),opsN 24,opsB 24,((shpL.getD 24 0:Nat):Int),opsN 25,opsB 25,((shpL.getD 25 0:Nat):Int),opsN 26,opsB 26,((shpL.getD 26 0:Nat):Int),opsN 27,opsB 27,((shpL.getD 27 0:Nat):Int),opsN 28,opsB 28,((shpL.getD 28 0:Nat):Int),opsN 29,opsB 29,((shpL.getD 29 0:Nat):Int),opsN 30,opsB 30,((shpL.getD 30 0:Nat):Int),opsN 31,opsB 31,((shpL.getD 31 0:Nat):Int),opsN 32,opsB 32,((shpL.getD 32 0:Nat):Int),opsN 33,opsB 33,((shpL.getD 33 0:Nat):Int),opsN 34,opsB 34,((shpL.getD 34 0:Nat):Int),opsN 35,opsB 35,((shpL.getD 35 0:Nat):Int),opsN 36,opsB 36,((shpL.getD 36 0:Nat):Int),opsN 37,opsB 37,((shpL.getD 37 0:Nat):Int),opsN 38,opsB 38,((shpL.getD 38 0:Nat):Int),opsN 39,opsB 39,((shpL.getD 39 0:Nat):Int),opsN 40,opsB 40,((shpL.getD 40 0:Nat):Int),opsN 41,opsB 41,((shpL.getD 41 0:Nat):Int),opsN 42,opsB 42,((shpL.getD 42 0:Nat):Int),())
theorem tabX_eq:hvs _ tabX=rowsV opsN opsB:=by kernel_rfl
theorem find_tree {L:Lp} {K:Value→Hp→Prop} {h:Hp} (t:TabN h) {s:ByteArray} (hk:findT s L K h):t_isa_Find s L K h :=
 ⟨tabX,by rw [tabX_eq]; exact t.all,hk⟩
theorem findL_up (nm:Nat→List UInt8) (s:List UInt8):∀ (m k:Nat),k≤m→findL nm s k≠0→findL nm s m=findL nm s k
 | 0,k,h,_=>by
  have:k=0:=by omega
  rw [this]
 | m+1,k,h,hk=>by
  by_cases e:k=m+1
  ·rw [e]
  ·have ih:=findL_up nm s m k (by omega) hk
   show (match findL nm s m with | 0=>if nm m=s then m+1 else 0 | n=>n)=findL nm s k
   rw [ih]
   cases hh:findL nm s k with
   | zero=>exact absurd hh hk
   | succ n=>rfl
theorem findL_next (nm:Nat→List UInt8) (s:List UInt8) (k:Nat) (h:findL nm s k=0):findL nm s (k+1)=if nm k=s then k+1 else 0:=by
 show (match findL nm s k with | 0=>if nm k=s then k+1 else 0 | n=>n)=_
 rw [h]
 rfl
theorem find_hc {h:Hp} (t:TabN h) (s:ByteArray):HC Tryz.prog 30 #[.string s] h fun u h'=>u=.tuple #[.int .i64 (findA s:Nat),.bool (decide (findA s≠0))]∧Ext h h':=by
 refine hcr_of (args:=[.string s]) mixed Tryz.func30 (by kernel_rfl) (t_isa_Find_eq s) ?_
 refine find_tree t ?_
 unfold findT
 refine loop_of (cs:=[(false,[.int .i64]),(false,[.bool]),(false,[.int .i64])]) (fun x n h'=>∃ k:Nat,x.2.2.1=(k:Int)∧k≤43∧n=43-k∧Ext h h'∧findL opNm s.data.toList k=0) ((0:Int),false,(0:Int),()) 43 rfl ⟨0,rfl,by omega,by omega,Ch.refl _ _,rfl⟩ ?_
 rintro ⟨n130,b131,n132,⟨⟩⟩ n h1 ⟨k,hk,hk43,rfl,e1,h0⟩
 simp only at hk
 subst hk
 dsimp only [flat,unc,unc1,nA,cA]
 refine cond_mk (fun q=>?_) (fun q=>?_)
 ·have q:=of_decide_eq_true q
  have hlt:k<43:=by omega
  show semW _ _ _ _
  rw [idx_tab _ _ k hlt]
  refine ⟨(opsN k,opsB k,((shpL.getD k 0:Nat):Int),()),rfl,?_⟩
  dsimp only [flat,unc,unc1,nA,cA]
  refine newB ?_
  intro h2 b2 e2 z2
  refine stores_of b2 rfl (by simp) ?_
  intro h3 b3 k3 z3
  have b3:Box h3 h1.size 112 [.string (opsN k),.int .u8 (opsB k),.int .i64 ((shpL.getD k 0:Nat):Int)]:=b3
  have e3:Ext h h3:=e1.trans (Ch.trans e2 k3 (fun i hi hl=>by simp at hi; omega))
  refine loads_box b3 (opsN k,()) rfl ?_
  dsimp only [flat,unc,unc1,nA,cA]
  have hn:=findL_next opNm s.data.toList k h0
  have hw:IntKind.wrap .i64 ((k:Int)+1)=((k+1:Nat):Int):=by rw [wrap_i64 (by omega) (by omega)]; omega
  rw [ByteArray.toList_eq,ByteArray.toList_eq,hw]
  refine cond_mk (fun r=>?_) (fun r=>?_)
  ·have r:opNm k=s.data.toList:=eq_of_beq r
   rw [if_pos r] at hn
   have hf:findA s=k+1:=by
    unfold findA
    rw [findL_up _ _ 43 (k+1) (by omega) (by omega),hn]
   refine ⟨?_,e3⟩
   rw [hf]
   simp
  ·have r:¬ opNm k=s.data.toList:=ne_of_beq_false r
   rw [if_neg r] at hn
   exact again_mk (cs:=[(false,[.int .i64]),(false,[.bool]),(false,[.int .i64])]) (n130,b131,((k+1:Nat):Int),()) (43-(k+1)) rfl (by omega) rfl ⟨k+1,rfl,by omega,rfl,e3,hn⟩
 ·have q:=of_decide_eq_false q
  have:k=43:=by omega
  subst this
  refine ⟨?_,e1⟩
  unfold findA
  rw [h0]
  simp
end Go.Sx.Ob
set_option linter.unusedVariables false
set_option linter.unusedSimpArgs false
set_option maxRecDepth 100000
namespace Go.Sx
open Go.Proofs
def RQ (h:Hp) (A:Nat) (us ts:List Tok) (d:Int) (e:Nat):Prop:=∃ k,RB h A us k d e∧ts=us.drop k
theorem RQ.keep {ws:List Nat} {h h':Hp} {A:Nat} {us ts:List Tok} {d:Int} {e:Nat} (b:RQ h A us ts d e) (c:Ch ws h h') (hw:∀ i,i∈ws→A<i):RQ h' A us ts d e:=by
 obtain ⟨k,b,ht⟩:=b
 exact ⟨k,b.keep c hw,ht⟩
theorem RQ.lt {h:Hp} {A:Nat} {us ts:List Tok} {d:Int} {e:Nat} (b:RQ h A us ts d e):A<h.size:=by
 obtain ⟨k,b,ht⟩:=b
 exact b.lt
def ResR (h:Hp) (A:Nat) (us:List Tok) (n:Nat) (d:Int) (res:PRes) (v:Value) (h':Hp):Prop :=
 Ch [A] h h'∧∃ x p l c ts' d' e',v=linV p l c x∧SL h' h.size 50 2 p l c (x.terms.map encT)∧Good x∧RQ h' A us ts' d' e'∧PostR n d x ts' d' e' res
def RdC (f:FuncId) (A:Nat) (us:List Tok) (d:Nat) (g:List Tok→PRes):Prop :=
 ∀ h ts,RQ h A us ts d 0→Wf ts→ts.length≤2^40→HC Tryz.prog f #[ptr A] h (ResR h A us ts.length d (g ts))
section rules
variable {L:Lp} {K:Value→Hp→Prop} {h:Hp}
theorem step_of {A:Nat} {us r:List Tok} {t:Tok} {d:Int} {e:Nat} {k:T} (b:RQ h A us (t::r) d e) (hk:∀ h',Ch [A] h h'→RQ h' A us r d e→k L K h') :
  (T.osome (some (⟨A,0,none⟩:Addr)) fun (a:Addr)=>T.loads (a.add 1) [.int .i64] fun (n:Int)=>T.osome (some (⟨A,0,none⟩:Addr)) fun (b:Addr)=>T.stores (b.add 1) [.int .i64 (IntKind.wrap .i64 (n+(1:Int)))] k) L K h:=by
 obtain ⟨i,⟨p,l,c,bA,v,hp,hi,hu⟩,ht⟩:=b
 have hil:i<us.length:=by
  rcases Nat.lt_or_ge i us.length with h | h
  ·exact h
  ·rw [List.drop_eq_nil_of_le h] at ht; cases ht
 refine osome_mk rfl ?_
 rw [add_box]
 refine loads_box bA ((i:Int),()) rfl ?_
 dsimp only [flat,unc,unc1,nA,cA]
 refine osome_mk rfl ?_
 rw [add_box]
 refine stores_of bA rfl (by simp) ?_
 intro h1 b1 k1 z1
 have b1:Box h1 A 170 [.slice p l c,.int .i64 (IntKind.wrap .i64 ((i:Int)+1)),.int .i64 d,.int .i64 (e:Int)]:=b1
 rw [show IntKind.wrap .i64 ((i:Int)+1)=((i+1:Nat):Int) by rw [wrap_i64 (by omega) (by omega)]; omega] at b1
 refine hk h1 k1 ⟨i+1,⟨p,l,c,b1,v.keep k1 (fun j hj hm=>?_),hp,by omega,hu⟩,?_⟩
 ·rw [List.mem_singleton] at hm
  have:=hp _ hj
  omega
 ·have:=congrArg (List.drop 1) ht
  rw [List.drop_drop] at this
  simpa using this
theorem depth_of {A:Nat} {us ts:List Tok} {d:Int} {e:Nat} {f:Int→Int} {k:T} (b:RQ h A us ts d e) (hk:∀ h',Ch [A] h h'→RQ h' A us ts (f d) e→k L K h') :
  (T.osome (some (⟨A,0,none⟩:Addr)) fun (a:Addr)=>T.loads (a.add 2) [.int .i64] fun (n:Int)=>T.osome (some (⟨A,0,none⟩:Addr)) fun (b:Addr)=>T.stores (b.add 2) [.int .i64 (f n)] k) L K h:=by
 obtain ⟨i,⟨p,l,c,bA,v,hp,hi,hu⟩,ht⟩:=b
 refine osome_mk rfl ?_
 rw [add_box]
 refine loads_box bA (d,()) rfl ?_
 dsimp only [flat,unc,unc1,nA,cA]
 refine osome_mk rfl ?_
 rw [add_box]
 refine stores_of bA rfl (by simp) ?_
 intro h1 b1 k1 z1
 have b1:Box h1 A 170 [.slice p l c,.int .i64 (i:Int),.int .i64 (f d),.int .i64 (e:Int)]:=b1
 refine hk h1 k1 ⟨i,⟨p,l,c,b1,v.keep k1 (fun j hj hm=>?_),hp,hi,hu⟩,ht⟩
 rw [List.mem_singleton] at hm
 have:=hp _ hj
 omega
theorem refuseR_of {A:Nat} {us ts:List Tok} {d:Int} {e w:Nat} {k:T} (b:RQ h A us ts d e) (hk:∀ h',Ch [A] h h'→RQ h' A us ts d (if e=0 then w else e)→k L K h') :
  T.call Tryz.prog 97 [.pointer (some ⟨A,0,none⟩),.int .i64 (w:Int)] true [] k L K h:=by
 obtain ⟨i,b,ht⟩:=b
 refine call_of (refuse84_hc b w) ?_
 rintro _ h1 ⟨rfl,k1,z1,b1⟩
 exact ⟨(),rfl,hk h1 k1 ⟨i,b1,ht⟩⟩
theorem isR_of {A:Nat} {us ts:List Tok} {d:Int} {e:Nat} {c:UInt8} {k:Bool→T} (b:RQ h A us ts d e) (hk:k (signB e ts c) L K h):T.call Tryz.prog 106 [.pointer (some ⟨A,0,none⟩),.string ⟨#[c]⟩] false [(false,[.bool])] k L K h:=by
 obtain ⟨i,b,ht⟩:=b
 subst ht
 exact call_bool (is97_hc b c) hk
theorem outR {h hx:Hp} {A:Nat} {us ts':List Tok} {n:Nat} {d d':Int} {res:PRes} {g1 g4 b:Nat} {x:Lin} {p:Option Addr} {l c e':Nat} {L:Lp} (kx:Ch [A] h hx) (hg1:h.size≤g1) (hAg:A<g1) (b1:Box hx g1 26 [.slice none 0 0,.int .u32 0]) (b4:Box hx g4 26 [.slice p l c,.int .u32 (x.num:Int)])
  (s:SL hx b 50 2 p l c (x.terms.map encT)) (hb:g1<b) (gx:Good x) (rq:RQ hx A us ts' d' e') (post:PostR n d x ts' d' e' res) :
  (T.loads ⟨g4,0,none⟩ [.slice 50,.int .u32] fun (p:Option Addr) (l c:Nat) (n:Int)=>T.stores ⟨g1,0,none⟩ [.slice p l c,.int .u32 n] <| T.loads ⟨g1,0,none⟩ [.slice 50,.int .u32] fun (p:Option Addr) (l c:Nat) (n:Int)=>T.ret (.agg #[.slice p l c,.int .u32 n])) L (ResR h A us n d res) hx:=by
 refine loads_box b4 ((p,l,c),(x.num:Int),()) rfl ?_
 dsimp only [flat,unc,unc1,nA,cA]
 refine stores_of b1 rfl (by simp) ?_
 intro h7 b7 k7 z7
 have b7:Box h7 g1 26 [.slice p l c,.int .u32 (x.num:Int)]:=b7
 refine loads_box b7 ((p,l,c),(x.num:Int),()) rfl ?_
 exact ⟨Ch.trans kx k7 (fun j hj hl=>by simp at hj; omega),x,p,l,c,ts',d',e',rfl,(s.keep' k7 (fun j hj=>by have:=(s.blk hj).1; simp; omega)).mono (by omega),gx,rq.keep k7 (by simp; omega),post⟩
theorem litT_of {k:Option Addr→Nat→Nat→T} {s:ByteArray} {n:Nat} {v:Int} (hv:v=(n:Int)) (hk:∀ h' p' l' c',SL h' h.size 50 2 p' l' c' ([(s,n)].map encT)→Ext h h'→h'.size=h.size+1→k p' l' c' L K h') :
  T.sem Tryz.prog (Instr.buildSlice 23 1 #[(0,.agg #[.string s,.int .u32 v])]) false [(false,[.slice 0])] k L K h:=by
 subst hv
 refine lit_of (cells:=[.string s,.int .u32 n]) und67 termZ (by decide) (by decide) (by kernel_rfl) ?_
 intro h2 b2 e2 z2
 exact hk h2 _ _ _ ⟨rfl,by simp [encT],h.size,[],[],rfl,by omega,by omega,b2,rfl⟩ e2 z2
end rules
theorem isS_lit {t:Tok}:(decide (t.kind=3) && (ByteArray.toList t.text==[({ toBitVec:=40#8 }:UInt8)]))=isS t 40:=by
 unfold isS
 rw [ByteArray.toList_eq]
 by_cases h:t.kind=3
 ·simp [h]
 ·simp [h]
def FacQ (h:Hp) (A g1 g4:Nat) (us:List Tok) (d:Int) (res:PRes) (h':Hp):Prop :=
 Ch [A] h h'∧Box h' g1 26 [.slice none 0 0,.int .u32 0]∧∃ x p l c t r,Box h' g4 26 [.slice p l c,.int .u32 (x.num:Int)]∧SL h' (g1+1) 50 2 p l c (x.terms.map encT)∧Good x∧RQ h' A us (t::r) d 0∧res=.ok (x,r)
theorem fac111_hc {A : Nat} {us : List Tok} {o : Option (List Tok → PRes)} {d : Nat} (hz : ∀ t, t ∈ us → t.text.size ≤ 9223372036854775807) (hd : d ≤ 32)
    (ho : match o with
      | none => d = 32
      | some f => d < 32 ∧ RdC 96 A us (d + 1) f)
    (hfine : ∀ f, o = some f → ∀ ts, Wf ts → Fine ts (f ts)) : RdC 117 A us d (facG o) := by
  intro h ts rq w hts
  refine hcr_of (args := [ptr A]) mixed Tryz.func117 (by kernel_rfl) (t_spandrelref4_reader__factor_eq (some ⟨A, 0, none⟩)) ?_
  unfold t_spandrelref4_reader__factor
  have hA := rq.lt
  refine newB ?_
  intro h1 b1 e1 z1
  refine loop_of (cs := [(false, [.bool])]) (fun y m h' => ∃ (b : Bool) (vs : List Tok), y.1 = b ∧ facG o ts = facN o b vs ∧ Ch [A] h1 h' ∧ RQ h' A us vs d 0 ∧ vs <:+ ts ∧ m = vs.length) (false, ()) ts.length rfl
    ⟨false, ts, rfl, rfl, Ch.refl _ _, rq.keep e1 (by simp), List.suffix_refl _, rfl⟩ ?_
  rintro ⟨b, ⟨⟩⟩ m h2 ⟨b', vs, hb', hg, k2, rq2, hsuf, rfl⟩
  simp only at hb'
  subst hb'
  dsimp only [flat, unc, unc1, nA, cA]
  have hz2 := k2.size
  have b12 := b1.keep k2 (by simp; omega)
  have k02 : Ch [A] h h2 := Ch.trans (e1.mono (by simp)) k2 (fun j hj _ => hj)
  have hus := hsuf.length_le
  have wus := w.suffix hsuf
  refine isR_of rq2 ?_
  refine cond_mk (fun g1 => ?_) (fun g1 => ?_)
  · cases vs with
    | nil => cases g1
    | cons t r =>
      have g1 : isS t 45 = true := g1
      refine step_of rq2 ?_
      intro h3 k3 rq3
      refine again_mk (cs := [(false, [.bool])]) (!b, ()) r.length rfl (by simp) rfl ⟨!b, r, rfl, ?_, Ch.trans k2 k3 (fun j hj _ => hj), rq3, (List.suffix_cons _ _).trans hsuf, rfl⟩
      rw [hg]
      show (if isS t 45 = true then facN o (!b) r else facS o b (t :: r)) = _
      rw [if_pos g1]
  · have hfs : facG o ts = facS o b vs := by
      rw [hg]
      cases vs with
      | nil => rfl
      | cons t r =>
        have g1 : isS t 45 = false := g1
        show (if isS t 45 = true then facN o (!b) r else facS o b (t :: r)) = _
        rw [if_neg (by rw [g1]; simp)]
    refine newB ?_
    intro h3 b4 e3 z3
    have b13 := b12.keep e3 (by simp)
    have rq3 := rq2.keep e3 (by simp)
    have k03 : Ch [A] h h3 := Ch.trans k02 e3 (by simp)
    have hz03 := k03.size
    refine join_of (cs := [(false, [.bool])]) (fun y h' => y.1 = decide (vs = []) ∧ h3 = h') ?_ ?_
    · obtain ⟨i, ⟨p, l, c, bA, v, hp, hi, hu⟩, ht⟩ := rq3
      refine osome_mk rfl ?_
      rw [add_box]
      refine loads_box bA ((0 : Int), ()) rfl ?_
      dsimp only [flat, unc, unc1, nA, cA]
      refine cond_f rfl ?_
      refine osome_mk rfl ?_
      rw [add_box]
      refine loads_box bA ((i : Int), ()) rfl ?_
      dsimp only [flat, unc, unc1, nA, cA]
      refine osome_mk rfl ?_
      refine loads_box bA ((p, l, c), ()) rfl ?_
      dsimp only [flat, unc, unc1, nA, cA]
      refine meet_mk (cs := [(false, [.bool])]) (decide ((i : Int) ≥ (l : Int)), ()) rfl rfl ⟨?_, rfl⟩
      have hlen := v.len
      have : vs = [] ↔ us.length ≤ i := by rw [ht]; exact List.drop_eq_nil_iff
      show decide ((i : Int) ≥ (l : Int)) = decide (vs = [])
      by_cases hv : vs = []
      · rw [decide_eq_true hv, decide_eq_true (by have := this.1 hv; omega)]
      · rw [decide_eq_false hv, decide_eq_false (by intro hh; exact hv (this.2 (by omega)))]
    · rintro ⟨b5, ⟨⟩⟩ h3' ⟨hb5, rfl⟩
      simp only at hb5
      subst hb5
      dsimp only [flat, unc, unc1, nA, cA]
      refine cond_mk (fun g2 => ?_) (fun g2 => ?_)
      · have g2 : vs = [] := of_decide_eq_true g2
        subst g2
        refine refuseR_of (w := 20) rq3 ?_
        intro h4 k4 rq4
        rw [hfs]
        refine outR (b := h.size + 1) (x := linZ) (Ch.trans k03 k4 (fun j hj _ => hj)) (Nat.le_refl _) hA (b13.keep k4 (by simp; omega)) (b4.keep k4 (by simp; omega)) (SL.nil _ _ _ _) (by omega) Good.z rq4 ?_
        exact ⟨rfl, by simp, by simp [linZ]⟩
      · have g2 : vs ≠ [] := of_decide_eq_false g2
        obtain ⟨t, r, rfl⟩ := List.exists_cons_of_ne_nil g2
        have wt := wus t (List.mem_cons_self ..)
        simp only [List.length_cons] at hus
        have fH : ∀ q, (if t.kind = 1 then if (regL t.text.data.toList).2.2 = true then (.error 20 : PRes) else .ok (⟨[(t.text, 1)], 0⟩, r)
            else if t.kind = 2 then .ok (⟨[], t.num⟩, r)
            else if isS t 40 = true then match o with
              | none => .error 21
              | some f => match f r with
                | .error e => .error e
                | .ok (x, r') => match r' with
                  | [] => .error 20
                  | t' :: r'' => if isS t' 41 = true then .ok (x, r'') else .error 20
            else .error 20) = q → facH o (t :: r) = q := fun q hq => hq
        have hfe : ∀ e, facH o (t :: r) = .error e → facS o b (t :: r) = .error e := fun e he => by unfold facS; rw [he]
        have rq3' := rq3
        obtain ⟨i, ⟨p, l, c, bA, v, hp, hi, hu⟩, ht⟩ := rq3
        have hil : i < us.length := by
          rcases Nat.lt_or_ge i us.length with h | h
          · exact h
          · rw [List.drop_eq_nil_of_le h] at ht; cases ht
        have hlen := v.len
        have htu : us[i] = t := by
          rw [List.drop_eq_getElem_cons hil] at ht
          exact (List.cons.inj ht).1.symm
        obtain ⟨a, rfl, hc⟩ := v.cells i hil
        rw [htu] at hc
        refine osome_mk rfl (loads_box bA ((some a, l, c), ()) rfl ?_)
        dsimp only [flat, unc, unc1, nA, cA]
        refine osome_mk rfl ?_
        rw [add_box]
        refine loads_box bA ((i : Int), ()) rfl ?_
        dsimp only [flat, unc, unc1, nA, cA]
        refine need_of ⟨by omega, by omega⟩ (osome_mk rfl ?_)
        rw [show Int.toNat (i : Int) = i by omega]
        refine loads_of ((t.kind : Int), t.text, (t.num : Int), (t.at_ : Int), ()) hc ?_
        dsimp only [flat, unc, unc1, nA, cA]
        refine newB ?_
        intro h5 b5 e5 z5
        have hblk : a.block < A := hp _ (by simp [blkOf])
        have bA5 := bA.keep e5 (by simp)
        refine ⟨⟨cellsAt_keep e5 (by simp) _ _ hc, bA5.cells _ rfl, bA5.cells _ rfl, trivial⟩, ?_⟩
        refine stores_of b5 rfl (by simp) ?_
        intro h6 bt6 k6 z6
        have bt6 : Box h6 h3.size 101 (enc t) := bt6
        have e36 : Ext h3 h6 := Ch.trans e5 k6 (fun j hj hl => by simp at hj; omega)
        have k06 : Ch [A] h h6 := Ch.trans k03 e36 (by simp)
        have b16 := b13.keep e36 (by simp)
        have b46 := b4.keep e36 (by simp)
        have rq6 := rq3'.keep e36 (by simp)
        have hb4 := b4.lt
        have hz23 := k02.size
        refine join_of (cs := []) (fun y h' => FacQ h A h.size h2.size us d (facH o (t :: r)) h') ?_ ?_
        · refine loads_box bt6 ((t.kind : Int), ()) rfl ?_
          dsimp only [flat, unc, unc1, nA, cA]
          refine cond_mk (fun g5 => ?_) (fun g5 => ?_)
          · have g5 : t.kind = 2 := by have : (t.kind : Int) = 2 := by simpa using g5
                                       omega
            rw [add_box]
            refine loads_box bt6 ((t.num : Int), ()) rfl ?_
            dsimp only [flat, unc, unc1, nA, cA]
            rw [add_box]
            refine stores_of b46 rfl (by simp) ?_
            intro h7 b7 k7 z7
            have b7 : Box h7 h2.size 26 [.slice none 0 0, .int .u32 (t.num : Int)] := b7
            exact meet_mk (cs := []) () rfl rfl ⟨Ch.trans k06 k7 (fun j hj hl => by simp at hj; omega), b16.keep k7 (by simp; omega), ⟨[], t.num⟩, none, 0, 0, t, r, b7, SL.nil _ _ _ _, ⟨Nf.nil, by simp, wt.num⟩, rq6.keep k7 (by simp; omega), fH _ (by rw [if_neg (by omega), if_pos g5])⟩
          · have g5 : ¬ t.kind = 2 := by have : ¬ (t.kind : Int) = 2 := by simpa using g5
                                         omega
            refine join_of (cs := [(false, [.bool])]) (fun y h' => y.1 = (decide (t.kind = 1) && legalL t.text.data.toList) ∧ h6 = h') ?_ ?_
            · refine loads_box bt6 ((t.kind : Int), ()) rfl ?_
              dsimp only [flat, unc, unc1, nA, cA]
              refine cond_mk (fun g3 => ?_) (fun g3 => ?_)
              · have g3 : t.kind = 1 := by have : (t.kind : Int) = 1 := by simpa using g3
                                           omega
                rw [add_box]
                refine loads_box bt6 (t.text, ()) rfl ?_
                dsimp only [flat, unc, unc1, nA, cA]
                refine call_bool (legal2_hc t.text h6 (hz t (by rw [← htu]; exact List.getElem_mem hil))) ?_
                refine meet_mk (cs := [(false, [.bool])]) (legalL t.text.data.toList, ()) rfl rfl ⟨?_, rfl⟩
                rw [decide_eq_true g3]
                rfl
              · have g3 : ¬ t.kind = 1 := by have : ¬ (t.kind : Int) = 1 := by simpa using g3
                                             omega
                refine meet_mk (cs := [(false, [.bool])]) (false, ()) rfl rfl ⟨?_, rfl⟩
                rw [decide_eq_false g3]
                rfl
            · rintro ⟨b7, ⟨⟩⟩ h6' ⟨hb7, rfl⟩
              simp only at hb7
              subst hb7
              dsimp only [flat, unc, unc1, nA, cA]
              refine cond_mk (fun g3 => ?_) (fun g3 => ?_)
              · simp only [Bool.and_eq_true, decide_eq_true_eq] at g3
                obtain ⟨hn0, hlg⟩ := wt.name g3.1
                have hreg : (regL t.text.data.toList).2.2 = false := by rw [g3.2] at hlg; simpa using hlg.symm
                rw [add_box]
                refine loads_box bt6 (t.text, ()) rfl ?_
                dsimp only [flat, unc, unc1, nA, cA]
                refine litT_of (n := 1) rfl ?_
                intro h7 p' l' c' s7 e7 z7
                refine stores_of (b46.keep e7 (by simp)) rfl (by simp) ?_
                intro h8 b8 k8 z8
                have b8 : Box h8 h2.size 26 [.slice p' l' c', .int .u32 0] := b8
                have hz6 := e36.size
                have k68 : Ch [h2.size] h6 h8 := Ch.trans (e7.mono (by simp)) k8 (fun j hj _ => hj)
                refine meet_mk (cs := []) () rfl rfl ⟨Ch.trans k06 k68 (fun j hj hl => by simp at hj; omega), b16.keep k68 (by simp; omega), ⟨[(t.text, 1)], 0⟩, p', l', c', t, r, b8, ?_, good_named g3.2, rq6.keep k68 (by simp; omega), fH _ (by rw [if_pos g3.1, if_neg (by rw [hreg]; simp)])⟩
                exact (s7.keep' k8 (fun j hj => by have := (s7.blk hj).1; simp; omega)).mono (by omega)
              · simp only [Bool.and_eq_false_iff, decide_eq_false_iff_not] at g3
                refine join_of (cs := [(false, [.bool])]) (fun y h' => y.1 = isS t 40 ∧ h6 = h') ?_ ?_
                · refine loads_box bt6 ((t.kind : Int), ()) rfl ?_
                  dsimp only [flat, unc, unc1, nA, cA]
                  refine cond_mk (fun g6 => ?_) (fun g6 => ?_)
                  · have g6 : t.kind = 3 := by have : (t.kind : Int) = 3 := by simpa using g6
                                               omega
                    rw [add_box]
                    refine loads_box bt6 (t.text, ()) rfl ?_
                    dsimp only [flat, unc, unc1, nA, cA]
                    refine meet_mk (cs := [(false, [.bool])]) ((ByteArray.toList t.text == [({ toBitVec := 40#8 } : UInt8)]), ()) rfl rfl ⟨?_, rfl⟩
                    rw [← isS_lit, decide_eq_true g6]
                    rfl
                  · have g6 : ¬ t.kind = 3 := by have : ¬ (t.kind : Int) = 3 := by simpa using g6
                                                 omega
                    refine meet_mk (cs := [(false, [.bool])]) (false, ()) rfl rfl ⟨?_, rfl⟩
                    rw [← isS_lit, decide_eq_false g6]
                    rfl
                · rintro ⟨b8, ⟨⟩⟩ h6' ⟨hb8, rfl⟩
                  simp only at hb8
                  subst hb8
                  dsimp only [flat, unc, unc1, nA, cA]
                  have hz6 := e36.size
                  refine cond_mk (fun g6 => ?_) (fun g6 => ?_)
                  · have hk3 := isS_kind g6
                    have hk1 : ¬ t.kind = 1 := by omega
                    obtain ⟨i6, ⟨p6, l6, c6, bA6, v6, hp6, hi6, hu6⟩, ht6⟩ := rq6
                    have rq6 : RQ h6 A us (t :: r) d 0 := ⟨i6, ⟨p6, l6, c6, bA6, v6, hp6, hi6, hu6⟩, ht6⟩
                    refine osome_mk rfl ?_
                    rw [add_box]
                    refine loads_box bA6 ((d : Int), ()) rfl ?_
                    dsimp only [flat, unc, unc1, nA, cA]
                    refine cond_mk (fun g7 => ?_) (fun g7 => ?_)
                    · have g7 : (d : Int) = 32 := by simpa using g7
                      refine refuseR_of (w := 21) rq6 ?_
                      intro h7 k7 rq7
                      cases o with
                      | some f => simp only at ho; omega
                      | none =>
                        rw [hfs]
                        refine outR (b := h.size + 1) (x := linZ) (Ch.trans k06 k7 (fun j hj _ => hj)) (Nat.le_refl _) hA (b16.keep k7 (by simp; omega)) (b46.keep k7 (by simp; omega)) (SL.nil _ _ _ _) (by omega) Good.z rq7 ?_
                        rw [hfe 21 (fH _ (by rw [if_neg hk1, if_neg g5, if_pos g6]))]
                        exact ⟨rfl, by simp, by simp [linZ]⟩
                    · have g7 : ¬ (d : Int) = 32 := by simpa using g7
                      cases o with
                      | none => simp only at ho; omega
                      | some f =>
                        simp only at ho
                        obtain ⟨hd', hs⟩ := ho
                        refine depth_of (f := fun n => IntKind.wrap .i64 (n + 1)) rq6 ?_
                        intro h7 k7 rq7
                        rw [wrap_small (by omega) (by omega)] at rq7
                        refine step_of rq7 ?_
                        intro h8 k8 rq8
                        have k68 : Ch [A] h6 h8 := Ch.trans k7 k8 (fun j hj _ => hj)
                        have k08 : Ch [A] h h8 := Ch.trans k06 k68 (fun j hj _ => hj)
                        have b18 := b16.keep k68 (by simp; omega)
                        have b48 := b46.keep k68 (by simp; omega)
                        have wr : Wf r := wus.tail
                        have hff := hfine f rfl r wr
                        have hrl : r.length + 1 ≤ ts.length := hus
                        refine call_of (hs h8 r rq8 wr (by omega)) ?_
                        rintro _ h9 ⟨k9, x, p', l', c', ts', d', e', rfl, s9, gx, rq9, post⟩
                        refine ⟨((p', l', c'), (x.num : Int), ()), rfl, ?_⟩
                        dsimp only [flat, unc, unc1, nA, cA]
                        have b19 := b18.keep k9 (by simp; omega)
                        have hz8 := k08.size
                        have hz68 := k68.size
                        refine stores_of (b48.keep k9 (by simp; omega)) rfl (by simp) ?_
                        intro h10 b10 k10 z10
                        have b10 : Box h10 h2.size 26 [.slice p' l' c', .int .u32 (x.num : Int)] := b10
                        have b110 := b19.keep k10 (by simp; omega)
                        have rq10 := rq9.keep k10 (by simp; omega)
                        have s10 : SL h10 (h.size + 1) 50 2 p' l' c' (x.terms.map encT) := (s9.keep' k10 (fun j hj => by have := (s9.blk hj).1; simp; omega)).mono (by omega)
                        have k010 : Ch [A] h h10 := Ch.trans (Ch.trans k08 k9 (fun j hj _ => hj)) k10 (fun j hj hl => by simp at hj; omega)
                        refine depth_of (f := fun n => IntKind.wrap .i64 (n - 1)) rq10 ?_
                        intro h11 k11 rq11
                        have b111 := b110.keep k11 (by simp; omega)
                        have b11 := b10.keep k11 (by simp; omega)
                        have s11 := s10.keep' k11 (fun j hj => by have := (s10.blk hj).1; simp; omega)
                        have k011 : Ch [A] h h11 := Ch.trans k010 k11 (fun j hj _ => hj)
                        refine isR_of rq11 ?_
                        refine cond_mk (fun g8 => ?_) (fun g8 => ?_)
                        · have g8 : signB e' ts' 41 = false := by simpa using g8
                          refine refuseR_of (w := 20) rq11 ?_
                          intro h12 k12 rq12
                          rw [hfs]
                          revert post hff
                          cases hfr : f r with
                          | error e =>
                            rintro hff ⟨rfl, he0, hxl⟩
                            refine outR (Ch.trans k011 k12 (fun j hj _ => hj)) (Nat.le_refl _) hA (b111.keep k12 (by simp; omega)) (b11.keep k12 (by simp; omega)) (s11.keep' k12 (fun j hj => by have := (s11.blk hj).1; simp; omega)) (by omega) gx rq12 ?_
                            rw [hfe e' (fH _ (by rw [if_neg hk1, if_neg g5, if_pos g6]; simp only [hfr]))]
                            exact ⟨by rw [if_neg he0], he0, by omega⟩
                          | ok z =>
                            obtain ⟨y, r'⟩ := z
                            rintro ⟨_, _, _, hxl⟩ ⟨rfl, rfl, rfl, rfl⟩
                            refine outR (Ch.trans k011 k12 (fun j hj _ => hj)) (Nat.le_refl _) hA (b111.keep k12 (by simp; omega)) (b11.keep k12 (by simp; omega)) (s11.keep' k12 (fun j hj => by have := (s11.blk hj).1; simp; omega)) (by omega) gx rq12 ?_
                            rw [hfe 20 (fH _ ?_)]
                            · exact ⟨rfl, by omega, by omega⟩
                            · rw [if_neg hk1, if_neg g5, if_pos g6]
                              simp only [hfr]
                              cases ts' with
                              | nil => rfl
                              | cons t' r'' =>
                                have g8 : isS t' 41 = false := g8
                                simp only
                                rw [if_neg (by rw [g8]; simp)]
                        · have g8 : signB e' ts' 41 = true := by simpa using g8
                          have he0 : e' = 0 := by
                            unfold signB at g8
                            simp only [Bool.and_eq_true, decide_eq_true_eq] at g8
                            exact g8.1
                          revert post hff
                          cases hfr : f r with
                          | error e =>
                            rintro hff ⟨rfl, he, hxl⟩
                            exact absurd he0 he
                          | ok z =>
                            obtain ⟨y, r'⟩ := z
                            rintro ⟨_, _, _, hxl⟩ ⟨_, rfl, rfl, rfl⟩
                            subst he0
                            cases ts' with
                            | nil => cases g8
                            | cons t' r'' =>
                              have g8 : isS t' 41 = true := g8
                              refine meet_mk (cs := []) () rfl rfl ⟨k011, b111, x, p', l', c', t', r'', b11, s11, gx, ?_, fH (.ok (x, r'')) (by rw [if_neg hk1, if_neg g5, if_pos g6]; simp only [hfr]; rw [if_pos g8])⟩
                              have : IntKind.wrap .i64 (((d + 1 : Nat) : Int) - 1) = (d : Int) := by rw [wrap_small (by omega) (by omega)]; omega
                              rw [← this]
                              exact rq11
                  · have hE : facH o (t :: r) = .error 20 := by
                      refine fH _ ?_
                      by_cases hk1 : t.kind = 1
                      · rw [if_pos hk1]
                        obtain ⟨hn0, hlg⟩ := wt.name hk1
                        have hl : legalL t.text.data.toList = false := by
                          rcases g3 with g3 | g3
                          · exact absurd hk1 g3
                          · exact g3
                        rw [hl] at hlg
                        rw [if_pos (by simpa using hlg.symm)]
                      · rw [if_neg hk1, if_neg g5, if_neg (by rw [g6]; simp)]
                    refine refuseR_of (w := 20) rq6 ?_
                    intro h7 k7 rq7
                    rw [hfs]
                    refine outR (b := h.size + 1) (x := linZ) (Ch.trans k06 k7 (fun j hj _ => hj)) (Nat.le_refl _) hA (b16.keep k7 (by simp; omega)) (b46.keep k7 (by simp; omega)) (SL.nil _ _ _ _) (by omega) Good.z rq7 ?_
                    rw [hfe 20 hE]
                    exact ⟨rfl, by simp, by simp [linZ]⟩
        · rintro ⟨⟩ h7 ⟨k7, b17, x, p', l', c', t', r'', b47, s7, gx, rq7, hres⟩
          dsimp only [flat, unc, unc1, nA, cA]
          have hfx : facS o b (t :: r) = .ok (negB b x, r'') := by unfold facS; rw [hres]
          have hxl : x.terms.length ≤ ts.length := by
            have hf := facH_fine hfine wus
            rw [hres] at hf
            obtain ⟨_, _, _, hl⟩ := hf
            simp only [List.length_cons] at hl
            omega
          refine step_of rq7 ?_
          intro h8 k8 rq8
          have k08 : Ch [A] h h8 := Ch.trans k7 k8 (fun j hj _ => hj)
          have hz8 := k08.size
          have b18 := b17.keep k8 (by simp; omega)
          have b48 := b47.keep k8 (by simp; omega)
          have s8 := s7.keep' k8 (fun j hj => by have := (s7.blk hj).1; simp; omega)
          rw [hfs, hfx]
          refine cond_mk (fun g9 => ?_) (fun g9 => ?_)
          · refine loads_box b48 ((p', l', c'), (x.num : Int), ()) rfl ?_
            dsimp only [flat, unc, unc1, nA, cA]
            refine call_of (times98_hc s8.vwT (by omega) s8.vwT' 4294967295) ?_
            rintro _ h9 ⟨e9, q, m, cq, rfl, s9⟩
            refine ⟨((q, m, cq), ((linT x 4294967295).num : Int), ()), rfl, ?_⟩
            dsimp only [flat, unc, unc1, nA, cA]
            have hb48 := b48.lt
            refine stores_of (b48.keep e9 (by simp)) rfl (by simp) ?_
            intro h10 b10 k10 z10
            have b10 : Box h10 h2.size 26 [.slice q m cq, .int .u32 ((linT x 4294967295).num : Int)] := b10
            have k810 : Ch [h2.size] h8 h10 := Ch.trans (e9.mono (by simp)) k10 (fun j hj _ => hj)
            refine outR (x := linT x 4294967295) (Ch.trans k08 k810 (fun j hj hl => by simp at hj; omega)) (Nat.le_refl _) hA (b18.keep k810 (by simp; omega)) b10 (s9.keep' k10 (fun j hj => by have := (s9.blk hj).1; simp; omega)) (by omega) (gx.T _) (rq8.keep k810 (by simp; omega)) ?_
            exact ⟨rfl, by unfold negB; rw [if_pos g9], rfl, rfl⟩
          · refine outR k08 (Nat.le_refl _) hA b18 b48 s8 (by omega) gx rq8 ?_
            exact ⟨rfl, by unfold negB; rw [if_neg (by rw [g9]; simp)], rfl, rfl⟩
end Go.Sx
