/- Contracts over heaps, and plain laws, for the functions that the laws of chapter 9 call, part 5: Helpers for walking a law that holds a range over a function: boxes, calls over  Condition: as each statement says. -/
import Derived.Test.YtfkjiiapldkoeaaGreatDoorP4
import Derived.Test.YtfkjiiapldkoeaaGreatDoorArT
import Derived.Test.YtfkjiiapldkoeaaGreatDoorArW
import Derived.Test.YtfkjiiapldkoeaaGreatDoorArX
import Derived.Test.YtfkjiiapldkoeaaGreatDoorAtA
import Derived.Test.YtfkjiiapldkoeaaGreatDoorArY
import Derived.Test.YtfkjiiapldkoeaaGreatDoorAtC
import Derived.Test.YtfkjiiapldkoeaaGreatDoorAtB
import Derived.RangeFuncFrom
import Derived.IntWalk
set_option linter.unusedVariables false
set_option maxRecDepth 100000
namespace Go.Proofs
open Go.RowKit Go.Shelf
attribute [local go_sem] Oper.semAt_some
theorem EE {W W':World} {n B:Nat} {t:TypeId} {v:Value} (h:Boxed W B t v) (hb:Below n W W') (hn:B<n):Boxed W' B t v:=(hb.block B hn).trans h
theorem xt {n f:Nat} {args:Array Value} {W:World} {R:Value→Sx.Hp→Prop} {K:Ending→World→Prop} (h:Sx.HC Tryz.prog f args W.heap R) (he:∀ v h',R v h'→Sx.Ext W.heap h') (hK:∀ v w',Below W.heap.size W w'→R v w'.heap→K (.returned v) w'):Fence.wide.fn f∧CallsIn Fence.wide n Tryz.prog f args W K :=
 ⟨trivial,(callsIn_wide.2 (Sx.Ob.Bz h he)).mono fun e w' ⟨v,hv,hb,hr⟩=>by subst hv; exact hK v w' hb hr⟩
def Marks (b:Nat) (dl:List Deferred) (w:World):Prop:=∃ Ds:List Nat,dl=Ds.map (fun D=>{ target:=.collected D,args:=#[] })∧Ds.Nodup∧∀ D∈Ds,b≤D∧w.heap[D]?=some (.deferred (some []))
theorem Marks.leaves {F:Fence} {n b:Nat} {P:Program} {fn:Func} {tmps:Array Value} {R:Ending→World→Prop} {dl:List Deferred} {w:World} (h:Marks b dl w) (hK:∀ w':World,Below b w w'→(∀ B:Nat,w.heap[B]?≠some (Obj.deferred (some []))→w'.heap[B]?=w.heap[B]?)→LeavesIn F n P fn tmps R [] .returning w'):LeavesInM F n P fn tmps R dl .returning w:=by
 obtain ⟨Ds,rfl,hn,hD⟩:=h
 induction Ds generalizing w with
 | nil=>exact hK w (Below.refl _ _) (fun _ _=>rfl)
 | cons D Ds ih =>
  obtain ⟨hnD,hn⟩:=List.nodup_cons.1 hn;obtain ⟨hb,hd⟩:=hD D (List.mem_cons_self ..);have hlt:D<w.heap.size:=(Array.getElem?_eq_some_iff.1 hd).1;have hput:∀ B,B≠D→(w.putObj D (.deferred none)).heap[B]?=w.heap[B]?:=fun B hB=>by
   simp only [World.putObj];rw [Array.getElem?_setIfInBounds_ne (Ne.symm hB)]
  refine ⟨by simp,.inl ⟨D,_,rfl,run_takeDeferred hd,ih (fun w' hb' hk'=>hK w' ?_ fun B hB=>?_) hn (fun E hE=>?_)⟩⟩
  ·refine Below.trans (b:=w.putObj D (.deferred none)) ⟨rfl,rfl,rfl,?_,fun k hk=>hput k (by omega)⟩ hb';simp [World.putObj]
  ·have hBD:B≠D:=fun e=>hB (by rw [e]; exact hd)
   rw [hk' B (by rw [hput B hBD]; exact hB),hput B hBD]
  ·obtain ⟨h1,h2⟩:=hD E (List.mem_cons_of_mem _ hE);exact ⟨h1,(hput E (fun e=>hnD (e▸hE))).trans h2⟩
theorem Marks.below {b:Nat} {dl:List Deferred} {w w':World} (h:Marks b dl w) (hb:Below w.heap.size w w'):Marks b dl w':=by
 obtain ⟨Ds,e,hn,hD⟩:=h;exact ⟨Ds,e,hn,fun D hd=>⟨(hD D hd).1,(hb.block D ((Array.getElem?_eq_some_iff.1 (hD D hd).2).1)).trans (hD D hd).2⟩⟩
theorem Marks.keeps {b:Nat} {dl:List Deferred} {w w':World} (h:Marks b dl w) (hb:KeepsOthers w w'):Marks b dl w':=by
 obtain ⟨Ds,e,hn,hD⟩:=h;exact ⟨Ds,e,hn,fun D hd=>⟨(hD D hd).1,hb.same D _ (hD D hd).2 rfl⟩⟩
def fm (n x:Nat) (w w':World):Prop:=w.heap.size≤w'.heap.size∧∀ k,k<n→k≠x→w'.heap[k]?=w.heap[k]?
theorem AG {β:Type} {n x B:Nat} {w:World} (hB:n≤B) (hn:n≤w.heap.size):OwnFrom B (fun (_:β) W=>fm n x w W):=fun s A C row hs hg hr=>by
 refine ⟨Nat.le_trans hs.1 hg.size,fun k hk hx=>(hg.block k (by have:=hs.1; omega) (fun e=>?_)).trans (hs.2 k hk hx)⟩
 have:=(hr k e.symm).1
 omega
theorem fm.set {n x:Nat} {w w':World} (h:Below n w w') (hn:n≤w.heap.size) (v:Value):fm n x w (w'.setCell ⟨x,0,none⟩ v) :=
 ⟨by simpa using h.size,fun k hk hx=>((grownBy_setCell' w' x v).block k (by have:=h.size; omega) (fun e=>hx (by cases e; rfl))).trans (h.block k hk)⟩
theorem Marks.cons {b D:Nat} {dl:List Deferred} {w:World} (h:Marks b dl w) (hD:b≤D) (hK:w.heap[D]?=some (.deferred (some []))) (hne:∀ E,({ target:=.collected E,args:=#[] }:Deferred)∈dl→E≠D):Marks b ({ target:=.collected D,args:=#[] }::dl) w:=by
 obtain ⟨Ds,rfl,hn,hd⟩:=h;refine ⟨D::Ds,rfl,List.nodup_cons.2 ⟨fun hm=>hne D (List.mem_map.2 ⟨D,hm,rfl⟩) rfl,hn⟩,fun E hE=>?_⟩;rcases List.mem_cons.1 hE with rfl | hE
 ·exact ⟨hD,hK⟩
 ·exact hd E hE
theorem IA {w:World} {a:Addr} {v:Value} (h:w.cell? a=some v):a.block<w.heap.size:=by
 unfold World.cell? at h;split at h
 ·rename_i hg; exact (Array.getElem?_eq_some_iff.1 hg).1
 ·cases h
theorem gL:∀ (f n:Nat) (s:ByteArray),(aW f n s).length≤f
 | 0,_,_=>by simp [aW]
 | f+1,n,s=>by
  unfold aW;split
  ·simp
  ·have:=gL f (n+1) (oi s)
   simp; omega
end Go.Proofs
set_option linter.unusedVariables false
set_option linter.unusedSimpArgs false
set_option maxRecDepth 100000
namespace Go.Sx.Ob
open Go.Proofs
structure Ly (h:Hp) (p:Option Addr) (l:Nat) (us:List fS):Prop where
 len:l=us.length
 many:us.length≤2^60
 cells:∀ i,(hi:i<us.length)→∃ a sa sb sc sd,p=some a∧aG h (a.add (i*4)) 0 [bP.v sa,bP.v sb,bP.v sc,bP.v sd]∧gn h sa sb sc sd us[i]
theorem Ly.ai {h h':Hp} {p:Option Addr} {l:Nat} {us:List fS} (v:Ly h p l us) (k:Ext h h'):Ly h' p l us :=
 ⟨v.len,v.many,fun i hi=>by
  obtain ⟨a,sa,sb,sc,sd,ha,hc,hv⟩:=v.cells i hi;exact ⟨a,sa,sb,sc,sd,ha,bE k (by simp) _ _ hc,hv.ai k⟩⟩
def uE (u:fS):Bool:=decide (600<u.text.length) || decide (300<u.data.length) || decide (100<u.aQ.length)
def Dh (u:fS):Nat:=u.text.length+u.data.length+u.aQ.length
def fK (us:List fS):Nat:=(us.map Dh).sum
def ti (us:List fS):Bool:=(us.take 65).any uE || decide (900<fK (us.take 65))
theorem FM {α:Type} (f:α→Bool) (l:List α) {i n:Nat} (hi:i<l.length) (hn:i<n) (h:f l[i]=true):(l.take n).any f=true:=by
 rw [List.any_eq_true];exact ⟨l[i],List.mem_take_iff_getElem.2 ⟨i,by omega,rfl⟩,h⟩
theorem CM (us:List fS) {i:Nat} (hi:i<us.length):fK (us.take (i+1))=fK (us.take i)+Dh us[i]:=by
 unfold fK;rw [List.take_succ_eq_append_getElem hi,List.map_append,List.sum_append]
 simp
theorem HL {h:Hp} {p:Option Addr} {l c:Nat} {us:List fS} (v:Ly h p l us):pQ Tryz.prog 19 [.slice p l c] h (.bool (ti us)):=by
 refine cK mixed Tryz.func19 (by kernel_rfl) (lC p l c) ?_;unfold iq;have hl:=v.len;have hm:=v.many;refine bh (cs:=[(false,[.bool]),(false,[.int .i64]),(false,[.int .i64])]) (fun y m h'=>∃ i:Nat,y.1=false∧y.2.1=((fK (us.take i):Nat):Int)∧y.2.2.1=(i:Int)∧m=l-i∧i≤l∧i≤65∧h'=h∧(us.take i).any uE=false∧fK (us.take i)≤i*1000) (false,(0:Int),(0:Int),()) l rfl
  ⟨0,rfl,rfl,rfl,rfl,by omega,by omega,rfl,rfl,by simp [fK]⟩ ?_
 rintro ⟨b1,n2,n3,⟨⟩⟩ m h1 ⟨i,hy1,hy2,hy3,rfl,hi,hi65,rfl,hb,hs⟩;simp only at hy1 hy2 hy3;subst hy1 hy2 hy3;dsimp only [flat,az,ah,nA,cA];have fin:(l≤i∨65≤i)→(T.ret (.bool (decide (((fK (us.take i):Nat):Int)>(900:Int))))) [Jl (cs:=[(false,[.bool]),(false,[.int .i64]),(false,[.int .i64])]) (fun y m h'=>∃ i:Nat,y.1=false∧y.2.1=((fK (us.take i):Nat):Int)∧y.2.2.1=(i:Int)∧m=l-i∧i≤l∧i≤65∧h'=h1∧(us.take i).any uE=false∧fK (us.take i)≤i*1000) (l-i)] (fun v' h'=>v'=.bool (ti us)∧h'=h1) h1:=by
  intro hh
  have:us.take i=us.take 65:=by
   by_cases h65:i=65
   ·rw [h65]
   ·rw [List.take_of_length_le (by omega),List.take_of_length_le (by omega)]
  refine ⟨?_,rfl⟩;unfold ti;rw [← this,hb,Bool.false_or]
  congr 1
  by_cases g:900<fK (us.take i)
  ·rw [decide_eq_true g,decide_eq_true (by omega)]
  ·rw [decide_eq_false g,decide_eq_false (by omega)]
 refine uV (fun r=>?_) (fun r=>?_)
 ·have r:=of_decide_eq_false r;exact fin (by omega)
 have r:=of_decide_eq_true r;refine uV (fun w=>?_) (fun w=>?_)
 ·have w:=of_decide_eq_false w;exact fin (by omega)
 have w:=of_decide_eq_true w;clear fin;have hiu:i<us.length:=by omega
 obtain ⟨a,sa,sb,sc,sd,rfl,hc,hv⟩:=v.cells i hiu;have na:=hv.text.len;have nb:=hv.data.len;have nc:=hv.aQ.len;have ca:aG h1 (a.add (i*4)) 0 [bP.v sa]:=⟨hc.1,trivial⟩
 have cb:aG h1 ((a.add (i*4)).add 1) 0 [bP.v sb]:=nJ _ 1 0 ⟨hc.2.1,trivial⟩;have cc:aG h1 ((a.add (i*4)).add 2) 0 [bP.v sc]:=nJ _ 2 0 ⟨hc.2.2.1,trivial⟩;have big:uE us[i]=true→(T.ret (.bool true)) [Jl (cs:=[(false,[.bool]),(false,[.int .i64]),(false,[.int .i64])]) (fun y m h'=>∃ i:Nat,y.1=false∧y.2.1=((fK (us.take i):Nat):Int)∧y.2.2.1=(i:Int)∧m=l-i∧i≤l∧i≤65∧h'=h1∧(us.take i).any uE=false∧fK (us.take i)≤i*1000) (l-i)] (fun v' h'=>v'=.bool (ti us)∧h'=h1) h1:=by
  intro hg;refine ⟨?_,rfl⟩;unfold ti;rw [FM uE us hiu (by omega) hg];rfl
 refine ay ⟨by omega,by omega⟩ (aj rfl ?_);refine aE ((sa.p,sa.l,sa.c),()) ca ?_;dsimp only [flat,az,ah,nA,cA];refine af (fun g=>?_) (fun g1=>?_)
 ·have g:=of_decide_eq_true g;refine big ?_;unfold uE;rw [decide_eq_true (by omega)];rfl
 have g1:=of_decide_eq_false g1;refine ay ⟨by omega,by omega⟩ (aj rfl ?_);refine aE ((sb.p,sb.l,sb.c),()) cb ?_;dsimp only [flat,az,ah,nA,cA];refine af (fun g=>?_) (fun g2=>?_)
 ·have g:=of_decide_eq_true g;refine big ?_;unfold uE;rw [decide_eq_true (show 300<us[i].data.length by omega)]
  simp
 have g2:=of_decide_eq_false g2;refine ay ⟨by omega,by omega⟩ (aj rfl ?_);refine aE ((sc.p,sc.l,sc.c),()) cc ?_;dsimp only [flat,az,ah,nA,cA];refine af (fun g=>?_) (fun g3=>?_)
 ·have g:=of_decide_eq_true g;refine big ?_;unfold uE;rw [decide_eq_true (show 100<us[i].aQ.length by omega)]
  simp
 have g3:=of_decide_eq_false g3;refine ay ⟨by omega,by omega⟩ (aj rfl ?_);refine aE ((sa.p,sa.l,sa.c),()) ca ?_;dsimp only [flat,az,ah,nA,cA];refine ay ⟨by omega,by omega⟩ (aj rfl ?_);refine aE ((sb.p,sb.l,sb.c),()) cb ?_;dsimp only [flat,az,ah,nA,cA];refine ay ⟨by omega,by omega⟩ (aj rfl ?_);refine aE ((sc.p,sc.l,sc.c),()) cc ?_;dsimp only [flat,az,ah,nA,cA];rw [wrap_i64 (x:=((fK (us.take i):Nat):Int)+(sa.l:Int)) (by omega) (by omega),wrap_i64 (x:=((fK (us.take i):Nat):Int)+(sa.l:Int)+(sb.l:Int)) (by omega) (by omega),wrap_i64 (x:=((fK (us.take i):Nat):Int)+(sa.l:Int)+(sb.l:Int)+(sc.l:Int)) (by omega) (by omega),wrap_i64 (x:=(i:Int)+1) (by omega) (by omega)];have hst:=CM us hiu;have hsz:Dh us[i]=sa.l+sb.l+sc.l:=by unfold Dh; omega
 refine aI (cs:=[(false,[.bool]),(false,[.int .i64]),(false,[.int .i64])]) (false,((fK (us.take (i+1)):Nat):Int),((i+1:Nat):Int),()) (l-(i+1)) rfl (by omega) ?_ ?_
 ·show [Value.bool false,Value.int .i64 (((fK (us.take i):Nat):Int)+(sa.l:Int)+(sb.l:Int)+(sc.l:Int)),Value.int .i64 ((i:Int)+1)]=[Value.bool false,Value.int .i64 ((fK (us.take (i+1)):Nat):Int),Value.int .i64 ((i+1:Nat):Int)];rw [hst,hsz]
  congr 3
  omega
 ·refine ⟨i+1,rfl,rfl,rfl,rfl,by omega,by omega,rfl,?_,by omega⟩;rw [List.take_succ_eq_append_getElem hiu,List.any_append,hb,Bool.false_or];unfold uE;simp only [List.any_cons,List.any_nil,Bool.or_false,Bool.or_eq_false_iff,decide_eq_false_iff_not];omega
end Go.Sx.Ob
set_option linter.unusedVariables false
set_option linter.unusedSimpArgs false
set_option maxRecDepth 100000
namespace Go.Sx
open Go.Proofs
end Go.Sx
set_option linter.unusedVariables false
set_option linter.unusedSimpArgs false
set_option maxRecDepth 100000
namespace Go.Sx.Ob
open Go.Proofs
def IN:Array (Nat × Value):=#[(0,.agg #[.string ⟨#[110,111,112]⟩,.int .u8 (0:Int),.int .i64 (1:Int)]),(1,.agg #[.string ⟨#[104,97,108,116]⟩,.int .u8 (1:Int),.int .i64 (1:Int)]),(2,.agg #[.string ⟨#[114,101,116]⟩,.int .u8 (2:Int),.int .i64 (1:Int)]),(3,.agg #[.string ⟨#[112,114,105,110,116]⟩,.int .u8 (3:Int),.int .i64 (2:Int)]),(4,.agg #[.string ⟨#[105,110]⟩,.int .u8 (4:Int),.int .i64 (2:Int)]),(5,.agg #[.string ⟨#[112,117,115,104]⟩,.int .u8 (5:Int),.int .i64 (2:Int)]),(6,.agg #[.string ⟨#[112,111,112]⟩,.int .u8 (6:Int),.int .i64 (2:Int)]),(7,.agg #[.string ⟨#[106,114]⟩,.int .u8 (7:Int),.int .i64 (2:Int)]),(8,.agg #[.string ⟨#[110,101,103]⟩,.int .u8 (8:Int),.int .i64 (2:Int)]),(9,.agg #[.string ⟨#[110,111,116]⟩,.int .u8 (9:Int),.int .i64 (2:Int)]),(10,.agg #[.string ⟨#[122,116,117,114,110]⟩,.int .u8 (10:Int),.int .i64 (3:Int)]),(11,.agg #[.string ⟨#[122,99,111,110,106]⟩,.int .u8 (11:Int),.int .i64 (3:Int)]),(12,.agg #[.string ⟨#[109,111,118]⟩,.int .u8 (16:Int),.int .i64 (4:Int)]),(13,.agg #[.string ⟨#[97,100,100]⟩,.int .u8 (17:Int),.int .i64 (4:Int)]),(14,.agg #[.string ⟨#[115,117,98]⟩,.int .u8 (18:Int),.int .i64 (4:Int)]),(15,.agg #[.string ⟨#[109,117,108]⟩,.int .u8 (19:Int),.int .i64 (4:Int)]),(16,.agg #[.string ⟨#[100,105,118]⟩,.int .u8 (20:Int),.int .i64 (4:Int)]),(17,.agg #[.string ⟨#[97,110,100]⟩,.int .u8 (21:Int),.int .i64 (4:Int)]),(18,.agg #[.string ⟨#[111,114]⟩,.int .u8 (22:Int),.int .i64 (4:Int)]),(19,.agg #[.string ⟨#[120,111,114]⟩,.int .u8 (23:Int),.int .i64 (4:Int)]),(20,.agg #[.string ⟨#[115,104,108]⟩,.int .u8 (24:Int),.int .i64 (4:Int)]),(21,.agg #[.string ⟨#[115,104,114]⟩,.int .u8 (25:Int),.int .i64 (4:Int)]),(22,.agg #[.string ⟨#[108,116]⟩,.int .u8 (26:Int),.int .i64 (4:Int)]),(23,.agg #[.string ⟨#[101,113]⟩,.int .u8 (27:Int),.int .i64 (4:Int)]),(24,.agg #[.string ⟨#[108,100,98]⟩,.int .u8 (28:Int),.int .i64 (4:Int)]),(25,.agg #[.string ⟨#[108,100,119]⟩,.int .u8 (29:Int),.int .i64 (4:Int)]),(26,.agg #[.string ⟨#[108,100,109]⟩,.int .u8 (30:Int),.int .i64 (4:Int)]),(27,.agg #[.string ⟨#[115,116,109]⟩,.int .u8 (31:Int),.int .i64 (4:Int)]),(28,.agg #[.string ⟨#[122,109,111,118]⟩,.int .u8 (32:Int),.int .i64 (5:Int)]),(29,.agg #[.string ⟨#[122,97,100,100]⟩,.int .u8 (33:Int),.int .i64 (5:Int)]),(30,.agg #[.string ⟨#[122,115,117,98]⟩,.int .u8 (34:Int),.int .i64 (5:Int)]),(31,.agg #[.string ⟨#[122,109,117,108]⟩,.int .u8 (35:Int),.int .i64 (5:Int)]),(32,.agg #[.string ⟨#[122,114,101]⟩,.int .u8 (36:Int),.int .i64 (6:Int)]),(33,.agg #[.string ⟨#[122,105,109]⟩,.int .u8 (37:Int),.int .i64 (6:Int)]),(34,.agg #[.string ⟨#[122,115,101,116]⟩,.int .u8 (38:Int),.int .i64 (7:Int)]),(35,.agg #[.string ⟨#[108,105,115]⟩,.int .u8 (48:Int),.int .i64 (8:Int)]),(36,.agg #[.string ⟨#[116,114,97,112]⟩,.int .u8 (49:Int),.int .i64 (9:Int)]),(37,.agg #[.string ⟨#[108,105]⟩,.int .u8 (50:Int),.int .i64 (10:Int)]),(38,.agg #[.string ⟨#[108,100,112]⟩,.int .u8 (51:Int),.int .i64 (11:Int)]),(39,.agg #[.string ⟨#[106,109,112]⟩,.int .u8 (64:Int),.int .i64 (12:Int)]),(40,.agg #[.string ⟨#[99,97,108,108]⟩,.int .u8 (67:Int),.int .i64 (12:Int)]),(41,.agg #[.string ⟨#[106,122]⟩,.int .u8 (70:Int),.int .i64 (13:Int)]),(42,.agg #[.string ⟨#[106,110,122]⟩,.int .u8 (73:Int),.int .i64 (13:Int)])]
def cd (k:Nat):ByteArray:=match IN[k]? with | some (_,.agg #[.string s,_,_])=>s | _=>⟨#[]⟩
def cm (k:Nat):Int:=match IN[k]? with | some (_,.agg #[_,.int _ b,_])=>b | _=>0
theorem Nc:Tryz.prog.underlying 216=some (.slice 218):=by kernel_rfl
theorem NJ:(Tryz.prog.info? 218).map (fun i=>(i.zero,i.size,i.bytes))=some (some (.agg #[.string ⟨#[]⟩,.int .u8 0,.int .i64 0]),3,32):=by kernel_rfl
theorem Ji:Instr.fill (fun j=>some (j*3,3)) ((Array.range (43*3)).map ((Value.agg #[.string ⟨#[]⟩,.int .u8 0,.int .i64 0]).cells[· % (Value.agg #[.string ⟨#[]⟩,.int .u8 0,.int .i64 0]).cells.size]!)) IN.toList=some (hO cd cm).toArray:=by kernel_rfl
theorem KJ (h:Hp):HC Tryz.prog 121 #[] h fun v h'=>v=.slice (some ⟨h.size,0,none⟩) 43 43∧aO h' h.size 218 (hO cd cm)∧Ext h h':=by
 refine aK (args:=[]) mixed Tryz.func121 (by kernel_rfl) nq ?_;show (T.bj Tryz.prog (Instr.buildSlice 216 43 IN) false [(false,[.slice 0])] <| fun (p0:Option Addr) (l1:Nat) (l2:Nat)=>T.ret (.slice p0 l1 l2)) [] _ h;refine dP Nc NJ (by omega) (by omega) Ji ?_;intro h1 b1 e1 z1;exact ⟨rfl,b1,e1⟩
theorem Eo {nm:Nat→ByteArray} {uL:Nat→Int} {k:Nat} (hk:k<43):(hO nm uL)[k*3+2]?=some (.int .i64 (bS.getD k 0:Nat)):=by
 unfold hO;rw [su _ 3 (by simp) _ _ _ (by omega)];simp [hk]
theorem oc (h:Hp) (op:Int) (ho:Sm op):HC Tryz.prog 91 #[.int .i64 op] h fun w h'=>w=.int .i64 (bG op:Nat)∧Ext h h':=by
 refine aK (args:=[.int .i64 op]) mixed Tryz.func91 (by kernel_rfl) (la op) ?_;unfold ix;refine aB (KJ h) ?_;rintro _ h1 ⟨rfl,b1,e1⟩;refine ⟨((some ⟨h.size,0,none⟩,43,43),()),rfl,?_⟩;dsimp only [flat,az,ah,nA,cA];have z0:op<1∨43<op→bG op=0:=by
  intro hh
  by_cases h0:bG op=0
  ·exact h0
  ·have:=CH op h0
   omega
 refine af (fun q=>?_) (fun q=>?_)
 ·have q:=of_decide_eq_true q;rw [z0 (.inl q)];exact ⟨rfl,e1⟩
 have q:=of_decide_eq_false q;refine af (fun r=>?_) (fun r=>?_)
 ·have r:op>((43:Nat):Int):=of_decide_eq_true r;rw [z0 (.inr (by omega))];exact ⟨rfl,e1⟩
 have r:¬ op>((43:Nat):Int):=of_decide_eq_false r;obtain ⟨k,hk⟩:∃ k:Nat,op=(k:Int)+1:=⟨(op-1).toNat,by omega⟩
 rw [wrap_i64 (by omega) (by omega),show op-1=(k:Int) by omega];have hk43:k<43:=by omega
 refine ay ⟨by omega,by omega⟩ ?_;refine aj rfl ?_;rw [show Int.toNat (k:Int)=k from rfl,ao,ao];have hs:bG op=bS.getD k 0:=by
  unfold bG;rw [if_neg (by omega),show (op-1).toNat=k by omega]
 refine ad b1 (((bS.getD k 0:Nat):Int),()) ?_ ?_
 ·show List.take 1 (List.drop (0+k*3+2) (hO cd cm))=[.int .i64 ((bS.getD k 0:Nat):Int)]
  have:=Eo (nm:=cd) (uL:=cm) hk43
  rw [Nat.zero_add];obtain ⟨hlt,hv⟩:=List.getElem?_eq_some_iff.1 this;rw [List.drop_eq_getElem_cons hlt,List.take_succ_cons,List.take_zero,hv]
 ·rw [hs];exact ⟨rfl,e1⟩
theorem sV (h:Hp) (op:Int) (ho:Sm op):HC Tryz.prog 53 #[.int .i64 op] h fun w h'=>w=.bool (nt op)∧Ext h h':=by
 refine aK (args:=[.int .i64 op]) mixed Tryz.func53 (by kernel_rfl) (ly op) ?_;unfold iw;have hc:=fB op;refine aB (oc h op ho) ?_;rintro _ h1 ⟨rfl,e1⟩;refine ⟨(((bG op:Nat):Int),()),rfl,?_⟩;dsimp only [flat,az,ah,nA,cA];refine af (fun q=>?_) (fun q=>?_)
 ·have q:bG op=12:=dO q;exact ⟨by unfold nt; rw [q]; rfl,e1⟩
 have q:¬ bG op=12:=dX q;refine aB (oc h1 op ho) ?_;rintro _ h2 ⟨rfl,e2⟩;refine ⟨(((bG op:Nat):Int),()),rfl,?_⟩;refine ⟨?_,e1.trans e2⟩
 congr 1
 unfold nt
 by_cases g:bG op=13
 ·rw [g]; rfl
 ·rw [decide_eq_false (by omega)];exact NA (c:=13) g
theorem Dj (h:Hp) (op:Int) (ho:Sm op):HC Tryz.prog 85 #[.int .i64 op] h fun w h'=>w=.bool (yK op)∧Ext h h':=by
 refine aK (args:=[.int .i64 op]) mixed Tryz.func85 (by kernel_rfl) (mz op) ?_;unfold iR;have hc:=fB op;refine aB (oc h op ho) ?_;rintro _ h1 ⟨rfl,e1⟩;refine ⟨(((bG op:Nat):Int),()),rfl,?_⟩;dsimp only [flat,az,ah,nA,cA];refine af (fun q=>?_) (fun q1=>?_)
 ·have q:bG op=10:=dO q;exact ⟨by unfold yK; rw [q]; rfl,e1⟩
 have q1:¬ bG op=10:=dX q1;refine af (fun q=>?_) (fun q2=>?_)
 ·have q:bG op=11:=dO q;exact ⟨by unfold yK; rw [q]; rfl,e1⟩
 have q2:¬ bG op=11:=dX q2;refine af (fun q=>?_) (fun q3=>?_)
 ·have q:bG op=12:=dO q;exact ⟨by unfold yK; rw [q]; rfl,e1⟩
 have q3:¬ bG op=12:=dX q3;refine ⟨?_,e1⟩
 congr 1
 unfold yK
 by_cases g:bG op=13
 ·rw [g]; rfl
 ·rw [decide_eq_false (by omega)];exact NA (c:=13) g
theorem IV (h:Hp) (n w:Int):pQ Tryz.prog 120 [.int .i32 n,.int .i64 w] h (.bool ((decide (w=1) || decide (w=2) || decide (w=4)) && gQ n w)):=by
 refine cK mixed Tryz.func120 (by kernel_rfl) (my n w) ?_;unfold iL gQ;refine af (fun q=>?_) (fun q1=>?_)
 ·have q:w=1:=by simpa using q
  rw [if_pos q,q];refine af (fun r=>⟨?_,rfl⟩) (fun r=>⟨?_,rfl⟩)
  ·have r:=of_decide_eq_true r;rw [decide_eq_true (show -128≤n from r)]
   simp
  ·have r:=of_decide_eq_false r;rw [decide_eq_false (show ¬ -128≤n from r)]
   simp
 have q1:¬ w=1:=by simpa using q1
 rw [if_neg q1];refine af (fun q=>?_) (fun q2=>?_)
 ·have q:w=2:=by simpa using q
  rw [if_pos q,q];refine af (fun r=>⟨?_,rfl⟩) (fun r=>⟨?_,rfl⟩)
  ·have r:=of_decide_eq_true r;rw [decide_eq_true (show -32768≤n from r)]
   simp
  ·have r:=of_decide_eq_false r;rw [decide_eq_false (show ¬ -32768≤n from r)]
   simp
 have q2:¬ w=2:=by simpa using q2
 rw [if_neg q2];refine af (fun q=>?_) (fun q3=>?_)
 ·have q:w=4:=by simpa using q
  rw [q];exact ⟨rfl,rfl⟩
 ·have q3:¬ w=4:=by simpa using q3
  rw [decide_eq_false q1,decide_eq_false q2,decide_eq_false q3];exact ⟨rfl,rfl⟩
structure kD where
 kind:Nat
 items:List bD
 name:ByteArray
 e:ey
 sec:Nat
def bJ:kD:=⟨0,[],bI,dT,0⟩
def nV (z:Bool):List Tok→Except Nat Int
 | [t]=>if t.kind=1∧(fI t.text.data.toList).2.2=true∧(fI t.text.data.toList).2.1=z then .ok (fI t.text.data.toList).1 else .error 20
 | _=>.error 20
def iJ (lo hi:Int) (ts:List Tok):Except Nat Int :=
 match bV ts with
 | .error e=>.error e
 | .ok x=>if x.au≠[]∨Bf x.num<lo∨hi<Bf x.num then .error 21 else .ok (Bf x.num)
def nu:List Tok→Except Nat ByteArray
 | [t]=>if t.kind=1∧bd t.text.data.toList=true then .ok t.text else .error 20
 | _=>.error 20
inductive DQ where
 | uS (z second third:Bool)
 | H2 (lo hi:Int)
 | val (pool:Bool)
def cZ (s:Nat):List DQ :=
 if s=1 then []
 else if s=2 then [.uS false false false]
 else if s=3 then [.uS true false false]
 else if s=4 then [.uS false false false,.uS false true false]
 else if s=5 then [.uS true false false,.uS true true false]
 else if s=6 then [.uS false false false,.uS true true false]
 else if s=7 then [.uS true false false,.uS false true false,.uS false false true]
 else if s=8 then [.uS false false false,.H2 (-128) 127]
 else if s=9 then [.H2 0 255]
 else if s=11 then [.uS false false false,.val true]
 else if s=12 then [.val false]
 else [.uS false false false,.val false]
def eM (x:bD) (n:Int):bD:={ x with inst:={ x.inst with n:=n } }
def oP (x:bD) (n:Int):bD:={ x with inst:={ x.inst with a:=n } }
def oh (x:bD) (n:Int):bD:={ x with inst:={ x.inst with b:=n } }
def zK (x:bD) (e:ey):bD:={ x with e:=e }
def qY (pool:Bool) (ts:List Tok):Except Nat ey :=
 match pool with
 | false=>bV ts
 | true=>match ts with
  | []=>.error 20
  | t::r=>if fC t 61=true then bV r else .error 20
def dL (x:bD) (r:DQ) (ts:List Tok):Except Nat bD :=
 match r with
 | .uS z second third=>match nV z ts with
  | .error e=>.error e
  | .ok n=>.ok (if third then eM x n else if second then oh x n else oP x n)
 | .H2 lo hi=>match iJ lo hi ts with
  | .error e=>.error e
  | .ok n=>.ok (eM x n)
 | .val pool=>match qY pool ts with
  | .error e=>.error e
  | .ok y=>.ok (zK x y)
def dU:bD→List DQ→List (List Tok)→Except Nat bD
 | x,r::rs,t::ts=>match dL x r t with
  | .error e=>.error e
  | .ok y=>dU y rs ts
 | x,_,_=>.ok x
def dW (op:Int):bD:={ cY 2 with inst:={ iG with op:=op } }
def ez (op:Int) (args:List (List Tok)):Except Nat bD :=
 if (cZ (bG op)).length≠args.length then .error 20 else dU (dW op) (cZ (bG op)) args
def jQ (k:Nat) (ts:List Tok):Except Nat bD :=
 if k=5 then match iJ (-128) 255 ts with
  | .error e=>.error e
  | .ok n=>.ok { cY 5 with n:=n }
 else match bV ts with
  | .error e=>.error e
  | .ok x=>.ok { cY k with e:=x }
def cO (k:Nat):List (List Tok)→Except Nat (List bD)
 | []=>.ok []
 | t::ts=>match jQ k t with
  | .error e=>.error e
  | .ok x=>match cO k ts with
   | .error e=>.error e
   | .ok l=>.ok (x::l)
def dc (op:ByteArray):Int :=
 let o:=op.data.toList
 if o=[112,111,111,108] then 0
 else if o=[97,108,105,103,110]∨o=[115,112,97,99,101]∨o=[103,108,111,98,97,108]∨o=[115,101,99,116,105,111,110] then 1
 else if o=[101,113,117] then 2
 else if o=[98,121,116,101]∨o=[119,111,114,100] then -1
 else -2
def eV (x:bD):kD:={ bJ with kind:=1,items:=[x] }
def ag (args:List (List Tok)) (i:Nat):List Tok:=args.getD i []
def ga (op:ByteArray) (args:List (List Tok)):Except Nat (kD × Nat) :=
 let o:=op.data.toList
 if dc op=-2∨(0≤dc op∧(args.length:Int)≠dc op) then .error 20
 else if o=[112,111,111,108] then .ok (eV (cY 4),0)
 else if o=[97,108,105,103,110] then match iJ 1 256 (ag args 0) with
  | .error e=>.error e
  | .ok n=>if lR n then .ok (eV { cY 3 with n:=n },2) else .error 21
 else if o=[115,112,97,99,101] then match iJ 0 1048576 (ag args 0) with
  | .error e=>.error e
  | .ok n=>.ok (eV { cY 7 with n:=n },1)
 else if o=[98,121,116,101] then if args=[] then .error 20 else match cO 5 args with
  | .error e=>.error e
  | .ok l=>.ok ({ bJ with kind:=2,items:=l },1)
 else if o=[119,111,114,100] then if args=[] then .error 20 else match cO 6 args with
  | .error e=>.error e
  | .ok l=>.ok ({ bJ with kind:=2,items:=l },1)
 else if o=[101,113,117] then match nu (ag args 0) with
  | .error e=>.error e
  | .ok s=>match bV (ag args 1) with
   | .error e=>.error e
   | .ok x=>.ok ({ bJ with kind:=3,name:=s,e:=x },2)
 else if o=[103,108,111,98,97,108] then match nu (ag args 0) with
  | .error e=>.error e
  | .ok s=>.ok ({ bJ with kind:=4,name:=s },2)
 else match ag args 0 with
  | [t]=>if t.kind=1∧t.text.data.toList=[116,101,120,116] then .ok ({ bJ with kind:=5 },2) else if t.kind=1∧t.text.data.toList=[100,97,116,97] then .ok ({ bJ with kind:=5,sec:=1 },2) else .error 20
  | _=>.error 20
def ka (nm:Nat→List UInt8) (s:List UInt8):Nat→Nat
 | 0=>0
 | k+1=>match ka nm s k with
  | 0=>if nm k=s then k+1 else 0
  | n=>n
def Ei (k:Nat):List UInt8:=(cd k).data.toList
def lm (op:ByteArray):Nat:=ka Ei op.data.toList 43
def dG (l:Ln) (data:Bool):Except Nat kD :=
 if l.op=bI then .ok bJ
 else if lm l.op≠0 then match ez (lm l.op) l.args with
  | .error e=>.error e
  | .ok x=>if data then .error 21 else .ok (eV x)
 else match ga l.op l.args with
  | .error e=>.error e
  | .ok (t,w)=>if w=2∨w=(if data then 1 else 0) then .ok t else .error 21
/-! What is read is right. -/
theorem mr {z:Bool} {ts:List Tok} {n:Int} (h:nV z ts=.ok n):0≤n∧n<(if z then 4 else 8):=by
 unfold nV at h;split at h
 ·rename_i t;split at h
  ·rename_i hh;injection h with h
   subst h;obtain ⟨_,h2,h3⟩:=hh;generalize t.text.data.toList=s at h2 h3;unfold fI at h2 h3 ⊢;split
   ·rename_i a b;simp only at h2 h3;split at h2
    ·rename_i g;rw [if_pos g] at h3 ⊢;simp only at h3 ⊢;rw [← h3]
     simp
     omega
    ·rename_i g;rw [if_neg g] at h3 ⊢;split at h2
     ·rename_i g2;rw [if_pos g2] at h3 ⊢;simp only at h3 ⊢;rw [← h3]
      simp
      omega
     ·cases h2
   ·rename_i hno;exfalso;split at h2
    ·rename_i a b;exact hno a b rfl
    ·cases h2
  ·cases h
 ·cases h
theorem rc {lo hi n:Int} {ts:List Tok} (h:iJ lo hi ts=.ok n):lo≤n∧n≤hi:=by
 unfold iJ at h;split at h
 ·cases h
 ·split at h
  ·cases h
  ·injection h with h
   omega
theorem ig {ts:List Tok} {x:ey} (hw:Wf ts) (h:bV ts=.ok x):Good x:=by
 unfold bV at h
 have:=lM 32 ts hw
 cases hs:oQ 32 ts with
 | error e=>rw [hs] at h; cases h
 | ok q =>
  rw [hs] at h this;simp only at h;split at h
  ·injection h with h
   subst h;exact this.1
  ·cases h
theorem xO {pool:Bool} {ts:List Tok} {x:ey} (hw:Wf ts) (h:qY pool ts=.ok x):Good x:=by
 unfold qY at h;split at h
 ·exact ig hw h
 ·split at h
  ·cases h
  ·split at h
   ·exact ig hw.tail h
   ·cases h
theorem LK {α:Type} {l:List α} (h:0=l.length):l=[]:=List.eq_nil_of_length_eq_zero h.symm
theorem Mh {α:Type} {l:List α} (h:0+1=l.length):∃ a,l=[a]:=by
 match l,h with
 | [a],_=>exact ⟨a,rfl⟩
theorem Ng {α:Type} {l:List α} (h:0+1+1=l.length):∃ a b,l=[a,b]:=by
 match l,h with
 | [a,b],_=>exact ⟨a,b,rfl⟩
theorem MC {α:Type} {l:List α} (h:0+1+1+1=l.length):∃ a b c,l=[a,b,c]:=by
 match l,h with
 | [a,b,c],_=>exact ⟨a,b,c,rfl⟩
theorem A8 {op : Nat} {args : List (List Tok)} {x : bD} (h1 : 1 ≤ op) (h2 : op ≤ 43) (hw : ∀ a, a ∈ args → Wf a) (h : ez (op : Int) args = .ok x) : bm x 0 = true ∧ Good x.e := by
  have hs : ∀ k : Fin 44, 1 ≤ k.1 → 1 ≤ bG (k.1 : Int) ∧ bG (k.1 : Int) ≤ 13 := by decide
  have hs' := hs ⟨op, by omega⟩ h1;simp only at hs';have gz : Good dT := Good.z
  have key : ∀ (y : bD), y.kind = 2 → y.name = bI → y.n = 0 → y.inst.op = op → y.inst.form = 0 → Good y.e → bw (bG op) y.inst.a y.inst.b y.inst.n = true →
      (if yK op then y.inst.n = 0 else nR (bG op) y.inst.n 0 = true ∧ y.e = dT) → bm y 0 = true := by
    intro y k1 k2 k3 k4 k5 k6 k7 k8;have hz : bG (op : Int) ≠ 0 := by omega
    unfold bm;rw [if_neg (by rw [k1]; decide), if_pos k1];unfold uP z1 z4;rw [k4, k2, k3, k5];simp only [decide_true, Bool.true_and, Bool.and_true, decide_eq_true hz]
    by_cases hwn : yK (op : Int) = true
    · rw [if_pos hwn] at k8 ⊢
      rw [DE k6, k8];simp only [decide_true, Bool.true_and, Bool.and_true];refine decide_eq_true ?_;unfold eG;simp only [k4];rw [k8] at k7;rw [if_neg hz, if_neg (by rw [k7]; decide), if_neg];unfold nt yK at *;unfold nR gQ;have hw' := of_decide_eq_true hwn
      by_cases g : 12 ≤ bG (op : Int)
      · rw [decide_eq_true g]
        have : bG (op : Int) = 12 ∨ bG (op : Int) = 13 := by omega
        rcases this with e | e <;> rw [e] <;> simp
      · rw [decide_eq_false g]
        have : bG (op : Int) = 10 ∨ bG (op : Int) = 11 := by omega
        rcases this with e | e <;> rw [e] <;> simp
    · rw [if_neg hwn] at k8 ⊢
      rw [k8.2, E8, Bool.and_true];refine decide_eq_true ?_;unfold eG;rw [k4, if_neg hz, if_neg (by rw [k7]; decide), k5, k8.1]
      simp
  unfold ez at h;split at h
  · cases h
  rename_i hlen0;have hlen : (cZ (bG op)).length = args.length := by omega
  clear hlen0;have hc0 : ∀ a b n : Int, ({ (dW (op : Int)) with inst := ⟨op, a, b, n, 0⟩ } : bD).kind = 2 := fun _ _ _ => rfl
  have hw' : yK (op : Int) = decide (10 ≤ bG (op : Int)) := rfl;generalize bG (op : Int) = s at *;have : s = 1 ∨ s = 9 ∨ s = 2 ∨ s = 3 ∨ s = 4 ∨ s = 5 ∨ s = 6 ∨ s = 7 ∨ s = 8 ∨ s = 10 ∨ s = 11 ∨ s = 12 ∨ s = 13 := by omega
  rcases this with rfl | rfl | this
  · obtain rfl := LK hlen
    have h : Except.ok (dW (op : Int)) = (Except.ok x : Except Nat bD) := h;injection h with h
    subst h;refine ⟨key _ rfl rfl rfl rfl rfl gz (by simp [bw, dW, cY, iG]) ?_, gz⟩;rw [if_neg (by rw [hw']; decide)];exact ⟨by simp [nR, dW, cY, iG], rfl⟩
  · obtain ⟨a, rfl⟩ := Mh hlen
    cases hn : iJ 0 255 a with
    | error e =>
      simp [dU, cZ, dL, hn] at h
    | ok n =>
      simp [dU, cZ, dL, hn] at h;subst h;have hn := rc hn;refine ⟨key _ rfl rfl rfl rfl rfl gz (by simp [bw, eM, dW, cY, iG]) ?_, gz⟩;rw [if_neg (by rw [hw']; decide)];refine ⟨?_, rfl⟩;simp [nR, eM, dW, cY, iG];exact ⟨decide_eq_true hn.1, decide_eq_true hn.2⟩
  rcases this with rfl | rfl | rfl | rfl | rfl | rfl | rfl | rfl | rfl | rfl | rfl
  all_goals
    simp only [cZ, Nat.reduceEqDiff, if_true, if_false, List.length_cons, List.length_nil] at h hlen;simp only [hw'] at key
    first
    | (obtain rfl := LK hlen
       · simp only [dU] at h
         injection h with h
         subst h;exact ⟨key _ rfl rfl rfl rfl rfl gz (by decide) (by rw [if_neg (by decide)]; exact ⟨by decide, rfl⟩), gz⟩)
    | (obtain ⟨a, rfl⟩ := Mh hlen
       ·
        simp only [dU, dL] at h;split at h
        · cases h
        rename_i y hy;split at hy
        · cases hy
        rename_i n hn;injection hy with hy
        injection h with h
        subst hy;subst h
        first
        | (have hn := mr hn
           simp at hn;refine ⟨key _ rfl rfl rfl rfl rfl gz (by simp [bw, oo, oP, oh, eM, dW, cY, iG, dT] <;> omega) (by simp [nR, oP, oh, eM, dW, cY, iG, dT] <;> omega), gz⟩)
        | (have hn := rc hn
           refine ⟨key _ rfl rfl rfl rfl rfl gz (by simp [bw, oo, oP, oh, eM, dW, cY, iG, dT] <;> omega) (by simp [nR, oP, oh, eM, dW, cY, iG, dT] <;> omega), gz⟩)
        | (have hg := xO (hw a (by simp)) hn
           exact ⟨key _ rfl rfl rfl rfl rfl hg (by simp [bw, oo, oP, oh, eM, zK, dW, cY, iG, dT] <;> omega) (by simp [oP, oh, eM, zK, dW, cY, iG, dT] <;> omega), hg⟩))
    | (obtain ⟨a, b, rfl⟩ := Ng hlen
       ·
        simp only [dU, dL] at h;split at h
        · cases h
        rename_i y hy;split at hy
        · cases hy
        rename_i n hn;injection hy with hy
        subst hy;split at h
        · cases h
        rename_i y2 hy2;split at hy2
        · cases hy2
        rename_i m hm;injection hy2 with hy2
        subst hy2;injection h with h
        subst h;have hn := mr hn;simp at hn
        first
        | (have hm := mr hm
           simp at hm;refine ⟨key _ rfl rfl rfl rfl rfl gz (by simp [bw, oo, oP, oh, eM, dW, cY, iG, dT] <;> omega) (by simp [nR, oP, oh, eM, dW, cY, iG, dT] <;> omega), gz⟩)
        | (have hm := rc hm
           refine ⟨key _ rfl rfl rfl rfl rfl gz (by simp [bw, oo, oP, oh, eM, dW, cY, iG, dT] <;> omega) (by simp [nR, gQ, oP, oh, eM, dW, cY, iG, dT] <;> omega), gz⟩)
        | (have hg := xO (hw b (by simp)) hm
           exact ⟨key _ rfl rfl rfl rfl rfl hg (by simp [bw, oo, oP, oh, eM, zK, dW, cY, iG, dT] <;> omega) (by simp [oP, oh, eM, zK, dW, cY, iG, dT] <;> omega), hg⟩))
    | (obtain ⟨a, b, c, rfl⟩ := MC hlen
       ·
        simp only [dU, dL] at h;split at h
        · cases h
        rename_i y hy;split at hy
        · cases hy
        rename_i n hn;injection hy with hy
        subst hy;split at h
        · cases h
        rename_i y2 hy2;split at hy2
        · cases hy2
        rename_i m hm;injection hy2 with hy2
        subst hy2;split at h
        · cases h
        rename_i y3 hy3;split at hy3
        · cases hy3
        rename_i k hk;injection hy3 with hy3
        subst hy3;injection h with h
        subst h;have hn := mr hn;have hm := mr hm;have hk := mr hk;simp at hn hm hk;refine ⟨key _ rfl rfl rfl rfl rfl gz (by simp [bw, oo, oP, oh, eM, dW, cY, iG, dT] <;> omega) (by simp [nR, oP, oh, eM, dW, cY, iG, dT] <;> omega), gz⟩)
theorem Bw {k:Nat} (hk:k=5∨k=6) {ts:List Tok} {x:bD} (hw:Wf ts) (h:jQ k ts=.ok x):bm x 1=true∧Good x.e:=by
 unfold jQ at h;rcases hk with rfl | rfl
 ·rw [if_pos rfl] at h;split at h
  ·cases h
  rename_i n hn;injection h with h
  subst h;have hn:=rc hn;refine ⟨?_,Good.z⟩;simp [bm,cY,z1,z2,z3,E8];omega
 ·rw [if_neg (by decide)] at h;split at h
  ·cases h
  rename_i y hy;injection h with h
  subst h;have hg:=ig hw hy;refine ⟨?_,hg⟩;simp [bm,cY,z1,z2,z4,DE hg]
theorem lX {k:Nat} (hk:k=5∨k=6):∀ {args:List (List Tok)} {l:List bD},(∀ a,a∈args→Wf a)→cO k args=.ok l→∀ x,x∈l→bm x 1=true∧Good x.e
 | [],l,_,h,x,hx=>by
  simp only [cO] at h;injection h with h
  subst h;simp at hx
 | t::ts,l,hw,h,x,hx=>by
  simp only [cO] at h;split at h
  ·cases h
  rename_i y hy;split at h
  ·cases h
  rename_i r hr;injection h with h
  subst h;rcases List.mem_cons.1 hx with rfl | hx
  ·exact Bw hk (hw t (by simp)) hy
  ·exact lX hk (fun a ha=>hw a (by simp [ha])) hr x hx
structure kN (t:kD) (data:Bool):Prop where
 items:∀ x,x∈t.items→bm x (if data then 1 else 0)=true∧Good x.e
 kind:t.kind≤5
 single:t.kind=1↔(t.items.length=1∧t.kind≠2)
 name:t.kind=3∨t.kind=4→bd t.name.data.toList=true
 e:Good t.e
 sec:t.sec≤1
theorem kN.z (data:Bool):kN bJ data:=⟨by simp [bJ],by simp [bJ],by simp [bJ],by simp [bJ],Good.z,by simp [bJ]⟩
theorem kN.Ik {x:bD} {data:Bool} (h:bm x (if data then 1 else 0)=true) (g:Good x.e):kN (eV x) data :=
 ⟨by simpa [eV] using ⟨h,g⟩,by simp [eV],by simp [eV],by simp [eV],Good.z,by simp [eV,bJ]⟩
theorem wJ {ts:List Tok} {s:ByteArray} (h:nu ts=.ok s):bd s.data.toList=true:=by
 unfold nu at h;split at h
 ·split at h
  ·rename_i hh;injection h with h
   subst h;exact hh.2
  ·cases h
 ·cases h
theorem Ct {op:ByteArray} {args:List (List Tok)} {t:kD} {w:Nat} {data:Bool} (hw:∀ a,a∈args→Wf a) (h:ga op args=.ok (t,w)) (hd:w=2∨w=(if data then 1 else 0)):kN t data:=by
 have hag:∀ i,Wf (ag args i):=by
  intro i;unfold ag;rw [List.getD_eq_getElem?_getD];cases hh:args[i]? with
  | none=>exact fun t ht=>by simp at ht
  | some a=>exact hw a (List.mem_of_getElem? hh)
 unfold ga at h;simp only at h;split at h
 ·cases h
 split at h
 ·injection h with h
  injection h with h1 h2
  subst h1 h2;have hd:data=false:=by cases data <;> simp_all
  subst hd;exact kN.Ik (by simp [bm,cY,z1,z2,z3,z4,E8]) Good.z
 split at h
 ·split at h
  ·cases h
  rename_i n hn;split at h
  ·rename_i hp;injection h with h
   injection h with h1 h2
   subst h1 h2;exact kN.Ik (by simp [bm,cY,z1,z2,z3,z4,E8,hp]) Good.z
  ·cases h
 split at h
 ·split at h
  ·cases h
  rename_i n hn;injection h with h
  injection h with h1 h2
  subst h1 h2;have hd:data=true:=by cases data <;> simp_all
  subst hd;have hn:=rc hn;exact kN.Ik (by simp [bm,cY,z1,z2,z3,z4,E8]; omega) Good.z
 split at h
 ·split at h
  ·cases h
  split at h
  ·cases h
  rename_i l hl;injection h with h
  injection h with h1 h2
  subst h1 h2;have hd:data=true:=by cases data <;> simp_all
  subst hd;exact ⟨fun x hx=>lX (.inl rfl) hw hl x hx,by simp,by simp,by simp,Good.z,by simp [bJ]⟩
 split at h
 ·split at h
  ·cases h
  split at h
  ·cases h
  rename_i l hl;injection h with h
  injection h with h1 h2
  subst h1 h2;have hd:data=true:=by cases data <;> simp_all
  subst hd;exact ⟨fun x hx=>lX (.inr rfl) hw hl x hx,by simp,by simp,by simp,Good.z,by simp [bJ]⟩
 split at h
 ·split at h
  ·cases h
  rename_i s hs;split at h
  ·cases h
  rename_i x hx;injection h with h
  injection h with h1 h2
  subst h1 h2;exact ⟨by simp [bJ],by simp,by simp [bJ],fun _=>wJ hs,ig (hag 1) hx,by simp [bJ]⟩
 split at h
 ·split at h
  ·cases h
  rename_i s hs;injection h with h
  injection h with h1 h2
  subst h1 h2;exact ⟨by simp [bJ],by simp,by simp [bJ],fun _=>wJ hs,Good.z,by simp [bJ]⟩
 split at h
 ·split at h
  ·injection h with h
   injection h with h1 h2
   subst h1 h2;exact ⟨by simp [bJ],by simp,by simp [bJ],by simp,Good.z,by simp [bJ]⟩
  ·split at h
   ·injection h with h
    injection h with h1 h2
    subst h1 h2;exact ⟨by simp [bJ],by simp,by simp [bJ],by simp,Good.z,by simp⟩
   ·cases h
 ·cases h
theorem vT (nm:Nat→List UInt8) (s:List UInt8):∀ k,ka nm s k≤k
 | 0=>Nat.le_refl _
 | k+1=>by
  unfold ka
  have:=vT nm s k
  split
  ·split <;> omega
  ·omega
theorem tV {l:Ln} {data:Bool} {t:kD} (hw:∀ a,a∈l.args→Wf a) (h:dG l data=.ok t):kN t data:=by
 unfold dG at h;split at h
 ·injection h with h
  subst h;exact kN.z data
 split at h
 ·rename_i hf;split at h
  ·cases h
  rename_i x hx;cases data with
  | true=>cases h
  | false =>
   injection h with h
   subst h
   have:=A8 (op:=lm l.op) (by omega) (vT _ _ _) hw hx
   exact kN.Ik this.1 this.2
 ·split at h
  ·cases h
  rename_i t' w hd
  by_cases hh:w=2∨w=(if data=true then 1 else 0)
  ·rw [if_pos hh] at h;injection h with h
   subst h;exact Ct hw hd hh
  ·rw [if_neg hh] at h;cases h
def IK (r:Except Nat Int):Value :=
 match r with
 | .ok n=>.tuple #[.int .i64 n,.int .i64 0]
 | .error e=>.tuple #[.int .i64 0,.int .i64 (e:Int)]
def MO (r:Except Nat ByteArray):Value :=
 match r with
 | .ok s=>.tuple #[.string s,.int .i64 0]
 | .error e=>.tuple #[.string ⟨#[]⟩,.int .i64 (e:Int)]
theorem Cu {ts:List Tok} (h:ts.length=1):∃ t,ts=[t]:=by
 match ts,h with
 | [t],_=>exact ⟨t,rfl⟩
theorem K9 {ts:List Tok} {α:Type} {f:Tok→Except Nat α} (h:¬ ts.length=1):(match ts with | [t]=>f t | _=>.error 20)=.error 20:=by
 match ts,h with
 | [],_=>rfl
 | [t],h=>exact absurd rfl h
 | _::_::_,_=>rfl
theorem G4 {h:Hp} {p:Option Addr} {l c:Nat} {ts:List Tok} (v:Vw h p l c ts) (z:Bool):pQ Tryz.prog 151 [.slice p l c,.bool z] h (IK (nV z ts)):=by
 refine cK mixed Tryz.func151 (by kernel_rfl) (xF p l c z) ?_;unfold vy;have hl:=v.len;refine af (fun g=>?_) (fun g=>?_)
 ·have g:(l:Int)≠1:=by simpa using g
  refine ⟨?_,rfl⟩
  have:nV z ts=.error 20:=K9 (by omega)
  rw [this];rfl
 have g:(l:Int)=1:=by simpa using g
 obtain ⟨t,rfl⟩:=Cu (show ts.length=1 by omega);obtain ⟨a,rfl,c0⟩:=v.cells 0 (by simp);have c0:aG h (a.add (0*4)) 0 (ec t):=c0;obtain ⟨q1,q2,_⟩:=jg c0;refine ay ⟨by omega,by omega⟩ (aj rfl (aE ((t.kind:Int),()) q1 ?_));dsimp only [flat,az,ah,nA,cA];refine af (fun r=>?_) (fun r=>?_)
 ·have r:¬ t.kind=1:=by
   have:¬ (t.kind:Int)=1:=by simpa using r
   omega
  refine ⟨?_,rfl⟩
  have:nV z [t]=.error 20:=if_neg (fun hh=>r hh.1)
  rw [this];rfl
 have r:t.kind=1:=by
  have:(t.kind:Int)=1:=by simpa using r
  omega
 refine ay ⟨by omega,by omega⟩ (aj rfl (aE (t.text,()) q2 ?_));dsimp only [flat,az,ah,nA,cA];refine rR (nX t.text h) ?_;refine af (fun s=>?_) (fun s=>?_)
 ·have s:(fI t.text.data.toList).2.2=false:=by simpa using s
  refine ⟨?_,rfl⟩
  have:nV z [t]=.error 20:=if_neg (fun hh=>by rw [s] at hh; simp at hh)
  rw [this];rfl
 have s:(fI t.text.data.toList).2.2=true:=by simpa using s
 refine af (fun u=>?_) (fun u=>?_)
 ·have u:¬ (fI t.text.data.toList).2.1=z:=by simpa using u
  refine ⟨?_,rfl⟩
  have:nV z [t]=.error 20:=if_neg (fun hh=>u hh.2.2)
  rw [this];rfl
 have u:(fI t.text.data.toList).2.1=z:=by simpa using u
 refine ⟨?_,rfl⟩
 have:nV z [t]=.ok (fI t.text.data.toList).1:=if_pos ⟨r,s,u⟩
 rw [this];rfl
theorem vf {h:Hp} {p:Option Addr} {l c:Nat} {ts:List Tok} (v:Vw h p l c ts) (hs:∀ t,t∈ts→t.text.size≤9223372036854775807):pQ Tryz.prog 129 [.slice p l c] h (MO (nu ts)):=by
 refine cK mixed Tryz.func129 (by kernel_rfl) (vV p l c) ?_;unfold tL;have hl:=v.len;refine af (fun g=>?_) (fun g=>?_)
 ·have g:(l:Int)≠1:=by simpa using g
  refine ⟨?_,rfl⟩
  have:nu ts=.error 20:=K9 (by omega)
  rw [this];rfl
 have g:(l:Int)=1:=by simpa using g
 obtain ⟨t,rfl⟩:=Cu (show ts.length=1 by omega);obtain ⟨a,rfl,c0⟩:=v.cells 0 (by simp);have c0:aG h (a.add (0*4)) 0 (ec t):=c0;obtain ⟨q1,q2,_⟩:=jg c0;refine ay ⟨by omega,by omega⟩ (aj rfl (aE ((t.kind:Int),()) q1 ?_));dsimp only [flat,az,ah,nA,cA];refine af (fun r=>?_) (fun r=>?_)
 ·have r:¬ t.kind=1:=by
   have:¬ (t.kind:Int)=1:=by simpa using r
   omega
  refine ⟨?_,rfl⟩
  have:nu [t]=.error 20:=if_neg (fun hh=>r hh.1)
  rw [this];rfl
 have r:t.kind=1:=by
  have:(t.kind:Int)=1:=by simpa using r
  omega
 refine ay ⟨by omega,by omega⟩ (aj rfl (aE (t.text,()) q2 ?_));dsimp only [flat,az,ah,nA,cA];refine aD (kE t.text h (hs t (by simp))) ?_;refine af (fun s=>?_) (fun s=>?_)
 ·have s:bd t.text.data.toList=false:=by simpa using s
  refine ⟨?_,rfl⟩
  have:nu [t]=.error 20:=if_neg (fun hh=>by rw [s] at hh; simp at hh)
  rw [this];rfl
 have s:bd t.text.data.toList=true:=by simpa using s
 refine ay ⟨by omega,by omega⟩ (aj rfl (aE (t.text,()) q2 ?_));dsimp only [flat,az,ah,nA,cA];refine ⟨?_,rfl⟩
 have:nu [t]=.ok t.text:=if_pos ⟨r,s⟩
 rw [this];rfl
theorem dS {ts:List Tok} {e:Nat} (hw:Wf ts) (h:bV ts=.error e):e=20∨e=21:=by
 unfold bV at h
 have:=lM 32 ts hw
 cases hs:oQ 32 ts with
 | error e' =>
  rw [hs] at h this;injection h with h
  subst h;exact this
 | ok q =>
  rw [hs] at h;simp only at h;split at h
  ·cases h
  ·injection h with h
   exact .inl h.symm
theorem wrap32 {n:Nat} (hn:n<4294967296):IntKind.wrap .i64 (IntKind.wrap .i32 (n:Int))=Bf n:=by
 have h1:IntKind.wrap .i32 (n:Int)=Bf n:=by
  unfold Bf
  by_cases g:n<2147483648
  ·rw [if_pos g];simp only [IntKind.wrap,IntKind.bits,IntKind.signed,Bool.true_and];split <;> rename_i hh
   ·have:=of_decide_eq_true hh; omega
   ·have:¬ _:=fun h=>hh (decide_eq_true h); omega
  ·rw [if_neg g];simp only [IntKind.wrap,IntKind.bits,IntKind.signed,Bool.true_and];split <;> rename_i hh
   ·have:=of_decide_eq_true hh; omega
   ·have:¬ _:=fun h=>hh (decide_eq_true h); omega
 rw [h1];unfold Bf;split <;> exact wrap_i64 (by omega) (by omega)
theorem oV {h:Hp} {p:Option Addr} {l c:Nat} {ts:List Tok} (v:Vw h p l c ts) (hp:∀ i,i∈aC p→i<h.size) (w:Wf ts) (hts:ts.length≤2^40) (lo hi:Int) :
  HC Tryz.prog 127 #[.slice p l c,.int .i64 lo,.int .i64 hi] h fun r h'=>r=IK (iJ lo hi ts)∧Ext h h':=by
 refine aK (args:=[.slice p l c,.int .i64 lo,.int .i64 hi]) mixed Tryz.func127 (by kernel_rfl) (tj p l c lo hi) ?_;unfold pV;refine aB (jq v hp w hts) ?_;rintro r h1 ⟨e1,hr⟩;unfold iJ;cases hx:bV ts with
 | error e =>
  rw [hx] at hr;have hr:r=.tuple #[.agg #[.slice none 0 0,.int .u32 0],.int .i64 (e:Int)]:=hr;subst hr;have he:=dS w hx;refine ⟨((none,0,0),(0:Int),(e:Int),()),rfl,?_⟩;dsimp only [flat,az,ah,nA,cA];refine aX ?_;intro h2 b2 e2 z2;refine an b2 rfl (by simp) ?_;intro h3 b3 k3 z3;refine aT (by simp; omega) ?_;exact ⟨rfl,e1.trans (Ch.trans e2 k3 (fun i hi hl=>by simp at hi; omega))⟩
 | ok x =>
  rw [hx] at hr;obtain ⟨p1,l1,c1,rfl,sl,gd⟩:=hr;refine ⟨((p1,l1,c1),(x.num:Int),(0:Int),()),rfl,?_⟩;dsimp only [flat,az,ah,nA,cA];refine aX ?_;intro h2 b2 e2 z2;refine an b2 rfl (by simp) ?_;intro h3 b3 k3 z3;have b3:aO h3 h1.size 94 [.slice p1 l1 c1,.int .u32 (x.num:Int)]:=b3;have e3:Ext h h3:=e1.trans (Ch.trans e2 k3 (fun i hi hl=>by simp at hi; omega));refine aU rfl ?_;rw [ao];refine ad b3 ((x.num:Int),()) rfl ?_;dsimp only [flat,az,ah,nA,cA];refine ad b3 ((p1,l1,c1),()) rfl ?_;dsimp only [flat,az,ah,nA,cA];rw [wrap32 gd.num];have hl1:l1=x.au.length:=by rw [sl.1,List.length_map]
  refine af (fun g=>?_) (fun g=>?_)
  ·have g:=of_decide_eq_true g;refine ⟨?_,e3⟩;rw [if_pos (.inl (fun hh=>by rw [hh] at hl1; simp at hl1; omega))];rfl
  have g:=of_decide_eq_false g;have hz:x.au=[]:=List.eq_nil_of_length_eq_zero (by omega);refine af (fun g=>?_) (fun g=>?_)
  ·have g:=of_decide_eq_true g;refine ⟨?_,e3⟩;rw [if_pos (.inr (.inl g))];rfl
  have g:=of_decide_eq_false g;refine af (fun g=>?_) (fun g=>?_)
  ·have g:=of_decide_eq_true g;refine ⟨?_,e3⟩;rw [if_pos (.inr (.inr g))];rfl
  have g':=of_decide_eq_false g;refine ⟨?_,e3⟩;rw [if_neg (by rintro (q | q | q) <;> first | exact q hz | omega)];rfl
def kT:DQ→Value
 | .uS z s t=>.iface 253 (.agg #[.bool z,.bool s,.bool t])
 | .H2 lo hi=>.iface 255 (.agg #[.int .i64 lo,.int .i64 hi])
 | .val pool=>.iface 257 (.agg #[.bool pool])
theorem jO:Tryz.prog.underlying 221=some (.slice 20):=by kernel_rfl
theorem vB:(Tryz.prog.info? 20).map (fun i=>(i.zero,i.size,i.bytes))=some (some .nilIface,1,16):=by kernel_rfl
theorem SL.lit {h:Hp} {b g:Nat} {e:TypeId} {xs:List Value} (bx:aO h g e xs) (hb:b≤g) (hn:xs.length<9223372036854775808):SL h b e 1 (some ⟨g,0,none⟩) xs.length xs.length (xs.map fun x=>[x]):=by
 refine ⟨by simp,by simp,g,[],[],rfl,hb,⟨Nat.le_refl _,hn⟩,?_,by simp⟩
 have:∀ l:List Value,(l.map fun x=>[x]).flatten=l:=by
  intro l
  induction l with
  | nil=>rfl
  | cons a l ih=>simp [ih]
 rw [this];simpa using bx
theorem CG (s:Nat) (h:Hp):HC Tryz.prog 124 #[.int .i64 (s:Int)] h fun w h'=>∃ p c,w=.slice p (cZ s).length c∧SL h' h.size 20 1 p (cZ s).length c ((cZ s).map fun r=>[kT r])∧Ext h h':=by
 refine aK (args:=[.int .i64 (s:Int)]) mixed Tryz.func124 (by kernel_rfl) (rO s) ?_;unfold oO;refine aX ?_;intro h1 b1 e1 z1;refine aX ?_;intro h2 b2 e2 z2;refine an (b1.ai e2 (by simp)) rfl (by simp) ?_;intro h3 b3 k3 z3;have b3:aO h3 h.size 253 [.bool false,.bool false,.bool false]:=b3;refine an (b2.ai k3 (by simp; omega)) rfl (by simp) ?_;intro h4 b4 k4 z4;have b4:aO h4 h1.size 253 [.bool false,.bool true,.bool false]:=b4;have b5:=b3.ai k4 (by simp; omega);have e04:Ext h h4:=Ch.trans (Ch.trans (e1.trans e2) k3 (fun i hi hl=>by simp at hi; omega)) k4 (fun i hi hl=>by simp at hi; omega);have fin:∀ {rs:List DQ} {h':Hp},aO h' h4.size 20 (rs.map kT)→Ext h4 h'→rs.length<100→∃ p c,(Value.slice (some ⟨h4.size,0,none⟩) rs.length rs.length)=.slice p rs.length c∧SL h' h.size 20 1 p rs.length c (rs.map fun r=>[kT r])∧Ext h h':=by
  intro rs h' b e hl;refine ⟨_,_,rfl,?_,e04.trans e⟩
  have:=SL.lit (b:=h.size) b (by omega) (by rw [List.length_map]; omega)
  rw [List.length_map,List.map_map] at this;exact this
 clear k4 k3 e2 e1 b1 b2 b3;refine af (fun q=>?_) (fun q=>?_)
 ·obtain rfl:s=1:=dO q;exact ⟨none,0,rfl,SL.nil _ _ _ _,e04⟩
 have r1:¬ s=1:=dX q;refine af (fun q=>?_) (fun q=>?_)
 ·obtain rfl:s=2:=dO q;refine ad b5 (false,false,false,()) rfl ?_;dsimp only [flat,az,ah,nA,cA];refine dP (cells:=(cZ 2).map kT) jO vB (by decide) (by decide) (by kernel_rfl) ?_;intro h' b e z;exact fin (rs:=cZ 2) b e (by decide)
 have r2:¬ s=2:=dX q;refine af (fun q=>?_) (fun q=>?_)
 ·obtain rfl:s=3:=dO q;refine dP (cells:=(cZ 3).map kT) jO vB (by decide) (by decide) (by kernel_rfl) ?_;intro h' b e z;exact fin (rs:=cZ 3) b e (by decide)
 have r3:¬ s=3:=dX q;refine af (fun q=>?_) (fun q=>?_)
 ·obtain rfl:s=4:=dO q;refine ad b5 (false,false,false,()) rfl ?_;dsimp only [flat,az,ah,nA,cA];refine ad b4 (false,true,false,()) rfl ?_;dsimp only [flat,az,ah,nA,cA];refine dP (cells:=(cZ 4).map kT) jO vB (by decide) (by decide) (by kernel_rfl) ?_;intro h' b e z;exact fin (rs:=cZ 4) b e (by decide)
 have r4:¬ s=4:=dX q;refine af (fun q=>?_) (fun q=>?_)
 ·obtain rfl:s=5:=dO q;refine dP (cells:=(cZ 5).map kT) jO vB (by decide) (by decide) (by kernel_rfl) ?_;intro h' b e z;exact fin (rs:=cZ 5) b e (by decide)
 have r5:¬ s=5:=dX q;refine af (fun q=>?_) (fun q=>?_)
 ·obtain rfl:s=6:=dO q;refine ad b5 (false,false,false,()) rfl ?_;dsimp only [flat,az,ah,nA,cA];refine dP (cells:=(cZ 6).map kT) jO vB (by decide) (by decide) (by kernel_rfl) ?_;intro h' b e z;exact fin (rs:=cZ 6) b e (by decide)
 have r6:¬ s=6:=dX q;refine af (fun q=>?_) (fun q=>?_)
 ·obtain rfl:s=7:=dO q;refine ad b4 (false,true,false,()) rfl ?_;dsimp only [flat,az,ah,nA,cA];refine dP (cells:=(cZ 7).map kT) jO vB (by decide) (by decide) (by kernel_rfl) ?_;intro h' b e z;exact fin (rs:=cZ 7) b e (by decide)
 have r7:¬ s=7:=dX q;refine af (fun q=>?_) (fun q=>?_)
 ·obtain rfl:s=8:=dO q;refine ad b5 (false,false,false,()) rfl ?_;dsimp only [flat,az,ah,nA,cA];refine dP (cells:=(cZ 8).map kT) jO vB (by decide) (by decide) (by kernel_rfl) ?_;intro h' b e z;exact fin (rs:=cZ 8) b e (by decide)
 have r8:¬ s=8:=dX q;refine af (fun q=>?_) (fun q=>?_)
 ·obtain rfl:s=9:=dO q;refine dP (cells:=(cZ 9).map kT) jO vB (by decide) (by decide) (by kernel_rfl) ?_;intro h' b e z;exact fin (rs:=cZ 9) b e (by decide)
 have r9:¬ s=9:=dX q;refine af (fun q=>?_) (fun q=>?_)
 ·obtain rfl:s=11:=dO q;refine ad b5 (false,false,false,()) rfl ?_;dsimp only [flat,az,ah,nA,cA];refine dP (cells:=(cZ 11).map kT) jO vB (by decide) (by decide) (by kernel_rfl) ?_;intro h' b e z;exact fin (rs:=cZ 11) b e (by decide)
 have r11:¬ s=11:=dX q;refine af (fun q=>?_) (fun q=>?_)
 ·obtain rfl:s=12:=dO q;refine dP (cells:=(cZ 12).map kT) jO vB (by decide) (by decide) (by kernel_rfl) ?_;intro h' b e z;exact fin (rs:=cZ 12) b e (by decide)
 have r12:¬ s=12:=dX q;have hr:cZ s=cZ 13:=by
  unfold cZ;simp [r1,r2,r3,r4,r5,r6,r7,r8,r9,r11,r12]
 rw [hr];refine ad b5 (false,false,false,()) rfl ?_;dsimp only [flat,az,ah,nA,cA];refine dP (cells:=(cZ 13).map kT) jO vB (by decide) (by decide) (by kernel_rfl) ?_;intro h' b e z;exact fin (rs:=cZ 13) b e (by decide)
def aA (s:Nat):Nat:=if s=2∨s=8∨s=10∨s=11∨s=13∨s=4∨s=6 then 8 else if s=3∨s=5∨s=7 then 4 else 0
def bB (s:Nat):Nat:=if s=4∨s=7 then 8 else if s=5∨s=6 then 4 else 0
theorem GI {s:Nat} (hs:1≤s∧s≤13) (a b n:Int):bw s a b n=true↔(0≤a∧0≤b∧(a<(aA s:Int)∨(aA s=0∧a=0))∧(b<(bB s:Int)∨(bB s=0∧b=0))∧(s=7→0≤n∧n≤7)):=by
 have:s=1∨s=2∨s=3∨s=4∨s=5∨s=6∨s=7∨s=8∨s=9∨s=10∨s=11∨s=12∨s=13:=by omega
 unfold bw oo aA bB;rcases this with rfl | rfl | rfl | rfl | rfl | rfl | rfl | rfl | rfl | rfl | rfl | rfl | rfl <;> simp <;> omega
theorem ER (h:Hp) (op a b n form:Int) (ho:Sm op) (hs:bG op≠0):HC Tryz.prog 119 #[ct op a b n form] h fun w h'=>w=.bool (bw (bG op) a b n)∧Ext h h':=by
 refine aK (args:=[ct op a b n form]) mixed Tryz.func119 (by kernel_rfl) (ja op a b n form) ?_;unfold eS;have hc:1≤bG op∧bG op≤13:=by have:=fB op; omega
 refine aX ?_;intro h1 b1 e1 z1;refine ad b1 (op,()) rfl ?_;dsimp only [flat,az,ah,nA,cA];refine aB (oc h1 op ho) ?_;rintro _ h2 ⟨rfl,e2⟩;refine ⟨(((bG op:Nat):Int),()),rfl,?_⟩;dsimp only [flat,az,ah,nA,cA];have b2:=b1.ai e2 (by simp);have e02:=e1.trans e2;have hiff:=GI hc a b n;generalize bG op=s at *;generalize bw s a b n=R at *;refine cD (cs:=[(false,[.int .i64]),(false,[.int .i64])]) (fun y h'=>y=(((aA s:Nat):Int),((bB s:Nat):Int),())∧h2=h') ?_ ?_
 ·have:s=1∨s=2∨s=3∨s=4∨s=5∨s=6∨s=7∨s=8∨s=9∨s=10∨s=11∨s=12∨s=13:=by omega
  rcases this with rfl | rfl | rfl | rfl | rfl | rfl | rfl | rfl | rfl | rfl | rfl | rfl | rfl
  all_goals (repeat (first | refine aT rfl ?_ | refine aU rfl ?_))
  all_goals exact aY (cs:=[(false,[.int .i64]),(false,[.int .i64])]) (((aA _:Nat):Int),((bB _:Nat):Int),()) rfl rfl ⟨rfl,rfl⟩
 rintro ⟨A,B,⟨⟩⟩ _ ⟨hy,rfl⟩;cases hy;dsimp only [flat,az,ah,nA,cA];simp only [ao];have fin:∀ b:Bool,(b=true↔R=true)→(T.ret (.bool b)) [] (fun w h'=>w=.bool R∧Ext h h') h2:=by
  intro b hb;refine ⟨?_,e02⟩;cases b <;> cases R <;> simp_all
 repeat' (first
  | (refine ad b2 (a,()) rfl ?_; dsimp only [flat,az,ah,nA,cA])
  | (refine ad b2 (b,()) rfl ?_; dsimp only [flat,az,ah,nA,cA])
  | (refine ad b2 (n,()) rfl ?_; dsimp only [flat,az,ah,nA,cA])
  | refine fin _ ?_
  | refine af (fun q=>?_) (fun q=>?_))
 all_goals (rw [hiff]; simp only [decide_eq_true_eq,decide_eq_false_iff_not,bne_iff_ne,ne_eq,bne_eq_false_iff_eq,Bool.false_eq_true,false_iff,true_iff] at *; omega)
def Jf (n w:Int):Bool:=(decide (w=1) || decide (w=2) || decide (w=4)) && gQ n w
def BO (n w:Int):Prop:=(w=1∧-128≤n∧n≤127)∨(w=2∧-32768≤n∧n≤32767)∨w=4
theorem Dn (n w:Int):Jf n w=true↔BO n w:=by
 unfold Jf gQ BO
 by_cases h1:w=1
 ·subst h1; simp
 ·by_cases h2:w=2
  ·subst h2; simp
  ·by_cases h4:w=4
   ·subst h4; simp
   ·simp [h1,h2,h4]
theorem Ke (n w:Int):Jf n w=false↔¬ BO n w:=by
 rw [← Dn]
 simp
theorem IC {i:Ins} (h0:bG i.op≠0) (hR:bw (bG i.op) i.a i.b i.n=true) (P:Prop) (hP:P↔((bG i.op=12∨bG i.op=13→BO i.n i.form)∧(bG i.op≠12∧bG i.op≠13→i.form=0)∧(bG i.op=8→-128≤i.n∧i.n≤127)∧(bG i.op=9→0≤i.n∧i.n≤255)∧(bG i.op=11→0≤i.n∧i.n≤4095) ∧
  (bG i.op<7→i.n=0))):(P→eG i=0)∧(¬ P→eG i=13):=by
 obtain ⟨op,a,b,n,form⟩:=i;simp only at *;have hc:=fB op;have key:(!nt op && decide (form≠0) || !nR (bG op) n form)=true↔¬ P:=by
  rw [hP];unfold nt nR gQ BO
  have:bG op=1∨bG op=2∨bG op=3∨bG op=4∨bG op=5∨bG op=6∨bG op=7∨bG op=8∨bG op=9∨bG op=10∨bG op=11∨bG op=12∨bG op=13:=by omega
  rcases this with h | h | h | h | h | h | h | h | h | h | h | h | h <;> rw [h]
  all_goals (
   by_cases f1:form=1
   ·subst f1; simp; try omega
   ·by_cases f2:form=2
    ·subst f2; simp; try omega
    ·by_cases f4:form=4
     ·subst f4; simp; try omega
     ·by_cases f0:form=0
      ·subst f0; simp; try omega
      ·simp [f1,f2,f4,f0])
 unfold eG;simp only;rw [if_neg h0,hR,if_neg (by simp)];refine ⟨fun hp=>?_,fun hp=>?_⟩
 ·rw [if_neg (fun e=>key.1 e hp)]
 ·rw [if_pos (key.2 hp)]
theorem EV (h:Hp) (op a b n form:Int) (ho:Sm op):HC Tryz.prog 84 #[ct op a b n form] h fun w h'=>w=.int .i64 (eG ⟨op,a,b,n,form⟩)∧Ext h h':=by
 refine aK (args:=[ct op a b n form]) mixed Tryz.func84 (by kernel_rfl) (lK op a b n form) ?_;unfold ie;refine aX ?_;intro h1 b1 e1 z1;refine ad b1 (op,()) rfl ?_;dsimp only [flat,az,ah,nA,cA];refine aB (oc h1 op ho) ?_;rintro _ h2 ⟨rfl,e2⟩;refine ⟨(((bG op:Nat):Int),()),rfl,?_⟩;dsimp only [flat,az,ah,nA,cA];have b2:=b1.ai e2 (by simp);have e02:=e1.trans e2;refine af (fun q=>?_) (fun q=>?_)
 ·have q:bG op=0:=dO q;exact ⟨by unfold eG; simp only; rw [if_pos q],e02⟩
 have q:¬ bG op=0:=dX q;refine ad b2 (op,a,b,n,form,()) rfl ?_;dsimp only [flat,az,ah,nA,cA];refine dk (ER h2 op a b n form ho q) ?_;intro h3 e3;have b3:=b2.ai e3 (by simp);have e03:=e02.trans e3;refine af (fun r=>?_) (fun r=>?_)
 ·have r:bw (bG op) a b n=false:=by simpa using r
  exact ⟨by unfold eG; simp only; rw [if_neg q,r,if_pos rfl],e03⟩
 have r:bw (bG op) a b n=true:=by simpa using r
 have hc:=fB op;obtain ⟨k0,k13⟩:=IC (i:=⟨op,a,b,n,form⟩) q r _ Iff.rfl;simp only at k0 k13;generalize eG ⟨op,a,b,n,form⟩=C at *;generalize bG op=s at *;clear r;have f0:((s=12∨s=13→BO n form)∧(s≠12∧s≠13→form=0)∧(s=8→-128≤n∧n≤127)∧(s=9→0≤n∧n≤255)∧(s=11→0≤n∧n≤4095)∧(s<7→n=0))→(T.ret (.int .i64 (0:Int))) [] (fun w h'=>w=.int .i64 C∧Ext h h') h3:=fun hp=>⟨by rw [k0 hp],e03⟩
 have f13:¬ ((s=12∨s=13→BO n form)∧(s≠12∧s≠13→form=0)∧(s=8→-128≤n∧n≤127)∧(s=9→0≤n∧n≤255)∧(s=11→0≤n∧n≤4095)∧(s<7→n=0))→(T.ret (.int .i64 (13:Int))) [] (fun w h'=>w=.int .i64 C∧Ext h h') h3:=fun hp=>⟨by rw [k13 hp],e03⟩
 clear k0 k13;simp only [ao]
 repeat' (first
  | (refine ad b3 (n,()) rfl ?_; dsimp only [flat,az,ah,nA,cA])
  | (refine ad b3 (form,()) rfl ?_; dsimp only [flat,az,ah,nA,cA])
  | refine f0 ?_
  | refine f13 ?_
  | refine aD (b:=Jf n form) (IV h3 n form) ?_
  | refine af (fun q=>?_) (fun q=>?_))
 all_goals (
  clear f0 f13;simp only [decide_eq_true_eq,decide_eq_false_iff_not,bne_iff_ne,ne_eq,bne_eq_false_iff_eq,beq_iff_eq,beq_eq_false_iff_ne,Bool.not_eq_true',Bool.not_eq_false',Dn,Ke,BO] at *;omega)
def ln (x:bD) (b1 b2 b3 b4:Bool):Bool:=(!b1 || z1 x) && ((!b2 || z2 x) && ((!b3 || z3 x) && (!b4 || z4 x)))
theorem KT (s:ByteArray):(ByteArray.toList s==([]:List UInt8))=decide (s=bI):=by
 have:=Kh s bI
 rw [show ByteArray.toList bI=[] by rw [ByteArray.toList_eq]; rfl] at this;exact this
theorem HX (n:Nat) (m:Nat) (i:Ins) (h:Hp) (K:Value→Hp→Prop) (hk:K (.bool (decide (i=iG))) h) :
  aH Tryz.prog (Sx.bX (BinOp.eql) 90 (Operand.tmp n) (Operand.tmp m) (.agg #[.int .i64 i.op,.int .i64 i.a,.int .i64 i.b,.int .i32 i.n,.int .i64 i.form]) (.agg #[.int .i64 (0:Int),.int .i64 (0:Int),.int .i64 (0:Int),.int .i32 (0:Int),.int .i64 (0:Int)])) h K :=
 Iw _ _ i iG h K hk
theorem Jv {h:Hp} {x:bD} {p:Option Addr} {l c:Nat} (v:pI h p l x.e.au) (b1 b2 b3 b4:Bool) :
  HC Tryz.prog 83 #[nv p l c x,.bool b1,.bool b2,.bool b3,.bool b4] h fun w h'=>w=.bool (ln x b1 b2 b3 b4)∧Ext h h':=by
 refine aK (args:=[nv p l c x,.bool b1,.bool b2,.bool b3,.bool b4]) mixed Tryz.func83 (by kernel_rfl) (mc x.kind x.name x.inst.op x.inst.a x.inst.b x.inst.n x.inst.form p l c x.e.num x.n b1 b2 b3 b4) ?_;unfold iK;have hl:=v.len;have hz:I7 x.e=(decide (l=0) && decide (x.e.num=0)):=by
  unfold I7
  congr 1
  rw [hl]
  simp
 refine aX ?_;intro h1 bx e1 zz1;have bx:aO h1 h.size 96 (encI p l c x):=bx;simp only [ao];unfold ln z1 z2 z3 z4;rw [hz]
 repeat' (first
  | (refine ad bx (x.n,()) rfl ?_; dsimp only [flat,az,ah,nA,cA])
  | (refine ad bx (x.name,()) rfl ?_; dsimp only [flat,az,ah,nA,cA])
  | (refine ad bx ((p,l,c),()) rfl ?_; dsimp only [flat,az,ah,nA,cA])
  | (refine ad bx ((x.e.num:Int),()) rfl ?_; dsimp only [flat,az,ah,nA,cA])
  | (refine ad bx (x.inst.op,x.inst.a,x.inst.b,x.inst.n,x.inst.form,()) rfl ?_; dsimp only [flat,az,ah,nA,cA])
  | refine bR (fun K' hK=>HX _ _ x.inst h1 K' hK) ?_
  | refine ⟨congrArg Value.bool ?_,e1⟩
  | refine af (fun q=>?_) (fun q=>?_))
 all_goals (
  try simp only [KT] at *
  simp_all [cF])
 all_goals omega
def J4 (g:Nat) (b1 b2 b3 b4:Bool) (k:Bool→T):T :=
 T.ae ⟨g,0,none⟩ [.int .i64,.string,.int .i64,.int .i64,.int .i64,.int .i32,.int .i64,.slice 109,.int .u32,.int .i64] <| fun (n5:Int) (s6:ByteArray) (n7:Int) (n8:Int) (n9:Int) (n10:Int) (n11:Int) (p12:Option Addr) (l13:Nat) (l14:Nat) (n15:Int) (n16:Int) =>
  T.call Tryz.prog 83 [.agg #[.int .i64 n5,.string s6,.int .i64 n7,.int .i64 n8,.int .i64 n9,.int .i32 n10,.int .i64 n11,.slice p12 l13 l14,.int .u32 n15,.int .i64 n16],.bool b1,.bool b2,.bool b3,.bool b4] false [(false,[.bool])] k
theorem eT {L:Lp} {K:Value→Hp→Prop} {h:Hp} {g:Nat} {x:bD} {p:Option Addr} {l c:Nat} {b1 b2 b3 b4:Bool} {k:Bool→T} (bx:aO h g 96 (encI p l c x)) (v:pI h p l x.e.au) (hk:∀ h',Ext h h'→k (ln x b1 b2 b3 b4) L K h'):J4 g b1 b2 b3 b4 k L K h:=by
 unfold J4;refine ad bx (x.kind,x.name,x.inst.op,x.inst.a,x.inst.b,x.inst.n,x.inst.form,(p,l,c),(x.e.num:Int),x.n,()) rfl ?_;dsimp only [flat,az,ah,nA,cA];exact dk (Jv v b1 b2 b3 b4) hk
theorem x9 (h:Hp) (n:Int):pQ Tryz.prog 86 [.int .i64 n] h (.bool (lR n)):=by
 refine cK mixed Tryz.func86 (by kernel_rfl) (lN n) ?_;unfold ir;refine bh (cs:=[(false,[.bool]),(false,[.int .i64])]) (fun y m h'=>∃ k:Nat,y=(false,((2^k:Nat):Int),())∧m=9-k∧k≤9∧h'=h∧(∀ j,j<k→¬ n=((2^j:Nat):Int))) (false,(1:Int),()) 9 rfl
  ⟨0,rfl,rfl,by omega,rfl,fun j hj=>by omega⟩ ?_
 rintro ⟨b1,n2,⟨⟩⟩ m h1 ⟨k,hy,hm,hk,rfl,hj⟩;cases hy;dsimp only [flat,az,ah,nA,cA];refine af (fun q=>?_) (fun q=>?_)
 ·have q:=of_decide_eq_true q;have hk8:k≤8:=by
   by_cases g:k=9
   ·subst g;exact absurd q (by decide)
   ·omega
  refine af (fun r=>?_) (fun r=>?_)
  ·have r:n=((2^k:Nat):Int):=by simpa using r
   refine ⟨?_,rfl⟩
   have:k=0∨k=1∨k=2∨k=3∨k=4∨k=5∨k=6∨k=7∨k=8:=by omega
   rcases this with rfl | rfl | rfl | rfl | rfl | rfl | rfl | rfl | rfl <;> (rw [r]; rfl)
  ·have r:¬ n=((2^k:Nat):Int):=by simpa using r
   have hp:2^k≤2^8:=Nat.pow_le_pow_right (by omega) hk8;have hp2:((2^k:Nat):Int)≤256:=by exact_mod_cast hp
   have hp3:(0:Int)≤((2^k:Nat):Int):=Int.natCast_nonneg _;rw [wrap_i64 (by omega) (by omega)];have h2:(2:Int)*((2^k:Nat):Int)=((2^(k+1):Nat):Int):=by rw [Nat.pow_succ]; omega
   rw [h2];refine aI (cs:=[(false,[.bool]),(false,[.int .i64])]) (false,((2^(k+1):Nat):Int),()) (9-(k+1)) rfl (by omega) rfl ⟨k+1,rfl,rfl,by omega,rfl,fun j hj'=>?_⟩
   by_cases g:j=k
   ·subst g; exact r
   ·exact hj j (by omega)
 ·have q:=of_decide_eq_false q;have hk9:k=9:=by
   by_cases g:k=9
   ·exact g
   ·have hp:2^k≤2^8:=Nat.pow_le_pow_right (by omega) (by omega);omega
  subst hk9;refine ⟨?_,rfl⟩;have a0:=hj 0 (by omega);have a1:=hj 1 (by omega);have a2:=hj 2 (by omega);have a3:=hj 3 (by omega);have a4:=hj 4 (by omega);have a5:=hj 5 (by omega);have a6:=hj 6 (by omega);have a7:=hj 7 (by omega);have a8:=hj 8 (by omega);unfold lR;simp only [Nat.reducePow] at a0 a1 a2 a3 a4 a5 a6 a7 a8;rw [decide_eq_false (by omega),decide_eq_false (by omega),decide_eq_false (by omega),decide_eq_false (by omega),decide_eq_false (by omega),decide_eq_false (by omega),decide_eq_false (by omega),decide_eq_false (by omega),decide_eq_false (by omega)];rfl
theorem HO {h:Hp} {x:bD} {p:Option Addr} {l c:Nat} (v:nB h p l x):HC Tryz.prog 47 #[nv p l c x,.int .i64 (0:Int)] h fun w h'=>w=zA (bm x 0)∧Ext h h':=by
 refine aK (args:=[nv p l c x,.int .i64 (0:Int)]) mixed Tryz.func47 (by kernel_rfl) (jw x.kind x.name x.inst.op x.inst.a x.inst.b x.inst.n x.inst.form p l c x.e.num x.n) ?_;unfold fv;have hml:maxLen=9223372036854775807:=rfl;refine aX ?_;intro h1 b1 e1 z1';have b1:aO h1 h.size 96 (encI p l c x):=b1;have v1:=v.ai e1;simp only [ao];refine cD (cs:=[(false,[.bool])]) (fun y h'=>y.1=bm x 0∧Ext h h') ?_ ?_
 rotate_left
 ·rintro ⟨b2,⟨⟩⟩ h' ⟨hy,e'⟩;simp only at hy;subst hy;dsimp only [flat,az,ah,nA,cA];cases hr:bm x 0
  ·exact ⟨rfl,e'⟩
  ·exact ⟨rfl,e'⟩
 have fin:∀ (b:Bool) (h':Hp),b=bm x 0→Ext h h'→T.again 0 [.bool b] [fun vs h'=>∃ y:qh (flat [(false,[.bool])]),vs=parts [(false,[.bool])] (fp _ y)∧(y.1=bm x 0∧Ext h h')] (fun w h'=>w=zA (bm x 0)∧Ext h h') h':=by
  rintro b h' rfl e';exact aY (cs:=[(false,[.bool])]) (J:=fun y h'=>y.1=bm x 0∧Ext h h') (bm x 0,()) rfl rfl ⟨rfl,e'⟩
 refine ad b1 (x.kind,()) rfl ?_;dsimp only [flat,az,ah,nA,cA]
 by_cases k1:x.kind=1
 ·refine aT (by rw [k1]; rfl) ?_;have hit:bm x 0=(bd x.name.data.toList && z2 x && z3 x && z4 x):=by unfold bm; rw [if_pos k1]
  refine ad b1 (x.name,()) rfl ?_;dsimp only [flat,az,ah,nA,cA];refine aD (oW x.name h1 (by have:=v.name; omega)) ?_;refine af (fun q=>?_) (fun q=>fin _ _ (by rw [hit,q]; rfl) e1);refine eT b1 v1.pq.vw ?_;intro h2 e2;exact fin _ _ (by rw [hit,q]; unfold ln; simp [Bool.and_assoc]) (e1.trans e2)
 refine aU (by simpa using k1) ?_
 by_cases k2:x.kind=2
 ·refine aT (by rw [k2]; rfl) ?_;have hit:bm x 0=(uP x.inst x.e && z1 x && z4 x):=by unfold bm; rw [if_neg k1,if_pos k2]; simp
  refine ad b1 (x.inst.op,x.inst.a,x.inst.b,x.inst.n,x.inst.form,()) rfl ?_;dsimp only [flat,az,ah,nA,cA];refine aX ?_;intro h2 b2 e2 z2';refine an b2 rfl (by simp) ?_;intro h3 b3 k3 z3';have b3:aO h3 h1.size 90 (kJ x.inst):=b3;have e13:Ext h1 h3:=e2.st k3 (Nat.le_refl _);have b13:=b1.ai e13 (by simp);rw [ao];refine ad b3 (x.inst.form,()) rfl ?_;dsimp only [flat,az,ah,nA,cA];refine cD (cs:=[]) (fun _ h'=>aO h' h1.size 90 (kJ { x.inst with form:=if nt x.inst.op then 1 else x.inst.form })∧Ext h1 h') ?_ ?_
  ·refine ad b3 (x.inst.op,()) rfl ?_;dsimp only [flat,az,ah,nA,cA];refine dk (sV h3 x.inst.op v.op) ?_;intro h4 e4;have b4:=b3.ai e4 (by simp);refine af (fun q=>?_) (fun q=>?_)
   ·refine an b4 rfl (by simp [kJ]) ?_;intro h5 b5 k5 z5;exact aY (cs:=[]) () rfl rfl ⟨by rw [if_pos q]; exact b5,(e13.trans e4).st k5 (by have:=e13.size; omega)⟩
   ·exact aY (cs:=[]) () rfl rfl ⟨by rw [if_neg (by rw [q]; decide)]; exact b4,e13.trans e4⟩
  rintro _ h5 ⟨b5,e5⟩;dsimp only [flat,az,ah,nA,cA];have b15:=b1.ai e5 (by simp);have v5:=v1.ai e5;refine cD (cs:=[(false,[.bool])]) (fun y h'=>y.1=(decide (x.inst.form=0) && decide (eG { x.inst with form:=if nt x.inst.op then 1 else x.inst.form }=0) && (z1 x && z4 x))∧Ext h5 h') ?_ ?_
  ·refine af (fun q=>?_) (fun q=>?_)
   ·have q:x.inst.form=0:=by simpa using q
    refine ad b5 (x.inst.op,x.inst.a,x.inst.b,x.inst.n,((if nt x.inst.op then (1:Int) else x.inst.form):Int),()) rfl ?_;dsimp only [flat,az,ah,nA,cA];refine aB (EV h5 x.inst.op x.inst.a x.inst.b x.inst.n (if nt x.inst.op then 1 else x.inst.form) v.op) ?_;rintro _ h6 ⟨rfl,e6⟩;refine ⟨(eG { x.inst with form:=if nt x.inst.op then 1 else x.inst.form },()),rfl,?_⟩;dsimp only [flat,az,ah,nA,cA];refine af (fun r=>?_) (fun r=>?_)
    ·have r:eG { x.inst with form:=if nt x.inst.op then 1 else x.inst.form }=0:=by simpa using r
     refine eT (b15.ai e6 (by simp)) (v5.ai e6).pq.vw ?_;intro h7 e7;exact aY (cs:=[(false,[.bool])]) (ln x true false false true,()) rfl rfl ⟨by rw [decide_eq_true q,decide_eq_true r]; rfl,e6.trans e7⟩
    ·have r:¬ eG { x.inst with form:=if nt x.inst.op then 1 else x.inst.form }=0:=by simpa using r
     exact aY (cs:=[(false,[.bool])]) (false,()) rfl rfl ⟨by rw [decide_eq_true q,decide_eq_false r]; rfl,e6⟩
   ·have q:¬ x.inst.form=0:=by simpa using q
    exact aY (cs:=[(false,[.bool])]) (false,()) rfl rfl ⟨by rw [decide_eq_false q]; rfl,Ch.refl _ _⟩
  rintro ⟨b10,⟨⟩⟩ h6 ⟨hy,e6⟩;simp only at hy;subst hy;dsimp only [flat,az,ah,nA,cA];have b6:=b5.ai e6 (by simp);have b16:=b15.ai e6 (by simp);have v6:=v5.ai e6;refine ad b6 (x.inst.op,()) rfl ?_;dsimp only [flat,az,ah,nA,cA];refine dk (Dj h6 x.inst.op v.op) ?_;intro h7 e7;have b7:=b6.ai e7 (by simp);have b17:=b16.ai e7 (by simp);have v7:=v6.ai e7;have e07:=((e1.trans e5).trans e6).trans e7;have hchk:yK x.inst.op=true→(decide (x.inst.form=0) && decide (eG { x.inst with form:=if nt x.inst.op then 1 else x.inst.form }=0) && (z1 x && z4 x) && (decide (x.inst.n=0) && kO none x.e.au))=bm x 0:=by
   intro hw;rw [hit];unfold uP;rw [if_pos hw]
   by_cases f0:x.inst.form=0
   ·rw [decide_eq_true f0,f0]
    by_cases c0:eG { x.inst with form:=if nt x.inst.op then 1 else 0 }=0
    ·have hs:=(Bp c0).1;simp only at hs;rw [decide_eq_true c0,decide_eq_true hs];simp only [Bool.true_and]
     ac_rfl
    ·rw [decide_eq_false c0]
     simp
   ·rw [decide_eq_false f0]
    simp
  have hchk2:yK x.inst.op=false→(decide (x.inst.form=0) && decide (eG { x.inst with form:=if nt x.inst.op then 1 else x.inst.form }=0) && (z1 x && z4 x) && z3 x)=bm x 0:=by
   intro hw;rw [hit];unfold uP;rw [if_neg (show ¬ (yK x.inst.op=true) by rw [hw]; decide)];have hsp:nt x.inst.op=false:=by
    unfold yK at hw;unfold nt;rw [decide_eq_false_iff_not] at hw ⊢;omega
   rw [if_neg (show ¬ (nt x.inst.op=true) by rw [hsp]; decide)]
   by_cases f0:x.inst.form=0
   ·rw [decide_eq_true f0];have hi:({ x.inst with form:=x.inst.form }:Ins)=x.inst:=rfl;rw [hi]
    by_cases c0:eG x.inst=0
    ·have hs:=(Bp c0).1;rw [decide_eq_true c0,decide_eq_true hs];unfold z3;simp only [Bool.true_and]
     ac_rfl
    ·rw [decide_eq_false c0]
     simp
   ·rw [decide_eq_false f0]
    simp
  generalize (decide (x.inst.form=0) && decide (eG { x.inst with form:=if nt x.inst.op then 1 else x.inst.form }=0) && (z1 x && z4 x))=G at *;refine af (fun hw=>?_) (fun hw=>?_)
  ·have hchk:=hchk hw;refine af (fun g=>?_) (fun g=>fin _ _ (by rw [← hchk,g]; rfl) e07);refine ad b7 (x.inst.n,()) rfl ?_;dsimp only [flat,az,ah,nA,cA];refine af (fun r=>?_) (fun r=>?_)
   ·have r:x.inst.n=0:=by simpa using r
    refine ad b17 ((p,l,c),(x.e.num:Int),()) rfl ?_;dsimp only [flat,az,ah,nA,cA];refine aB (qL (c:=c) v7.pq.vw (by have:=v.pq.many; omega) v.pq.names) ?_;rintro _ h8 ⟨rfl,e8⟩;refine ⟨(kO none x.e.au,()),rfl,?_⟩;exact fin _ _ (by rw [← hchk,g,decide_eq_true r]; simp) (e07.trans e8)
   ·have r:¬ x.inst.n=0:=by simpa using r
    exact fin _ _ (by rw [← hchk,decide_eq_false r]; simp) e07
  ·have hchk:=hchk2 hw;refine af (fun g=>?_) (fun g=>fin _ _ (by rw [← hchk,g]; rfl) e07);refine eT b17 v7.pq.vw ?_;intro h8 e8;exact fin _ _ (by rw [← hchk,g]; unfold ln; simp) (e07.trans e8)
 refine aU (by simpa using k2) ?_
 by_cases k3:x.kind=3
 ·refine aT (by rw [k3]; rfl) ?_;have hit:bm x 0=(lR x.n && z1 x && z2 x && z3 x):=by unfold bm; rw [if_neg k1,if_neg k2,if_pos k3]
  refine ad b1 (x.n,()) rfl ?_;dsimp only [flat,az,ah,nA,cA];refine aD (x9 h1 x.n) ?_;refine af (fun q=>?_) (fun q=>fin _ _ (by rw [hit,q]; rfl) e1);refine eT b1 v1.pq.vw ?_;intro h2 e2;exact fin _ _ (by rw [hit,q]; unfold ln; simp [Bool.and_assoc]) (e1.trans e2)
 refine aU (by simpa using k3) ?_
 by_cases k4:x.kind=4
 ·refine aT (by rw [k4]; rfl) ?_;have hit:bm x 0=(z1 x && z2 x && z3 x && z4 x):=by unfold bm; rw [if_neg k1,if_neg k2,if_neg k3,if_pos k4]; simp
  refine eT b1 v1.pq.vw ?_;intro h2 e2;exact fin _ _ (by rw [hit]; unfold ln; simp [Bool.and_assoc]) (e1.trans e2)
 refine aU (by simpa using k4) ?_
 by_cases k5:x.kind=5
 ·refine aT (by rw [k5]; rfl) ?_;exact fin _ _ (by unfold bm; rw [if_neg k1,if_neg k2,if_neg k3,if_neg k4,if_pos k5]; simp) e1
 refine aU (by simpa using k5) ?_
 by_cases k6:x.kind=6
 ·refine aT (by rw [k6]; rfl) ?_;exact fin _ _ (by unfold bm; rw [if_neg k1,if_neg k2,if_neg k3,if_neg k4,if_neg k5,if_pos k6]; simp) e1
 refine aU (by simpa using k6) ?_
 by_cases k7:x.kind=7
 ·refine aT (by rw [k7]; rfl) ?_;exact fin _ _ (by unfold bm; rw [if_neg k1,if_neg k2,if_neg k3,if_neg k4,if_neg k5,if_neg k6,if_pos k7]; simp) e1
 refine aU (by simpa using k7) ?_;exact fin _ _ (by unfold bm; rw [if_neg k1,if_neg k2,if_neg k3,if_neg k4,if_neg k5,if_neg k6,if_neg k7]) e1
theorem Hk {h:Hp} {x:bD} {p:Option Addr} {l c:Nat} (v:nB h p l x):HC Tryz.prog 47 #[nv p l c x,.int .i64 (1:Int)] h fun w h'=>w=zA (bm x 1)∧Ext h h':=by
 refine aK (args:=[nv p l c x,.int .i64 (1:Int)]) mixed Tryz.func47 (by kernel_rfl) (jM x.kind x.name x.inst.op x.inst.a x.inst.b x.inst.n x.inst.form p l c x.e.num x.n) ?_;unfold fw;have hml:maxLen=9223372036854775807:=rfl;refine aX ?_;intro h1 b1 e1 z1';have b1:aO h1 h.size 96 (encI p l c x):=b1;have v1:=v.ai e1;simp only [ao];refine cD (cs:=[(false,[.bool])]) (fun y h'=>y.1=bm x 1∧Ext h h') ?_ ?_
 rotate_left
 ·rintro ⟨b2,⟨⟩⟩ h' ⟨hy,e'⟩;simp only at hy;subst hy;dsimp only [flat,az,ah,nA,cA];cases hr:bm x 1
  ·exact ⟨rfl,e'⟩
  ·exact ⟨rfl,e'⟩
 have fin:∀ (b:Bool) (h':Hp),b=bm x 1→Ext h h'→T.again 0 [.bool b] [fun vs h'=>∃ y:qh (flat [(false,[.bool])]),vs=parts [(false,[.bool])] (fp _ y)∧(y.1=bm x 1∧Ext h h')] (fun w h'=>w=zA (bm x 1)∧Ext h h') h':=by
  rintro b h' rfl e';exact aY (cs:=[(false,[.bool])]) (J:=fun y h'=>y.1=bm x 1∧Ext h h') (bm x 1,()) rfl rfl ⟨rfl,e'⟩
 refine ad b1 (x.kind,()) rfl ?_;dsimp only [flat,az,ah,nA,cA]
 by_cases k1:x.kind=1
 ·refine aT (by rw [k1]; rfl) ?_;have hit:bm x 1=(bd x.name.data.toList && z2 x && z3 x && z4 x):=by unfold bm; rw [if_pos k1]
  refine ad b1 (x.name,()) rfl ?_;dsimp only [flat,az,ah,nA,cA];refine aD (oW x.name h1 (by have:=v.name; omega)) ?_;refine af (fun q=>?_) (fun q=>fin _ _ (by rw [hit,q]; rfl) e1);refine eT b1 v1.pq.vw ?_;intro h2 e2;exact fin _ _ (by rw [hit,q]; unfold ln; simp [Bool.and_assoc]) (e1.trans e2)
 refine aU (by simpa using k1) ?_
 by_cases k2:x.kind=2
 ·refine aT (by rw [k2]; rfl) ?_;have hit:bm x 1=(false):=by unfold bm; rw [if_neg k1,if_pos k2]; simp
  refine ad b1 (x.inst.op,x.inst.a,x.inst.b,x.inst.n,x.inst.form,()) rfl ?_;dsimp only [flat,az,ah,nA,cA];refine aX ?_;intro h2 b2 e2 z2';refine an b2 rfl (by simp) ?_;intro h3 b3 k3 z3';have b3:aO h3 h1.size 90 (kJ x.inst):=b3;have e13:Ext h1 h3:=e2.st k3 (Nat.le_refl _);have b13:=b1.ai e13 (by simp);rw [ao];refine ad b3 (x.inst.form,()) rfl ?_;dsimp only [flat,az,ah,nA,cA];refine cD (cs:=[]) (fun _ h'=>aO h' h1.size 90 (kJ { x.inst with form:=if nt x.inst.op then 1 else x.inst.form })∧Ext h1 h') ?_ ?_
  ·refine ad b3 (x.inst.op,()) rfl ?_;dsimp only [flat,az,ah,nA,cA];refine dk (sV h3 x.inst.op v.op) ?_;intro h4 e4;have b4:=b3.ai e4 (by simp);refine af (fun q=>?_) (fun q=>?_)
   ·refine an b4 rfl (by simp [kJ]) ?_;intro h5 b5 k5 z5;exact aY (cs:=[]) () rfl rfl ⟨by rw [if_pos q]; exact b5,(e13.trans e4).st k5 (by have:=e13.size; omega)⟩
   ·exact aY (cs:=[]) () rfl rfl ⟨by rw [if_neg (by rw [q]; decide)]; exact b4,e13.trans e4⟩
  rintro _ h5 ⟨b5,e5⟩;dsimp only [flat,az,ah,nA,cA];have b15:=b1.ai e5 (by simp);have v5:=v1.ai e5;refine cD (cs:=[(false,[.bool])]) (fun y h'=>y.1=false∧Ext h5 h') (aY (cs:=[(false,[.bool])]) (false,()) rfl rfl ⟨rfl,Ch.refl _ _⟩) ?_;rintro ⟨b10,⟨⟩⟩ h6 ⟨hy,e6⟩;simp only at hy;subst hy;dsimp only [flat,az,ah,nA,cA];have b6:=b5.ai e6 (by simp);have b16:=b15.ai e6 (by simp);have v6:=v5.ai e6;refine ad b6 (x.inst.op,()) rfl ?_;dsimp only [flat,az,ah,nA,cA];refine dk (Dj h6 x.inst.op v.op) ?_;intro h7 e7;have b7:=b6.ai e7 (by simp);have b17:=b16.ai e7 (by simp);have v7:=v6.ai e7;have e07:=((e1.trans e5).trans e6).trans e7;refine af (fun hw=>?_) (fun hw=>?_)
  ·exact aU rfl (fin _ _ (by rw [hit]) e07)
  ·exact aU rfl (fin _ _ (by rw [hit]) e07)
 refine aU (by simpa using k2) ?_
 by_cases k3:x.kind=3
 ·refine aT (by rw [k3]; rfl) ?_;have hit:bm x 1=(lR x.n && z1 x && z2 x && z3 x):=by unfold bm; rw [if_neg k1,if_neg k2,if_pos k3]
  refine ad b1 (x.n,()) rfl ?_;dsimp only [flat,az,ah,nA,cA];refine aD (x9 h1 x.n) ?_;refine af (fun q=>?_) (fun q=>fin _ _ (by rw [hit,q]; rfl) e1);refine eT b1 v1.pq.vw ?_;intro h2 e2;exact fin _ _ (by rw [hit,q]; unfold ln; simp [Bool.and_assoc]) (e1.trans e2)
 refine aU (by simpa using k3) ?_
 by_cases k4:x.kind=4
 ·refine aT (by rw [k4]; rfl) ?_;exact fin _ _ (by unfold bm; rw [if_neg k1,if_neg k2,if_neg k3,if_pos k4]; simp) e1
 refine aU (by simpa using k4) ?_
 by_cases k5:x.kind=5
 ·refine aT (by rw [k5]; rfl) ?_;have hit:bm x 1=(decide (-128≤x.n) && decide (x.n≤255) && z1 x && z2 x && z3 x):=by unfold bm; rw [if_neg k1,if_neg k2,if_neg k3,if_neg k4,if_pos k5]; simp
  refine ad b1 (x.n,()) rfl ?_;dsimp only [flat,az,ah,nA,cA];refine af (fun q=>?_) (fun q=>fin _ _ (by rw [hit,show decide (-128≤x.n)=false from q]; rfl) e1);refine ad b1 (x.n,()) rfl ?_;dsimp only [flat,az,ah,nA,cA];refine af (fun r=>?_) (fun r=>fin _ _ (by rw [hit,r]; simp) e1);refine eT b1 v1.pq.vw ?_;intro h2 e2;exact fin _ _ (by rw [hit,r,show decide (-128≤x.n)=true from q]; unfold ln; simp [Bool.and_assoc]) (e1.trans e2)
 refine aU (by simpa using k5) ?_
 by_cases k6:x.kind=6
 ·refine aT (by rw [k6]; rfl) ?_;have hit:bm x 1=(kO none x.e.au && z1 x && z2 x && z4 x):=by unfold bm; rw [if_neg k1,if_neg k2,if_neg k3,if_neg k4,if_neg k5,if_pos k6]; simp
  refine ad b1 ((p,l,c),(x.e.num:Int),()) rfl ?_;dsimp only [flat,az,ah,nA,cA];refine aB (qL (c:=c) v1.pq.vw (by have:=v.pq.many; omega) v.pq.names) ?_;rintro _ h2 ⟨rfl,e2⟩;refine ⟨(kO none x.e.au,()),rfl,?_⟩;dsimp only [flat,az,ah,nA,cA];refine af (fun q=>?_) (fun q=>fin _ _ (by rw [hit,q]; rfl) (e1.trans e2));refine eT (b1.ai e2 (by simp)) (v1.ai e2).pq.vw ?_;intro h3 e3;exact fin _ _ (by rw [hit,q]; unfold ln; simp [Bool.and_assoc]) ((e1.trans e2).trans e3)
 refine aU (by simpa using k6) ?_
 by_cases k7:x.kind=7
 ·refine aT (by rw [k7]; rfl) ?_;have hit:bm x 1=(decide (0≤x.n) && decide (x.n≤1048576) && z1 x && z2 x && z3 x):=by unfold bm; rw [if_neg k1,if_neg k2,if_neg k3,if_neg k4,if_neg k5,if_neg k6,if_pos k7]; simp
  refine ad b1 (x.n,()) rfl ?_;dsimp only [flat,az,ah,nA,cA];refine af (fun q=>?_) (fun q=>fin _ _ (by rw [hit,show decide (0≤x.n)=false from q]; rfl) e1);refine ad b1 (x.n,()) rfl ?_;dsimp only [flat,az,ah,nA,cA];refine af (fun r=>?_) (fun r=>fin _ _ (by rw [hit,r]; simp) e1);refine eT b1 v1.pq.vw ?_;intro h2 e2;exact fin _ _ (by rw [hit,r,show decide (0≤x.n)=true from q]; unfold ln; simp [Bool.and_assoc]) (e1.trans e2)
 refine aU (by simpa using k7) ?_;exact fin _ _ (by unfold bm; rw [if_neg k1,if_neg k2,if_neg k3,if_neg k4,if_neg k5,if_neg k6,if_neg k7]) e1
theorem y5 {h:Hp} {x:bD} {p:Option Addr} {l c k:Nat} (v:nB h p l x) (hk:k<2):HC Tryz.prog 47 #[nv p l c x,.int .i64 (k:Int)] h fun w h'=>w=zA (bm x k)∧Ext h h':=by
 have:k=0∨k=1:=by omega
 rcases this with rfl | rfl
 ·exact HO v
 ·exact Hk v
def pJ (h:Hp):Prop:=∃ e f,h[1]?=some (.cells (hO cd cm).toArray e f)
theorem pJ.ai {ws:List Nat} {h h':Hp} (t:pJ h) (k:Ch ws h h') (hw:1∉ws):pJ h':=by
 obtain ⟨e,f,ht⟩:=t;exact ⟨e,f,k.get ht hw⟩
theorem pJ.J3 {h:Hp} (t:pJ h):y7 h:=by
 obtain ⟨e,f,ht⟩:=t;exact ⟨_,_,e,f,ht⟩
theorem xZ {h:Hp} {g:Nat} {c:Array Value} {e:TypeId} {f:Nat × Nat} (hg:h[g]?=some (.cells c e f)):∀ (vs:List Value) (i:Nat),(∀ j,j<vs.length→c[i+j]?=vs[j]?)→aG h ⟨g,0,none⟩ i vs
 | [],_,_=>trivial
 | v::vs,i,hv=>by
  refine ⟨?_,xZ hg vs (i+1) fun j hj=>?_⟩
  ·rw [ao,kH hg]
   have:=hv 0 (by simp)
   simpa using this
  ·have:=hv (j+1) (by simpa using hj)
   rw [List.getElem?_cons_succ] at this;rw [← this]; congr 1; omega
theorem pJ.all {h:Hp} (t:pJ h):aG h ⟨1,0,none⟩ 0 (hO cd cm):=by
 obtain ⟨e,f,ht⟩:=t;exact xZ ht _ 0 (fun j hj=>by simp)
def Lh:Value:=.agg (hO cd cm).toArray
theorem Ic (h:Hp) (K:Value→Hp→Prop):∀ k:Nat,k<43→aH Tryz.prog (Instr.index 215 Lh (.int .i64 (k:Int))) h K=K (.agg #[.string (cd k),.int .u8 (cm k),.int .i64 (bS.getD k 0:Nat)]) h
 | 0,_=>by kernel_rfl
 | 1,_=>by kernel_rfl
 | 2,_=>by kernel_rfl
 | 3,_=>by kernel_rfl
 | 4,_=>by kernel_rfl
 | 5,_=>by kernel_rfl
 | 6,_=>by kernel_rfl
 | 7,_=>by kernel_rfl
 | 8,_=>by kernel_rfl
 | 9,_=>by kernel_rfl
 | 10,_=>by kernel_rfl
 | 11,_=>by kernel_rfl
 | 12,_=>by kernel_rfl
 | 13,_=>by kernel_rfl
 | 14,_=>by kernel_rfl
 | 15,_=>by kernel_rfl
 | 16,_=>by kernel_rfl
 | 17,_=>by kernel_rfl
 | 18,_=>by kernel_rfl
 | 19,_=>by kernel_rfl
 | 20,_=>by kernel_rfl
 | 21,_=>by kernel_rfl
 | 22,_=>by kernel_rfl
 | 23,_=>by kernel_rfl
 | 24,_=>by kernel_rfl
 | 25,_=>by kernel_rfl
 | 26,_=>by kernel_rfl
 | 27,_=>by kernel_rfl
 | 28,_=>by kernel_rfl
 | 29,_=>by kernel_rfl
 | 30,_=>by kernel_rfl
 | 31,_=>by kernel_rfl
 | 32,_=>by kernel_rfl
 | 33,_=>by kernel_rfl
 | 34,_=>by kernel_rfl
 | 35,_=>by kernel_rfl
 | 36,_=>by kernel_rfl
 | 37,_=>by kernel_rfl
 | 38,_=>by kernel_rfl
 | 39,_=>by kernel_rfl
 | 40,_=>by kernel_rfl
 | 41,_=>by kernel_rfl
 | 42,_=>by kernel_rfl
 | k+43,hk=>by omega
def JU (s0:ByteArray):T :=
 T.loop [(false,[.int .i64]),(false,[.bool]),(false,[.int .i64])] [.int .i64 (0:Int),.bool false,.int .i64 (0:Int)] <| fun (n130:Int) (b131:Bool) (n132:Int) =>
 cond (decide (n132<(43:Int)))
 (T.bj Tryz.prog (Instr.index 215 Lh (.int .i64 n132)) false [(true,[.string,.int .u8,.int .i64])] <| fun (s133:ByteArray) (n134:Int) (n135:Int) =>
 T.new [.string ⟨#[]⟩,.int .u8 (0:Int),.int .i64 (0:Int)] 158 <| fun (a136:Addr) =>
 T.ap a136 [.string s133,.int .u8 n134,.int .i64 n135] <|
 T.ae a136 [.string] <| fun (s137:ByteArray) =>
 cond ((ByteArray.toList s137)==(ByteArray.toList s0))
  (T.ret (.tuple #[.int .i64 (IntKind.wrap .i64 (n132+(1:Int))),.bool true]))
  (T.again 0 [.int .i64 n130,.bool b131,.int .i64 (IntKind.wrap .i64 (n132+(1:Int)))]))
 (T.ret (.tuple #[.int .i64 (0:Int),.bool false]))
def K5:qh [.string,.int .u8,.int .i64,.string,.int .u8,.int .i64,.string,.int .u8,.int .i64,.string,.int .u8,.int .i64,.string,.int .u8,.int .i64,.string,.int .u8,.int .i64,.string,.int .u8,.int .i64,.string,.int .u8,.int .i64,.string,.int .u8,.int .i64,.string,.int .u8,.int .i64,.string,.int .u8,.int .i64,.string,.int .u8,.int .i64,.string,.int .u8,.int .i64,.string,.int .u8,.int .i64,.string,.int .u8,.int .i64,.string,.int .u8,.int .i64,.string,.int .u8,.int .i64,.string,.int .u8,.int .i64,.string,.int .u8,.int .i64,.string,.int .u8,.int .i64,.string,.int .u8,.int .i64,.string,.int .u8,.int .i64,.string,.int .u8,.int .i64,.string,.int .u8,.int .i64,.string,.int .u8,.int .i64,.string,.int .u8,.int .i64,.string,.int .u8,.int .i64,.string,.int .u8,.int .i64,.string,.int .u8,.int .i64,.string,.int .u8,.int .i64,.string,.int .u8,.int .i64,.string,.int .u8,.int .i64,.string,.int .u8,.int .i64,.string,.int .u8,.int .i64,.string,.int .u8,.int .i64,.string,.int .u8,.int .i64,.string,.int .u8,.int .i64,.string,.int .u8,.int .i64,.string,.int .u8,.int .i64,.string,.int .u8,.int .i64,.string,.int .u8,.int .i64,.string,.int .u8,.int .i64,.string,.int .u8,.int .i64]:=(cd 0,cm 0,((bS.getD 0 0:Nat):Int),cd 1,cm 1,((bS.getD 1 0:Nat):Int),cd 2,cm 2,((bS.getD 2 0:Nat):Int),cd 3,cm 3,((bS.getD 3 0:Nat):Int),cd 4,cm 4,((bS.getD 4 0:Nat):Int),cd 5,cm 5,((bS.getD 5 0:Nat):Int),cd 6,cm 6,((bS.getD 6 0:Nat):Int),cd 7,cm 7,((bS.getD 7 0:Nat):Int),cd 8,cm 8,((bS.getD 8 0:Nat):Int),cd 9,cm 9,((bS.getD 9 0:Nat):Int),cd 10,cm 10,((bS.getD 10 0:Nat):Int),cd 11,cm 11,((bS.getD 11 0:Nat):Int),cd 12,cm 12,((bS.getD 12 0:Nat):Int),cd 13,cm 13,((bS.getD 13 0:Nat):Int),cd 14,cm 14,((bS.getD 14 0:Nat):Int),cd 15,cm 15,((bS.getD 15 0:Nat):Int),cd 16,cm 16,((bS.getD 16 0:Nat):Int),cd 17,cm 17,((bS.getD 17 0:Nat):Int),cd 18,cm 18,((bS.getD 18 0:Nat):Int),cd 19,cm 19,((bS.getD 19 0:Nat):Int),cd 20,cm 20,((bS.getD 20 0:Nat):Int),cd 21,cm 21,((bS.getD 21 0:Nat):Int),cd 22,cm 22,((bS.getD 22 0:Nat):Int),cd 23,cm 23,((bS.getD 23 0:Nat):Int),cd 24,cm 24,((bS.getD 24 0:Nat):Int),cd 25,cm 25,((bS.getD 25 0:Nat):Int),cd 26,cm 26,((bS.getD 26 0:Nat):Int),cd 27,cm 27,((bS.getD 27 0:Nat):Int),cd 28,cm 28,((bS.getD 28 0:Nat):Int),cd 29,cm 29,((bS.getD 29 0:Nat):Int),cd 30,cm 30,((bS.getD 30 0:Nat):Int),cd 31,cm 31,((bS.getD 31 0:Nat):Int),cd 32,cm 32,((bS.getD 32 0:Nat):Int),cd 33,cm 33,((bS.getD 33 0:Nat):Int),cd 34,cm 34,((bS.getD 34 0:Nat):Int),cd 35,cm 35,((bS.getD 35 0:Nat):Int),cd 36,cm 36,((bS.getD 36 0:Nat):Int),cd 37,cm 37,((bS.getD 37 0:Nat):Int),cd 38,cm 38,((bS.getD 38 0:Nat):Int),cd 39,cm 39,((bS.getD 39 0:Nat):Int),cd 40,cm 40,((bS.getD 40 0:Nat):Int),cd 41,cm 41,((bS.getD 41 0:Nat):Int),cd 42,cm 42,((bS.getD 42 0:Nat):Int),())
theorem Iy:fp _ K5=hO cd cm:=by kernel_rfl
theorem EY {L:Lp} {K:Value→Hp→Prop} {h:Hp} (t:pJ h) {s:ByteArray} (hk:JU s L K h):wC s L K h :=
 ⟨K5,by rw [Iy]; exact t.all,hk⟩
theorem Br (nm:Nat→List UInt8) (s:List UInt8):∀ (m k:Nat),k≤m→ka nm s k≠0→ka nm s m=ka nm s k
 | 0,k,h,_=>by
  have:k=0:=by omega
  rw [this]
 | m+1,k,h,hk=>by
  by_cases e:k=m+1
  ·rw [e]
  ·have ih:=Br nm s m k (by omega) hk;show (match ka nm s m with | 0=>if nm m=s then m+1 else 0 | n=>n)=ka nm s k;rw [ih];cases hh:ka nm s k with
   | zero=>exact absurd hh hk
   | succ n=>rfl
theorem CX (nm:Nat→List UInt8) (s:List UInt8) (k:Nat) (h:ka nm s k=0):ka nm s (k+1)=if nm k=s then k+1 else 0:=by
 show (match ka nm s k with | 0=>if nm k=s then k+1 else 0 | n=>n)=_;rw [h];rfl
theorem JB {h:Hp} (t:pJ h) (s:ByteArray):HC Tryz.prog 98 #[.string s] h fun u h'=>u=.tuple #[.int .i64 (lm s:Nat),.bool (decide (lm s≠0))]∧Ext h h':=by
 refine aK (args:=[.string s]) mixed Tryz.func98 (by kernel_rfl) (xC s) ?_;refine EY t ?_;unfold JU;refine bh (cs:=[(false,[.int .i64]),(false,[.bool]),(false,[.int .i64])]) (fun x n h'=>∃ k:Nat,x.2.2.1=(k:Int)∧k≤43∧n=43-k∧Ext h h'∧ka Ei s.data.toList k=0) ((0:Int),false,(0:Int),()) 43 rfl ⟨0,rfl,by omega,by omega,Ch.refl _ _,rfl⟩ ?_;rintro ⟨n130,b131,n132,⟨⟩⟩ n h1 ⟨k,hk,hk43,rfl,e1,h0⟩;simp only at hk;subst hk;dsimp only [flat,az,ah,nA,cA];refine af (fun q=>?_) (fun q=>?_)
 ·have q:=of_decide_eq_true q;have hlt:k<43:=by omega
  show aH _ _ _ _;rw [Ic _ _ k hlt];refine ⟨(cd k,cm k,((bS.getD k 0:Nat):Int),()),rfl,?_⟩;dsimp only [flat,az,ah,nA,cA];refine aX ?_;intro h2 b2 e2 z2;refine an b2 rfl (by simp) ?_;intro h3 b3 k3 z3;have b3:aO h3 h1.size 158 [.string (cd k),.int .u8 (cm k),.int .i64 ((bS.getD k 0:Nat):Int)]:=b3;have e3:Ext h h3:=e1.trans (Ch.trans e2 k3 (fun i hi hl=>by simp at hi; omega));refine ad b3 (cd k,()) rfl ?_;dsimp only [flat,az,ah,nA,cA];have hn:=CX Ei s.data.toList k h0;have hw:IntKind.wrap .i64 ((k:Int)+1)=((k+1:Nat):Int):=by rw [wrap_i64 (by omega) (by omega)]; omega
  rw [ByteArray.toList_eq,ByteArray.toList_eq,hw];refine af (fun r=>?_) (fun r=>?_)
  ·have r:Ei k=s.data.toList:=eq_of_beq r;rw [if_pos r] at hn;have hf:lm s=k+1:=by
    unfold lm;rw [Br _ _ 43 (k+1) (by omega) (by omega),hn]
   refine ⟨?_,e3⟩;rw [hf]
   simp
  ·have r:¬ Ei k=s.data.toList:=ne_of_beq_false r;rw [if_neg r] at hn;exact aI (cs:=[(false,[.int .i64]),(false,[.bool]),(false,[.int .i64])]) (n130,b131,((k+1:Nat):Int),()) (43-(k+1)) rfl (by omega) rfl ⟨k+1,rfl,by omega,rfl,e3,hn⟩
 ·have q:=of_decide_eq_false q
  have:k=43:=by omega
  subst this;refine ⟨?_,e1⟩;unfold lm;rw [h0]
  simp
end Go.Sx.Ob
set_option linter.unusedVariables false
set_option linter.unusedSimpArgs false
set_option maxRecDepth 100000
namespace Go.Sx
open Go.Proofs
def RQ (h:Hp) (A:Nat) (us ts:List Tok) (d:Int) (e:Nat):Prop:=∃ k,RB h A us k d e∧ts=us.drop k
theorem RQ.ai {ws:List Nat} {h h':Hp} {A:Nat} {us ts:List Tok} {d:Int} {e:Nat} (b:RQ h A us ts d e) (c:Ch ws h h') (hw:∀ i,i∈ws→A<i):RQ h' A us ts d e:=by
 obtain ⟨k,b,ht⟩:=b;exact ⟨k,b.ai c hw,ht⟩
theorem RQ.lt {h:Hp} {A:Nat} {us ts:List Tok} {d:Int} {e:Nat} (b:RQ h A us ts d e):A<h.size:=by
 obtain ⟨k,b,ht⟩:=b;exact b.lt
def M4 (h:Hp) (A:Nat) (us:List Tok) (n:Nat) (d:Int) (res:cP) (v:Value) (h':Hp):Prop :=
 Ch [A] h h'∧∃ x p l c ts' d' e',v=qQ p l c x∧SL h' h.size 109 2 p l c (x.au.map cV)∧Good x∧RQ h' A us ts' d' e'∧Am n d x ts' d' e' res
section rules
variable {L:Lp} {K:Value→Hp→Prop} {h:Hp}
theorem CB {h hx:Hp} {A:Nat} {us ts':List Tok} {n:Nat} {d d':Int} {res:cP} {g1 g4 b:Nat} {x:ey} {p:Option Addr} {l c e':Nat} {L:Lp} (kx:Ch [A] h hx) (hg1:h.size≤g1) (hAg:A<g1) (b1:aO hx g1 94 [.slice none 0 0,.int .u32 0]) (b4:aO hx g4 94 [.slice p l c,.int .u32 (x.num:Int)])
  (s:SL hx b 109 2 p l c (x.au.map cV)) (hb:g1<b) (gx:Good x) (rq:RQ hx A us ts' d' e') (post:Am n d x ts' d' e' res) :
  (T.ae ⟨g4,0,none⟩ [.slice 109,.int .u32] fun (p:Option Addr) (l c:Nat) (n:Int)=>T.ap ⟨g1,0,none⟩ [.slice p l c,.int .u32 n] <| T.ae ⟨g1,0,none⟩ [.slice 109,.int .u32] fun (p:Option Addr) (l c:Nat) (n:Int)=>T.ret (.agg #[.slice p l c,.int .u32 n])) L (M4 h A us n d res) hx:=by
 refine ad b4 ((p,l,c),(x.num:Int),()) rfl ?_;dsimp only [flat,az,ah,nA,cA];refine an b1 rfl (by simp) ?_;intro h7 b7 k7 z7;have b7:aO h7 g1 94 [.slice p l c,.int .u32 (x.num:Int)]:=b7;refine ad b7 ((p,l,c),(x.num:Int),()) rfl ?_;exact ⟨Ch.trans kx k7 (fun j hj hl=>by simp at hj; omega),x,p,l,c,ts',d',e',rfl,(s.bf k7 (fun j hj=>by have:=(s.bW hj).1; simp; omega)).mono (by omega),gx,rq.ai k7 (by simp; omega),post⟩
end rules
theorem DS {α:Type} {l r:List α} {p:α} {i:Nat} (h:l.drop i=p::r):i<l.length:=by
 rcases Nat.lt_or_ge i l.length with h1 | h1
 ·exact h1
 ·rw [List.drop_eq_nil_of_le h1] at h; cases h
theorem JR:Tryz.prog.underlying 233=some (.slice 236):=by kernel_rfl
end Go.Sx
set_option linter.unusedVariables false
set_option linter.unusedSimpArgs false
set_option maxRecDepth 100000
namespace Go.Sx.Ob
open Go.Proofs
structure DU (h:Hp) (p:Option Addr) (l:Nat) (al:List In):Prop where
 len:l=al.length
 cells:∀ k,(hk:k<al.length)→∃ a,p=some a∧aG h (a.add (k*1)) 0 al[k].val
 ul:∀ a,a∈al→Vw h a.p a.l a.c a.ts
 bW:∀ a,a∈al→∀ i,i∈aC a.p→i<h.size
 wf:∀ a,a∈al→Wf a.ts
 many:∀ a,a∈al→a.ts.length≤2^40
 ne:∀ a,a∈al→a.ts≠[]
 text:∀ a,a∈al→∀ t,t∈a.ts→t.text.size≤9223372036854775807
theorem DU.ai {h h':Hp} {p:Option Addr} {l:Nat} {al:List In} (v:DU h p l al) (e:Ext h h'):DU h' p l al :=
 ⟨v.len,fun k hk=>by
  obtain ⟨a,ha,hc⟩:=v.cells k hk;exact ⟨a,ha,bE e (by simp) _ _ hc⟩,fun a ha=>(v.ul a ha).ai e (by simp),fun a ha i hi=>Nat.lt_of_lt_of_le (v.bW a ha i hi) e.size,v.wf,v.many,v.ne,v.text⟩
theorem DU.of {h:Hp} {b:Nat} {te es:TypeId} {p:Option Addr} {c:Nat} {al:List In} (A:gj h b te es p c al) (w:∀ a,a∈al→Wf a.ts∧a.ts.length≤2^40∧a.ts≠[]∧∀ t,t∈a.ts→t.text.size≤9223372036854775807):DU h p al.length al:=by
 refine ⟨rfl,fun k hk=>?_,fun a ha=>(A.ul a ha).vw,fun a ha i hi=>((A.ul a ha).bW hi).2,fun a ha=>(w a ha).1,fun a ha=>(w a ha).2.1,fun a ha=>(w a ha).2.2.1,fun a ha=>(w a ha).2.2.2⟩;obtain ⟨a,ha,hc⟩:=A.out.cells (i:=k) (by rw [List.length_map]; exact hk);rw [List.getElem_map] at hc;exact ⟨a,ha,hc⟩
theorem ML (z s t:Bool) (h:Hp) (K:Value→Hp→Prop):aH Tryz.prog (Instr.typeAssert (.iface 253 (.agg #[.bool z,.bool s,.bool t])) 20 253 true) h K=K (.tuple #[.agg #[.bool z,.bool s,.bool t],.bool true]) h:=by kernel_rfl
theorem ME (lo hi:Int) (h:Hp) (K:Value→Hp→Prop):aH Tryz.prog (Instr.typeAssert (.iface 255 (.agg #[.int .i64 lo,.int .i64 hi])) 20 253 true) h K=K (.tuple #[.agg #[.bool false,.bool false,.bool false],.bool false]) h:=by kernel_rfl
theorem M3 (lo hi:Int) (h:Hp) (K:Value→Hp→Prop):aH Tryz.prog (Instr.typeAssert (.iface 255 (.agg #[.int .i64 lo,.int .i64 hi])) 20 255 true) h K=K (.tuple #[.agg #[.int .i64 lo,.int .i64 hi],.bool true]) h:=by kernel_rfl
theorem Nh (p:Bool) (h:Hp) (K:Value→Hp→Prop):aH Tryz.prog (Instr.typeAssert (.iface 257 (.agg #[.bool p])) 20 253 true) h K=K (.tuple #[.agg #[.bool false,.bool false,.bool false],.bool false]) h:=by kernel_rfl
theorem MZ (p:Bool) (h:Hp) (K:Value→Hp→Prop):aH Tryz.prog (Instr.typeAssert (.iface 257 (.agg #[.bool p])) 20 255 true) h K=K (.tuple #[.agg #[.int .i64 0,.int .i64 0],.bool false]) h:=by kernel_rfl
theorem M7 (p:Bool) (h:Hp) (K:Value→Hp→Prop):aH Tryz.prog (Instr.typeAssert (.iface 257 (.agg #[.bool p])) 20 257 true) h K=K (.tuple #[.agg #[.bool p],.bool true]) h:=by kernel_rfl
theorem wrap_i32 {n:Int} (h1:-2147483648≤n) (h2:n<2147483648):IntKind.wrap .i32 n=n:=by
 simp only [IntKind.wrap,IntKind.bits,IntKind.signed,Bool.true_and];split <;> rename_i hh
 ·have:=of_decide_eq_true hh; omega
 ·have:¬ _:=fun h=>hh (decide_eq_true h); omega
theorem Ks (n:Nat) (h:n<4294967296):-2147483648≤Bf n∧Bf n<2147483648:=by
 unfold Bf;split <;> omega
theorem H7 {lo hi n:Int} {ts:List Tok} (w:Wf ts) (h:iJ lo hi ts=.ok n):-2147483648≤n∧n<2147483648:=by
 unfold iJ at h;cases hx:bV ts with
 | error e=>rw [hx] at h; cases h
 | ok x =>
  rw [hx] at h;simp only at h;split at h
  ·cases h
  ·injection h with h
   rw [← h];exact Ks _ (ig w hx).num
theorem gZ {lo hi:Int} {ts:List Tok} {e:Nat} (w:Wf ts) (h:iJ lo hi ts=.error e):e=20∨e=21:=by
 unfold iJ at h;cases hx:bV ts with
 | error e' =>
  rw [hx] at h;injection h with h
  subst h;exact dS w hx
 | ok x =>
  rw [hx] at h;simp only at h;split at h
  ·injection h with h
   exact .inr h.symm
  ·cases h
theorem AU {z:Bool} {ts:List Tok} {e:Nat} (h:nV z ts=.error e):e=20:=by
 unfold nV at h;split at h
 ·split at h
  ·cases h
  ·injection h with h
   exact h.symm
 ·injection h with h
  exact h.symm
def EJ (h:Hp) (b0 B:Nat) (r:Except Nat bD) (u:Value) (h':Hp):Prop:=Ch [B] h h'∧match r with
 | .error e=>u=.int .i64 (e:Int)∧(e=20∨e=21)∧∃ xs,aO h' B 96 xs∧xs.length=10
 | .ok y=>u=.int .i64 0∧∃ p l c,aO h' B 96 (encI p l c y)∧SL h' b0 109 2 p l c (y.e.au.map cV)
theorem Ba {h:Hp} {b0 B:Nat} {x:bD} {p:Option Addr} {l c:Nat} (b:aO h B 96 (encI p l c x)) (s:SL h b0 109 2 p l c (x.e.au.map cV)) (hb0:b0≤h.size) (hB:B<b0) (r:DQ)
  {q:Option Addr} {m d:Nat} {ts:List Tok} (v:Vw h q m d ts) (hq:∀ i,i∈aC q→i<h.size) (w:Wf ts) (hts:ts.length≤2^40) :
  HC Tryz.prog 125 #[.pointer (some ⟨B,0,none⟩),kT r,.slice q m d] h (EJ h b0 B (dL x r ts)):=by
 have hBs:=b.lt;refine aK (args:=[.pointer (some ⟨B,0,none⟩),kT r,.slice q m d]) mixed Tryz.func125 (by kernel_rfl) (qG _ _ q m d) ?_;unfold mM;have hS:∀ {h1 h2:Hp},Ext h h1→Ch [B] h1 h2→SL h2 b0 109 2 p l c (x.e.au.map cV):=fun e k=>(Sx.SL.bf s e (by simp)).bf k (fun i hi hm=>by have:=(Sx.SL.bW s hi).1; simp at hm; omega)
 have hC:∀ {h1 h2:Hp},Ext h h1→Ch [B] h1 h2→Ch [B] h h2:=fun e k=>Ch.trans (e.mono (by simp)) k (fun i hi _=>hi)
 cases r with
 | uS z s2 s3 =>
  show aH _ _ _ _;unfold kT;rw [ML];refine ⟨(z,s2,s3,true,()),rfl,?_⟩;dsimp only [flat,az,ah,nA,cA];refine aT rfl ?_;refine aX ?_;intro h1 b1 e1 z1;refine an b1 rfl (by simp) ?_;intro h2 b2 k2 z2;have b2:aO h2 h.size 253 [.bool z,.bool s2,.bool s3]:=b2;have e2:Ext h h2:=Ch.trans e1 k2 (fun i hi hl=>by simp at hi; omega);refine ad b2 (z,()) rfl ?_;dsimp only [flat,az,ah,nA,cA];have bB:=b.ai e2 (by simp)
  have st:∀ {L:Lp} (n e:Int) (y:bD) (o:Nat) (val:Value),ei val=true→o<10→(encI p l c x).set o val=encI p l c y→y.e=x.e→(∀ h',aO h' B 96 (encI p l c y)→Ch [B] h h'→SL h' b0 109 2 p l c (y.e.au.map cV)→EJ h b0 B (dL x (.uS z s2 s3) ts) (.int .i64 e) h') →
    (T.ap ⟨B,o,none⟩ [val] <| T.ret (.int .i64 e)) L (EJ h b0 B (dL x (.uS z s2 s3) ts)) h2:=by
   intro L n e y o val hpv ho jG hy hk;refine an bB (by simp [hpv]) (by simp [encI]; omega) ?_;intro h3 b3 k3 z3;rw [show jd (encI p l c x) o [val]=(encI p l c x).set o val from rfl,jG] at b3;exact hk h3 b3 (hC e2 k3) (by rw [hy]; exact hS e2 k3)
  cases hr:nV z ts with
  | error e =>
   have he:=AU hr;have hA:dL x (.uS z s2 s3) ts=.error e:=by unfold dL; simp only [hr]
   refine iF (v:=IK (nV z ts)) (G4 (v.ai e2 (by simp)) z) ((0:Int),(e:Int),()) (by rw [hr]; rfl) ?_;dsimp only [flat,az,ah,nA,cA];rw [ao];refine ad b2 (s3,()) rfl ?_;dsimp only [flat,az,ah,nA,cA];have out:∀ {L:Lp} (o:Nat) (val:Value),ei val=true→o<10→(T.ap ⟨B,o,none⟩ [val] <| T.ret (.int .i64 (e:Int))) L (EJ h b0 B (dL x (.uS z s2 s3) ts)) h2:=by
    intro L o val hpv ho;refine an bB (by simp [hpv]) (by simp [encI]; omega) ?_;intro h3 b3 k3 z3;refine ⟨hC e2 k3,?_⟩;rw [hA];exact ⟨rfl,.inl he,_,b3,by rw [ke]; rfl⟩
   refine af (fun g=>?_) (fun g=>?_)
   ·refine aj rfl ?_;rw [ao,ao];exact out 5 _ rfl (by omega)
   ·rw [ao];refine ad b2 (s2,()) rfl ?_;dsimp only [flat,az,ah,nA,cA];refine af (fun g=>?_) (fun g=>?_)
    ·refine aj rfl ?_;rw [ao,ao];exact out 4 _ rfl (by omega)
    ·refine aj rfl ?_;rw [ao,ao];exact out 3 _ rfl (by omega)
  | ok n =>
   have hn:=mr hr;have hn8:0≤n∧n<8:=by
    refine ⟨hn.1,?_⟩
    have:=hn.2
    split at this <;> omega
   refine iF (v:=IK (nV z ts)) (G4 (v.ai e2 (by simp)) z) (n,(0:Int),()) (by rw [hr]; rfl) ?_;dsimp only [flat,az,ah,nA,cA];rw [ao];refine ad b2 (s3,()) rfl ?_;dsimp only [flat,az,ah,nA,cA];have hA:dL x (.uS z s2 s3) ts=.ok (if s3 then eM x n else if s2 then oh x n else oP x n):=by unfold dL; simp only [hr]
   refine af (fun g=>?_) (fun g=>?_)
   ·refine aj rfl ?_;rw [ao,ao,wrap_i32 (by omega) (by omega)];refine st n 0 (eM x n) 5 _ rfl (by omega) rfl rfl ?_;intro h' b' k' s';refine ⟨k',?_⟩;rw [hA,if_pos g];exact ⟨rfl,p,l,c,b',s'⟩
   ·rw [ao];refine ad b2 (s2,()) rfl ?_;dsimp only [flat,az,ah,nA,cA];refine af (fun g'=>?_) (fun g'=>?_)
    ·refine aj rfl ?_;rw [ao,ao];refine st n 0 (oh x n) 4 _ rfl (by omega) rfl rfl ?_;intro h' b' k' s';refine ⟨k',?_⟩;rw [hA,if_neg (by rw [g]; simp),if_pos g'];exact ⟨rfl,p,l,c,b',s'⟩
    ·refine aj rfl ?_;rw [ao,ao];refine st n 0 (oP x n) 3 _ rfl (by omega) rfl rfl ?_;intro h' b' k' s';refine ⟨k',?_⟩;rw [hA,if_neg (by rw [g]; simp),if_neg (by rw [g']; simp)];exact ⟨rfl,p,l,c,b',s'⟩
 | H2 lo hi =>
  show aH _ _ _ _;unfold kT;rw [ME];refine ⟨(false,false,false,false,()),rfl,?_⟩;dsimp only [flat,az,ah,nA,cA];refine aU rfl ?_;show aH _ _ _ _;rw [M3];refine ⟨(lo,hi,true,()),rfl,?_⟩;dsimp only [flat,az,ah,nA,cA];refine aT rfl ?_;refine aX ?_;intro h1 b1 e1 z1;refine an b1 rfl (by simp) ?_;intro h2 b2 k2 z2;have b2:aO h2 h.size 255 [.int .i64 lo,.int .i64 hi]:=b2;have e2:Ext h h2:=Ch.trans e1 k2 (fun i hi hl=>by simp at hi; omega);refine ad b2 (lo,()) rfl ?_;dsimp only [flat,az,ah,nA,cA];rw [ao];refine ad b2 (hi,()) rfl ?_;dsimp only [flat,az,ah,nA,cA];refine aB (oV (v.ai e2 (by simp)) (fun i hi=>Nat.lt_of_lt_of_le (hq i hi) e2.size) w hts lo hi) ?_;rintro _ h3 ⟨rfl,e3⟩;have e3:=e2.trans e3;have bB:=b.ai e3 (by simp);cases hr:iJ lo hi ts with
  | error e =>
   have he:=gZ w hr;refine ⟨((0:Int),(e:Int),()),rfl,?_⟩;dsimp only [flat,az,ah,nA,cA];refine aj rfl ?_;rw [ao,ao];refine an bB rfl (by simp [encI]) ?_;intro h4 b4 k4 z4;refine ⟨hC e3 k4,?_⟩;rw [show dL x (.H2 lo hi) ts=.error e by unfold dL; simp only [hr]];exact ⟨rfl,he,_,b4,by rw [ke]; rfl⟩
  | ok n =>
   have hn:=H7 w hr;refine ⟨(n,(0:Int),()),rfl,?_⟩;dsimp only [flat,az,ah,nA,cA];refine aj rfl ?_;rw [ao,ao,wrap_i32 hn.1 hn.2];refine an bB rfl (by simp [encI]) ?_;intro h4 b4 k4 z4;refine ⟨hC e3 k4,?_⟩;rw [show dL x (.H2 lo hi) ts=.ok (eM x n) by unfold dL; simp only [hr]];exact ⟨rfl,p,l,c,b4,hS e3 k4⟩
 | val pool =>
  show aH _ _ _ _;unfold kT;rw [Nh];refine ⟨(false,false,false,false,()),rfl,?_⟩;dsimp only [flat,az,ah,nA,cA];refine aU rfl ?_;show aH _ _ _ _;rw [MZ];refine ⟨((0:Int),(0:Int),false,()),rfl,?_⟩;dsimp only [flat,az,ah,nA,cA];refine aU rfl ?_;show aH _ _ _ _;rw [M7];refine ⟨(pool,true,()),rfl,?_⟩;dsimp only [flat,az,ah,nA,cA];refine aT rfl ?_;refine aX ?_;intro h1 b1 e1 z1;refine an b1 rfl (by simp) ?_;intro h2 b2 k2 z2;have b2:aO h2 h.size 257 [.bool pool]:=b2;have e2:Ext h h2:=Ch.trans e1 k2 (fun i hi hl=>by simp at hi; omega);refine ad b2 (pool,()) rfl ?_;dsimp only [flat,az,ah,nA,cA];have bB:=b.ai e2 (by simp)
  have put:∀ {L:Lp} {us:List Tok} {h3:Hp} {u:Value},Wf us→dL x (.val pool) ts=(match bV us with | .error e=>.error e | .ok y=>.ok (zK x y))→Cn h2 (bV us) u h3 →
    ∃ y:qh (flat [(true,[.slice 109,.int .u32]),(false,[.int .i64])]),u=rv true [(true,[.slice 109,.int .u32]),(false,[.int .i64])] (fp _ y)∧@az (flat [(true,[.slice 109,.int .u32]),(false,[.int .i64])]) T (fun (p18:Option Addr) (l19:Nat) (l20:Nat) (n21:Int) (n22:Int) =>
    T.av (some (⟨B,0,none⟩:Addr)) <| fun (a23:Addr) =>
    T.ap (a23.add 7) [.slice p18 l19 l20,.int .u32 n21] <|
    T.ret (.int .i64 n22)) y L (EJ h b0 B (dL x (.val pool) ts)) h3:=by
   rintro L us h3 u hw hA ⟨e3,hu⟩;have e3:=e2.trans e3;cases hx:bV us with
   | error e =>
    rw [hx] at hu hA;have he:=dS hw hx;have hu:u=.tuple #[.agg #[.slice none 0 0,.int .u32 0],.int .i64 (e:Int)]:=hu;subst hu;refine ⟨((none,0,0),(0:Int),(e:Int),()),rfl,?_⟩;dsimp only [flat,az,ah,nA,cA];refine aj rfl ?_;rw [ao];refine an (b.ai e3 (by simp)) rfl (by simp [encI]) ?_;intro h4 b4 k4 z4;refine ⟨hC e3 k4,?_⟩;rw [hA];exact ⟨rfl,he,_,b4,by rw [ke]; rfl⟩
   | ok y =>
    rw [hx] at hu hA;obtain ⟨p5,l5,c5,rfl,sl,gd⟩:=hu;refine ⟨((p5,l5,c5),(y.num:Int),(0:Int),()),rfl,?_⟩;dsimp only [flat,az,ah,nA,cA];refine aj rfl ?_;rw [ao];refine an (b.ai e3 (by simp)) rfl (by simp [encI]) ?_;intro h4 b4 k4 z4;refine ⟨hC e3 k4,?_⟩;rw [hA];have hz:=e2.size;exact ⟨rfl,p5,l5,c5,b4,((Sx.SL.mono sl (by omega)).bf k4 (fun i hi hm=>by have:=(Sx.SL.bW sl hi).1; simp at hm; omega))⟩
  have v2:=v.ai e2 (by simp);have hq2:∀ i,i∈aC q→i<h2.size:=fun i hi=>Nat.lt_of_lt_of_le (hq i hi) e2.size
  cases pool with
  | false =>
   refine aU rfl ?_;refine aB (jq v2 hq2 w hts) ?_;intro u h3 hu;refine put w ?_ hu;unfold dL qY;rfl
  | true =>
   refine aT rfl ?_;have hl:=v.len;have bad:dL x (.val true) ts=.error 20→EJ h b0 B (dL x (.val true) ts) (.int .i64 20) h2:=by
    intro hA;refine ⟨e2.mono (by simp),?_⟩;rw [hA];exact ⟨rfl,.inl rfl,_,bB,rfl⟩
   refine af (fun g=>?_) (fun g=>?_)
   ·have g:m=0:=dO g;refine bad ?_
    have:ts=[]:=List.eq_nil_of_length_eq_zero (by omega)
    subst this;rfl
   have g:¬ m=0:=dX g;cases ts with
   | nil=>simp at hl; omega
   | cons t r =>
    obtain ⟨a,rfl,c0⟩:=v2.cells 0 (by simp);have c0:aG h2 (a.add (0*4)) 0 (ec t):=c0;obtain ⟨q1,q2,_⟩:=jg c0;refine ay ⟨by omega,by omega⟩ (aj rfl (aE ((t.kind:Int),()) q1 ?_));dsimp only [flat,az,ah,nA,cA];refine af (fun g3=>?_) (fun g3=>?_)
    ·have g3:¬ t.kind=3:=by
      have:¬ (t.kind:Int)=3:=by simpa using g3
      omega
     refine bad ?_
     have:fC t 61=false:=by unfold fC; rw [beq_false_of_ne g3]; rfl
     unfold dL qY;simp [this]
    have g3:t.kind=3:=by
     have:(t.kind:Int)=3:=by simpa using g3
     omega
    refine ay ⟨by omega,by omega⟩ (aj rfl (aE (t.text,()) q2 ?_));dsimp only [flat,az,ah,nA,cA];have hs:(ByteArray.toList t.text==[({ toBitVec:=61#8 }:UInt8)])=fC t 61:=by
     unfold fC;rw [g3,ByteArray.toList_eq];rfl
    rw [hs];refine af (fun g4=>?_) (fun g4=>?_)
    ·have g4:fC t 61=false:=by simpa using g4
     refine bad ?_;unfold dL qY;simp [g4]
    have g4:fC t 61=true:=by simpa using g4
    refine ay ⟨by omega,by simp at hl; omega,by have:=v.cap; omega⟩ ?_;have vd:=v2.drop (k:=1) (by simp at hl; omega);refine aB (args:=[.slice _ _ _]) (jq (ts:=r) (p:=if d=1 then some a else Option.map (fun a=>Addr.add a 4) (some a)) (l:=m-1) (c:=d-1) vd ?_ w.tail (by simp at hts; omega)) ?_
    ·intro i hi;rw [show aC (if d=1 then some a else Option.map (fun a=>Addr.add a 4) (some a))=aC (some a) from lL _ _ _ _] at hi;exact hq2 i hi
    ·intro u h3 hu;refine put w.tail ?_ hu;unfold dL qY;simp only [g4,if_true]
     all_goals (cases bV r <;> rfl)
end Go.Sx.Ob
