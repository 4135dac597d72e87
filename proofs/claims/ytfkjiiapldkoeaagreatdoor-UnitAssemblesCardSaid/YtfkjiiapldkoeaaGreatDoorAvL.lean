/- unit.Assemble over heaps. Asked: the tables as they were laid, bytealg.MaxLen. -/
import Derived.Test.YtfkjiiapldkoeaaGreatDoorAvL2
set_option linter.all false
set_option maxRecDepth 100000
set_option maxHeartbeats 4000000
namespace Go.Proofs
open Go.RowKit Go.Shelf Go.Sx.Ob
variable {src:ByteArray}
attribute [local go_sem] Oper.semAt_some
def oz.NT {n x:Nat} {w w':World} (h:oz n x w w') (hn:n<=w.heap.size) (v:Value):oz n x w (w'.setCell ⟨x,0,none⟩ v) :=
 ⟨by simpa using h.1,fun k hk hx=>((grownBy_setCell' w' x v).block k (by have:=h.1; omega) (fun e=>hx (by cases e; rfl))).trans (h.2 k hk hx)⟩
def oz.box {n x:Nat} {w w':World} (h:oz n x w w') {g:Nat} {e:TypeId} {xs:List Value} (b:Sx.bf w.heap g e xs) (hg:g<n) (hx:g≠x):Sx.bf w'.heap g e xs:=(h.2 g hg hx).trans b
def je {w:World} {g off:Nat} {e:TypeId} {xs:List Value} (b:Sx.bf w.heap g e xs) (v:Value):Sx.bf (w.setCell ⟨g,off,none⟩ v).heap g e (xs.set off v):=(Sx.Di b v).1
def cE {w:World} {g g' off:Nat} {e:TypeId} {xs:List Value} (b:Sx.bf w.heap g e xs) (hne:g≠g') (v:Value):Sx.bf (w.setCell ⟨g',off,none⟩ v).heap g e xs :=
 (Below.heap_setCell w ⟨g',off,none⟩ v g hne).trans b
def yX (w:World):(Instr.makeMap 70 none).run Tryz.prog w=.ok (.map (some w.heap.size)) (w.alloc (.map #[] 0)):=rfl
attribute [local go_sem] yX
def Kj {w:eS} (h1:¬ 65536<src.size) (h2:¬ 4096<(cK src).length) (hr:fV cZ 1 (cK src)=.ok w):dW src=uj w:=by
 unfold dW uj;rw [if_neg h1,if_neg h2,hr] <;> rfl
def JS {q:Nat × Nat} (h1:¬ 65536<src.size) (h2:¬ 4096<(cK src).length) (hr:fV cZ 1 (cK src)=.error q):dW src=.error q:=by
 unfold dW;rw [if_neg h1,if_neg h2,hr]
open Classical in
def Dw {h h':Sx.Hp} {b:Nat} {a b' c d:cH} {u:pN} (U:ke h b a b' c d u) (hs:h.size<=h'.size) (hc:∀ i,sq h i->h'[i]?=h[i]?):ke h' b a b' c d u:=by
 have k:Sx.Ch ((List.range h.size).filter (fun i=>decide (¬ sq h i))) h h':=⟨hs,fun i hi hn=>hc i (Classical.byContradiction fun hh=>hn (List.mem_filter.2 ⟨List.mem_range.2 hi,decide_eq_true hh⟩))⟩
 obtain ⟨ut,ud,ue,ow,C,S⟩:=U;have f:∀ {e:TypeId} {sz:Nat} {p:Option Addr} {l c:Nat} {xs:List (List Value)},Sx.SL h b e sz p l c xs->Sx.SL h' b e sz p l c xs:=fun s=>Sx.SL.bd s k (fun i hi hm=>of_decide_eq_true (List.mem_filter.1 hm).2 (SL.sq s hi))
 exact ⟨ut,ud,ue,ow,⟨f C.t1,fun u hu=>f (C.t2 u hu),C.t3,f C.d1,fun u hu=>f (C.d2 u hu),C.d3,f C.e1,fun u hu=>f (C.e2 u hu),C.e3,C.o3,C.o4,C.o5,C.ot,C.od,C.oe⟩,f S⟩
def B8 {h h':Sx.Hp} {v:Value} {e:Option (Nat × Nat)} (E:uJ h v e) (hc:∀ i,sq h i->h'[i]?=h[i]?):uJ h' v e:=by
 cases e with
 | none=>exact E
 | some e =>
  obtain ⟨a,h1,h2⟩:=E;exact ⟨a,h1,(hc a ⟨_,_,_,h2⟩).trans h2⟩
def LZ (src:ByteArray) (W:World) (e:Ending) (w':World):Prop :=
 ∃ (a b' c d:cH) (ev:Value),e=.returned (.tuple #[tC a b' c d,ev])/\ke w'.heap W.heap.size a b' c d (gZ (dW src)).1/\uJ w'.heap ev (zd (dW src))/\Below W.heap.size W w'
def yB {W w':World} {q:Nat × Nat} {ax:Nat} (h:dW src=.error q) (b:Sx.bf w'.heap ax 63 [.int .i64 (q.1:Int),.int .i64 (q.2:Int)]) (hb:Below W.heap.size W w') :
  LZ src W (.returned (.tuple #[.agg #[.slice none 0 0,.slice none 0 0,.slice none 0 0,.slice none 0 0],.iface 59 (.pointer (some ⟨ax,0,none⟩))])) w' :=
 ⟨fA,fA,fA,fA,_,rfl,by rw [h]; exact ke.zero _ _,by rw [h]; exact ⟨ax,rfl,b⟩,hb⟩
def LV (W:World) (src:ByteArray) (hl:Sx.Laid W.heap) (tb:rE W.heap) (m:Int) (hm:W.cell? ⟨2,0,none⟩=some (.int .i64 m)) :
  CallsIn Fence.wide 7 Tryz.prog 10 #[.string src] W (LZ src W):=by
 have hW3:2<W.heap.size:=KL hm;refine callsIn_of_wp_marks Tryz.func10 rfl trivial ?_ rfl;simp only [Tryz.ntmps10,List.size_toArray,List.length_cons,List.length_nil,Nat.reduceAdd,Nat.reduceSub,Array.replicate_succ,Array.replicate_zero,List.push_toArray,List.append_toArray,List.nil_append,List.cons_append]
 gi_wp2
 ·rename_i hbig;refine CT (b0:=W.heap.size) (p:=W.heap.size) (q:=W.heap.size+1) (ev:=.iface 59 (.pointer (some ⟨W.heap.size+1+1,0,none⟩))) ⟨[],rfl,aj,aj⟩ rfl rfl (((Sx.bf.new W.heap 27 [.slice none 0 0,.slice none 0 0,.slice none 0 0,.slice none 0 0]).an (Sx.Ext.push _ _) aj).an (Sx.Ext.push _ _) aj) ?_ ?_
  ·have h1:=Sx.bf.new (W.heap.push (.cells #[.slice none 0 0,.slice none 0 0,.slice none 0 0,.slice none 0 0] 27)) 29 [.iface 59 (.pointer (some ⟨W.heap.size+1+1,0,none⟩))];simp only [Array.size_push] at h1;exact h1.an (Sx.Ext.push _ _) aj
  ·intro w' hb hk;have h2:=Sx.bf.new ((W.heap.push (.cells #[.slice none 0 0,.slice none 0 0,.slice none 0 0,.slice none 0 0] 27)).push (.cells #[.iface 59 (.pointer (some ⟨W.heap.size+1+1,0,none⟩))] 29)) 63 [.int .i64 (0:Int),.int .i64 (3:Int)];simp only [Array.size_push] at h2;refine yB (q:=(0,3)) (by unfold dW; rw [if_pos ae]) ((hk _ (by unfold Sx.bf at h2; erw [h2]; simp)).trans h2) ?_;exact (((Below.refl _ W).alloc (Nat.le_refl _) _).alloc aj _ |>.alloc (by simp; omega) _).trans hb
 have hsz:src.size<=65536:=ae
 refine xP (Sx.H4 src _) (fun v h' h=>h.2.2.1) ?_;rintro _ w2 B2 ⟨rfl,b2,-,z2⟩;have hu0:Sx.bf w2.heap W.heap.size 27 [.slice none 0 0,.slice none 0 0,.slice none 0 0,.slice none 0 0] :=
  (B2.block _ (by simp; omega)).trans (((Sx.bf.new W.heap 27 [.slice none 0 0,.slice none 0 0,.slice none 0 0,.slice none 0 0]).an (Sx.Ext.push _ _) aj).an (Sx.Ext.push _ _) aj)
 have he0:Sx.bf w2.heap (W.heap.size+1) 29 [.nilIface]:=by
  have h1:=Sx.bf.new (W.heap.push (.cells #[.slice none 0 0,.slice none 0 0,.slice none 0 0,.slice none 0 0] 27)) 29 [.nilIface];simp only [Array.size_push] at h1;exact (B2.block _ aj).trans (h1.an (Sx.Ext.push _ _) aj)
 have hl0:Boxed w2 (W.heap.size+1+1) 3 (.int .i64 (0:Int)):=by
  have h1:=Boxed.new ((W.alloc (.cells #[.slice none 0 0,.slice none 0 0,.slice none 0 0,.slice none 0 0] 27)).alloc (.cells #[.nilIface] 29)) 3 (.int .i64 (0:Int));have h2:=Gw h1 B2 aj;simpa using h2
 have hb2:Boxed w2 (W.heap.size+1+1+1) 9 (.string src):=by
  have:Sx.bf w2.heap (W.heap.size+1+1+1) 9 [.string src]:=by simpa using b2
  exact this
 have BW:Below W.heap.size W w2:=((((Below.refl _ W).alloc (Nat.le_refl _) _).alloc aj _).alloc (by simp; omega) _).trans (B2.mono (by simp; omega));have z2:w2.heap.size=W.heap.size+4:=by rw [z2]; simp
 clear B2 b2
 gi_wp2
 refine wpIn_rangeFunc_ownG (F:=Fence.wide) rfl ae (gf:=62) (lb:=#[.pointer (some ⟨W.heap.size+1+1+1,0,none⟩)]) rfl trivial (enters_of Tryz.func62 aB rfl)
   (CH (W.heap.size+1+1+1) 3 src ae Sx.Bg m _ ((BW.cell (p:=⟨2,0,none⟩) hW3).trans hm) ae ae hb2.cell) belowK_t (belowK_b ae) (Below.refl _ _) (fun _=>rfl)
   (fun pre W'=>Boxed W' (W.heap.size+1+1) 3 (.int .i64 (pre.length:Int))/\oz w2.heap.size (W.heap.size+1+1) w2 W'/\Sx.cY w2 W')
   (fun c pre W'=>False)
   (fun s A B row hs hg hr=>⟨boxed_own (β:=List (Nat × ByteArray)) _ 3 (fun pre=>.int .i64 (pre.length:Int)) s A B row hs.1 hg (fun r e=>(hr r e).2),CC (β:=Unit) aj (Nat.le_refl _) () A B row hs.2.1 hg hr,⟨hg.os.trans hs.2.2.os,hg.tape.trans hs.2.2.tape,hg.output.trans hs.2.2.output⟩⟩)
   (fun c s A B row hs hg hr=>hs)
   ⟨hl0,⟨Nat.le_refl _,fun _ _ _=>rfl⟩,Sx.cY.refl _⟩
   (fun x=>{ tmps:=#[.string src,undef,.pointer (some ⟨W.heap.size,0,none⟩),.pointer (some ⟨W.heap.size+1,0,none⟩),.pointer (some ⟨W.heap.size+1+1,0,none⟩),undef,undef,undef,undef,undef,undef,undef,.string src,.int .i64 (src.size:Int),.bool (decide (65536<(src.size:Int))),undef,undef,undef,undef,.string src,.func (.func 62) #[] #[.pointer (some ⟨W.heap.size+1+1+1,0,none⟩)],.int .i64 (x.1:Int),.string x.2,undef,undef,undef,undef,undef,undef,undef,undef,undef,undef,undef,undef,undef,undef,undef,undef,undef,undef,undef,undef,undef,undef,undef,undef,undef,undef,undef,undef,undef,undef,undef,undef,undef,undef,undef,undef,undef,undef,undef,undef,undef,undef,undef,undef,undef,undef,undef,undef,undef,undef,undef,undef,undef,undef,undef,undef,undef,undef,undef,undef,undef,undef,undef,undef,undef,undef],defers:=[] }) ?assign ?body ?done ?stop
 case assign =>
  intro l x W' K hK;unfold Gf
  gi_wp2
  exact hK
 case stop =>
  intro D c pre W' hD hS hx;exact hx.elim
 case body =>
  rintro l pre x W' ⟨bn,hsv,hso⟩ hlen;have e1:=bn.cell;have f1:=bn.frozen;have hll:=nM (src.size+1) 1 src;have hwr:wrap64 ((pre.length:Int)+1)=((pre.length+1:Nat):Int):=by
   rw [Go.IntWalk.wrap64_in _ ⟨ae,ae⟩];omega
  gi_wp2
  refine ⟨(KeepsOthers.setCell _ _ _).from _,(Below.refl _ W').setCell (p:=⟨W.heap.size+1+1,0,none⟩) (by show 3<=_+1+1; omega) _,?_,hsv.NT (Nat.le_refl _) _,⟨hso.os,hso.tape,hso.output⟩⟩;rw [show (((pre++[x]).length:Nat):Int)=(pre.length:Int)+1 from aj];exact bn.set _
 case done =>
  rintro D1 ys w3 hD1 rfl ⟨bn,hsv,hso⟩ hK1;have e1:=bn.cell;have hll:=nM (src.size+1) 1 src;have hu3:=hsv.box hu0 ae ae;have he3:=hsv.box he0 ae ae;have hu4:=hu3.an (Sx.Ext.push w3.heap (.cells #[.int .i64 4097,.int .i64 4] 63)) aj;have he4:=he3.an (Sx.Ext.push w3.heap (.cells #[.int .i64 4097,.int .i64 4] 63)) aj;have c0:(w3.alloc (.cells #[.int .i64 4097,.int .i64 4] 63)).cell? ⟨W.heap.size,0,none⟩=some (.slice none 0 0):=hu4.cell.trans rfl;have c1:(w3.alloc (.cells #[.int .i64 4097,.int .i64 4] 63)).cell? ⟨W.heap.size,1,none⟩=some (.slice none 0 0):=hu4.cell.trans rfl;have c2:(w3.alloc (.cells #[.int .i64 4097,.int .i64 4] 63)).cell? ⟨W.heap.size,2,none⟩=some (.slice none 0 0):=hu4.cell.trans rfl;have c3:(w3.alloc (.cells #[.int .i64 4097,.int .i64 4] 63)).cell? ⟨W.heap.size,3,none⟩=some (.slice none 0 0):=hu4.cell.trans rfl;have c4:(w3.alloc (.cells #[.int .i64 4097,.int .i64 4] 63)).cell? ⟨W.heap.size+1,0,none⟩=some .nilIface:=he4.cell.trans rfl;have f0:(w3.alloc (.cells #[.int .i64 4097,.int .i64 4] 63)).frozen? ⟨W.heap.size,0,none⟩=false:=hu4.frozen;have f1:(w3.alloc (.cells #[.int .i64 4097,.int .i64 4] 63)).frozen? ⟨W.heap.size,1,none⟩=false:=hu4.frozen;have f2:(w3.alloc (.cells #[.int .i64 4097,.int .i64 4] 63)).frozen? ⟨W.heap.size,2,none⟩=false:=hu4.frozen;have f3:(w3.alloc (.cells #[.int .i64 4097,.int .i64 4] 63)).frozen? ⟨W.heap.size,3,none⟩=false:=hu4.frozen;have f4:(w3.alloc (.cells #[.int .i64 4097,.int .i64 4] 63)).frozen? ⟨W.heap.size+1,0,none⟩=false:=he4.frozen;have BW3:Below W.heap.size W w3:=⟨hso.os.trans BW.os,hso.tape.trans BW.tape,hso.output.trans BW.output,by have:=hsv.1; omega,fun k hk=>(hsv.2 k ae ae).trans (BW.block k hk)⟩
  have hD1l:D1<w3.heap.size:=(Array.getElem?_eq_some_iff.1 hK1).1
  gi_wp2
  ·rename_i hmany;have hu5:=cE (g':=W.heap.size+1) (off:=0) (je (off:=3) (je (off:=2) (je (off:=1) (je (off:=0) (w:=w3.alloc (.cells #[.int .i64 4097,.int .i64 4] 63)) hu4 (.slice none 0 0)) (.slice none 0 0)) (.slice none 0 0)) (.slice none 0 0)) ae (.iface 59 (.pointer (some ⟨w3.heap.size,0,none⟩)));have he5:=je (off:=0) (cE (g':=W.heap.size) (off:=3) (cE (g':=W.heap.size) (off:=2) (cE (g':=W.heap.size) (off:=1) (cE (g':=W.heap.size) (off:=0) (w:=w3.alloc (.cells #[.int .i64 4097,.int .i64 4] 63)) he4 ae (.slice none 0 0)) ae (.slice none 0 0)) ae (.slice none 0 0)) ae (.slice none 0 0)) (.iface 59 (.pointer (some ⟨w3.heap.size,0,none⟩)));have hx5:=cE (g':=W.heap.size+1) (off:=0) (cE (g':=W.heap.size) (off:=3) (cE (g':=W.heap.size) (off:=2) (cE (g':=W.heap.size) (off:=1) (cE (g':=W.heap.size) (off:=0) (w:=w3.alloc (.cells #[.int .i64 4097,.int .i64 4] 63)) (Sx.bf.new w3.heap 63 [.int .i64 4097,.int .i64 4]) (by have:=hsv.1; omega) (.slice none 0 0)) (by have:=hsv.1; omega) (.slice none 0 0)) (by have:=hsv.1; omega) (.slice none 0 0)) (by have:=hsv.1; omega) (.slice none 0 0)) (by have:=hsv.1; omega) (.iface 59 (.pointer (some ⟨w3.heap.size,0,none⟩)));refine CT (b0:=W.heap.size) (p:=W.heap.size) (q:=W.heap.size+1) (ev:=.iface 59 (.pointer (some ⟨w3.heap.size,0,none⟩))) ⟨[D1],rfl,aj,?_⟩ rfl rfl hu5 he5 ?_
   ·intro D hD;have hD:=List.mem_singleton.1 hD;subst hD;have da:D≠W.heap.size:=ae
    have db:D≠W.heap.size+1:=ae
    refine ⟨ae,?_⟩;refine (Below.heap_setCell _ _ _ _ db).trans ?_;refine (Below.heap_setCell _ _ _ _ da).trans ?_;refine (Below.heap_setCell _ _ _ _ da).trans ?_;refine (Below.heap_setCell _ _ _ _ da).trans ?_;refine (Below.heap_setCell _ _ _ _ da).trans ?_;exact (Below.heap_alloc w3 _ D hD1l).trans hK1
   ·intro w' hb hk;refine yB (q:=(4097,4)) (by unfold dW; rw [if_neg ae,if_pos (by rw [<- Sx.Ob.uL]; unfold Sx.DE; rw [List.length_map]; omega)]) ((hk _ (by unfold Sx.bf at hx5; erw [hx5]; simp)).trans hx5) ?_;exact ((((((BW3.alloc BW3.size _).setCell (p:=⟨W.heap.size,0,none⟩) (Nat.le_refl _) _).setCell (p:=⟨W.heap.size,1,none⟩) (Nat.le_refl _) _).setCell (p:=⟨W.heap.size,2,none⟩) (Nat.le_refl _) _).setCell (p:=⟨W.heap.size,3,none⟩) (Nat.le_refl _) _).setCell (p:=⟨W.heap.size+1,0,none⟩) (by show _<=_+1; omega) _).trans hb
  clear c0 c1 c2 c3 c4 f0 f1 f2 f3 f4 hu4 he4 e1;refine xP (Sx.H4 src _) (fun v h' h=>h.2.2.1) ?_;rintro _ w5 B5 ⟨rfl,b5,-,z5⟩;have z35:w5.heap.size=w3.heap.size+4:=by rw [z5]; simp
  have hold:∀ k,k<w3.heap.size->w5.heap[k]?=w3.heap[k]?:=fun k hk=>(B5.block k (by simp; omega)).trans ((Below.heap_alloc _ _ k (by simp; omega)).trans ((Below.heap_alloc _ _ k (by simp; omega)).trans (Below.heap_alloc _ _ k hk)))
  have hso5:Sx.cY W w5:=⟨B5.os.trans BW3.os,B5.tape.trans BW3.tape,B5.output.trans BW3.output⟩
  have hgm:w5.heap[w3.heap.size]?=some (.map #[] 0):=(B5.block _ (by simp; omega)).trans ((Below.heap_alloc _ _ _ (by simp; omega)).trans ((Below.heap_alloc _ _ _ aj).trans (World.alloc_heap_new w3 _)));have hA5:Sx.bf w5.heap (w3.heap.size+1) 73 (nb fA fA fA 0 0 w3.heap.size fA):=by
   refine (B5.block _ aj).trans ((Below.heap_alloc _ _ _ aj).trans ?_)
   have:=World.alloc_heap_new (w3.alloc (.map #[] 0)) (.cells (nb fA fA fA 0 0 w3.heap.size fA).toArray 73)
   rwa [show (w3.alloc (.map #[] 0)).heap.size=w3.heap.size+1 from aj] at this
  have hv5:Sx.bf w5.heap (w3.heap.size+2) 69 [.pointer (some ⟨w3.heap.size+1,0,none⟩)]:=by
   refine (B5.block _ aj).trans ?_
   have:=World.alloc_heap_new ((w3.alloc (.map #[] 0)).alloc (.cells (nb fA fA fA 0 0 w3.heap.size fA).toArray 73)) (.cells #[.pointer (some ⟨w3.heap.size+1,0,none⟩)] 69)
   rwa [show ((w3.alloc (.map #[] 0)).alloc (.cells (nb fA fA fA 0 0 w3.heap.size fA).toArray 73)).heap.size=w3.heap.size+2 from aj] at this
  have hs5:Boxed w5 (w3.heap.size+3) 9 (.string src):=by
   have h1:Sx.bf w5.heap (w3.heap.size+3) 9 [.string src]:=by simpa using b5
   exact h1
  clear B5 b5 z5;have ha5:ei w5.heap w3.heap.size (w3.heap.size+1) w3.heap.size cZ fA fA fA fA [] [] [] (fun i=>if i=w3.heap.size+1 then 6 else if i=w3.heap.size then 7 else 9) :=
   ⟨Core.nil _ _ _,hA5,⟨0,Sx.Ob.uX.new ⟨#[],0,hgm,rfl,⟨aj,aj,aj⟩,aj⟩⟩,Sx.SL.nil _ _ _ _,if_pos rfl,aj,by simp [fA,Sx.aE],ae,Nat.le_refl _⟩
  have hnum:((bK (src.size+1) 1 src).length:Int)<=4096:=ae
  gi_wp2
  refine wpIn_rangeFunc_ownG (F:=Fence.wide) rfl ae (gf:=62) (lb:=#[.pointer (some ⟨w3.heap.size+3,0,none⟩)]) rfl trivial (enters_of Tryz.func62 aB rfl)
   (GA (w3.heap.size+3) 3 src ae Sx.Bg m _ (by
    have h1:w5.heap[2]?=W.heap[2]?:=(hold 2 (by have:=BW3.size; omega)).trans (BW3.block 2 hW3);exact (World.cell?_of_block (a:=⟨2,0,none⟩) h1).trans hm) ae ae hs5.cell) belowK_t (belowK_b ae) (Below.refl _ _) (fun _=>rfl)
   (fun pre W'=>Sx.cY W W'/\w5.heap.size<=W'.heap.size/\(∀ k,k<w3.heap.size->W'.heap[k]?=w3.heap[k]?)/\Sx.bf W'.heap (w3.heap.size+2) 69 [.pointer (some ⟨w3.heap.size+1,0,none⟩)] /\
    ∃ w t d e q ut ud ue ow,Sx.Ob.runN cZ (pre.map (·.1))=.ok w/\ei W'.heap w3.heap.size (w3.heap.size+1) w3.heap.size w t d e q ut ud ue ow/\ow (w3.heap.size+2)=9/\yq w/\w.bU.length<=pre.length/\w.aP.length<=pre.length)
   (fun c pre W'=>c=.ret/\Sx.cY W W'/\w5.heap.size<=W'.heap.size/\(∀ k,k<w3.heap.size->k≠W.heap.size->k≠W.heap.size+1->W'.heap[k]?=w3.heap[k]?)/\∃ q ax,Sx.Ob.runN cZ (pre.map (·.1))=.error q/\Sx.bf W'.heap W.heap.size 27 [.slice none 0 0,.slice none 0 0,.slice none 0 0,.slice none 0 0]/\Sx.bf W'.heap (W.heap.size+1) 29 [.iface 59 (.pointer (some ⟨ax,0,none⟩))]/\Sx.bf W'.heap ax 63 [.int .i64 (q.1:Int),.int .i64 (q.2:Int)])
   ?own1 ?own2 ?start
   (fun y=>(fun (x:Nat × ByteArray)=>{ tmps:=#[.string src,undef,.pointer (some ⟨W.heap.size,0,none⟩),.pointer (some ⟨W.heap.size+1,0,none⟩),.pointer (some ⟨W.heap.size+1+1,0,none⟩),.pointer (some ⟨(w3.heap.size+2),0,none⟩),.int .i64 (x.1:Int),.string x.2,undef,undef,undef,undef,.string src,.int .i64 (src.size:Int),.bool (decide (65536<(src.size:Int))),undef,undef,undef,undef,.string src,.func (.func 62) #[] #[.pointer (some ⟨W.heap.size+1+1+1,0,none⟩)],undef,undef,undef,undef,.int .i64 ((bK (src.size+1) 1 src).length:Int),.bool (decide (4096<((bK (src.size+1) 1 src).length:Int))),undef,undef,undef,undef,.map (some w3.heap.size),.agg #[.slice none 0 0,.slice none 0 0,.slice none 0 0,.slice none 0 0,.int .i64 0,.int .i64 0,.map (some w3.heap.size),.slice none 0 0],.pointer (some ⟨(w3.heap.size+1),0,none⟩),.string src,.func (.func 62) #[] #[.pointer (some ⟨w3.heap.size+3,0,none⟩)],.int .i64 (x.1:Int),.string x.2,undef,undef,undef,undef,undef,undef,undef,undef,undef,undef,undef,undef,undef,undef,undef,undef,undef,undef,undef,undef,undef,undef,undef,undef,undef,undef,undef,undef,undef,undef,undef,undef,undef,undef,undef,undef,undef,undef,undef,undef,undef,undef,undef,undef,undef,undef,undef,undef,undef,undef,undef],defers:=[] }) y.1) ?assign ?body ?done ?stop
  case own1 =>
   rintro s A B row ⟨so,sz,ho,hb,w,t,d,e,q,ut,ud,ue,ow,hr,ha,h9,hW,hE,hG⟩ hg hrow;refine ⟨⟨hg.os.trans so.os,hg.tape.trans so.tape,hg.output.trans so.output⟩,Nat.le_trans sz hg.size,fun k hk=>(hg.block k ae (fun e=>by have:=(hrow k e.symm).1; omega)).trans (ho k hk),?_,?_⟩
   ·exact (hg.block _ ae (fun e=>by have:=(hrow _ e.symm).1; omega)).trans hb
   ·obtain ⟨ow',a',h9'⟩:=ha.grown h9 hg (fun r e=>⟨by have:=(hrow r e).1; omega,(hrow r e).2⟩);exact ⟨w,t,d,e,q,ut,ud,ue,ow',hr,a',h9',hW,hE,hG⟩
  case own2 =>
   rintro c s A B row ⟨hc,so,sz,ho,q,ax,hq,h1,h2,h3⟩ hg hrow;refine ⟨hc,⟨hg.os.trans so.os,hg.tape.trans so.tape,hg.output.trans so.output⟩,Nat.le_trans sz hg.size,fun k hk n1 n2=>(hg.block k ae (fun e=>by have:=(hrow k e.symm).1; omega)).trans (ho k hk n1 n2),q,ax,hq,?_,?_,?_⟩
   ·exact (hg.block _ h1.lt (fun e=>by have:=(hrow _ e.symm).1; omega)).trans h1
   ·exact (hg.block _ h2.lt (fun e=>by have:=(hrow _ e.symm).1; omega)).trans h2
   ·refine (hg.block _ h3.lt (fun e=>?_)).trans h3;obtain ⟨_,o,ho,hn⟩:=hrow _ e.symm;rw [show A.heap[ax]?=_ from h3] at ho;cases ho;cases hn
  case start =>
   exact ⟨hso5,Nat.le_refl _,hold,hv5,cZ,fA,fA,fA,fA,[],[],[],_,rfl,ha5,by rw [if_neg ae,if_neg ae],yq.z,by simp [cZ],by simp [cZ]⟩
  case assign =>
   intro l x W' K hK;unfold Gf
   gi_wp2
   exact hK
  case body =>
   rintro l pre x W' ⟨so,sz,ho,hb,w,t,d,e,q,ut,ud,ue,ow,hr,ha,h9,hW,hE,hG⟩ hlen;have c0:W'.cell? ⟨w3.heap.size+2,0,none⟩=some (.pointer (some ⟨w3.heap.size+1,0,none⟩)):=hb.cell.trans rfl;have E0:Sx.Ext W.heap W'.heap:=⟨ae,fun k hk _=>(ho k ae).trans (BW3.block k hk)⟩
   have tb':=tb.an E0 aj;have ld':=hl.ext E0;obtain ⟨ow1,ha1,h91,hn1⟩:=ha.nine;have hx:=J0 x.2
   gi_wp2
   have z3:w3.heap.size<=W'.heap.size:=ae
   refine Bl (JI tb' ld' ha1 z3 hW ae ae (n:=x.1.1) ae x.1.2 ae (qq:=fun i=>i<W'.heap.size/\(i=w3.heap.size+2\/((∃ o,W'.heap[i]?=some o/\o.isCells=false)/\i≠w3.heap.size))) (fun i h=>h.1) ?_) ?_
   ·rintro i ⟨hi,rfl | ⟨⟨o,h1,h2⟩,h3⟩⟩
    ·exact h91 _ h9
    ·exact hn1 i o h1 h2 h3
   intro v w7 so7 hR;cases hlw:eJ w x.1.1 x.1.2 with
   | error e0 =>
    rw [hlw] at hR;obtain ⟨rfl,he0,ext⟩:=hR;have z7:=ext.size;have hu6:Sx.bf W'.heap W.heap.size 27 [.slice none 0 0,.slice none 0 0,.slice none 0 0,.slice none 0 0]:=(ho _ ae).trans hu3;have he6:Sx.bf W'.heap (W.heap.size+1) 29 [.nilIface]:=(ho _ ae).trans he3;have hu7:=hu6.an ext aj;have he7:=he6.an ext aj;have hu8:=hu7.an (Sx.Ext.push w7.heap (.cells #[.int .i64 (x.1.1:Int),.int .i64 (e0:Int)] 63)) aj;have he8:=he7.an (Sx.Ext.push w7.heap (.cells #[.int .i64 (x.1.1:Int),.int .i64 (e0:Int)] 63)) aj;have d0:(w7.alloc (.cells #[.int .i64 (x.1.1:Int),.int .i64 (e0:Int)] 63)).cell? ⟨W.heap.size,0,none⟩=some (.slice none 0 0):=hu8.cell.trans rfl;have d1:(w7.alloc (.cells #[.int .i64 (x.1.1:Int),.int .i64 (e0:Int)] 63)).cell? ⟨W.heap.size,1,none⟩=some (.slice none 0 0):=hu8.cell.trans rfl;have d2:(w7.alloc (.cells #[.int .i64 (x.1.1:Int),.int .i64 (e0:Int)] 63)).cell? ⟨W.heap.size,2,none⟩=some (.slice none 0 0):=hu8.cell.trans rfl;have d3:(w7.alloc (.cells #[.int .i64 (x.1.1:Int),.int .i64 (e0:Int)] 63)).cell? ⟨W.heap.size,3,none⟩=some (.slice none 0 0):=hu8.cell.trans rfl;have d4:(w7.alloc (.cells #[.int .i64 (x.1.1:Int),.int .i64 (e0:Int)] 63)).cell? ⟨W.heap.size+1,0,none⟩=some .nilIface:=he8.cell.trans rfl;have f0:(w7.alloc (.cells #[.int .i64 (x.1.1:Int),.int .i64 (e0:Int)] 63)).frozen? ⟨W.heap.size,0,none⟩=false:=hu8.frozen;have f1:(w7.alloc (.cells #[.int .i64 (x.1.1:Int),.int .i64 (e0:Int)] 63)).frozen? ⟨W.heap.size,1,none⟩=false:=hu8.frozen;have f2:(w7.alloc (.cells #[.int .i64 (x.1.1:Int),.int .i64 (e0:Int)] 63)).frozen? ⟨W.heap.size,2,none⟩=false:=hu8.frozen;have f3:(w7.alloc (.cells #[.int .i64 (x.1.1:Int),.int .i64 (e0:Int)] 63)).frozen? ⟨W.heap.size,3,none⟩=false:=hu8.frozen;have f4:(w7.alloc (.cells #[.int .i64 (x.1.1:Int),.int .i64 (e0:Int)] 63)).frozen? ⟨W.heap.size+1,0,none⟩=false:=he8.frozen
    gi_wp2
    ·rename_i hne;have hg5:w5.heap.size<=w7.heap.size:=ae
     have hx8:=Sx.bf.new w7.heap 63 [.int .i64 (x.1.1:Int),.int .i64 (e0:Int)];have hu9:=cE (g':=W.heap.size+1) (off:=0) (je (off:=3) (je (off:=2) (je (off:=1) (je (off:=0) (w:=w7.alloc (.cells #[.int .i64 (x.1.1:Int),.int .i64 (e0:Int)] 63)) hu8 (.slice none 0 0)) (.slice none 0 0)) (.slice none 0 0)) (.slice none 0 0)) ae (.iface 59 (.pointer (some ⟨w7.heap.size,0,none⟩)));have he9:=je (off:=0) (cE (g':=W.heap.size) (off:=3) (cE (g':=W.heap.size) (off:=2) (cE (g':=W.heap.size) (off:=1) (cE (g':=W.heap.size) (off:=0) (w:=w7.alloc (.cells #[.int .i64 (x.1.1:Int),.int .i64 (e0:Int)] 63)) he8 ae (.slice none 0 0)) ae (.slice none 0 0)) ae (.slice none 0 0)) ae (.slice none 0 0)) (.iface 59 (.pointer (some ⟨w7.heap.size,0,none⟩)));have hx9:=cE (g':=W.heap.size+1) (off:=0) (cE (g':=W.heap.size) (off:=3) (cE (g':=W.heap.size) (off:=2) (cE (g':=W.heap.size) (off:=1) (cE (g':=W.heap.size) (off:=0) (w:=w7.alloc (.cells #[.int .i64 (x.1.1:Int),.int .i64 (e0:Int)] 63)) hx8 ae (.slice none 0 0)) ae (.slice none 0 0)) ae (.slice none 0 0)) ae (.slice none 0 0)) ae (.iface 59 (.pointer (some ⟨w7.heap.size,0,none⟩)));have kk:∀ k,k<W'.heap.size->k≠W.heap.size->k≠W.heap.size+1->((((((w7.alloc (.cells #[.int .i64 (x.1.1:Int),.int .i64 (e0:Int)] 63)).setCell ⟨W.heap.size,0,none⟩ (.slice none 0 0)).setCell ⟨W.heap.size,1,none⟩ (.slice none 0 0)).setCell ⟨W.heap.size,2,none⟩ (.slice none 0 0)).setCell ⟨W.heap.size,3,none⟩ (.slice none 0 0)).setCell ⟨W.heap.size+1,0,none⟩ (.iface 59 (.pointer (some ⟨w7.heap.size,0,none⟩)))).heap[k]?=W'.heap[k]?:=by
      intro k hk n1 n2;refine (Below.heap_setCell _ _ _ _ n2).trans ?_;refine (Below.heap_setCell _ _ _ _ n1).trans ?_;refine (Below.heap_setCell _ _ _ _ n1).trans ?_;refine (Below.heap_setCell _ _ _ _ n1).trans ?_;refine (Below.heap_setCell _ _ _ _ n1).trans ?_;exact (Below.heap_alloc w7 _ k ae).trans (ext.same k hk aj)
     refine ⟨⟨by simp; omega,fun k o hk h1 h2=>(kk k (Array.getElem?_eq_some_iff.1 h1).1 ae ae).trans h1⟩,rfl,⟨so7.os.trans so.os,so7.tape.trans so.tape,so7.output.trans so.output⟩,by simp; omega,fun k hk n1 n2=>(kk k ae n1 n2).trans (ho k hk),(x.1.1,e0),w7.heap.size,?_,hu9,he9,hx9⟩;rw [List.map_append,Sx.Ob.uA,hr];simp only [List.map_cons,List.map_nil,Sx.Ob.runN,hlw]
   | ok w1 =>
    rw [hlw] at hR;obtain ⟨rfl,t',d',e',q',ut',ud',ue',ow2,a2,A2⟩:=hR;have hsame:=A2.same;have z7:=A2.size;have hl2:=tn hlw
    gi_wp2
    refine ⟨⟨z7,fun k o hk h1 h2=>(hsame k (Array.getElem?_eq_some_iff.1 h1).1 (.inr ⟨(Array.getElem?_eq_some_iff.1 h1).1,.inr ⟨⟨o,h1,h2⟩,ae⟩⟩)).trans h1⟩,⟨so7.os,so7.tape,so7.output,z7,fun k hk=>hsame k ae (.inl ae)⟩,⟨so7.os.trans so.os,so7.tape.trans so.tape,so7.output.trans so.output⟩,Nat.le_trans sz z7,fun k hk=>(hsame k ae (.inl hk)).trans (ho k hk),?_,?_⟩
    ·exact (hsame _ ae (.inr ⟨ae,.inl rfl⟩)).trans hb
    ·refine ⟨w1,t',d',e',q',ut',ud',ue',ow2,?_,a2,A2.qo _ ⟨ae,.inl rfl⟩,yh ae hW hlw,?_,?_⟩
     ·rw [List.map_append,Sx.Ob.uA,hr];simp only [List.map_cons,List.map_nil,Sx.Ob.runN,hlw]
     ·rw [List.length_append]; simp only [List.length_cons,List.length_nil]; omega
     ·rw [List.length_append]; simp only [List.length_cons,List.length_nil]; omega
  case done =>
   rintro D2 ys w6 hD2 hys ⟨so,sz,ho,hb,w,t,d,e,q,ut,ud,ue,ow,hr,ha,h9,hW,hE,hG⟩ hK2;have hrun:fV cZ 1 (cK src)=.ok w:=by rw [<- CM,<- hys]; exact hr
   have hyl:ys.length=(bK (src.size+1) 1 src).length:=by have h0:=congrArg List.length hys; rwa [List.length_map] at h0
   have hasm:dW src=uj w:=Kj ae (by rw [<- Sx.Ob.uL]; unfold Sx.DE; rw [List.length_map]; omega) hrun;have hu6:Sx.bf w6.heap W.heap.size 27 [.slice none 0 0,.slice none 0 0,.slice none 0 0,.slice none 0 0]:=(ho _ ae).trans hu3;have he6:Sx.bf w6.heap (W.heap.size+1) 29 [.nilIface]:=(ho _ ae).trans he3;have hrest:=Jn ha hW ae (u:=W.heap.size) (e:=W.heap.size+1) (v:=w3.heap.size+2) ae ae ae ae h9 hu6 rfl he6 hb;rename_i K hK;refine hK _ _ ?_;refine wpIn_wide.2 (LU hrest (w:=w6) rfl rfl rfl rfl rfl rfl ?_);rintro x a' w7 hx hd' g2 g3 so7 ⟨v,k7,a,b',c,dd,ev,rfl,hU,hEr,hb1,hb2'⟩;have D2l:D2<w6.heap.size:=(Array.getElem?_eq_some_iff.1 hK2).1;have hm:Marks W.heap.size a'.defers w7:=by
    refine ⟨[D2,D1],hd',?_,?_⟩
    ·simp only [List.nodup_cons,List.mem_singleton,List.not_mem_nil,not_false_eq_true,List.nodup_nil,and_true];omega
    ·intro D hD;rcases List.mem_cons.1 hD with rfl | hD
     ·refine ⟨ae,(k7.same D D2l ?_).trans hK2⟩;simp only [List.mem_cons,List.not_mem_nil,or_false];omega
     ·have hD:=List.mem_singleton.1 hD;subst hD;refine ⟨ae,(k7.same D ae ?_).trans ((ho D ae).trans hK1)⟩;simp only [List.mem_cons,List.not_mem_nil,or_false];omega
   have hfin:∀ w':World,Below W.heap.size w7 w'->(∀ B:Nat,w7.heap[B]?≠some (Obj.deferred (some []))->w'.heap[B]?=w7.heap[B]?)->LZ src W (.returned (.tuple #[tC a b' c dd,ev])) w':=by
    intro w' hb8 hk8;have hcl:∀ i,sq w7.heap i->w'.heap[i]?=w7.heap[i]?:=by
     rintro i ⟨c,e,f,hi⟩;exact hk8 i (by rw [hi]; simp)
    refine ⟨a,b',c,dd,ev,rfl,?_,?_,?_⟩
    ·rw [hasm];exact Dw (hU.mono ae) hb8.size hcl
    ·rw [hasm];exact B8 hEr hcl
    ·refine Below.trans ⟨so7.os.trans so.os,so7.tape.trans so.tape,so7.output.trans so.output,by have:=k7.size; omega,fun k hk'=>?_⟩ hb8;refine (k7.same k ae ?_).trans ((ho k ae).trans (BW3.block k hk'));simp only [List.mem_cons,List.not_mem_nil,or_false];omega
   rcases hx with rfl | rfl
   ·exact CT (b0:=W.heap.size) hm g2 g3 hb1 hb2' hfin
   ·exact CT (b0:=W.heap.size) hm g2 g3 hb1 hb2' hfin
  case stop =>
   rintro D2 c pre w6 hD2 hpre ⟨rfl,so,sz,ho,q,ax,hq,h1,h2,h3⟩ hK2;have D2l:D2<w6.heap.size:=(Array.getElem?_eq_some_iff.1 hK2).1;have hasm:dW src=.error q:=JS ae (by rw [<- Sx.Ob.uL]; unfold Sx.DE; rw [List.length_map]; omega) (by rw [<- CM]; exact IR hpre hq)
   gi_wp2
   refine CT (b0:=W.heap.size) (p:=W.heap.size) (q:=W.heap.size+1) (ev:=.iface 59 (.pointer (some ⟨ax,0,none⟩))) ⟨[D2,D1],rfl,?_,?_⟩ rfl rfl h1 h2 ?_
   ·simp only [List.nodup_cons,List.mem_singleton,List.not_mem_nil,not_false_eq_true,List.nodup_nil,and_true];omega
   ·intro D hD;rcases List.mem_cons.1 hD with rfl | hD
    ·exact ⟨ae,hK2⟩
    ·have hD:=List.mem_singleton.1 hD;subst hD;exact ⟨ae,(ho D ae ae ae).trans hK1⟩
   ·intro w' hb hk;refine yB (q:=q) hasm ((hk _ (by unfold Sx.bf at h3; erw [h3]; simp)).trans h3) ?_;exact Below.trans ⟨so.os,so.tape,so.output,ae,fun k hk'=>(ho k ae ae ae).trans (BW3.block k hk')⟩ hb
end Go.Proofs
