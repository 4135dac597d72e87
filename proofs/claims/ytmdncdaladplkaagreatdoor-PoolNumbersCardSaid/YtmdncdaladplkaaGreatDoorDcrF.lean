/- The frame of a closed run. No condition. -/
import Derived.Test.YtmdncdaladplkaaGreatDoorDcrA
set_option linter.unusedVariables false
set_option linter.unusedSimpArgs false
set_option maxRecDepth 100000
namespace Go.Sx.Ob
open Go.Proofs Go.Proofs.YtmdncdaladplkaaGreatDoor
open Go.ChangeShapes Go.WideShapes Go.ChangeAt Go.WideMaps Go.WideElems Go.RowKit
theorem laid_tab {W:World} (h:laidMetH Tryz.prog Rows.poolNumbersRow.laid W):∃ e f,W.heap[0]?=some (.cells Cr.opsV.toArray e f):=by
 rw [MakeChecks.laidMetH_plain _ _ _ (by kernel_rfl)] at h
 obtain ⟨ps,⟨g0,t0,cs0,f0,p0,q0,hg0,ht0,hv0,hd0,⟨g1,t1,cs1,f1,p1,q1,hg1,ht1,hv1,hd1,⟨g2,t2,cs2,f2,p2,q2,hg2,ht2,hv2,hd2,⟨g3,t3,cs3,f3,p3,q3,hg3,ht3,hv3,hd3,_,_⟩,_⟩,_⟩,_⟩,_,_⟩:=h
 obtain rfl:=Option.some.inj ((show Tryz.prog.globalNamed _=some 0 by kernel_rfl).symm.trans hg3)
 have h3:(Tryz.prog.globals[0]?).map (·.type)=some 202:=by kernel_rfl
 obtain rfl:=Option.some.inj (h3.symm.trans ht3)
 have hr:=tab_cells hd3
 obtain ⟨e3,ff3,ho3⟩:=var_obj hg3 hv3
 exact ⟨e3,ff3,by rw [ho3,show Cr.opsV=rowsV opsN opsB from rfl,← hr]⟩
theorem kidsT:Kids Tryz.prog (·<Tryz.prog.types.size):=kids_rows (by kernel_rfl) (by kernel_rfl)
theorem sliceB:((List.range Tryz.prog.types.size).all fun t=>match Tryz.prog.underlying t with | some (.slice e)=>decide (0<Tryz.prog.cellsOf e) | _=>true)=true:=by kernel_rfl
theorem sliceT {t e:TypeId} (ht:t<Tryz.prog.types.size) (hu:Tryz.prog.underlying t=some (.slice e)):0<Tryz.prog.cellsOf e:=by
 have:=List.all_eq_true.1 sliceB t (List.mem_range.2 ht)
 rw [hu] at this
 exact of_decide_eq_true this
theorem trodAll_stays {H:Type} {enc:TypeId × Value→H} {W W':World} {sp:Nat→Bool} (hB:Below W.heap.size W W'):∀ {ts:List TypeId} {vs:List Value} {ds:List (DataW H)} {ps:List MemPlace},(∀ t∈ts,t<Tryz.prog.types.size) →
  DataW.TrodAll enc Tryz.prog W 0 (fun _=>true) true ts vs ds ps→(∀ p∈ps,p.block<W.heap.size)→(∀ p∈ps,sp p.block=true)→DataW.TrodAll enc Tryz.prog W' 0 sp true ts vs ds ps
 | [],_,_,_,_,h,_,_=>by
  obtain ⟨rfl,rfl,rfl⟩:=trodAll_nil h
  exact trodAll_mk0
 | t::ts,_,_,_,ht,h,hl,hs=>by
  obtain ⟨v,vs1,d,ds1,a,b,rfl,rfl,rfl,⟨n,h1⟩,h2⟩:=trodAll_cons h
  exact ⟨a,b,⟨n,DataW.trod_stays kidsT (fun h hu=>sliceT h hu) (fun h=>by cases h) (ht t (List.mem_cons_self ..)) h1 (fun p hp=>below_same hB (hl p (List.mem_append_left _ hp))) (fun p hp=>hs p (List.mem_append_left _ hp))⟩,
   trodAll_stays hB (fun t h=>ht t (List.mem_cons_of_mem _ h)) h2 (fun p hp=>hl p (List.mem_append_right _ hp)) (fun p hp=>hs p (List.mem_append_right _ hp)),rfl⟩
theorem post_old {H:Type} {enc:TypeId × Value→H} {f:Func} {s:ChangeSpec} {apart fresh handsOn:Bool} {W W':World} {args:Array Value} {v:Value} {ds gs:List (DataW H)} {before:List MemPlace} (hv0:s.vars=[])
  (hW:DataW.Whole enc Tryz.prog f.params.toList s.vars apart W args.toList ds gs before)
  (hres:∀ (b:Nat) (sp:Nat→Bool) (hd:Bool),DataW.TrodAll enc Tryz.prog W' b sp hd f.resultTypes.toList (v.resultList f.resultTypes.size) (s.fn H (ds++gs)).results [])
  (hargs:(s.fn H (ds++gs)).args=ds) (hvs:(s.fn H (ds++gs)).vars=[]) (hts:∀ t∈f.params.toList,t<Tryz.prog.types.size) (hB:Below W.heap.size W W') :
  s.post enc Tryz.prog f apart fresh handsOn false W args v W':=by
 have hlt:=hW.lt
 have hW':=hW
 obtain ⟨p,q,hA,hV,rfl,hz,hn⟩:=hW
 rw [hv0] at hV
 obtain ⟨rfl,rfl⟩:=trodVars_none hV
 rw [List.append_nil] at hlt hW'
 refine ⟨ds,[],p,[],p,[],hW',hres _ _ _,?_,?_,hB.frame _,fun h=>by cases h⟩
 ·rw [hargs]
  exact trodAll_stays hB hts hA hlt (fun p hp=>decide_eq_true (hlt p hp))
 ·rw [hvs,hv0]
  rfl
open Go.ChangeMaps
theorem ret_and_shaped {H:Type} {enc:TypeId × Value→H} {a:Assume} {C:Checked} {os:Os} {f:FuncId} {fn:Func} {s:ChangeSpec} {conds:List PathCond} {apart fresh handsOn again:Bool} {X:World→Array Value→Prop}
  (hX:∀ (w w':World) (args:Array Value),w.heap=w'.heap→X w args→X w' args)
  (own:ownKnob C.prog.godebug=none) (started:os.Started) (noInit:C.prog.inits.idxOf? f=none) (hfn:C.prog.funcs[f]?=some fn)
  (witness:∃ (w:World) (tape:Tape) (i:Input),w.os=os∧(w.forCall tape i).Shaped C.prog∧i.vars=[]∧Input.okWide C.prog (w.forCall tape i) .any w.heap.size f i ∧
   ((s.pre enc C.prog fn conds apart (w.forCall tape i).memory i.args∧X (w.forCall tape i).memory i.args)∧sizedMet enc C.prog fn (OpenSpec.ofChange s) apart (w.forCall tape i).memory i.args)∧a.holds C.prog (lone (Frame.enter C.prog f i.args .normal) [] (w.forCall tape i)))
  (contract:∀ (W:World) (base:Nat) (args:Array Value) (ds gs:List (DataW H)) (before:List MemPlace),
   (∀ (j:Nat) t v,fn.params[j]?=some t→args[j]?=some v→Value.okWide C.prog W .any base t v) →
   DataW.Whole enc C.prog fn.params.toList s.vars apart W args.toList ds gs before→W.ShapedOpen C.prog→X W args →
   Calls C.prog f args W fun e W'=>∃ v,e=.returned v∧s.post enc C.prog fn apart fresh handsOn again W args v W') :
  ReturnsInHanded a C os f .any (fun w args=>(s.pre enc C.prog fn conds apart w args∧X w args)∧sizedMet enc C.prog fn (OpenSpec.ofChange s) apart w args) (s.post enc C.prog fn apart fresh handsOn again):=by
 refine returnsInHanded_of_calls own started noInit witness ?_
 intro w tape i _ hsh _ hok hpre hholds
 obtain ⟨_,_,_,fn',hfn',_,_,_,_,hval⟩:=hok
 have e:fn'=fn:=Option.some.inj (hfn'.symm.trans hfn)
 subst e
 obtain ⟨⟨⟨ds,gs,before,hw,hc⟩,hx⟩,hz⟩:=hpre
 have hw':=DataW.Whole.of_heap (w':=w.forCall tape i) (by rfl) hw
 refine (contract (w.forCall tape i) w.heap.size i.args ds gs before hval hw' hsh (hX _ _ _ (by rfl) hx)).mono fun e W' ⟨v,he,hp⟩=>?_
 subst he
 exact ChangeSpec.post_blind hp
end Go.Sx.Ob
