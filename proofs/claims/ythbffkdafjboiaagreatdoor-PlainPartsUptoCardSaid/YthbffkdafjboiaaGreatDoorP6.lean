/- Contracts over heaps, part 6. Condition: as each statement says. -/
import Derived.Test.YthbffkdafjboiaaGreatDoorP5
import Derived.Test.YthbffkdafjboiaaGreatDoorSxZ
import Derived.Test.YthbffkdafjboiaaGreatDoorTie
import Derived.Test.YthbffkdafjboiaaGreatDoorCards
import Derived.SevenTiedAt
set_option linter.all false
set_option maxRecDepth 100000
set_option maxHeartbeats 4000000
namespace Go.Sx.Ob
open Go.Proofs Go.Proofs.YthbffkdafjboiaaGreatDoor
open Go.ChangeShapes Go.WideShapes Go.ChangeAt Go.WideMaps Go.WideElems Go.RowKit
variable {H:Type} {apart:Bool}
def UD:Kids Tryz.prog (·<Tryz.prog.types.size):=kids_rows az az
def sliceB:((List.range Tryz.prog.types.size).all fun t=>match Tryz.prog.underlying t with | some (.slice e)=>decide (0<Tryz.prog.cellsOf e) | _=>true)=true:=az
def Sr {t e:TypeId} (ht:t<Tryz.prog.types.size) (hu:Tryz.prog.underlying t=some (.slice e)):0<Tryz.prog.cellsOf e:=by
 have:=XA.1 sliceB t (YM.2 ht)
 rw [hu] at this;exact W2 this
theorem sM {enc:TypeId × ZB->H} {W W':World} {sp:Nat->Bool} (hB:Below W.heap.size W W'):∀ {ts:List TypeId} {vs:List ZB} {ds:List (DataW H)} {ps:List MemPlace},(∀ t∈ts,t<Tryz.prog.types.size) ->
  DataW.TrodAll enc Tryz.prog W 0 (fun _=>true) true ts vs ds ps->(∀ p∈ps,p.block<W.heap.size)->(∀ p∈ps,sp p.block=true)->DataW.TrodAll enc Tryz.prog W' 0 sp true ts vs ds ps
 | [],_,_,_,_,h,_,_=>by
  obtain ⟨rfl,rfl,rfl⟩:=trodAll_nil h;exact trodAll_mk0
 | t::ts,_,_,_,ht,h,hl,hs=>by
  obtain ⟨v,vs1,d,ds1,a,b,rfl,rfl,rfl,⟨n,h1⟩,h2⟩:=trodAll_cons h;exact ⟨a,b,⟨n,DataW.trod_stays UD (fun h hu=>Sr h hu) (fun h=>by cases h) (ht t (YD ..)) h1 (fun p hp=>Gq hB (hl p (Xy _ hp))) (fun p hp=>hs p (Xy _ hp))⟩,
   sM hB (fun t h=>ht t (Xh _ h)) h2 (fun p hp=>hl p (XF _ hp)) (fun p hp=>hs p (XF _ hp)),rfl⟩
def L4 {enc:TypeId × ZB->H} {f:Func} {s:ChangeSpec} {fresh handsOn:Bool} {W W':World} {args:Array ZB} {v:ZB} {ds gs:List (DataW H)} {before:List MemPlace} (hv0:s.vars=[])
  (hW:DataW.Whole enc Tryz.prog f.params.toList s.vars apart W args.toList ds gs before)
  (hres:∀ (b:Nat) (sp:Nat->Bool) (hd:Bool),DataW.TrodAll enc Tryz.prog W' b sp hd f.resultTypes.toList (v.resultList f.resultTypes.size) (s.fn H (ds++gs)).results [])
  (hargs:(s.fn H (ds++gs)).args=ds) (dZ:(s.fn H (ds++gs)).vars=[]) (hts:∀ t∈f.params.toList,t<Tryz.prog.types.size) (hB:Below W.heap.size W W') :
  s.post enc Tryz.prog f apart fresh handsOn false W args v W':=by
 have hlt:=hW.lt;have hW':=hW;obtain ⟨p,q,hA,hV,rfl,hz,hn⟩:=hW;rw [hv0] at hV;obtain ⟨rfl,rfl⟩:=trodVars_none hV;rw [X4] at hlt hW';refine ⟨ds,[],p,[],p,[],hW',hres _ _ _,?_,?_,hB.frame _,fun h=>by cases h⟩
 ·rw [hargs];exact sM hB hts hA hlt (fun p hp=>W9 (hlt p hp))
 ·rw [dZ,hv0] <;> rfl
def Lh {enc:TypeId × ZB->H} {a:Assume} {C:Checked} {os:Os} {f:FuncId} {fn:Func} {s:OpenSpec} {k:(H:Type)->List (DataW H)->Bool} (hk:s.cond=some k) {F:Stop.Interp} {conds:List PathCond} {fresh handsOn again:Bool} {X:World->Array ZB->Prop}
  (hX:∀ (w w':World) (args:Array ZB),w.heap=w'.heap->X w args->X w' args)
  (own:ownKnob C.prog.godebug=none) (started:os.Started) (noInit:C.prog.inits.idxOf? f=none) (hfn:C.prog.funcs[f]?=some fn)
  (witness:∃ (w:World) (tape:Tape) (i:Input),w.os=os/\(w.forCall tape i).Shaped C.prog/\i.vars=[]/\Input.okWide C.prog (w.forCall tape i) .any w.heap.size f i /\
   ((s.pre enc C.prog fn conds apart (w.forCall tape i).memory i.args/\X (w.forCall tape i).memory i.args)/\sizedMet enc C.prog fn s apart (w.forCall tape i).memory i.args)/\a.holds C.prog (lone (Frame.enter C.prog f i.args .normal) [] (w.forCall tape i)))
  (contract:∀ (W:World) (base:Nat) (args:Array ZB) (ds gs:List (DataW H)) (before:List MemPlace),
   (∀ (j:Nat) t v,fn.params[j]?=some t->args[j]?=some v->Value.okWide C.prog W .any base t v) ->
   DataW.Whole enc C.prog fn.params.toList s.vars apart W args.toList ds gs before->k H (ds++gs)=true->X W args ->
   Calls C.prog f args W fun e W'=>∃ v,e=.returned v/\(s.at F).post enc C.prog fn apart fresh handsOn again W args v W') :
  ReturnsInHanded a C os f .any (fun w args=>(s.pre enc C.prog fn conds apart w args/\X w args)/\sizedMet enc C.prog fn s apart w args) ((s.at F).post enc C.prog fn apart fresh handsOn again):=by
 refine returnsInHanded_of_calls own started noInit witness ?_;intro w tape i _ _ _ hok hpre hholds;obtain ⟨_,_,_,fn',hfn',_,_,_,_,hval⟩:=hok;have e:fn'=fn:=Xo (hfn'.symm.trans hfn);subst e;obtain ⟨⟨hp,hx⟩,hz⟩:=hpre;obtain ⟨ds,gs,before,hw,hc,hkk⟩:=(OpenSpec.pre_some hk conds apart _ _).1 hp;have hw':=DataW.Whole.of_heap (w':=w.forCall tape i) (by rfl) hw;refine (contract (w.forCall tape i) w.heap.size i.args ds gs before hval hw' hkk (hX _ _ _ (by rfl) hx)).mono fun e W' ⟨v,he,hp⟩=>?_
 subst he;exact ChangeSpec.post_blind hp
def FV {enc:TypeId × ZB->H} {C:Checked} {os:Os} {f:FuncId} {fn:Func} {s:OpenSpec} {k:(H:Type)->List (DataW H)->Bool} (hk:s.cond=some k) {X:World->Array ZB->Prop} (w0:World) (args:Array ZB) (fuel:Nat) (hos:w0.os=os)
  (hsh:(w0.forCall (fun _ _=>0) ⟨#[],args,[]⟩).Shaped C.prog)
  (hok:Input.okWideB C.prog (w0.forCall (fun _ _=>0) ⟨#[],args,[]⟩) f ⟨#[],args,[]⟩=true)
  {x:List (DataW H) × List (DataW H) × List MemPlace} (hx:DataW.whole enc C.prog (w0.forCall (fun _ _=>0) ⟨#[],args,[]⟩).memory fn.params.toList s.vars apart args.toList fuel=some x) (hkk:k H (x.1++x.2.1)=true)
  (hsz:s.bare.sizedB enc C.prog fn apart (w0.forCall (fun _ _=>0) ⟨#[],args,[]⟩).memory args fuel=true)
  (hX:X (w0.forCall (fun _ _=>0) ⟨#[],args,[]⟩).memory args) :
  ∃ (w:World) (tape:Tape) (i:Input),w.os=os/\(w.forCall tape i).Shaped C.prog/\i.vars=[]/\Input.okWide C.prog (w.forCall tape i) .any w.heap.size f i /\
   ((s.pre enc C.prog fn [] apart (w.forCall tape i).memory i.args/\X (w.forCall tape i).memory i.args)/\sizedMet enc C.prog fn s apart (w.forCall tape i).memory i.args)/\({}:Assume).holds C.prog (lone (Frame.enter C.prog f i.args .normal) [] (w.forCall tape i)) :=
 ⟨w0,fun _ _=>0,⟨#[],args,[]⟩,hos,hsh,(Input.okWide_of_okWideB (base:=0) hok).1,(Input.okWide_of_okWideB hok).2,
  ⟨⟨(OpenSpec.pre_some hk [] apart _ _).2 ⟨x.1,x.2.1,x.2.2,DataW.Whole_of_whole hx,rfl,hkk⟩,hX⟩,sizedMet_of_sizedB hsz⟩,by
  simp only [Assume.holds];exact ⟨aj,aj,aj,aj,aj⟩⟩
structure wc (x:cm):Prop where
 EI:∀ t,t∈x.ai->t.2<4294967296
 num:x.num<4294967296
structure S6 (u:cd):Prop where
 text:∀ x,x∈u.text->wc x.e
 data:∀ x,x∈u.data->wc x.e
 bg:∀ x,x∈u.bg->wc x.2
def Wy:Tryz.prog.underlying 67=some (.int .u32):=az
def WE:Tryz.prog.underlying 21=some (.int .i32):=az
def WG:Tryz.prog.underlying 66=some (.slice 117):=az
def WB:Tryz.prog.cellsOf 117=2:=az
def VH:Tryz.prog.cellsOf 69=2:=az
def WZ:Tryz.prog.cellsOf 66=1:=az
def Wq:Tryz.prog.cellsOf 67=1:=az
def WK:Tryz.prog.cellsOf 21=1:=az
def Wz:Tryz.prog.cellsOf 65=5:=az
def V8:Tryz.prog.cellsOf 71=10:=az
def WA:Tryz.prog.cellsOf 100=3:=az
def Wl:Tryz.prog.cellsOf 43=1:=az
def WD:Tryz.prog.cellsOf 44=1:=az
def WR:Tryz.prog.cellsOf 45=1:=az
def Wt:Tryz.prog.cellsOf 47=4:=az
def VI:uP Tryz.prog 117=some [(9,0),(67,1)]:=az
def WV:uP Tryz.prog 69=some [(66,0),(67,1)]:=az
def WN:uP Tryz.prog 65=some [(3,0),(3,1),(3,2),(21,3),(3,4)]:=az
def VX:uP Tryz.prog 71=some [(3,0),(9,1),(65,2),(69,7),(3,9)]:=az
def TW:uP Tryz.prog 100=some [(9,0),(69,1)]:=az
def Vz:uP Tryz.prog 47=some [(43,0),(43,1),(44,2),(45,3)]:=az
section
variable {H:Type} {enc:TypeId × ZB->H} {W:World} {base n:Nat} {sp:Nat->Bool} {held:Bool} {cs:List ZB} {y:DataW H × List MemPlace}
def KH {α:Type} {ys:List α} {a b:α} (hl:ys.length=2) (h0:ys[0]?=some a) (h1:ys[1]?=some b):ys=[a,b]:=by
 match ys,hl with
 | [x,y],_ =>
  simp only [List.getElem?_cons_zero,List.getElem?_cons_succ,Option.some.injEq] at h0 h1;subst h0 h1;rfl
def QT (t:ZA × Nat) (cs:List ZB) (k:Nat):Prop:=cs=dc t/\t.1.size<=maxLen/\t.2<4294967296/\k=t.1.size+3
def Kb (h:DataW.trod enc Tryz.prog W base sp held n 117 cs=some y):∃ t,QT t cs (Rows.uptoBulk y.1):=by
 obtain ⟨ys,m,hy,hl,hyn,hys⟩:=fU VI h;obtain ⟨y0,g0,t0⟩:=hys 0 _ rfl;obtain ⟨y1,g1,t1⟩:=hys 1 _ rfl;have hys2:=KH hyn g0 g1;rw [WB] at hl
 match cs,hl with
 | [v,u],_ =>
  rw [show Tryz.prog.cellsOf (9,0).1=1 from c9] at t0;rw [show Tryz.prog.cellsOf (67,1).1=1 from Wq] at t1;obtain ⟨s,e0,r0,hs⟩:=DataW.trod_string u9 t0;obtain ⟨k,e1,r1,hk⟩:=DataW.trod_int Wy t1;have hb:=bounds_u32 hk;cases e0; cases e1;refine ⟨(s,k.toNat),?_,hs,by show k.toNat<_; omega,?_⟩
  ·unfold dc;simp only [List.cons.injEq,Value.int.injEq,true_and,and_true];omega
  ·rw [hy,hys2,r0,r1];simp only [List.map_cons,List.map_nil,Rows.uptoBulk,Rows.uptoBulkAll];rw [Yb];show s.data.size+1+(1+0)+1=s.data.size+3;omega
structure KF (h:Hp) (p:ZC) (l c:Nat) (x:cm) (k:Nat):Prop where
 vw:gK h p l x.ai
 names:∀ t,t∈x.ai->t.1.size<=maxLen
 num:wc x
 many:3*x.ai.length<=k
 size:(lj x).length<=2*k
 cap:l<=c
theorem zW:∀ (ts:da) (ks:List Nat),ks.length=ts.length->(∀ i,(hi:i<ts.length)->(hk:i<ks.length)->ks[i]=ts[i].1.size+3)->(ts.flatMap EO).length=2*ks.sum-(ts.map (·.1.size)).sum/\(ts.map (·.1.size)).sum+3*ts.length=ks.sum
 | [],ks,hl,_=>by
  have:ks=[]:=YG.1 hl
  subst this
  simp
 | t::ts,[],hl,_=>by simp at hl
 | t::ts,k::ks,hl,h=>by
  have h0:=h 0 aj aj;simp only [List.getElem_cons_zero] at h0;obtain ⟨i1,i2⟩:=zW ts ks (by simpa using hl) (fun i hi hk=>h (i+1) (by simpa using hi) (by simpa using hk));have hw:(EO t).length=t.1.size+6:=by
   unfold EO iY;simp only [List.length_append,dq]
   have:t.1.data.toList.length=t.1.size:=aj
   omega
  rw [XJ,W8,X1,XH,X1,XP,hw,i1];omega
def Fw (h:DataW.trod enc Tryz.prog W base sp held n 69 cs=some y) :
  ∃ p l c x,cs=[.slice p l c,.int .u32 ((x:cm).num:Int)]/\KF W.heap p l c x (Rows.uptoBulk y.1):=by
 obtain ⟨ys,m,hy,hl,hyn,hys⟩:=fU WV h;obtain ⟨y0,g0,t0⟩:=hys 0 _ rfl;obtain ⟨y1,g1,t1⟩:=hys 1 _ rfl;have hys2:=KH hyn g0 g1;rw [VH] at hl
 match cs,hl with
 | [v,u],_ =>
  rw [show Tryz.prog.cellsOf (66,0).1=1 from WZ] at t0;rw [show Tryz.prog.cellsOf (67,1).1=1 from Wq] at t1;obtain ⟨p,l,c,us,ks,e0,ls,hsum⟩:=open_slice WG WB QT (fun cs y n h=>Kb h) t0;obtain ⟨k,e1,r1,hk⟩:=DataW.trod_int Wy t1;have hb:=bounds_u32 hk;cases e0; cases e1;have hkk:((k.toNat:Nat):Int)=k:=ad
  have hbulk:Rows.uptoBulk y.1=Rows.uptoBulk y0.1+2:=by
   rw [hy,hys2,r1];simp only [List.map_cons,List.map_nil,Rows.uptoBulk,Rows.uptoBulkAll]
  have hq:∀ i,(hi:i<us.length)->(hk:i<ks.length)->us[i].1.size<=maxLen/\us[i].2<4294967296/\ks[i]=us[i].1.size+3:=by
   intro i hi hk;obtain ⟨a,cs,_,_,_,q2,q3,q4⟩:=ls.cells i hi hk;exact ⟨q2,q3,q4⟩
  have hkl:=ls.xS;obtain ⟨w1,w2⟩:=zW us ks hkl (fun i hi hk=>(hq i hi hk).2.2);refine ⟨p,l,c,⟨us,k.toNat⟩,by rw [show ((⟨us,k.toNat⟩:cm).num:Int)=k from hkk],⟨ls.len,fun i hi=>?_⟩,?_,⟨?_,by show k.toNat<_; omega⟩,?_,?_,ls.cap⟩
  ·have hi:i<us.length:=hi;obtain ⟨a,cs,ha,hc,q1,_⟩:=ls.cells i hi ad;rw [q1] at hc;exact ⟨a,ha,hc⟩
  ·intro t (ht:t∈us);obtain ⟨i,hi,rfl⟩:=Xw ht;exact (hq i hi ad).1
  ·intro t (ht:t∈us);obtain ⟨i,hi,rfl⟩:=Xw ht;exact (hq i hi ad).2.1
  ·show 3*us.length<=_;omega
  ·show (tE us.length 2++(us.flatMap EO++tE k.toNat 4)).length<=_;rw [W8,W8,dq,dq,w1];omega
def Rt {α:Type} {ys:List α} {a b c d e:α} (hl:ys.length=5) (h0:ys[0]?=some a) (h1:ys[1]?=some b) (h2:ys[2]?=some c) (h3:ys[3]?=some d) (h4:ys[4]?=some e):ys=[a,b,c,d,e]:=by
 match ys,hl with
 | [x0,x1,x2,x3,x4],_ =>
  simp only [List.getElem?_cons_zero,List.getElem?_cons_succ,Option.some.injEq] at h0 h1 h2 h3 h4;subst h0 h1 h2 h3 h4;rfl
def Uv {α:Type} {ys:List α} {a b c d:α} (hl:ys.length=4) (h0:ys[0]?=some a) (h1:ys[1]?=some b) (h2:ys[2]?=some c) (h3:ys[3]?=some d):ys=[a,b,c,d]:=by
 match ys,hl with
 | [x0,x1,x2,x3],_ =>
  simp only [List.getElem?_cons_zero,List.getElem?_cons_succ,Option.some.injEq] at h0 h1 h2 h3;subst h0 h1 h2 h3;rfl
def K8 (h:DataW.trod enc Tryz.prog W base sp held n 65 cs=some y):∃ i:Ins,cs=nV i/\Sm i.op/\Rows.uptoBulk y.1=6:=by
 obtain ⟨ys,m,hy,hl,hyn,hys⟩:=fU WN h;obtain ⟨y0,g0,t0⟩:=hys 0 _ rfl;obtain ⟨y1,g1,t1⟩:=hys 1 _ rfl;obtain ⟨y2,g2,t2⟩:=hys 2 _ rfl;obtain ⟨y3,g3,t3⟩:=hys 3 _ rfl;obtain ⟨y4,g4,t4⟩:=hys 4 _ rfl;have hys5:=Rt hyn g0 g1 g2 g3 g4;rw [Wz] at hl
 match cs,hl with
 | [v0,v1,v2,v3,v4],_ =>
  rw [show Tryz.prog.cellsOf (3,0).1=1 from c3] at t0;rw [show Tryz.prog.cellsOf (3,1).1=1 from c3] at t1;rw [show Tryz.prog.cellsOf (3,2).1=1 from c3] at t2;rw [show Tryz.prog.cellsOf (21,3).1=1 from WK] at t3;rw [show Tryz.prog.cellsOf (3,4).1=1 from c3] at t4;obtain ⟨k0,e0,r0,w0⟩:=DataW.trod_int u3 t0;obtain ⟨k1,e1,r1,w1⟩:=DataW.trod_int u3 t1;obtain ⟨k2,e2,r2,w2⟩:=DataW.trod_int u3 t2;obtain ⟨k3,e3,r3,w3⟩:=DataW.trod_int WE t3;obtain ⟨k4,e4,r4,w4⟩:=DataW.trod_int u3 t4;cases e0; cases e1; cases e2; cases e3; cases e4;refine ⟨⟨k0,k1,k2,k3,k4⟩,rfl,bounds_i64 w0,?_⟩;rw [hy,hys5,r0,r1,r2,r3,r4];simp only [List.map_cons,List.map_nil,Rows.uptoBulk,Rows.uptoBulkAll]
def QI (h:Hp) (x:cF) (cs:List ZB) (k:Nat):Prop:=∃ p l c b,cs=encI p l c x/\KF h p l c x.e b/\x.name.size<=maxLen/\Sm x.inst.op/\k=x.name.size+b+10
def A0 (h:DataW.trod enc Tryz.prog W base sp held n 71 cs=some y):∃ x,QI W.heap x cs (Rows.uptoBulk y.1):=by
 obtain ⟨ys,m,hy,hl,hyn,hys⟩:=fU VX h;obtain ⟨y0,g0,t0⟩:=hys 0 _ rfl;obtain ⟨y1,g1,t1⟩:=hys 1 _ rfl;obtain ⟨y2,g2,t2⟩:=hys 2 _ rfl;obtain ⟨y3,g3,t3⟩:=hys 3 _ rfl;obtain ⟨y4,g4,t4⟩:=hys 4 _ rfl;have hys5:=Rt hyn g0 g1 g2 g3 g4;rw [V8] at hl
 match cs,hl with
 | [v0,v1,v2,v3,v4,v5,v6,v7,v8,v9],_ =>
  rw [show Tryz.prog.cellsOf (3,0).1=1 from c3] at t0;rw [show Tryz.prog.cellsOf (9,1).1=1 from c9] at t1;rw [show Tryz.prog.cellsOf (65,2).1=5 from Wz] at t2;rw [show Tryz.prog.cellsOf (69,7).1=2 from VH] at t3;rw [show Tryz.prog.cellsOf (3,9).1=1 from c3] at t4;obtain ⟨k0,e0,r0,w0⟩:=DataW.trod_int u3 t0;obtain ⟨s,e1,r1,w1⟩:=DataW.trod_string u9 t1;obtain ⟨i,e2,w2,r2⟩:=K8 t2;obtain ⟨p,l,c,x,e3,lk⟩:=Fw t3;obtain ⟨k4,e4,r4,w4⟩:=DataW.trod_int u3 t4;cases e0; cases e1; cases e2; cases e3; cases e4;refine ⟨⟨k0,s,i,x,k4⟩,p,l,c,_,rfl,lk,w1,w2,?_⟩;rw [hy,hys5,r0,r1,r4];simp only [List.map_cons,List.map_nil,Rows.uptoBulk,Rows.uptoBulkAll,r2];rw [Yb];show 1+(s.data.size+1+(6+(Rows.uptoBulk y3.1+(1+0))))+1=s.data.size+Rows.uptoBulk y3.1+10;omega
def QE (h:Hp) (x:qY) (cs:List ZB) (k:Nat):Prop:=∃ p l c b,cs=Tn p l c x/\KF h p l c x.2 b/\x.1.size<=maxLen/\k=x.1.size+b+2
def Ng (h:DataW.trod enc Tryz.prog W base sp held n 100 cs=some y):∃ x,QE W.heap x cs (Rows.uptoBulk y.1):=by
 obtain ⟨ys,m,hy,hl,hyn,hys⟩:=fU TW h;obtain ⟨y0,g0,t0⟩:=hys 0 _ rfl;obtain ⟨y1,g1,t1⟩:=hys 1 _ rfl;have hys2:=KH hyn g0 g1;rw [WA] at hl
 match cs,hl with
 | [v0,v1,v2],_ =>
  rw [show Tryz.prog.cellsOf (9,0).1=1 from c9] at t0;rw [show Tryz.prog.cellsOf (69,1).1=2 from VH] at t1;obtain ⟨s,e1,r1,w1⟩:=DataW.trod_string u9 t0;obtain ⟨p,l,c,x,e3,lk⟩:=Fw t1;cases e1; cases e3;refine ⟨(s,x),p,l,c,_,rfl,lk,w1,?_⟩;rw [hy,hys2,r1];simp only [List.map_cons,List.map_nil,Rows.uptoBulk,Rows.uptoBulkAll];rw [Yb];show (s.data.size+1+(Rows.uptoBulk y1.1+0))+1=s.data.size+Rows.uptoBulk y1.1+2;omega
def QS (x:ZA) (cs:List ZB) (k:Nat):Prop:=cs=[.string x]/\x.size<=maxLen/\k=x.size+1
def Lo (h:DataW.trod enc Tryz.prog W base sp held n 9 cs=some y):∃ x,QS x cs (Rows.uptoBulk y.1):=by
 obtain ⟨s,e1,r1,w1⟩:=DataW.trod_string u9 h;refine ⟨s,e1,w1,?_⟩;rw [r1];simp only [Rows.uptoBulk];rw [Yb] <;> rfl
theorem gg {α:Type} (f:α->Nat) (m:Nat):∀ (us:List α) (ks:List Nat),ks.length=us.length->(∀ i,(hi:i<us.length)->(hk:i<ks.length)->f us[i]<=m*ks[i])->(us.map f).sum<=m*ks.sum
 | [],ks,hl,_=>aj
 | u::us,[],hl,_=>by simp at hl
 | u::us,k::ks,hl,h=>by
  have h0:=h 0 aj aj;simp only [List.getElem_cons_zero] at h0;have ih:=gg f m us ks (by simpa using hl) (fun i hi hk=>h (i+1) (by simpa using hi) (by simpa using hk));rw [XH,X1,X1,Nat.mul_add];omega
def Mw {h:Hp} {x:cF} {cs:List ZB} {k:Nat} (q:QI h x cs k):(G' x).length<=2*k:=by
 obtain ⟨p,l,c,b,_,lk,_,_,rfl⟩:=q;have h1:=lk.size;have ht:(iY x.name).length=x.name.size+2:=by
  unfold iY;rw [W8,dq]
  have:x.name.data.toList.length=x.name.size:=aj
  omega
 have hi:∀ (n:Int) (w:Nat),(Cc n w).length=w:=fun n w=>by unfold Cc; rw [dq]
 unfold G';rw [W8,hi];split
 ·omega
 ·split
  ·rw [W8,W8,W8,W8,hi,hi,hi,hi];split
   ·omega
   ·simp
    omega
  ·split
   ·rw [hi]; omega
   ·split
    ·omega
    ·split
     ·rw [hi]; omega
     ·simp
      omega
def Li {h:Hp} {x:qY} {cs:List ZB} {k:Nat} (q:QE h x cs k):(KU x).length<=2*k:=by
 obtain ⟨p,l,c,b,_,lk,_,rfl⟩:=q;have h1:=lk.size;unfold KU iY;rw [W8,W8,dq]
 have:x.1.data.toList.length=x.1.size:=aj
 omega
def IG {x:ZA} {cs:List ZB} {k:Nat} (q:QS x cs k):(iY x).length<=2*k:=by
 obtain ⟨_,_,rfl⟩:=q;unfold iY;rw [W8,dq]
 have:x.data.toList.length=x.size:=aj
 omega
def GN {α:Type} (f:α->Bt) (us:List α):(us.flatMap f).length=(us.map fun u=>(f u).length).sum:=by rw [YU]
end
theorem ry:∀ (ks:List Nat) (i:Nat) (h:i<ks.length),ks[i]<=ks.sum
 | k::ks,0,_=>aj
 | k::ks,i+1,h=>by
  have:=ry ks i (by simpa using h)
  simp only [List.getElem_cons_succ,List.sum_cons];omega
theorem iK {α:Type}:∀ us:List α,(us.map fun _=>1).sum=us.length
 | []=>rfl
 | u::us=>by rw [XH,X1,iK us,XP,Nat.add_comm]
def uy {α:Type} {P:α->Prop} {us:List α} (h:∀ i,(hi:i<us.length)->P us[i]):∀ x,x∈us->P x:=fun x hx=>by
 obtain ⟨i,hi,rfl⟩:=Xw hx;exact h i hi
def KF.at {h:Hp} {p:ZC} {l c:Nat} {x:cm} {k:Nat} (q:KF h p l c x k) (hk:k<=2^60):qX h p l x:=⟨q.vw,by have:=q.many; omega,q.names⟩
def Hi {h:Hp} {p:ZC} {l c:Nat} {us:List cF} {ks:List Nat} (s:AJ (QI h) h 10 p l c us ks) (hs:ks.sum<=2^58):Dj h p l us/\(∀ x,x∈us->wc x.e)/\(us.flatMap G').length<=2*ks.sum:=by
 have hl:=s.xS;have q:∀ i,(hi:i<us.length)->∃ a cs,p=some a/\aJ h (a.add (i*10)) 0 cs/\QI h us[i] cs ks[i]:=fun i hi=>s.cells i hi ad
 have one:∀ i,(hi:i<us.length)->1<=1*ks[i]:=fun i hi=>by
  obtain ⟨_,_,_,_,_,_,_,_,_,_,_,_,hk⟩:=q i hi;omega
 have hm:us.length<=ks.sum:=by
  have:=gg (fun _=>1) 1 us ks hl (fun i hi hk=>one i hi)
  rw [iK] at this;omega
 refine ⟨⟨s.len,ad,fun i hi=>?_⟩,uy fun i hi=>?_,?_⟩
 ·obtain ⟨a,cs,ha,hc,p',l',c',b,rfl,lk,hn,ho,hk⟩:=q i hi
  have:=ry ks i ad
  exact ⟨a,p',l',c',ha,hc,lk.at ad,hn,ho⟩
 ·obtain ⟨a,cs,ha,hc,p',l',c',b,rfl,lk,hn,ho,hk⟩:=q i hi;exact lk.num
 ·rw [GN];refine gg _ 2 us ks hl (fun i hi hk=>?_);obtain ⟨a,cs,ha,hc,hq⟩:=q i hi;exact Mw hq
def Qs {h:Hp} {p:ZC} {l c:Nat} {us:List qY} {ks:List Nat} (s:AJ (QE h) h 3 p l c us ks) (hs:ks.sum<=2^58):tk h p l us/\(∀ x,x∈us->wc x.2)/\(us.flatMap KU).length<=2*ks.sum:=by
 have hl:=s.xS;have q:∀ i,(hi:i<us.length)->∃ a cs,p=some a/\aJ h (a.add (i*3)) 0 cs/\QE h us[i] cs ks[i]:=fun i hi=>s.cells i hi ad
 have one:∀ i,(hi:i<us.length)->1<=1*ks[i]:=fun i hi=>by
  obtain ⟨_,_,_,_,_,_,_,_,_,_,_,hk⟩:=q i hi;omega
 have hm:us.length<=ks.sum:=by
  have:=gg (fun _=>1) 1 us ks hl (fun i hi hk=>one i hi)
  rw [iK] at this;omega
 refine ⟨⟨s.len,ad,fun i hi=>?_⟩,uy fun i hi=>?_,?_⟩
 ·obtain ⟨a,cs,ha,hc,p',l',c',b,rfl,lk,hn,hk⟩:=q i hi
  have:=ry ks i ad
  exact ⟨a,p',l',c',ha,hc,lk.at ad,hn⟩
 ·obtain ⟨a,cs,ha,hc,p',l',c',b,rfl,lk,hn,hk⟩:=q i hi;exact lk.num
 ·rw [GN];refine gg _ 2 us ks hl (fun i hi hk=>?_);obtain ⟨a,cs,ha,hc,hq⟩:=q i hi;exact Li hq
def Qv {h:Hp} {p:ZC} {l c:Nat} {us:List ZA} {ks:List Nat} (s:AJ QS h 1 p l c us ks) (hs:ks.sum<=2^58):Vp h p l us/\(us.flatMap iY).length<=2*ks.sum:=by
 have hl:=s.xS;have q:∀ i,(hi:i<us.length)->∃ a cs,p=some a/\aJ h (a.add (i*1)) 0 cs/\QS us[i] cs ks[i]:=fun i hi=>s.cells i hi ad
 have one:∀ i,(hi:i<us.length)->1<=1*ks[i]:=fun i hi=>by
  obtain ⟨_,_,_,_,_,_,hk⟩:=q i hi;omega
 have hm:us.length<=ks.sum:=by
  have:=gg (fun _=>1) 1 us ks hl (fun i hi hk=>one i hi)
  rw [iK] at this;omega
 refine ⟨⟨s.len,ad,fun i hi=>?_⟩,?_⟩
 ·obtain ⟨a,cs,ha,hc,rfl,hn,hk⟩:=q i hi;exact ⟨a,ha,hc,hn⟩
 ·rw [GN];refine gg _ 2 us ks hl (fun i hi hk=>?_);obtain ⟨a,cs,ha,hc,hq⟩:=q i hi;exact IG hq
def wb {h:Hp} {p:ZC} {l c:Nat} {us:List cF} {ks:List Nat} (s:AJ (QI h) h 10 p l c us ks):(∀ x,x∈us->x.e.ai.length<=ks.sum)/\us.length<=ks.sum:=by
 have hl:=s.xS;have q:∀ i,(hi:i<us.length)->∃ a cs,p=some a/\aJ h (a.add (i*10)) 0 cs/\QI h us[i] cs ks[i]:=fun i hi=>s.cells i hi ad
 refine ⟨uy fun i hi=>?_,?_⟩
 ·obtain ⟨a,cs,ha,hc,p',l',c',b,rfl,lk,hn,ho,hk⟩:=q i hi
  have:=ry ks i ad
  have:=lk.many
  omega
 ·have:=gg (fun _=>1) 1 us ks hl (fun i hi hk=>by
   obtain ⟨_,_,_,_,_,_,_,_,_,_,_,_,hk⟩:=q i hi;omega)
  rw [iK] at this;omega
theorem Tc {α:Type} (g:α->Nat):∀ us:List α,(us.map fun x=>3*g x).sum=3*(us.map g).sum
 | []=>rfl
 | u::us=>by rw [XH,X1,XH,X1,Tc g us,Nat.mul_add]
def LJ {h:Hp} {p:ZC} {l c:Nat} {us:List cF} {ks:List Nat} (s:AJ (QI h) h 10 p l c us ks):(us.map fun x=>3*x.e.ai.length).sum<=ks.sum:=by
 have:=gg (fun x:cF=>3*x.e.ai.length) 1 us ks s.xS (fun i hi hk=>by
  obtain ⟨a,cs,ha,hc,p',l',c',b,_,lk,hn,ho,hk⟩:=s.cells i hi hk
  have:=lk.many
  omega)
 omega
def RY {h:Hp} {p:ZC} {l c:Nat} {us:List qY} {ks:List Nat} (s:AJ (QE h) h 3 p l c us ks):(us.map fun x=>3*x.2.ai.length).sum<=ks.sum:=by
 have:=gg (fun x:qY=>3*x.2.ai.length) 1 us ks s.xS (fun i hi hk=>by
  obtain ⟨a,cs,ha,hc,p',l',c',b,_,lk,hn,hk⟩:=s.cells i hi hk
  have:=lk.many
  omega)
 omega
def Ge {h:Hp} {p:ZC} {l c:Nat} {us:List qY} {ks:List Nat} (s:AJ (QE h) h 3 p l c us ks):(∀ x,x∈us->x.2.ai.length<=ks.sum)/\us.length<=ks.sum:=by
 have hl:=s.xS;have q:∀ i,(hi:i<us.length)->∃ a cs,p=some a/\aJ h (a.add (i*3)) 0 cs/\QE h us[i] cs ks[i]:=fun i hi=>s.cells i hi ad
 refine ⟨uy fun i hi=>?_,?_⟩
 ·obtain ⟨a,cs,ha,hc,p',l',c',b,rfl,lk,hn,hk⟩:=q i hi
  have:=ry ks i ad
  have:=lk.many
  omega
 ·have:=gg (fun _=>1) 1 us ks hl (fun i hi hk=>by
   obtain ⟨_,_,_,_,_,_,_,_,_,_,_,hk⟩:=q i hi;omega)
  rw [iK] at this;omega
def ND {h:Hp} {p:ZC} {l c:Nat} {us:List ZA} {ks:List Nat} (s:AJ QS h 1 p l c us ks):us.length<=ks.sum:=by
 have hl:=s.xS;have q:∀ i,(hi:i<us.length)->∃ a cs,p=some a/\aJ h (a.add (i*1)) 0 cs/\QS us[i] cs ks[i]:=fun i hi=>s.cells i hi ad
 have:=gg (fun _=>1) 1 us ks hl (fun i hi hk=>by
  obtain ⟨_,_,_,_,_,_,hk⟩:=q i hi;omega)
 rw [iK] at this;omega
structure Io (h:Hp) (a b c d:cv) (u:cd) (N:Nat):Prop where
 at_:sO h a b c d u
 num:S6 u
 size:(VN u).length<=2*N+13
 small:(∀ x,x∈u.text->x.e.ai.length<=N)/\(∀ x,x∈u.data->x.e.ai.length<=N)/\(∀ x,x∈u.bg->x.2.ai.length<=N)/\u.aY.length<=N/\u.text.length<=N/\u.data.length<=N/\u.bg.length<=N
 cap:a.l<=a.c
 UF:3*((Lk.cH u).flatMap (·.ai)).length<=N
 jt:u.text.length+u.data.length+u.bg.length+u.aY.length<=N
 pos:1<=N
def RO {h:Hp} {a b c d:cv} {u:cd} {N:Nat} (s:Io h a b c d u N):1<=N:=s.pos
section
variable {H:Type} {enc:TypeId × ZB->H} {W:World} {base n:Nat} {sp:Nat->Bool} {held:Bool} {cs:List ZB} {y:DataW H × List MemPlace}
def xZ (h:DataW.trod enc Tryz.prog W base sp held n 47 cs=some y) (hN:Rows.uptoBulk y.1<=2^50):∃ a b c d u,cs=[cv.v a,cv.v b,cv.v c,cv.v d]/\Io W.heap a b c d u (Rows.uptoBulk y.1):=by
 obtain ⟨ys,m,hy,hl,hyn,hys⟩:=fU Vz h;obtain ⟨y0,g0,t0⟩:=hys 0 _ rfl;obtain ⟨y1,g1,t1⟩:=hys 1 _ rfl;obtain ⟨y2,g2,t2⟩:=hys 2 _ rfl;obtain ⟨y3,g3,t3⟩:=hys 3 _ rfl;have hys4:=Uv hyn g0 g1 g2 g3;rw [Wt] at hl
 match cs,hl with
 | [v0,v1,v2,v3],_ =>
  rw [show Tryz.prog.cellsOf (43,0).1=1 from Wl] at t0;rw [show Tryz.prog.cellsOf (43,1).1=1 from Wl] at t1;rw [show Tryz.prog.cellsOf (44,2).1=1 from WD] at t2;rw [show Tryz.prog.cellsOf (45,3).1=1 from WR] at t3;obtain ⟨p0,l0,k0,u0,b0,e0,s0,m0⟩:=open_slice RG V8 (QI W.heap) (fun cs y n h=>A0 h) t0;obtain ⟨p1,l1,k1,u1,b1,e1,s1,m1⟩:=open_slice RG V8 (QI W.heap) (fun cs y n h=>A0 h) t1;obtain ⟨p2,l2,k2,u2,b2,e2,s2,m2⟩:=open_slice U6 WA (QE W.heap) (fun cs y n h=>Ng h) t2;obtain ⟨p3,l3,k3,u3,b3,e3,s3,m3⟩:=open_slice Hr c9 QS (fun cs y n h=>Lo h) t3;cases e0; cases e1; cases e2; cases e3;have hb:Rows.uptoBulk y.1=Rows.uptoBulk y0.1+Rows.uptoBulk y1.1+Rows.uptoBulk y2.1+Rows.uptoBulk y3.1+1:=by
   rw [hy,hys4];simp only [List.map_cons,List.map_nil,Rows.uptoBulk,Rows.uptoBulkAll];omega
  obtain ⟨x0,n0,w0⟩:=Hi s0 ad;obtain ⟨x1,n1,w1⟩:=Hi s1 ad;obtain ⟨x2,n2,w2⟩:=Qs s2 ad;obtain ⟨x3,w3⟩:=Qv s3 ad;refine ⟨⟨p0,l0,k0⟩,⟨p1,l1,k1⟩,⟨p2,l2,k2⟩,⟨p3,l3,k3⟩,⟨u0,u1,u2,u3⟩,rfl,⟨x0,x1,x2,x3⟩,⟨n0,n1,n2⟩,?_,⟨fun x hx=>by have:=(wb s0).1 x hx; omega,fun x hx=>by have:=(wb s1).1 x hx; omega,fun x hx=>by have:=(Ge s2).1 x hx; omega,by have:=ND s3; show u3.length<=_; omega,by have:=(wb s0).2; show u0.length<=_; omega,by have:=(wb s1).2; show u1.length<=_; omega,by have:=(Ge s2).2; show u2.length<=_; omega⟩,s0.cap,?_,?_,ad⟩
  ·show (MT++(BZ G' u0++(BZ G' u1++(BZ KU u2++BZ iY u3)))).length<=_;unfold BZ;simp only [List.length_append,dq];rw [show MT.length=5 from rfl];omega
  ·show 3*((Lk.cH ⟨u0,u1,u2,u3⟩).flatMap (·.ai)).length<=_;have i0:=LJ s0;have i1:=LJ s1;have i2:=RY s2;rw [Tc] at i0 i1 i2;unfold Lk.cH;rw [Yz,Yz,W8,W8,List.flatMap_map,List.flatMap_map,List.flatMap_map,YU,YU,YU];show 3*((u0.map fun x=>x.e.ai.length).sum+(u1.map fun x=>x.e.ai.length).sum+(u2.map fun x=>x.2.ai.length).sum)<=_;omega
  ·have i0:=(wb s0).2;have i1:=(wb s1).2;have i2:=(Ge s2).2;have i3:=ND s3;show u0.length+u1.length+u2.length+u3.length<=_;omega
def LO:Tryz.prog.underlying 30=some (.slice 47):=az
def QU (h:Hp) (u:cd) (cs:List ZB) (k:Nat):Prop:=k<=2^50->∃ a b c d,cs=[cv.v a,cv.v b,cv.v c,cv.v d]/\Io h a b c d u k
def MX (h:DataW.trod enc Tryz.prog W base sp held n 47 cs=some y):∃ u,QU W.heap u cs (Rows.uptoBulk y.1):=by
 by_cases hk:Rows.uptoBulk y.1<=2^50
 ·obtain ⟨a,b,c,d,u,h1,h2⟩:=xZ h hk;exact ⟨u,fun _=>⟨a,b,c,d,h1,h2⟩⟩
 ·exact ⟨⟨[],[],[],[]⟩,fun h=>absurd h hk⟩
structure T6 (h:Hp) (p:ZC) (l c:Nat) (us:List cd) (N:Nat):Prop where
 vw:xX h p l us
 sm:N<=2^20->Lk.Im us
 UF:3*((us.flatMap Lk.cH).flatMap (·.ai)).length<=N
 cap:l<=c
 TX:c<=maxLen
 nil:p=none->c=0
def GP {b0:Nat} {v:ZB} {d:DataW H} {ps:List MemPlace} (hval:Value.okWide Tryz.prog W .any b0 30 v) (h:DataW.Trod enc Tryz.prog W base sp held 30 v d ps) (hN:Rows.uptoBulk d<=2^50) :
  ∃ p l c us,v=.slice p l c/\T6 W.heap p l c us (Rows.uptoBulk d):=by
 obtain ⟨p,l,c,rfl⟩:=okWide_slice LO hval;obtain ⟨fuel,h⟩:=h;have hlist:(Value.slice p l c).cells.toList=[.slice p l c]:=rfl;rw [hlist] at h;obtain ⟨p',l',c',us,ks,e0,s,hs⟩:=open_slice LO Wt (QU W.heap) (fun cs y n h=>MX h) h;cases e0;have hl:=s.xS;have hs:ks.sum+1<=Rows.uptoBulk d:=hs;have q:∀ i,(hi:i<us.length)->∃ a sa sb sc sd,p=some a/\aJ W.heap (a.add (i*4)) 0 [cv.v sa,cv.v sb,cv.v sc,cv.v sd]/\Io W.heap sa sb sc sd us[i] (ks[i]'ad):=by
  intro i hi;obtain ⟨a,cs,ha,hc,hq⟩:=s.cells i hi ad
  have:=ry ks i ad
  obtain ⟨sa,sb,sc,sd,rfl,hu⟩:=hq ad;exact ⟨a,sa,sb,sc,sd,ha,hc,hu⟩
 have pos:∀ i,(hi:i<us.length)->1<=ks[i]'ad:=by
  intro i hi;obtain ⟨a,sa,sb,sc,sd,ha,hc,hu⟩:=q i hi;exact RO hu
 have hm:us.length<=ks.sum:=by
  have:=gg (fun _=>1) 1 us ks hl (fun i hi hk=>by have:=pos i hi; omega)
  rw [iK] at this;omega
 have htm:3*((us.flatMap Lk.cH).flatMap (·.ai)).length<=ks.sum:=by
  have:=gg (fun u:cd=>3*((Lk.cH u).flatMap (·.ai)).length) 1 us ks hl (fun i hi hk=>by
   obtain ⟨a,sa,sb,sc,sd,ha,hc,hu⟩:=q i hi
   have:=hu.UF
   omega)
  rw [Tc] at this;rw [List.flatMap_assoc,YU];omega
 refine ⟨p,l,c,us,rfl,⟨⟨s.len,ad,fun i hi=>?_⟩,fun hN2=>⟨ad,?_,?_,ad⟩,ad,s.cap,s.TX,s.nil⟩⟩
 ·obtain ⟨a,sa,sb,sc,sd,ha,hc,hu⟩:=q i hi;exact ⟨a,sa,sb,sc,sd,ha,hc,hu.at_⟩
 ·have:=gg (fun u:cd=>u.text.length+u.data.length+u.bg.length+u.aY.length) 1 us ks hl (fun i hi hk=>by
   obtain ⟨a,sa,sb,sc,sd,ha,hc,hu⟩:=q i hi
   have:=hu.jt
   omega)
  unfold Lk.tZ;omega
 ·refine uy fun i hi=>?_
  obtain ⟨a,sa,sb,sc,sd,ha,hc,hu⟩:=q i hi;intro x hx;unfold Lk.cH at hx;simp only [List.mem_append,List.mem_map] at hx;rcases hx with (⟨y,hy,rfl⟩ | ⟨y,hy,rfl⟩) | ⟨y,hy,rfl⟩
  ·exact ⟨(hu.num.text y hy).num,(hu.num.text y hy).EI⟩
  ·exact ⟨(hu.num.data y hy).num,(hu.num.data y hy).EI⟩
  ·exact ⟨(hu.num.bg y hy).num,(hu.num.bg y hy).EI⟩
end
end Go.Sx.Ob
namespace Go.Sx.Cr
open Go.Proofs Go.MapKept Go.WideAt Go.WideMaps Go.Maps Go.RowKit Go.WideElems Go.Sort Go.Shelf
def Gc {h:Hp} {q b:Nat} {D:List (ZA × ZB)} {cs:Array ZB} {e:TypeId} {f:Nat × Nat} (hq:h[q]?=some (.cells cs e f)) (hc:cs[0]?=some (.map (some b))) (m:dT h b D) (hl:D.length<=1024) :
  HC Tryz.prog 92 #[.func (.func 117) #[] #[.pointer (some ⟨q,0,none⟩)]] h fun v h'=>∃ ss:List (List UInt8),ss.Perm (D.map fun p=>p.1.data.toList)/\(v=.slice none 0 0↔ss=[])/\Ext h h' /\
   ss.length=((ss.mergeSort fun x y=>decide (x<=y)).map encStr).length /\
   ((v=.slice none 0 0/\ss.length=0)\/∃ g cap jj,v=.slice (some ⟨g,0,none⟩) ss.length cap/\h.size<=g/\h'[g]?=some (.cells jj 9 (0,0))/\ss.length<=cap/\cap<=maxLen/\jj.size=cap*1/\jj.toList.take (ss.length*1)=(ss.mergeSort fun x y=>decide (x<=y)).map encStr):=by
 intro W hW;subst hW;obtain ⟨D0,hown,hperm,hsize⟩:=dT.owns m (by unfold maxLen; omega);have iq:W.cell? ⟨q,0,none⟩=some (.map (some b)):=by
  unfold World.cell?;rw [hq];exact hc
 have hseq:SeqGives Fence.wide 2 Tryz.prog 117 #[.pointer (some ⟨q,0,none⟩)] encStr (fun ss=>ss.Perm (strKeys D0)) (Maps.size D0) W :=
  AnyZ.keys_gives (ρ:=Tryz.qK) { Tryz.Cj with } Fence.wide _ trivial rfl ad q b D.length D0 _ (eX hq) iq hown
 have hmax:Maps.size D0<=maxLen:=by rw [hsize]; unfold maxLen; omega
 have hbytes:Maps.size D0*16<=140737488355328:=by rw [hsize]; omega
 have:=AnyZ.sorted_in Tryz.Bh Fence.wide 5 trivial trivial trivial trivial rfl ad (Tryz.Ek _) (enters_of Tryz.func116 az rfl) 117 #[.pointer (some ⟨q,0,none⟩)] trivial (enters_of Tryz.func117 az rfl) _ _ hmax hbytes _ hseq
 refine (callsIn_wide.1 this).mono fun e w' hr=>?_
 obtain ⟨v,ss,he,hp,hrow,hnil,hb⟩:=hr;obtain ⟨h1,h2⟩:=hrow;exact ⟨v,he,⟨hb.os,hb.tape,hb.output⟩,ss,hp.trans hperm,hnil,⟨hb.size,fun i hi _=>hb.block i hi⟩,by rw [h1]; simp,h2⟩
theorem vF (x:ZA):∀ l,(C' x l).Perm (x::l)
 | []=>List.Perm.refl _
 | y::l=>by
  unfold C';split
  ·exact List.Perm.refl _
  ·exact ((vF x l).cons y).trans (List.Perm.swap x y l)
theorem zP:∀ l,(qB l).Perm l
 | []=>List.Perm.refl _
 | x::l=>(vF x (qB l)).trans ((zP l).cons x)
theorem xE (x:ZA):∀ l:List ZA,(l.Pairwise fun a b=>a.data.toList<=b.data.toList)->((C' x l).Pairwise fun a b=>a.data.toList<=b.data.toList)
 | [],_=>by simp [C']
 | y::l,h=>by
  rw [Yp] at h;unfold C';rw [Proofs.bytesLess_eq]
  by_cases hlt:x.data.toList<y.data.toList
  ·rw [W9 hlt];have hxy:x.data.toList<=y.data.toList:=List.le_of_lt hlt;refine Yp.2 ⟨fun b hb=>?_,Yp.2 h⟩;rcases Xq.1 hb with rfl | hb
   ·exact hxy
   ·exact List.le_trans hxy (h.1 b hb)
  ·rw [Xa hlt];refine Yp.2 ⟨fun b hb=>?_,xE x l h.2⟩;rcases Xq.1 ((vF x l).mem_iff.1 hb) with rfl | hb
   ·exact List.not_lt.1 hlt
   ·exact h.1 b hb
theorem tV:∀ l,(qB l).Pairwise fun a b=>a.data.toList<=b.data.toList
 | []=>List.Pairwise.nil
 | x::l=>xE x _ (tV l)
def Ha {ss:List (List UInt8)} {ks:List ZA} (hp:ss.Perm (ks.map fun k=>k.data.toList)):(ss.mergeSort fun x y=>decide (x<=y)).map encStr=(qB ks).map Value.string:=by
 have h1:ss.mergeSort (fun x y=>decide (x<=y))=(qB ks).map fun k=>k.data.toList:=by
  have tr:∀ a b c:List UInt8,decide (a<=b)=true->decide (b<=c)=true->decide (a<=c)=true:=fun a b c h1 h2=>by simp only [decide_eq_true_eq] at *; exact List.le_trans h1 h2
  have to:∀ a b:List UInt8,(decide (a<=b) || decide (b<=a))=true:=fun a b=>by simp only [Bool.or_eq_true,decide_eq_true_eq]; exact List.le_total a b
  refine List.Perm.eq_of_pairwise (le:=fun a b=>decide (a<=b)=true) (fun a b _ _ h1 h2=>?_) (List.pairwise_mergeSort tr to ss) ?_ ((List.mergeSort_perm ss _).trans (hp.trans ((zP ks).map _).symm))
  ·simp only [decide_eq_true_eq] at h1 h2;exact List.le_antisymm h1 h2
  ·rw [X5];exact (tV ks).imp fun h=>by simpa using h
 rw [h1,Xv];refine XQ fun k _=>?_
 show encStr k.data.toList=.string k;unfold encStr
 congr 1
noncomputable def Wi (Sf:List ZB):Cx:=⟨Tryz.prog,105,105,0,92,117,153,3,fun | 0=>some Sf | _=>none⟩
def SR:Tryz.prog.cellsOf 9=1:=az
def SX (Sf:List ZB):Ok (Wi Sf) where
 kt k hk:=by
  have hk:(Nat.beq k 105 || Nat.beq k 105)=true:=hk;rw [Bool.or_eq_true] at hk;have e:k=105:=hk.elim Xg Xg;subst e;exact Ob.Vy
 ki k hk:=by cases (show false=true from hk)
 idx x n h K hk:=by
  show aS Tryz.prog (G3 153 #[.string x,.int .u8 n]) h K;refine EU (e:=Extern.BytealgIndexByte.indexByte) Tryz.func153 RC QL Q7 Rs ?_;rw [qo];exact hk
 Re h q b D cs e f hq hc m hl:=by
  show HC Tryz.prog 92 #[.func (.func 117) #[] #[.pointer (some ⟨q,0,none⟩)]] h _;refine HC.mono (Gc hq hc m hl) fun v h' hr=>?_
  obtain ⟨ss,hp,hnil,hext,hlen,hrow⟩:=hr;refine ⟨hext,?_⟩;have hsl:ss.length=D.length:=by rw [hp.length_eq]; simp
  cases D with
  | nil =>
   have:ss=[]:=X7 (by rw [hsl]; rfl)
   exact hnil.2 this
  | cons p D =>
   rcases hrow with ⟨_,h0⟩ | ⟨g,cap,jj,hv,hg,hcur,hle,hcap,hsz,htk⟩
   ·rw [hsl] at h0; simp at h0
   ·have hk:=Ha (ss:=ss) (ks:=(p::D).map (·.1)) (by rw [Xv]; exact hp);rw [hk] at htk;refine ⟨g,jj.toList.drop ss.length,cap,hg,by rw [<- hsl]; exact hv,by unfold maxLen at hcap; omega,?_,by rw [<- hsl]; exact hle,?_⟩
    ·have h9:jj.toList.length=cap*1:=by rw [Yb]; exact hsz
     rw [show (Wi Sf).P.cellsOf 9=1 from SR,X3,h9,<- hsl]; omega
    ·unfold bH;rw [hcur,<- htk,Nat.mul_one,XN]
def opsV:List ZB:=Ob.iT Ob.sT Ob.tK
noncomputable def cx:Cx:=Wi opsV
def Q4:Ok cx:=SX opsV
def Jy:opsV.all (fA 9)=true:=az
def UE {h:Hp} (ht:∃ e f,h[0]?=some (.cells opsV.toArray e f)):∀ b c,cx.ro b=some c->b<cx.ng/\∃ cs e f,h[b]?=some (.cells cs e f)/\∀ (i:Nat) (v:ZB),c[i]?=some v->cs[i]?=some v/\fA 9 v=true:=by
 obtain ⟨e,f,ht⟩:=ht;intro b c hb;cases b with
 | succ b=>cases (show none=some c from hb)
 | zero =>
  cases (show some opsV=some c from hb);refine ⟨show 0<3 from ad,opsV.toArray,e,f,ht,fun i v hv=>⟨by rw [YP]; exact hv,?_⟩⟩;exact XA.1 Jy v (XU hv)
end Go.Sx.Cr
namespace Go.Sx.Ob
open Go.Proofs Go.Proofs.YthbffkdafjboiaaGreatDoor
open Go.ChangeShapes Go.WideShapes Go.ChangeAt Go.WideMaps Go.WideElems Go.RowKit
def Dw {W:World} (h:laidMetH Tryz.prog Rows.plainNumbersRow.laid W):∃ e f,W.heap[0]?=some (.cells Cr.opsV.toArray e f):=by
 rw [MakeChecks.laidMetH_plain _ _ _ az] at h;obtain ⟨ps,⟨g0,t0,cs0,f0,p0,q0,hg0,ht0,hv0,hd0,⟨g1,t1,cs1,f1,p1,q1,hg1,ht1,hv1,hd1,⟨g2,t2,cs2,f2,p2,q2,hg2,ht2,hv2,hd2,⟨g3,t3,cs3,f3,p3,q3,hg3,ht3,hv3,hd3,_,_⟩,_⟩,_⟩,_⟩,_,_⟩:=h;obtain rfl:=Xo ((show Tryz.prog.globalNamed _=some 0 from az).symm.trans hg3);have h3:(Tryz.prog.globals[0]?).map (·.type)=some 155:=az
 obtain rfl:=Xo (h3.symm.trans ht3);have hr:=Bz hd3;obtain ⟨e3,ff3,ho3⟩:=Cl hg3 hv3;exact ⟨e3,ff3,by rw [ho3,show Cr.opsV=iT sT tK from rfl,<- hr]⟩
section
variable {H:Type} {enc:TypeId × ZB->H} {W:World} {base:Nat} {sp:Nat->Bool} {held:Bool}
def QN (x:Int) (cs:List ZB) (k:Nat):Prop:=cs=[.int .i64 x]/\k=1
def LH {n:Nat} {cs:List ZB} {y:DataW H × List MemPlace} (h:DataW.trod enc Tryz.prog W base sp held n 3 cs=some y):∃ x,QN x cs (Rows.uptoBulk y.1):=by
 obtain ⟨b,e1,r1,_⟩:=DataW.trod_int u3 h;refine ⟨b,e1,?_⟩;rw [r1] <;> rfl
def Bf:Tryz.prog.underlying 31=some (.slice 3):=az
structure Sj (h:Hp) (p:ZC) (l c:Nat) (xs:List Int) (N:Nat):Prop where
 vw:Pn.GO h p l xs
 many:xs.length<=N
def Sn {h:Hp} {p:ZC} {l c:Nat} {us:List Int} {ks:List Nat} (s:AJ QN h 1 p l c us ks):us.length<=ks.sum:=by
 have hl:=s.xS
 have:=gg (fun _=>1) 1 us ks hl (fun i hi hk=>by
  obtain ⟨_,_,_,_,hq⟩:=s.cells i hi hk;rw [hq.2];omega)
 rw [iK] at this;omega
def open_ints {b0:Nat} {v:ZB} {d:DataW H} {ps:List MemPlace} (hval:Value.okWide Tryz.prog W .any b0 31 v) (h:DataW.Trod enc Tryz.prog W base sp held 31 v d ps) (hN:Rows.uptoBulk d<=2^50) :
  ∃ p l c xs,v=.slice p l c/\Sj W.heap p l c xs (Rows.uptoBulk d):=by
 obtain ⟨p,l,c,rfl⟩:=okWide_slice Bf hval;obtain ⟨fuel,h⟩:=h;have hlist:(Value.slice p l c).cells.toList=[.slice p l c]:=rfl;rw [hlist] at h;obtain ⟨p',l',c',us,ks,e0,s,hs⟩:=open_slice Bf c3 QN (fun cs y n h=>LH h) h;cases e0;have hs:ks.sum+1<=Rows.uptoBulk d:=hs;have h2:=Sn s;refine ⟨p,l,c,us,rfl,⟨s.len,ad,fun i hi=>?_⟩,ad⟩;have hl:=s.xS;obtain ⟨a,cs,ha,hc,hq⟩:=s.cells i hi ad;rw [hq.1] at hc;exact ⟨a,ha,hc⟩
end
end Go.Sx.Ob
namespace Go.Sx.Cr
open Go.Proofs
noncomputable def QK:Code:=Tryz.f11.body.getD .skip
noncomputable def WL:CS:=⟨qw cx.ng .nil,cx.ng⟩
def NK:Tryz.f11.body=some QK:=az
def Ox:NF cx (TA cx 60) Tryz.f11 (.bool true) QK .nil WL=true:=az
def KX {h:Hp} (ht:∃ e f,h[0]?=some (.cells opsV.toArray e f)):HC Tryz.prog 11 #[] h fun v h'=>v=.bool true/\Ext h h' :=
 MD (C:=cx) Tryz.func11 NK fun e' a er g=>Oo Q4 mixed (Ou Q4 mixed 60) rfl Ox _ e' a h (JU (UE ht)) er g
end Go.Sx.Cr
namespace Go.Sx.Ob
open Go.Proofs Go.Proofs.YthbffkdafjboiaaGreatDoor
open Go.ChangeMaps
open Go.ChangeShapes Go.WideShapes Go.ChangeAt Go.WideMaps Go.WideElems Go.RowKit
def wg:(Tryz.f5.params.toList.all fun t=>decide (t<Tryz.prog.types.size))=true:=az
def wB:Tryz.prog.inPlace 5=Rows.plainPartsUptoRow.inPlace:=az
def vP:Tryz.prog.unfollowed 5=Rows.plainPartsUptoRow.unfollowed:=az
def wK:Tryz.prog.recurses 5=Rows.plainPartsUptoRow.recurses:=az
def wA:Tryz.prog.varsNamed 5=Rows.plainPartsUptoRow.named:=az
def vQ:joinedFacts Tryz.prog 5 Tryz.f5 (Rows.OpenSpec.upto Rows.plainPartsSpec).bare Rows.plainPartsUptoRow=true:=by
 unfold joinedFacts;rw [wB,vP,wK,wA]
 kernel_rfl
def ug (os:Os) (started:os.Started) (H:Type) (enc:TypeId × ZB->H) (F:Stop.Interp) :
  ReturnsInHanded {} Tryz.checked os 5 .any (fun w args=>((Rows.OpenSpec.upto Rows.plainPartsSpec).pre enc Tryz.prog Tryz.f5 [] false w args/\laidMetH Tryz.prog Rows.plainPartsUptoRow.laid w)/\sizedMet enc Tryz.prog Tryz.f5 (Rows.OpenSpec.upto Rows.plainPartsSpec) false w args)
   (((Rows.OpenSpec.upto Rows.plainPartsSpec).at F).post enc Tryz.prog Tryz.f5 false true false false):=by
 refine Lh (k:=Rows.uptoSmall) rfl (C:=Tryz.checked) (X:=fun w _=>laidMetH Tryz.prog Rows.plainPartsUptoRow.laid w) (fun _ _ _ hh h=>h.of_heap hh) V1 started az Tryz.func5
  (FV (k:=Rows.uptoSmall) rfl (C:=Tryz.checked) (os:=os) (X:=fun w _=>laidMetH Tryz.prog Rows.plainPartsUptoRow.laid w) (World.doorLaid Tryz.prog 400 os) #[.slice none 0 0,.slice none 0 0,.slice none 0 0] 8 rfl (World.shaped_of_RefB az az) az (x:=([.nil,.nil,.nil],[],[])) az rfl az (NC os _)) ?_
 intro W base args ds gs before hval0 hW hk hL;have hval:∀ (j:Nat) t v,Tryz.f5.params[j]?=some t->args[j]?=some v->Value.okWide Tryz.prog W .any base t v:=hval0
 have hW':=hW;obtain ⟨p,q,hA0,hV,rfl,hfz,hnd⟩:=hW;have hA:DataW.TrodAll enc Tryz.prog W 0 (fun _=>true) true Tryz.f5.params.toList args.toList ds p:=hA0;have hpf:Tryz.f5.params=#[30,31,31]:=az
 rw [hpf] at hA hval;clear hA0 hval0;obtain ⟨v0,vs0,d0,ds0,p0,q0,hv0,rfl,rfl,t0,hA1⟩:=trodAll_cons hA;obtain ⟨v1,vs1,d1,ds1,p1,q1,hv1,rfl,rfl,t1,hA2⟩:=trodAll_cons hA1;subst hv1;obtain ⟨v2,vs2,d2,ds2,p2,q2,hv2,rfl,rfl,t2,hA3⟩:=trodAll_cons hA2;subst hv2;obtain ⟨rfl,rfl,rfl⟩:=trodAll_nil hA3;obtain ⟨args⟩:=args;simp only at hv0;subst hv0;have hk:=W2 hk;have hkb:=hk;simp only [List.append_nil,nA,cA] at hkb;obtain ⟨rfl,rfl⟩:=trodVars_none hV;obtain ⟨a0,l0,c0,x0,rfl,h0⟩:=GP (hval 0 30 v0 rfl rfl) t0 (by simp only [Rows.uptoBulkAll] at hkb; omega);obtain ⟨a1,l1,c1,x1,rfl,h1⟩:=open_ints (hval 1 31 v1 rfl rfl) t1 (by simp only [Rows.uptoBulkAll] at hkb; omega);obtain ⟨a2,l2,c2,x2,rfl,h2⟩:=open_ints (hval 2 31 v2 rfl rfl) t2 (by simp only [Rows.uptoBulkAll] at hkb; omega);simp only [List.append_nil] at hW';simp only [List.append_nil,List.nil_append,List.cons_append,Rows.uptoBulkAll] at hk;refine (Nq (Pn.Lj (nm:=sT) (Oz hL).2 (by obtain ⟨e,f,ht⟩:=Dw hL; exact ⟨tK,e,f,ht⟩) (fun h2 e2=>Cr.KX (by obtain ⟨e,f,ht⟩:=Dw hL; exact ⟨e,f,e2.get ht aj⟩)) (su:=⟨a0,l0,c0⟩) (sa:=⟨a1,l1,c1⟩) (sb:=⟨a2,l2,c2⟩) h0.vw (h0.sm ad) h1.vw h2.vw (by have:=h1.many; omega) (by have:=h2.many; omega)) (fun _ _ h=>h.2)).mono fun e W' ⟨v,he,hB,hv,_⟩=>?_
 subst he hv;exact ⟨_,rfl,L4 rfl hW' (fun _ _ _=>trodAll_mk1 (shut_bool u4 _)) rfl rfl (fun t ht=>W2 (XA.1 wg t ht)) hB⟩
def wN:Rows.PlainPartsUptoSaid :=
 OpenClaim.holds_of_cond 5 Tryz.f5 rfl rfl rfl rfl rfl rfl rfl ⟨rfl,rfl,rfl,rfl,rfl⟩ rfl rfl rfl rfl rfl az Tryz.func5 vQ
  (W2 az) (by unfold Func.isWrapper; first | (rw [Xb (by decide +kernel)]; kernel_rfl) | (rw [W6 (by decide +kernel)]; exact ⟨rfl,rfl⟩))
  (fun os started H enc _ F=>ug os started H enc F)
end Go.Sx.Ob
