/- Contracts over heaps, part 7. Condition: as each statement says. -/
import Derived.Test.YtmdncdaladplkaaGreatDoorP6
import Derived.Test.YtmdncdaladplkaaGreatDoorSxZ
import Derived.Test.YtmdncdaladplkaaGreatDoorTie
import Derived.Test.YtmdncdaladplkaaGreatDoorCards
import Derived.SevenTiedAt
set_option linter.all false
set_option maxRecDepth 100000
set_option maxHeartbeats 4000000
namespace Go.Sx.Ob
open Go.Proofs Go.Proofs.YtmdncdaladplkaaGreatDoor
open Go.ChangeShapes Go.WideShapes Go.ChangeAt Go.WideMaps Go.WideElems Go.RowKit
variable {H:Type} {apart:Bool}
def Yo:Kids Xaz (·<Tryz.prog.types.size):=kids_rows av av
def sliceB:((List.range Tryz.prog.types.size).all fun t=>match Tryz.prog.underlying t with | some (.slice e)=>decide (0<Tryz.prog.cellsOf e) | _=>true)=true:=av
def Wa {t e:TypeId} (ht:t<Tryz.prog.types.size) (a:Tryz.prog.underlying t=some (.slice e)):0<Tryz.prog.cellsOf e:=by
 have:=bm9.1 sliceB t (du9.2 ht)
 rw [a] at this;exact ah9 this
theorem uy {enc:TypeId × Xab->H} {W e:World} {sp:Nat->Bool} (f:Below W.heap.size W e):∀ {ts:List TypeId} {g:List Xab} {i:List (DataW H)} {ps:List MemPlace},(∀ t∈ts,t<Tryz.prog.types.size) ->
  DataW.TrodAll enc Xaz W 0 (fun _=>true) true ts g i ps->(∀ p∈ps,p.block<W.heap.size)->(∀ p∈ps,sp p.block=true)->DataW.TrodAll enc Xaz e 0 sp true ts g i ps
 | [],_,_,_,_,h,_,_=>by
  obtain ⟨rfl,rfl,rfl⟩:=trodAll_nil h;exact trodAll_mk0
 | t::ts,_,_,_,ht,h,hl,j=>by
  obtain ⟨v,k,d,l,a,b,rfl,rfl,rfl,⟨n,h1⟩,h2⟩:=trodAll_cons h;exact ⟨a,b,⟨n,DataW.trod_stays Yo (fun h m=>Wa h m) (fun h=>by cases h) (ht t (cv9 ..)) h1 (fun p c=>IX f (hl p (bh9 _ c))) (fun p c=>j p (bh9 _ c))⟩,
   uy f (fun t h=>ht t (ap9 _ h)) h2 (fun p c=>hl p (bp9 _ c)) (fun p c=>j p (bp9 _ c)),rfl⟩
def Pc {enc:TypeId × Xab->H} {f:Func} {s:ChangeSpec} {fresh handsOn:Bool} {W W':World} {args:Array Xab} {v:Xab} {c gs:List (DataW H)} {before:List MemPlace} (d:s.vars=[])
  (g:DataW.Whole enc Xaz f.params.toList s.vars apart W args.toList c gs before)
  (e:∀ (b:Nat) (sp:Nat->Bool) (l:Bool),DataW.TrodAll enc Xaz W' b sp l f.resultTypes.toList (v.resultList f.resultTypes.size) (s.fn H (c++gs)).results [])
  (a:(s.fn H (c++gs)).args=c) (ep:(s.fn H (c++gs)).vars=[]) (i:∀ t∈f.params.toList,t<Tryz.prog.types.size) (j:Below W.heap.size W W') :
  s.post enc Xaz f apart fresh handsOn false W args v W':=by
 have hlt:=g.lt;have hW':=g;obtain ⟨p,q,m,k,rfl,o,hn⟩:=g;rw [d] at k;obtain ⟨rfl,rfl⟩:=trodVars_none k;rw [bz9] at hlt hW';refine ⟨c,[],p,[],p,[],hW',e _ _ _,?_,?_,j.frame _,fun h=>by cases h⟩
 ·rw [a];exact uy j i m hlt (fun p n=>ai9 (hlt p n))
 ·rw [ep,d] <;> rfl
variable {Z:FuncId} {a:OpenSpec}
def Ov {enc:TypeId × Xab->H} {b:Assume} {C:Checked} {os:Os} {fn:Func} {k:(H:Type)->List (DataW H)->Bool} (hk:a.cond=some k) {F:Stop.Interp} {conds:List PathCond} {fresh handsOn again:Bool} {X:World->Array Xab->Prop}
  (y:∀ (w w':World) (args:Array Xab),w.heap=w'.heap->X w args->X w' args)
  (own:ownKnob C.prog.godebug=none) (started:os.Started) (d:C.prog.inits.idxOf? Z=none) (o:C.prog.funcs[Z]?=some fn)
  (witness:∃ (w:World) (tape:Tape) (i:Input),w.os=os/\(w.forCall tape i).Shaped C.prog/\i.vars=[]/\Input.okWide C.prog (w.forCall tape i) .any w.heap.size Z i /\
   ((a.pre enc C.prog fn conds apart (w.forCall tape i).memory i.args/\X (w.forCall tape i).memory i.args)/\sizedMet enc C.prog fn a apart (w.forCall tape i).memory i.args)/\b.holds C.prog (lone (Frame.enter C.prog Z i.args .normal) [] (w.forCall tape i)))
  (c:∀ (W:World) (base:Nat) (args:Array Xab) (m gs:List (DataW H)) (before:List MemPlace),
   (∀ (j:Nat) t v,fn.params[j]?=some t->args[j]?=some v->Value.okWide C.prog W .any base t v) ->
   DataW.Whole enc C.prog fn.params.toList a.vars apart W args.toList m gs before->k H (m++gs)=true->X W args ->
   Calls C.prog Z args W fun e x=>∃ v,e=.returned v/\(a.at F).post enc C.prog fn apart fresh handsOn again W args v x) :
  ReturnsInHanded b C os Z .any (fun w args=>(a.pre enc C.prog fn conds apart w args/\X w args)/\sizedMet enc C.prog fn a apart w args) ((a.at F).post enc C.prog fn apart fresh handsOn again):=by
 refine returnsInHanded_of_calls own started d witness ?_;intro w tape i _ _ _ p g n;obtain ⟨_,_,_,q,h,_,_,_,_,l⟩:=p;have e:q=fn:=ay9 (h.symm.trans o);subst e;obtain ⟨⟨r,z⟩,D⟩:=g;obtain ⟨m,gs,before,A,hc,u⟩:=(OpenSpec.pre_some hk conds apart _ _).1 r;have hw':=DataW.Whole.of_heap (w':=w.forCall tape i) (by rfl) A;refine (c (w.forCall tape i) w.heap.size i.args m gs before l hw' u (y _ _ _ (by rfl) z)).mono fun e x ⟨v,B,r⟩=>?_
 subst B;exact ChangeSpec.post_blind r
def Ie {enc:TypeId × Xab->H} {C:Checked} {os:Os} {fn:Func} {k:(H:Type)->List (DataW H)->Bool} (hk:a.cond=some k) {X:World->Array Xab->Prop} (c:World) (args:Array Xab) (b:Nat) (e:c.os=os)
  (g:(c.forCall (fun _ _=>0) ⟨#[],args,[]⟩).Shaped C.prog)
  (d:Input.okWideB C.prog (c.forCall (fun _ _=>0) ⟨#[],args,[]⟩) Z ⟨#[],args,[]⟩=true)
  {x:List (DataW H) × List (DataW H) × List MemPlace} (l:DataW.whole enc C.prog (c.forCall (fun _ _=>0) ⟨#[],args,[]⟩).memory fn.params.toList a.vars apart args.toList b=some x) (h:k H (x.1++x.2.1)=true)
  (j:a.bare.sizedB enc C.prog fn apart (c.forCall (fun _ _=>0) ⟨#[],args,[]⟩).memory args b=true)
  (m:X (c.forCall (fun _ _=>0) ⟨#[],args,[]⟩).memory args) :
  ∃ (w:World) (tape:Tape) (i:Input),w.os=os/\(w.forCall tape i).Shaped C.prog/\i.vars=[]/\Input.okWide C.prog (w.forCall tape i) .any w.heap.size Z i /\
   ((a.pre enc C.prog fn [] apart (w.forCall tape i).memory i.args/\X (w.forCall tape i).memory i.args)/\sizedMet enc C.prog fn a apart (w.forCall tape i).memory i.args)/\({}:Assume).holds C.prog (lone (Frame.enter C.prog Z i.args .normal) [] (w.forCall tape i)) :=
 ⟨c,fun _ _=>0,⟨#[],args,[]⟩,e,g,(Input.okWide_of_okWideB (base:=0) d).1,(Input.okWide_of_okWideB d).2,
  ⟨⟨(OpenSpec.pre_some hk [] apart _ _).2 ⟨x.1,x.2.1,x.2.2,DataW.Whole_of_whole l,rfl,h⟩,m⟩,sizedMet_of_sizedB j⟩,by
  simp only [Assume.holds];exact ⟨ai,ai,ai,ai,ai⟩⟩
structure xS (x:bJ):Prop where
 G6:∀ t,t∈x.ah->t.2<4294967296
 num:x.num<4294967296
structure WM (u:cg):Prop where
 text:∀ x,x∈u.text->xS x.e
 data:∀ x,x∈u.data->xS x.e
 bg:∀ x,x∈u.bg->xS x.2
def u52:Tryz.prog.underlying 51=some (.int .u32):=av
def u21:Tryz.prog.underlying 21=some (.int .i32):=av
def u53:Tryz.prog.underlying 50=some (.slice 64):=av
def c86:Tryz.prog.cellsOf 64=2:=av
def Zm:Tryz.prog.cellsOf 53=2:=av
def c53:Tryz.prog.cellsOf 50=1:=av
def Z7:Tryz.prog.cellsOf 51=1:=av
def c21:Tryz.prog.cellsOf 21=1:=av
def c77:Tryz.prog.cellsOf 49=5:=av
def ZP:Tryz.prog.cellsOf 55=10:=av
def c57:Tryz.prog.cellsOf 116=3:=av
def Z2:Tryz.prog.cellsOf 46=1:=av
def c27:Tryz.prog.cellsOf 67=1:=av
def c28:Tryz.prog.cellsOf 68=1:=av
def Z':Tryz.prog.cellsOf 70=4:=av
def Zn:wQ Xaz 64=some [(9,0),(51,1)]:=av
def s55:wQ Xaz 53=some [(50,0),(51,1)]:=av
def s77:wQ Xaz 49=some [(3,0),(3,1),(3,2),(21,3),(3,4)]:=av
def ZE:wQ Xaz 55=some [(3,0),(9,1),(49,2),(53,7),(3,9)]:=av
def XA:wQ Xaz 116=some [(9,0),(53,1)]:=av
def Zb:wQ Xaz 70=some [(46,0),(46,1),(67,2),(68,3)]:=av
section
variable {H:Type} {enc:TypeId × Xab->H} {W:World} {base n:Nat} {sp:Nat->Bool} {held:Bool} {cs:List Xab} {y:DataW H × List MemPlace}
def NR {α:Type} {ys:List α} {a b:α} (hl:ys.length=2) (h0:ys[0]?=some a) (h1:ys[1]?=some b):ys=[a,b]:=by
 match ys,hl with
 | [x,y],_ =>
  simp only [List.getElem?_cons_zero,List.getElem?_cons_succ,Option.some.injEq] at h0 h1;subst h0 h1;rfl
def QT (t:Xaa × Nat) (cs:List Xab) (k:Nat):Prop:=cs=df t/\t.1.size<=maxLen/\t.2<4294967296/\k=t.1.size+3
def M9 (h:DataW.trod enc Xaz W base sp held n 64 cs=some y):∃ t,QT t cs (Rows.uptoBulk y.1):=by
 obtain ⟨ys,m,e,hl,b,a⟩:=gn Zn h;obtain ⟨p,f,c⟩:=a 0 _ rfl;obtain ⟨q,g,d⟩:=a 1 _ rfl;have hys2:=NR b f g;rw [c86] at hl
 match cs,hl with
 | [v,u],_ =>
  rw [show Tryz.prog.cellsOf (9,0).1=1 from c9] at c;rw [show Tryz.prog.cellsOf (51,1).1=1 from Z7] at d;obtain ⟨s,e0,i,j⟩:=DataW.trod_string u9 c;obtain ⟨k,l,o,hk⟩:=DataW.trod_int u52 d;have hb:=bounds_u32 hk;cases e0; cases l;refine ⟨(s,k.toNat),?_,j,by show k.toNat<_; omega,?_⟩
  ·unfold df;simp only [List.cons.injEq,Value.int.injEq,true_and,and_true];omega
  ·rw [e,hys2,i,o];simp only [List.map_cons,List.map_nil,Rows.uptoBulk,Rows.uptoBulkAll];rw [da9];show s.data.size+1+(1+0)+1=s.data.size+3;omega
structure NO (h:Hp) (p:Xac) (l c:Nat) (x:bJ) (k:Nat):Prop where
 vw:ik h p l x.ah
 names:∀ t,t∈x.ah->t.1.size<=maxLen
 num:xS x
 many:3*x.ah.length<=k
 size:(mC x).length<=2*k
 cap:l<=c
theorem BQ:∀ (ts:dm) (ks:List Nat),ks.length=ts.length->(∀ i,(hi:i<ts.length)->(hk:i<ks.length)->ks[i]=ts[i].1.size+3)->(ts.flatMap Hb).length=2*ks.sum-(ts.map (·.1.size)).sum/\(ts.map (·.1.size)).sum+3*ts.length=ks.sum
 | [],ks,hl,_=>by
  have:ks=[]:=dx9.1 hl
  subst this
  simp
 | t::ts,[],hl,_=>by simp at hl
 | t::ts,k::ks,hl,h=>by
  have h0:=h 0 ai ai;simp only [List.getElem_cons_zero] at h0;obtain ⟨a,c⟩:=BQ ts ks (by simpa using hl) (fun i hi hk=>h (i+1) (by simpa using hi) (by simpa using hk));have b:(Hb t).length=t.1.size+6:=by
   unfold Hb jx;simp only [List.length_append,dG]
   have:t.1.data.toList.length=t.1.size:=ai
   omega
  rw [cd9,ae9,cr9,bo9,cr9,ck9,b,a];omega
def HM (h:DataW.trod enc Xaz W base sp held n 53 cs=some y) :
  ∃ p l c x,cs=[.slice p l c,.int .u32 ((x:bJ).num:Int)]/\NO W.heap p l c x (Rows.uptoBulk y.1):=by
 obtain ⟨ys,m,s,hl,e,b⟩:=gn s55 h;obtain ⟨w,z,o⟩:=b 0 _ rfl;obtain ⟨K,A,q⟩:=b 1 _ rfl;have hys2:=NR e z A;rw [Zm] at hl
 match cs,hl with
 | [v,u],_ =>
  rw [show Tryz.prog.cellsOf (50,0).1=1 from c53] at o;rw [show Tryz.prog.cellsOf (51,1).1=1 from Z7] at q;obtain ⟨p,l,c,us,ks,e0,d,r⟩:=open_slice u53 c86 QT (fun cs y n h=>M9 h) o;obtain ⟨k,B,C,hk⟩:=DataW.trod_int u52 q;have hb:=bounds_u32 hk;cases e0; cases B;have f:((k.toNat:Nat):Int)=k:=ad
  have g:Rows.uptoBulk y.1=Rows.uptoBulk w.1+2:=by
   rw [s,hys2,C];simp only [List.map_cons,List.map_nil,Rows.uptoBulk,Rows.uptoBulkAll]
  have j:∀ i,(hi:i<us.length)->(hk:i<ks.length)->us[i].1.size<=maxLen/\us[i].2<4294967296/\ks[i]=us[i].1.size+3:=by
   intro i hi hk;obtain ⟨a,cs,_,_,_,D,E,F⟩:=d.cells i hi hk;exact ⟨D,E,F⟩
  have hkl:=d.Ci;obtain ⟨G,L⟩:=BQ us ks hkl (fun i hi hk=>(j i hi hk).2.2);refine ⟨p,l,c,⟨us,k.toNat⟩,by rw [show ((⟨us,k.toNat⟩:bJ).num:Int)=k from f],⟨d.len,fun i hi=>?_⟩,?_,⟨?_,by show k.toNat<_; omega⟩,?_,?_,d.cap⟩
  ·have hi:i<us.length:=hi;obtain ⟨a,cs,I,hc,J,_⟩:=d.cells i hi ad;rw [J] at hc;exact ⟨a,I,hc⟩
  ·intro t (ht:t∈us);obtain ⟨i,hi,rfl⟩:=bg9 ht;exact (j i hi ad).1
  ·intro t (ht:t∈us);obtain ⟨i,hi,rfl⟩:=bg9 ht;exact (j i hi ad).2.1
  ·show 3*us.length<=_;omega
  ·show (vh us.length 2++(us.flatMap Hb++vh k.toNat 4)).length<=_;rw [ae9,ae9,dG,dG,G];omega
def Va {α:Type} {ys:List α} {a b c d e:α} (hl:ys.length=5) (h0:ys[0]?=some a) (h1:ys[1]?=some b) (h2:ys[2]?=some c) (f:ys[3]?=some d) (g:ys[4]?=some e):ys=[a,b,c,d,e]:=by
 match ys,hl with
 | [h,i,j,k,l],_ =>
  simp only [List.getElem?_cons_zero,List.getElem?_cons_succ,Option.some.injEq] at h0 h1 h2 f g;subst h0 h1 h2 f g;rfl
def Yf {α:Type} {ys:List α} {a b c d:α} (hl:ys.length=4) (h0:ys[0]?=some a) (h1:ys[1]?=some b) (h2:ys[2]?=some c) (e:ys[3]?=some d):ys=[a,b,c,d]:=by
 match ys,hl with
 | [f,g,h,i],_ =>
  simp only [List.getElem?_cons_zero,List.getElem?_cons_succ,Option.some.injEq] at h0 h1 h2 e;subst h0 h1 h2 e;rfl
def Ol (h:DataW.trod enc Xaz W base sp held n 49 cs=some y):∃ i:Ins,cs=px i/\Sm i.op/\Rows.uptoBulk y.1=6:=by
 obtain ⟨ys,m,j,hl,b,a⟩:=gn s77 h;obtain ⟨J,k,c⟩:=a 0 _ rfl;obtain ⟨K,l,d⟩:=a 1 _ rfl;obtain ⟨L,o,e⟩:=a 2 _ rfl;obtain ⟨M,p,f⟩:=a 3 _ rfl;obtain ⟨N,q,g⟩:=a 4 _ rfl;have hys5:=Va b k l o p q;rw [c77] at hl
 match cs,hl with
 | [O,P,Q,R,S],_ =>
  rw [show Tryz.prog.cellsOf (3,0).1=1 from c3] at c;rw [show Tryz.prog.cellsOf (3,1).1=1 from c3] at d;rw [show Tryz.prog.cellsOf (3,2).1=1 from c3] at e;rw [show Tryz.prog.cellsOf (21,3).1=1 from c21] at f;rw [show Tryz.prog.cellsOf (3,4).1=1 from c3] at g;obtain ⟨r,e0,s,t⟩:=DataW.trod_int u3 c;obtain ⟨u,w,x,U⟩:=DataW.trod_int u3 d;obtain ⟨z,A,B,V⟩:=DataW.trod_int u3 e;obtain ⟨C,D,E,X⟩:=DataW.trod_int u21 f;obtain ⟨F,G,I,Y⟩:=DataW.trod_int u3 g;cases e0; cases w; cases A; cases D; cases G;refine ⟨⟨r,u,z,C,F⟩,rfl,bounds_i64 t,?_⟩;rw [j,hys5,s,x,B,E,I];simp only [List.map_cons,List.map_nil,Rows.uptoBulk,Rows.uptoBulkAll]
def QI (h:Hp) (x:cz) (cs:List Xab) (k:Nat):Prop:=∃ p l c b,cs=encI p l c x/\NO h p l c x.e b/\x.name.size<=maxLen/\Sm x.inst.op/\k=x.name.size+b+10
def CT (h:DataW.trod enc Xaz W base sp held n 55 cs=some y):∃ x,QI W.heap x cs (Rows.uptoBulk y.1):=by
 obtain ⟨ys,m,o,hl,b,a⟩:=gn ZE h;obtain ⟨N,q,d⟩:=a 0 _ rfl;obtain ⟨O,r,e⟩:=a 1 _ rfl;obtain ⟨P,t,f⟩:=a 2 _ rfl;obtain ⟨g,u,j⟩:=a 3 _ rfl;obtain ⟨Q,w,k⟩:=a 4 _ rfl;have hys5:=Va b q r t u w;rw [ZP] at hl
 match cs,hl with
 | [R,S,U,V,X,Y,Z,v7,v8,v9],_ =>
  rw [show Tryz.prog.cellsOf (3,0).1=1 from c3] at d;rw [show Tryz.prog.cellsOf (9,1).1=1 from c9] at e;rw [show Tryz.prog.cellsOf (49,2).1=5 from c77] at f;rw [show Tryz.prog.cellsOf (53,7).1=2 from Zm] at j;rw [show Tryz.prog.cellsOf (3,9).1=1 from c3] at k;obtain ⟨z,e0,A,w0⟩:=DataW.trod_int u3 d;obtain ⟨s,B,C,D⟩:=DataW.trod_string u9 e;obtain ⟨i,E,F,G⟩:=Ol f;obtain ⟨p,l,c,x,I,J⟩:=HM j;obtain ⟨K,L,M,w4⟩:=DataW.trod_int u3 k;cases e0; cases B; cases E; cases I; cases L;refine ⟨⟨z,s,i,x,K⟩,p,l,c,_,rfl,J,D,F,?_⟩;rw [o,hys5,A,C,M];simp only [List.map_cons,List.map_nil,Rows.uptoBulk,Rows.uptoBulkAll,G];rw [da9];show 1+(s.data.size+1+(6+(Rows.uptoBulk g.1+(1+0))))+1=s.data.size+Rows.uptoBulk g.1+10;omega
def QE (h:Hp) (x:sO) (cs:List Xab) (k:Nat):Prop:=∃ p l c b,cs=W5 p l c x/\NO h p l c x.2 b/\x.1.size<=maxLen/\k=x.1.size+b+2
def QB (h:DataW.trod enc Xaz W base sp held n 116 cs=some y):∃ x,QE W.heap x cs (Rows.uptoBulk y.1):=by
 obtain ⟨ys,m,g,hl,b,a⟩:=gn XA h;obtain ⟨u,i,d⟩:=a 0 _ rfl;obtain ⟨e,j,f⟩:=a 1 _ rfl;have hys2:=NR b i j;rw [c57] at hl
 match cs,hl with
 | [w,z,A],_ =>
  rw [show Tryz.prog.cellsOf (9,0).1=1 from c9] at d;rw [show Tryz.prog.cellsOf (53,1).1=2 from Zm] at f;obtain ⟨s,k,o,q⟩:=DataW.trod_string u9 d;obtain ⟨p,l,c,x,r,t⟩:=HM f;cases k; cases r;refine ⟨(s,x),p,l,c,_,rfl,t,q,?_⟩;rw [g,hys2,o];simp only [List.map_cons,List.map_nil,Rows.uptoBulk,Rows.uptoBulkAll];rw [da9];show (s.data.size+1+(Rows.uptoBulk e.1+0))+1=s.data.size+Rows.uptoBulk e.1+2;omega
def QS (x:Xaa) (cs:List Xab) (k:Nat):Prop:=cs=[.string x]/\x.size<=maxLen/\k=x.size+1
def OB (h:DataW.trod enc Xaz W base sp held n 9 cs=some y):∃ x,QS x cs (Rows.uptoBulk y.1):=by
 obtain ⟨s,a,b,c⟩:=DataW.trod_string u9 h;refine ⟨s,a,c,?_⟩;rw [b];simp only [Rows.uptoBulk];rw [da9] <;> rfl
theorem ix {α:Type} (f:α->Nat) (m:Nat):∀ (us:List α) (ks:List Nat),ks.length=us.length->(∀ i,(hi:i<us.length)->(hk:i<ks.length)->f us[i]<=m*ks[i])->(us.map f).sum<=m*ks.sum
 | [],ks,hl,_=>ai
 | u::us,[],hl,_=>by simp at hl
 | u::us,k::ks,hl,h=>by
  have h0:=h 0 ai ai;simp only [List.getElem_cons_zero] at h0;have ih:=ix f m us ks (by simpa using hl) (fun i hi hk=>h (i+1) (by simpa using hi) (by simpa using hk));rw [bo9,cr9,cr9,Nat.mul_add];omega
variable {O:Hp}
def PK {x:cz} {cs:List Xab} {k:Nat} (q:QI O x cs k):(JL x).length<=2*k:=by
 obtain ⟨p,l,c,b,_,a,_,_,rfl⟩:=q;have h1:=a.size;have ht:(jx x.name).length=x.name.size+2:=by
  unfold jx;rw [ae9,dG]
  have:x.name.data.toList.length=x.name.size:=ai
  omega
 have hi:∀ (n:Int) (w:Nat),(D8 n w).length=w:=fun n w=>by unfold D8; rw [dG]
 unfold JL;rw [ae9,hi];split
 ·omega
 ·split
  ·rw [ae9,ae9,ae9,ae9,hi,hi,hi,hi];split
   ·omega
   ·simp
    omega
  ·split
   ·rw [hi]; omega
   ·split
    ·omega
    ·split
     ·rw [hi]; omega
     ·simp
      omega
def Ow {x:sO} {cs:List Xab} {k:Nat} (q:QE O x cs k):(N7 x).length<=2*k:=by
 obtain ⟨p,l,c,b,_,a,_,rfl⟩:=q;have h1:=a.size;unfold N7 jx;rw [ae9,ae9,dG]
 have:x.1.data.toList.length=x.1.size:=ai
 omega
def Lu {x:Xaa} {cs:List Xab} {k:Nat} (q:QS x cs k):(jx x).length<=2*k:=by
 obtain ⟨_,_,rfl⟩:=q;unfold jx;rw [ae9,dG]
 have:x.data.toList.length=x.size:=ai
 omega
def Jo {α:Type} (f:α->Bt) (us:List α):(us.flatMap f).length=(us.map fun u=>(f u).length).sum:=by rw [en9]
end
theorem te:∀ (ks:List Nat) (i:Nat) (h:i<ks.length),ks[i]<=ks.sum
 | k::ks,0,_=>ai
 | k::ks,i+1,h=>by
  have:=te ks i (by simpa using h)
  simp only [List.getElem_cons_succ,List.sum_cons];omega
theorem kI {α:Type}:∀ us:List α,(us.map fun _=>1).sum=us.length
 | []=>rfl
 | u::us=>by rw [bo9,cr9,kI us,ck9,Nat.add_comm]
def wu {α:Type} {P:α->Prop} {us:List α} (h:∀ i,(hi:i<us.length)->P us[i]):∀ x,x∈us->P x:=fun x a=>by
 obtain ⟨i,hi,rfl⟩:=bg9 a;exact h i hi
variable {O:Hp} {U:Xac} {V Y:Nat}
def NO.at {x:bJ} {k:Nat} (q:NO O U V Y x k) (hk:k<=2^60):mY O U V x:=⟨q.vw,by have:=q.many; omega,q.names⟩
def JU {us:List cz} {ks:List Nat} (s:Fc (QI O) O 10 U V Y us ks) (k:ks.sum<=2^58):FD O U V us/\(∀ x,x∈us->xS x.e)/\(us.flatMap JL).length<=2*ks.sum:=by
 have hl:=s.Ci;have q:∀ i,(hi:i<us.length)->∃ a cs,U=some a/\aF O (a.add (i*10)) 0 cs/\QI O us[i] cs ks[i]:=fun i hi=>s.cells i hi ad
 have one:∀ i,(hi:i<us.length)->1<=1*ks[i]:=fun i hi=>by
  obtain ⟨_,_,_,_,_,_,_,_,_,_,_,_,hk⟩:=q i hi;omega
 have m:us.length<=ks.sum:=by
  have:=ix (fun _=>1) 1 us ks hl (fun i hi hk=>one i hi)
  rw [kI] at this;omega
 refine ⟨⟨s.len,ad,fun i hi=>?_⟩,wu fun i hi=>?_,?_⟩
 ·obtain ⟨a,cs,d,hc,p',l',c',b,rfl,f,hn,g,hk⟩:=q i hi
  have:=te ks i ad
  exact ⟨a,p',l',c',d,hc,f.at ad,hn,g⟩
 ·obtain ⟨a,cs,d,hc,p',l',c',b,rfl,f,hn,g,hk⟩:=q i hi;exact f.num
 ·rw [Jo];refine ix _ 2 us ks hl (fun i hi hk=>?_);obtain ⟨a,cs,d,hc,j⟩:=q i hi;exact PK j
def Ue {us:List sO} {ks:List Nat} (s:Fc (QE O) O 3 U V Y us ks) (g:ks.sum<=2^58):uS O U V us/\(∀ x,x∈us->xS x.2)/\(us.flatMap N7).length<=2*ks.sum:=by
 have hl:=s.Ci;have q:∀ i,(hi:i<us.length)->∃ a cs,U=some a/\aF O (a.add (i*3)) 0 cs/\QE O us[i] cs ks[i]:=fun i hi=>s.cells i hi ad
 have one:∀ i,(hi:i<us.length)->1<=1*ks[i]:=fun i hi=>by
  obtain ⟨_,_,_,_,_,_,_,_,_,_,_,hk⟩:=q i hi;omega
 have j:us.length<=ks.sum:=by
  have:=ix (fun _=>1) 1 us ks hl (fun i hi hk=>one i hi)
  rw [kI] at this;omega
 refine ⟨⟨s.len,ad,fun i hi=>?_⟩,wu fun i hi=>?_,?_⟩
 ·obtain ⟨a,cs,d,hc,p',l',c',b,rfl,e,hn,hk⟩:=q i hi
  have:=te ks i ad
  exact ⟨a,p',l',c',d,hc,e.at ad,hn⟩
 ·obtain ⟨a,cs,d,hc,p',l',c',b,rfl,e,hn,hk⟩:=q i hi;exact e.num
 ·rw [Jo];refine ix _ 2 us ks hl (fun i hi hk=>?_);obtain ⟨a,cs,d,hc,f⟩:=q i hi;exact Ow f
def Uk {us:List Xaa} {ks:List Nat} (s:Fc QS O 1 U V Y us ks) (e:ks.sum<=2^58):Y3 O U V us/\(us.flatMap jx).length<=2*ks.sum:=by
 have hl:=s.Ci;have q:∀ i,(hi:i<us.length)->∃ a cs,U=some a/\aF O (a.add (i*1)) 0 cs/\QS us[i] cs ks[i]:=fun i hi=>s.cells i hi ad
 have one:∀ i,(hi:i<us.length)->1<=1*ks[i]:=fun i hi=>by
  obtain ⟨_,_,_,_,_,_,hk⟩:=q i hi;omega
 have f:us.length<=ks.sum:=by
  have:=ix (fun _=>1) 1 us ks hl (fun i hi hk=>one i hi)
  rw [kI] at this;omega
 refine ⟨⟨s.len,ad,fun i hi=>?_⟩,?_⟩
 ·obtain ⟨a,cs,b,hc,rfl,hn,hk⟩:=q i hi;exact ⟨a,b,hc,hn⟩
 ·rw [Jo];refine ix _ 2 us ks hl (fun i hi hk=>?_);obtain ⟨a,cs,b,hc,d⟩:=q i hi;exact Lu d
def xR {us:List cz} {ks:List Nat} (s:Fc (QI O) O 10 U V Y us ks):(∀ x,x∈us->x.e.ah.length<=ks.sum)/\us.length<=ks.sum:=by
 have hl:=s.Ci;have q:∀ i,(hi:i<us.length)->∃ a cs,U=some a/\aF O (a.add (i*10)) 0 cs/\QI O us[i] cs ks[i]:=fun i hi=>s.cells i hi ad
 refine ⟨wu fun i hi=>?_,?_⟩
 ·obtain ⟨a,cs,f,hc,p',l',c',b,rfl,d,hn,g,hk⟩:=q i hi
  have:=te ks i ad
  have:=d.many
  omega
 ·have:=ix (fun _=>1) 1 us ks hl (fun i hi hk=>by
   obtain ⟨_,_,_,_,_,_,_,_,_,_,_,_,hk⟩:=q i hi;omega)
  rw [kI] at this;omega
theorem WT {α:Type} (g:α->Nat):∀ us:List α,(us.map fun x=>3*g x).sum=3*(us.map g).sum
 | []=>rfl
 | u::us=>by rw [bo9,cr9,bo9,cr9,WT g us,Nat.mul_add]
def OV {us:List cz} {ks:List Nat} (s:Fc (QI O) O 10 U V Y us ks):(us.map fun x=>3*x.e.ah.length).sum<=ks.sum:=by
 have:=ix (fun x:cz=>3*x.e.ah.length) 1 us ks s.Ci (fun i hi hk=>by
  obtain ⟨a,cs,f,hc,p',l',c',b,_,d,hn,g,hk⟩:=s.cells i hi hk
  have:=d.many
  omega)
 omega
def VF {us:List sO} {ks:List Nat} (s:Fc (QE O) O 3 U V Y us ks):(us.map fun x=>3*x.2.ah.length).sum<=ks.sum:=by
 have:=ix (fun x:sO=>3*x.2.ah.length) 1 us ks s.Ci (fun i hi hk=>by
  obtain ⟨a,cs,e,hc,p',l',c',b,_,d,hn,hk⟩:=s.cells i hi hk
  have:=d.many
  omega)
 omega
def IJ {us:List sO} {ks:List Nat} (s:Fc (QE O) O 3 U V Y us ks):(∀ x,x∈us->x.2.ah.length<=ks.sum)/\us.length<=ks.sum:=by
 have hl:=s.Ci;have q:∀ i,(hi:i<us.length)->∃ a cs,U=some a/\aF O (a.add (i*3)) 0 cs/\QE O us[i] cs ks[i]:=fun i hi=>s.cells i hi ad
 refine ⟨wu fun i hi=>?_,?_⟩
 ·obtain ⟨a,cs,e,hc,p',l',c',b,rfl,d,hn,hk⟩:=q i hi
  have:=te ks i ad
  have:=d.many
  omega
 ·have:=ix (fun _=>1) 1 us ks hl (fun i hi hk=>by
   obtain ⟨_,_,_,_,_,_,_,_,_,_,_,hk⟩:=q i hi;omega)
  rw [kI] at this;omega
def Q7 {us:List Xaa} {ks:List Nat} (s:Fc QS O 1 U V Y us ks):us.length<=ks.sum:=by
 have hl:=s.Ci;have q:∀ i,(hi:i<us.length)->∃ a cs,U=some a/\aF O (a.add (i*1)) 0 cs/\QS us[i] cs ks[i]:=fun i hi=>s.cells i hi ad
 have:=ix (fun _=>1) 1 us ks hl (fun i hi hk=>by
  obtain ⟨_,_,_,_,_,_,hk⟩:=q i hi;omega)
 rw [kI] at this;omega
structure K1 (h:Hp) (a b c d:bI) (u:cg) (N:Nat):Prop where
 at_:uA h a b c d u
 num:WM u
 size:(Zt u).length<=2*N+13
 small:(∀ x,x∈u.text->x.e.ah.length<=N)/\(∀ x,x∈u.data->x.e.ah.length<=N)/\(∀ x,x∈u.bg->x.2.ah.length<=N)/\u.aS.length<=N/\u.text.length<=N/\u.data.length<=N/\u.bg.length<=N
 cap:a.l<=a.c
 Yr:3*((Lk.cO u).flatMap (·.ah)).length<=N
 jU:u.text.length+u.data.length+u.bg.length+u.aS.length<=N
 pos:1<=N
def Vu {a b c d:bI} {u:cg} {N:Nat} (s:K1 O a b c d u N):1<=N:=s.pos
section
variable {H:Type} {enc:TypeId × Xab->H} {W:World} {base n:Nat} {sp:Nat->Bool} {held:Bool} {cs:List Xab} {y:DataW H × List MemPlace}
def zC (h:DataW.trod enc Xaz W base sp held n 70 cs=some y) (hN:Rows.uptoBulk y.1<=2^50):∃ a b c d u,cs=[bI.v a,bI.v b,bI.v c,bI.v d]/\K1 W.heap a b c d u (Rows.uptoBulk y.1):=by
 obtain ⟨ys,m,z,hl,p,f⟩:=gn Zb h;obtain ⟨A,B,r⟩:=f 0 _ rfl;obtain ⟨C,D,s⟩:=f 1 _ rfl;obtain ⟨E,F,t⟩:=f 2 _ rfl;obtain ⟨G,I,w⟩:=f 3 _ rfl;have hys4:=Yf p B D F I;rw [Z'] at hl
 match cs,hl with
 | [v0,v1,v2,v3],_ =>
  rw [show Tryz.prog.cellsOf (46,0).1=1 from Z2] at r;rw [show Tryz.prog.cellsOf (46,1).1=1 from Z2] at s;rw [show Tryz.prog.cellsOf (67,2).1=1 from c27] at t;rw [show Tryz.prog.cellsOf (68,3).1=1 from c28] at w;obtain ⟨p0,l0,J,g,b0,e0,s0,m0⟩:=open_slice Vn ZP (QI W.heap) (fun cs y n h=>CT h) r;obtain ⟨K,L,M,i,b1,N,k,m1⟩:=open_slice Vn ZP (QI W.heap) (fun cs y n h=>CT h) s;obtain ⟨O,P,Q,j,b2,R,l,m2⟩:=open_slice YP c57 (QE W.heap) (fun cs y n h=>QB h) t;obtain ⟨S,U,V,u3,b3,X,q,m3⟩:=open_slice J5 c9 QS (fun cs y n h=>OB h) w;cases e0; cases N; cases R; cases X;have hb:Rows.uptoBulk y.1=Rows.uptoBulk A.1+Rows.uptoBulk C.1+Rows.uptoBulk E.1+Rows.uptoBulk G.1+1:=by
   rw [z,hys4];simp only [List.map_cons,List.map_nil,Rows.uptoBulk,Rows.uptoBulkAll];omega
  obtain ⟨Y,Z,w0⟩:=JU s0 ad;obtain ⟨x1,n1,w1⟩:=JU k ad;obtain ⟨x2,n2,w2⟩:=Ue l ad;obtain ⟨x3,w3⟩:=Uk q ad;refine ⟨⟨p0,l0,J⟩,⟨K,L,M⟩,⟨O,P,Q⟩,⟨S,U,V⟩,⟨g,i,j,u3⟩,rfl,⟨Y,x1,x2,x3⟩,⟨Z,n1,n2⟩,?_,⟨fun x o=>by have:=(xR s0).1 x o; omega,fun x o=>by have:=(xR k).1 x o; omega,fun x o=>by have:=(IJ l).1 x o; omega,by have:=Q7 q; show u3.length<=_; omega,by have:=(xR s0).2; show g.length<=_; omega,by have:=(xR k).2; show i.length<=_; omega,by have:=(IJ l).2; show j.length<=_; omega⟩,s0.cap,?_,?_,ad⟩
  ·show (Qc++(DY JL g++(DY JL i++(DY N7 j++DY jx u3)))).length<=_;unfold DY;simp only [List.length_append,dG];rw [show Qc.length=5 from rfl];omega
  ·show 3*((Lk.cO ⟨g,i,j,u3⟩).flatMap (·.ah)).length<=_;have i0:=OV s0;have i1:=OV k;have i2:=VF l;rw [WT] at i0 i1 i2;unfold Lk.cO;rw [ds9,ds9,ae9,ae9,List.flatMap_map,List.flatMap_map,List.flatMap_map,en9,en9,en9];show 3*((g.map fun x=>x.e.ah.length).sum+(i.map fun x=>x.e.ah.length).sum+(j.map fun x=>x.2.ah.length).sum)<=_;omega
  ·have i0:=(xR s0).2;have i1:=(xR k).2;have i2:=(IJ l).2;have i3:=Q7 q;show g.length+i.length+j.length+u3.length<=_;omega
def O1:Tryz.prog.underlying 32=some (.slice 70):=av
def QU (h:Hp) (u:cg) (cs:List Xab) (k:Nat):Prop:=k<=2^50->∃ a b c d,cs=[bI.v a,bI.v b,bI.v c,bI.v d]/\K1 h a b c d u k
def Qh (h:DataW.trod enc Xaz W base sp held n 70 cs=some y):∃ u,QU W.heap u cs (Rows.uptoBulk y.1):=by
 by_cases hk:Rows.uptoBulk y.1<=2^50
 ·obtain ⟨a,b,c,d,u,h1,h2⟩:=zC h hk;exact ⟨u,fun _=>⟨a,b,c,d,h1,h2⟩⟩
 ·exact ⟨⟨[],[],[],[]⟩,fun h=>absurd h hk⟩
structure XN (h:Hp) (p:Xac) (l c:Nat) (us:List cg) (N:Nat):Prop where
 vw:xt h p l us
 sm:N<=2^20->Lk.H3 us
 Yr:3*((us.flatMap Lk.cO).flatMap (·.ah)).length<=N
 cap:l<=c
 XD:c<=maxLen
 nil:p=none->c=0
def Jp {b0:Nat} {v:Xab} {d:DataW H} {ps:List MemPlace} (j:Value.okWide Xaz W .any b0 32 v) (h:DataW.Trod enc Xaz W base sp held 32 v d ps) (z:Rows.uptoBulk d<=2^50) :
  ∃ p l c us,v=.slice p l c/\XN W.heap p l c us (Rows.uptoBulk d):=by
 obtain ⟨p,l,c,rfl⟩:=okWide_slice O1 j;obtain ⟨m,h⟩:=h;have f:(Value.slice p l c).cells.toList=[.slice p l c]:=rfl;rw [f] at h;obtain ⟨p',l',c',us,ks,e0,s,o⟩:=open_slice O1 Z' (QU W.heap) (fun cs y n h=>Qh h) h;cases e0;have hl:=s.Ci;have o:ks.sum+1<=Rows.uptoBulk d:=o;have q:∀ i,(hi:i<us.length)->∃ a sa sb sc sd,p=some a/\aF W.heap (a.add (i*4)) 0 [bI.v sa,bI.v sb,bI.v sc,bI.v sd]/\K1 W.heap sa sb sc sd us[i] (ks[i]'ad):=by
  intro i hi;obtain ⟨a,cs,g,hc,r⟩:=s.cells i hi ad
  have:=te ks i ad
  obtain ⟨sa,sb,sc,sd,rfl,b⟩:=r ad;exact ⟨a,sa,sb,sc,sd,g,hc,b⟩
 have pos:∀ i,(hi:i<us.length)->1<=ks[i]'ad:=by
  intro i hi;obtain ⟨a,sa,sb,sc,sd,g,hc,b⟩:=q i hi;exact Vu b
 have A:us.length<=ks.sum:=by
  have:=ix (fun _=>1) 1 us ks hl (fun i hi hk=>by have:=pos i hi; omega)
  rw [kI] at this;omega
 have t:3*((us.flatMap Lk.cO).flatMap (·.ah)).length<=ks.sum:=by
  have:=ix (fun u:cg=>3*((Lk.cO u).flatMap (·.ah)).length) 1 us ks hl (fun i hi hk=>by
   obtain ⟨a,sa,sb,sc,sd,g,hc,b⟩:=q i hi
   have:=b.Yr
   omega)
  rw [WT] at this;rw [List.flatMap_assoc,en9];omega
 refine ⟨p,l,c,us,rfl,⟨⟨s.len,ad,fun i hi=>?_⟩,fun w=>⟨ad,?_,?_,ad⟩,ad,s.cap,s.XD,s.nil⟩⟩
 ·obtain ⟨a,sa,sb,sc,sd,g,hc,b⟩:=q i hi;exact ⟨a,sa,sb,sc,sd,g,hc,b.at_⟩
 ·have:=ix (fun u:cg=>u.text.length+u.data.length+u.bg.length+u.aS.length) 1 us ks hl (fun i hi hk=>by
   obtain ⟨a,sa,sb,sc,sd,g,hc,b⟩:=q i hi
   have:=b.jU
   omega)
  unfold Lk.vN;omega
 ·refine wu fun i hi=>?_
  obtain ⟨a,sa,sb,sc,sd,g,hc,b⟩:=q i hi;intro x k;unfold Lk.cO at k;simp only [List.mem_append,List.mem_map] at k;rcases k with (⟨y,e,rfl⟩ | ⟨y,e,rfl⟩) | ⟨y,e,rfl⟩
  ·exact ⟨(b.num.text y e).num,(b.num.text y e).G6⟩
  ·exact ⟨(b.num.data y e).num,(b.num.data y e).G6⟩
  ·exact ⟨(b.num.bg y e).num,(b.num.bg y e).G6⟩
end
end Go.Sx.Ob
namespace Go.Sx.Cr
open Go.Proofs Go.MapKept Go.WideAt Go.WideMaps Go.Maps Go.RowKit Go.WideElems Go.Sort Go.Shelf
variable {H:Hp}
def IF {q b:Nat} {D:List (Xaa × Xab)} {cs:Array Xab} {e:TypeId} {f:Nat × Nat} (u:H[q]?=some (.cells cs e f)) (hc:cs[0]?=some (.map (some b))) (m:ff H b D) (hl:D.length<=1024) :
  HC Xaz 89 #[.func (.func 117) #[] #[.pointer (some ⟨q,0,none⟩)]] H fun v h'=>∃ a:List (List UInt8),a.Perm (D.map fun p=>p.1.data.toList)/\(v=.slice none 0 0↔a=[])/\Ext H h' /\
   a.length=((a.mergeSort fun x y=>decide (x<=y)).map encStr).length /\
   ((v=.slice none 0 0/\a.length=0)\/∃ g cap jJ,v=.slice (some ⟨g,0,none⟩) a.length cap/\H.size<=g/\h'[g]?=some (.cells jJ 9 (0,0))/\a.length<=cap/\cap<=maxLen/\jJ.size=cap*1/\jJ.toList.take (a.length*1)=(a.mergeSort fun x y=>decide (x<=y)).map encStr):=by
 intro W w;subst w;obtain ⟨k,l,j,c⟩:=ff.owns m (by unfold maxLen; omega);have gS:W.cell? ⟨q,0,none⟩=some (.map (some b)):=by
  unfold World.cell?;rw [u];exact hc
 have n:SeqGives Fence.wide 2 Xaz 117 #[.pointer (some ⟨q,0,none⟩)] encStr (fun a=>a.Perm (strKeys k)) (Maps.size k) W :=
  AnyZ.keys_gives (ρ:=Tryz.sB) { Tryz.Eg with } Fence.wide _ trivial rfl ad q b D.length k _ (eP u) gS l
 have o:Maps.size k<=maxLen:=by rw [c]; unfold maxLen; omega
 have d:Maps.size k*16<=140737488355328:=by rw [c]; omega
 have:=AnyZ.sorted_in Tryz.Db Fence.wide 5 trivial trivial trivial trivial rfl ad (Tryz.GH _) (enters_of Tryz.func116 av rfl) 117 #[.pointer (some ⟨q,0,none⟩)] trivial (enters_of Tryz.func117 av rfl) _ _ o d _ n
 refine (callsIn_wide.1 this).mono fun e w' z=>?_
 obtain ⟨v,a,A,B,r,s,t⟩:=z;obtain ⟨h1,h2⟩:=r;exact ⟨v,A,⟨t.os,t.tape,t.output⟩,a,B.trans j,s,⟨t.size,fun i hi _=>t.block i hi⟩,by rw [h1]; simp,h2⟩
theorem xy (x:Xaa):∀ l,(Fm x l).Perm (x::l)
 | []=>List.Perm.refl _
 | y::l=>by
  unfold Fm;split
  ·exact List.Perm.refl _
  ·exact ((xy x l).cons y).trans (List.Perm.swap x y l)
theorem BG:∀ l,(r6 l).Perm l
 | []=>List.Perm.refl _
 | x::l=>(xy x (r6 l)).trans ((BG l).cons x)
theorem y7 (x:Xaa):∀ l:List Xaa,(l.Pairwise fun a b=>a.data.toList<=b.data.toList)->((Fm x l).Pairwise fun a b=>a.data.toList<=b.data.toList)
 | [],_=>by simp [Fm]
 | y::l,h=>by
  rw [dp9] at h;unfold Fm;rw [Proofs.bytesLess_eq]
  by_cases c:x.data.toList<y.data.toList
  ·rw [ai9 c];have e:x.data.toList<=y.data.toList:=List.le_of_lt c;refine dp9.2 ⟨fun b d=>?_,dp9.2 h⟩;rcases bd9.1 d with rfl | d
   ·exact e
   ·exact List.le_trans e (h.1 b d)
  ·rw [aj9 c];refine dp9.2 ⟨fun b d=>?_,y7 x l h.2⟩;rcases bd9.1 ((xy x l).mem_iff.1 d) with rfl | d
   ·exact List.not_lt.1 c
   ·exact h.1 b d
theorem vJ:∀ l,(r6 l).Pairwise fun a b=>a.data.toList<=b.data.toList
 | []=>List.Pairwise.nil
 | x::l=>y7 x _ (vJ l)
def JM {ss:List (List UInt8)} {ks:List Xaa} (d:ss.Perm (ks.map fun k=>k.data.toList)):(ss.mergeSort fun x y=>decide (x<=y)).map encStr=(r6 ks).map Value.string:=by
 have h1:ss.mergeSort (fun x y=>decide (x<=y))=(r6 ks).map fun k=>k.data.toList:=by
  have e:∀ a b c:List UInt8,decide (a<=b)=true->decide (b<=c)=true->decide (a<=c)=true:=fun a b c h1 h2=>by simp only [decide_eq_true_eq] at *; exact List.le_trans h1 h2
  have f:∀ a b:List UInt8,(decide (a<=b) || decide (b<=a))=true:=fun a b=>by simp only [Bool.or_eq_true,decide_eq_true_eq]; exact List.le_total a b
  refine List.Perm.eq_of_pairwise (le:=fun a b=>decide (a<=b)=true) (fun a b _ _ h1 h2=>?_) (List.pairwise_mergeSort e f ss) ?_ ((List.mergeSort_perm ss _).trans (d.trans ((BG ks).map _).symm))
  ·simp only [decide_eq_true_eq] at h1 h2;exact List.le_antisymm h1 h2
  ·rw [cp9];exact (vJ ks).imp fun h=>by simpa using h
 rw [h1,bf9];refine ci9 fun k _=>?_
 show encStr k.data.toList=.string k;unfold encStr
 congr 1
noncomputable def ZZ (a:List Xab):Cx:=⟨Xaz,121,131,89,89,117,157,3,fun | 0=>some a | _=>none⟩
def Wz:Tryz.prog.cellsOf 9=1:=av
def WE (c:List Xab):Ok (ZZ c) where
 kt k hk:=by
  have hk:(Nat.beq k 121 || Nat.beq k 131)=true:=hk;rw [Bool.or_eq_true] at hk;rcases hk with hk | hk
  ·have e:k=121:=av9 hk;subst e;exact Ob.Za
  ·have e:k=131:=av9 hk;subst e;exact Ob.Zw
 ki k hk:=by
  have hk:(true && Nat.beq k 89)=true:=hk;have e:k=89:=av9 hk;subst e;exact Ob.kiT
 idx x n h K hk:=by
  show aP Xaz (JE 157 #[.string x,.int .u8 n]) h K;refine Hf (e:=Extern.BytealgIndexByte.indexByte) Tryz.func157 Vj Ux UM U9 ?_;rw [rR];exact hk
 UT h q b D cs e f z hc m hl:=by
  show HC Xaz 89 #[.func (.func 117) #[] #[.pointer (some ⟨q,0,none⟩)]] h _;refine HC.mono (IF z hc m hl) fun v h' A=>?_
  obtain ⟨d,w,i,j,y,l⟩:=A;refine ⟨j,?_⟩;have a:d.length=D.length:=by rw [w.length_eq]; simp
  cases D with
  | nil =>
   have:d=[]:=bs9 (by rw [a]; rfl)
   exact i.2 this
  | cons p D =>
   rcases l with ⟨_,h0⟩ | ⟨g,cap,jJ,hv,B,o,t,r,u,s⟩
   ·rw [a] at h0; simp at h0
   ·have hk:=JM (ss:=d) (ks:=(p::D).map (·.1)) (by rw [bf9]; exact w);rw [hk] at s;refine ⟨g,jJ.toList.drop d.length,cap,B,by rw [<- a]; exact hv,by unfold maxLen at r; omega,?_,by rw [<- a]; exact t,?_⟩
    ·have C:jJ.toList.length=cap*1:=by rw [da9]; exact u
     rw [show (ZZ c).P.cellsOf 9=1 from Wz,cb9,C,<- a]; omega
    ·unfold br;rw [o,<- s,Nat.mul_one,ce9]
def opsV:List Xab:=Ob.lU Ob.vR Ob.w8
noncomputable def cx:Cx:=ZZ opsV
def UK:Ok cx:=WE opsV
def Mq:opsV.all (fQ 9)=true:=av
def Yp (ht:∃ e f,H[0]?=some (.cells opsV.toArray e f)):∀ b c,cx.ro b=some c->b<cx.ng/\∃ cs e f,H[b]?=some (.cells cs e f)/\∀ (i:Nat) (v:Xab),c[i]?=some v->cs[i]?=some v/\fQ 9 v=true:=by
 obtain ⟨e,f,ht⟩:=ht;intro b c a;cases b with
 | succ b=>cases (show none=some c from a)
 | zero =>
  cases (show some opsV=some c from a);refine ⟨show 0<3 from ad,opsV.toArray,e,f,ht,fun i v hv=>⟨by rw [eu9]; exact hv,?_⟩⟩;exact bm9.1 Mq v (cm9 hv)
end Go.Sx.Cr
namespace Go.Sx.Ob
open Go.Proofs Go.Proofs.YtmdncdaladplkaaGreatDoor
open Go.ChangeShapes Go.WideShapes Go.ChangeAt Go.WideMaps Go.WideElems Go.RowKit
def NE {W:World} (h:laidMetH Xaz Rows.poolNumbersRow.laid W):∃ e f,W.heap[0]?=some (.cells Cr.opsV.toArray e f):=by
 rw [MakeChecks.laidMetH_plain _ _ _ av] at h;obtain ⟨ps,⟨C,D,j,E,p0,F,k,l,m,n,⟨G,H,o,I,J,K,p,q,r,s,⟨L,M,t,N,O,P,u,w,x,y,⟨Q,R,z,S,U,V,a,b,c,d,_,_⟩,_⟩,_⟩,_⟩,_,_⟩:=h;obtain rfl:=ay9 ((show Tryz.prog.globalNamed _=some 0 from av).symm.trans a);have A:(Tryz.prog.globals[0]?).map (·.type)=some 202:=av
 obtain rfl:=ay9 (A.symm.trans b);have hr:=Dw d;obtain ⟨B,g,i⟩:=Ei a c;exact ⟨B,g,by rw [i,show Cr.opsV=lU vR w8 from rfl,<- hr]⟩
end Go.Sx.Ob
namespace Go.Sx.Cr
open Go.Proofs
noncomputable def Uw:Code:=Tryz.f10.body.getD .skip
noncomputable def csK:CS:=⟨rW cx.ng .nil,cx.ng⟩
def Rf:Tryz.f10.body=some Uw:=av
def R4:Q9 cx (Xh cx 60) Tryz.f10 (.bool true) Uw .nil csK=true:=av
def N9 {h:Hp} (ht:∃ e f,h[0]?=some (.cells opsV.toArray e f)):HC Xaz 10 #[] h fun v h'=>v=.bool true/\Ext h h' :=
 PW (C:=cx) Tryz.func10 Rf fun b a c g=>RW UK mixed (RZ UK mixed 60) rfl R4 _ b a h (MQ (Yp ht)) c g
end Go.Sx.Cr
namespace Go.Sx.Ob
open Go.Proofs Go.Proofs.YtmdncdaladplkaaGreatDoor
open Go.ChangeMaps
open Go.ChangeShapes Go.WideShapes Go.ChangeAt Go.WideMaps Go.WideElems Go.RowKit
def zX:(Tryz.f4.params.toList.all fun t=>decide (t<Tryz.prog.types.size))=true:=av
def zV:Tryz.prog.inPlace 4=Rows.poolPoolsUptoRow.inPlace:=av
def zW:Tryz.prog.unfollowed 4=Rows.poolPoolsUptoRow.unfollowed:=av
def zM:Tryz.prog.recurses 4=Rows.poolPoolsUptoRow.recurses:=av
def zQ:Tryz.prog.varsNamed 4=Rows.poolPoolsUptoRow.named:=av
def zy:joinedFacts Xaz 4 Tryz.f4 (Rows.OpenSpec.upto Rows.poolPoolsSpec).bare Rows.poolPoolsUptoRow=true:=by
 unfold joinedFacts;rw [zV,zW,zM,zQ]
 kernel_rfl
def yq (os:Os) (started:os.Started) (H:Type) (enc:TypeId × Xab->H) (F:Stop.Interp) :
  ReturnsInHanded {} Tryz.checked os 4 .any (fun w args=>((Rows.OpenSpec.upto Rows.poolPoolsSpec).pre enc Xaz Tryz.f4 [] false w args/\laidMetH Xaz Rows.poolPoolsUptoRow.laid w)/\sizedMet enc Xaz Tryz.f4 (Rows.OpenSpec.upto Rows.poolPoolsSpec) false w args)
   (((Rows.OpenSpec.upto Rows.poolPoolsSpec).at F).post enc Xaz Tryz.f4 false true false false):=by
 refine Ov (k:=Rows.uptoSmall) rfl (C:=Tryz.checked) (X:=fun w _=>laidMetH Xaz Rows.poolPoolsUptoRow.laid w) (fun _ _ _ y h=>h.of_heap y) ZI started av Tryz.func4
  (Ie (k:=Rows.uptoSmall) rfl (C:=Tryz.checked) (os:=os) (X:=fun w _=>laidMetH Xaz Rows.poolPoolsUptoRow.laid w) (World.doorLaid Xaz 400 os) #[.slice none 0 0,vI 0,vI 0] 8 rfl (World.shaped_of_RefB av av) av (x:=([.nil,.lit (.int .i64 0),.lit (.int .i64 0)],[],[])) av rfl av (Q6 os _)) ?_
 intro W base args z gs before b s hk g;have a:∀ (j:Nat) t v,Tryz.f4.params[j]?=some t->args[j]?=some v->Value.okWide Xaz W .any base t v:=b
 have hW':=s;obtain ⟨p,q,c,A,rfl,B,D⟩:=s;have u:DataW.TrodAll enc Xaz W 0 (fun _=>true) true Tryz.f4.params.toList args.toList z p:=c;have i:Tryz.f4.params=#[32,3,3]:=av
 rw [i] at u a;clear c b;obtain ⟨E,G,d0,I,p0,q0,d,rfl,rfl,J,l⟩:=trodAll_cons u;obtain ⟨K,L,d1,M,p1,q1,m,rfl,rfl,N,n⟩:=trodAll_cons l;subst m;obtain ⟨O,P,d2,Q,p2,q2,o,rfl,rfl,R,r⟩:=trodAll_cons n;subst o;obtain ⟨rfl,rfl,rfl⟩:=trodAll_nil r;obtain ⟨args⟩:=args;simp only at d;subst d;have hk:=ah9 hk;have hkb:=hk;simp only [List.append_nil,nA,cA] at hkb;obtain ⟨rfl,rfl⟩:=trodVars_none A;obtain ⟨S,l0,c0,x0,rfl,h0⟩:=Jp (a 0 32 E rfl rfl) J (by simp only [Rows.uptoBulkAll] at hkb; omega);obtain ⟨U,rfl,rfl,rfl,h1⟩:=open_int u3 (a 1 3 K rfl rfl) N;obtain ⟨V,rfl,rfl,rfl,h2⟩:=open_int u3 (a 2 3 O rfl rfl) R;simp only [List.append_nil] at hW';simp only [List.append_nil,List.nil_append,List.cons_append,Rows.uptoBulkAll] at hk;refine (QN (Po.M1 (JY g).2 (JY g).1 (fun h2 Y=>Cr.N9 (by obtain ⟨e,f,ht⟩:=NE g; exact ⟨e,f,Y.get ht ai⟩)) (su:=⟨S,l0,c0⟩) h0.vw (h0.sm ad) U V) (fun _ _ h=>h.2)).mono fun e W' ⟨v,Z,hB,hv,_⟩=>?_
 subst Z hv;exact ⟨_,rfl,Pc rfl hW' (fun _ _ _=>trodAll_mk1 (shut_bool u4 _)) rfl rfl (fun t ht=>ah9 (bm9.1 zX t ht)) hB⟩
def zK:Rows.PoolPoolsUptoSaid :=
 OpenClaim.holds_of_cond 4 Tryz.f4 rfl rfl rfl rfl rfl rfl rfl ⟨rfl,rfl,rfl,rfl,rfl⟩ rfl rfl rfl rfl rfl av Tryz.func4 zy
  (ah9 av) (by unfold Func.isWrapper; first | (rw [af9 (by decide +kernel)]; kernel_rfl) | (rw [ac9 (by decide +kernel)]; exact ⟨rfl,rfl⟩))
  (fun os started H enc _ F=>yq os started H enc F)
end Go.Sx.Ob
