/- Contracts over heaps, part 7. Condition: as each statement says. -/
import Derived.Test.YtmdncdaladplkaaGreatDoorP6
import Derived.Test.YtmdncdaladplkaaGreatDoorSxZ
import Derived.Test.YtmdncdaladplkaaGreatDoorTie
import Derived.Test.YtmdncdaladplkaaGreatDoorCards
import Derived.SevenTiedAt
set_option linter.all false
set_option maxRecDepth 100000
set_option maxHeartbeats 4000000
namespace Go.Sx.Ob
open Go.Proofs Go.Proofs.YtmdncdaladplkaaGreatDoor
open Go.ChangeShapes Go.WideShapes Go.ChangeAt Go.WideMaps Go.WideElems Go.RowKit
variable {H:Type} {apart:Bool}
def Zq:Kids Xaz (·<Tryz.prog.types.size):=kids_rows av av
def sliceB:((List.range Tryz.prog.types.size).all λt=>match Tryz.prog.underlying t with | some (.slice e)=>decide (0<Tryz.prog.cellsOf e) | _=>true)=true:=av
def Xg {t e:TypeId} (ht:t<Tryz.prog.types.size) (a:Tryz.prog.underlying t=some (.slice e)):0<Tryz.prog.cellsOf e:=by
 have:=bn9.1 sliceB t (ef9.2 ht)
 rw [a] at this;exact ai9 this
theorem vk {enc:TypeId × Xab->H} {W e:World} {sp:Nat->Bool} (f:Below W.heap.size W e):∀ {ts:List TypeId} {g:List Xab} {i:List (DataW H)} {ps:List MemPlace},(∀ t∈ts,t<Tryz.prog.types.size) ->
  DataW.TrodAll enc Xaz W 0 (λ_=>true) true ts g i ps->(∀ p∈ps,p.block<W.heap.size)->(∀ p∈ps,sp p.block=true)->DataW.TrodAll enc Xaz e 0 sp true ts g i ps
 | [],_,_,_,_,h,_,_=>by
  obtain ⟨rfl,rfl,rfl⟩:=trodAll_nil h;exact trodAll_mk0
 | t::ts,_,_,_,ht,h,hl,j=>by
  obtain ⟨v,k,d,l,a,b,rfl,rfl,rfl,⟨n,h1⟩,h2⟩:=trodAll_cons h;exact ⟨a,b,⟨n,DataW.trod_stays Zq (λh m=>Xg h m) (λh=>by cases h) (ht t (da9 ..)) h1 (λp c=>JI f (hl p (be9 _ c))) (λp c=>j p (be9 _ c))⟩,
   vk f (λt h=>ht t (aq9 _ h)) h2 (λp c=>hl p (bi9 _ c)) (λp c=>j p (bi9 _ c)),rfl⟩
def P8 {enc:TypeId × Xab->H} {f:Func} {s:ChangeSpec} {fresh handsOn:Bool} {W W':World} {args:Array Xab} {v:Xab} {c gs:List (DataW H)} {before:List MemPlace} (d:s.vars=[])
  (g:DataW.Whole enc Xaz f.params.toList s.vars apart W args.toList c gs before)
  (e:∀ (b:Nat) (sp:Nat->Bool) (l:Bool),DataW.TrodAll enc Xaz W' b sp l f.resultTypes.toList (v.resultList f.resultTypes.size) (s.fn H (c++gs)).results [])
  (a:(s.fn H (c++gs)).args=c) (et:(s.fn H (c++gs)).vars=[]) (i:∀ t∈f.params.toList,t<Tryz.prog.types.size) (j:Below W.heap.size W W') :
  s.post enc Xaz f apart fresh handsOn false W args v W':=by
 have hlt:=g.lt;have hW':=g;obtain ⟨p,q,m,k,rfl,o,hn⟩:=g;rw [d] at k;obtain ⟨rfl,rfl⟩:=trodVars_none k;rw [cb9] at hlt hW';refine ⟨c,[],p,[],p,[],hW',e _ _ _,?_,?_,j.frame _,λh=>by cases h⟩
 ·rw [a];exact vk j i m hlt (λp n=>ak9 (hlt p n))
 ·rw [et,d] <;> rfl
variable {Z:FuncId} {a:OpenSpec}
def Pk {enc:TypeId × Xab->H} {b:Assume} {C:Checked} {os:Os} {fn:Func} {k:(H:Type)->List (DataW H)->Bool} (hk:a.cond=some k) {F:Stop.Interp} {conds:List PathCond} {fresh handsOn again:Bool} {X:World->Array Xab->Prop}
  (y:∀ (w w':World) (args:Array Xab),w.heap=w'.heap->X w args->X w' args)
  (own:ownKnob C.prog.godebug=none) (started:os.Started) (d:C.prog.inits.idxOf? Z=none) (o:C.prog.funcs[Z]?=some fn)
  (witness:∃ (w:World) (tape:Tape) (i:Input),w.os=os/\(w.forCall tape i).Shaped C.prog/\i.vars=[]/\Input.okWide C.prog (w.forCall tape i) .any w.heap.size Z i /\
   ((a.pre enc C.prog fn conds apart (w.forCall tape i).memory i.args/\X (w.forCall tape i).memory i.args)/\sizedMet enc C.prog fn a apart (w.forCall tape i).memory i.args)/\b.holds C.prog (lone (Frame.enter C.prog Z i.args .normal) [] (w.forCall tape i)))
  (c:∀ (W:World) (base:Nat) (args:Array Xab) (m gs:List (DataW H)) (before:List MemPlace),
   (∀ (j:Nat) t v,fn.params[j]?=some t->args[j]?=some v->Value.okWide C.prog W .any base t v) ->
   DataW.Whole enc C.prog fn.params.toList a.vars apart W args.toList m gs before->k H (m++gs)=true->X W args ->
   Calls C.prog Z args W λe x=>∃ v,e=.returned v/\(a.at F).post enc C.prog fn apart fresh handsOn again W args v x) :
  ReturnsInHanded b C os Z .any (λw args=>(a.pre enc C.prog fn conds apart w args/\X w args)/\sizedMet enc C.prog fn a apart w args) ((a.at F).post enc C.prog fn apart fresh handsOn again):=by
 refine returnsInHanded_of_calls own started d witness ?_;intro w tape i _ _ _ p g n;obtain ⟨_,_,_,q,h,_,_,_,_,l⟩:=p;have e:q=fn:=bb9 (h.symm.trans o);subst e;obtain ⟨⟨r,z⟩,D⟩:=g;obtain ⟨m,gs,before,A,hc,u⟩:=(OpenSpec.pre_some hk conds apart _ _).1 r;have hw':=DataW.Whole.of_heap (w':=w.forCall tape i) (by rfl) A;refine (c (w.forCall tape i) w.heap.size i.args m gs before l hw' u (y _ _ _ (by rfl) z)).mono λe x ⟨v,B,r⟩=>?_
 subst B;exact ChangeSpec.post_blind r
def IX {enc:TypeId × Xab->H} {C:Checked} {os:Os} {fn:Func} {k:(H:Type)->List (DataW H)->Bool} (hk:a.cond=some k) {X:World->Array Xab->Prop} (c:World) (args:Array Xab) (b:Nat) (e:c.os=os)
  (g:(c.forCall (λ_ _=>0) ⟨#[],args,[]⟩).Shaped C.prog)
  (d:Input.okWideB C.prog (c.forCall (λ_ _=>0) ⟨#[],args,[]⟩) Z ⟨#[],args,[]⟩=true)
  {x:List (DataW H) × List (DataW H) × List MemPlace} (l:DataW.whole enc C.prog (c.forCall (λ_ _=>0) ⟨#[],args,[]⟩).memory fn.params.toList a.vars apart args.toList b=some x) (h:k H (x.1++x.2.1)=true)
  (j:a.bare.sizedB enc C.prog fn apart (c.forCall (λ_ _=>0) ⟨#[],args,[]⟩).memory args b=true)
  (m:X (c.forCall (λ_ _=>0) ⟨#[],args,[]⟩).memory args) :
  ∃ (w:World) (tape:Tape) (i:Input),w.os=os/\(w.forCall tape i).Shaped C.prog/\i.vars=[]/\Input.okWide C.prog (w.forCall tape i) .any w.heap.size Z i /\
   ((a.pre enc C.prog fn [] apart (w.forCall tape i).memory i.args/\X (w.forCall tape i).memory i.args)/\sizedMet enc C.prog fn a apart (w.forCall tape i).memory i.args)/\({}:Assume).holds C.prog (lone (Frame.enter C.prog Z i.args .normal) [] (w.forCall tape i)) :=
 ⟨c,λ_ _=>0,⟨#[],args,[]⟩,e,g,(Input.okWide_of_okWideB (base:=0) d).1,(Input.okWide_of_okWideB d).2,
  ⟨⟨(OpenSpec.pre_some hk [] apart _ _).2 ⟨x.1,x.2.1,x.2.2,DataW.Whole_of_whole l,rfl,h⟩,m⟩,sizedMet_of_sizedB j⟩,by
  simp only [Assume.holds];exact ⟨ai,ai,ai,ai,ai⟩⟩
structure yA (x:bK):Prop where
 HL:∀ t,t∈x.af->t.2<4294967296
 num:x.num<4294967296
structure XO (u:cm):Prop where
 text:∀ x,x∈u.text->yA x.e
 data:∀ x,x∈u.data->yA x.e
 bi:∀ x,x∈u.bi->yA x.2
def u52:Tryz.prog.underlying 51=some (.int .u32):=av
def u21:Tryz.prog.underlying 21=some (.int .i32):=av
def u53:Tryz.prog.underlying 50=some (.slice 64):=av
def c86:Tryz.prog.cellsOf 64=2:=av
def c55:Tryz.prog.cellsOf 53=2:=av
def c53:Tryz.prog.cellsOf 50=1:=av
def c52:Tryz.prog.cellsOf 51=1:=av
def c21:Tryz.prog.cellsOf 21=1:=av
def c77:Tryz.prog.cellsOf 49=5:=av
def c79:Tryz.prog.cellsOf 55=10:=av
def c57:Tryz.prog.cellsOf 116=3:=av
def c26:Tryz.prog.cellsOf 46=1:=av
def c27:Tryz.prog.cellsOf 67=1:=av
def c28:Tryz.prog.cellsOf 68=1:=av
def c30:Tryz.prog.cellsOf 70=4:=av
def s86:xz Xaz 64=some [(9,0),(51,1)]:=av
def s55:xz Xaz 53=some [(50,0),(51,1)]:=av
def s77:xz Xaz 49=some [(3,0),(3,1),(3,2),(21,3),(3,4)]:=av
def s79:xz Xaz 55=some [(3,0),(9,1),(49,2),(53,7),(3,9)]:=av
def YG:xz Xaz 116=some [(9,0),(53,1)]:=av
def s30:xz Xaz 70=some [(46,0),(46,1),(67,2),(68,3)]:=av
section
variable {H:Type} {enc:TypeId × Xab->H} {W:World} {base n:Nat} {sp:Nat->Bool} {held:Bool} {cs:List Xab} {y:DataW H × List MemPlace}
def OK {α:Type} {ys:List α} {a b:α} (hl:ys.length=2) (h0:ys[0]?=some a) (h1:ys[1]?=some b):ys=[a,b]:=by
 match ys,hl with
 | [x,y],_ =>
  simp only [List.getElem?_cons_zero,List.getElem?_cons_succ,Option.some.injEq] at h0 h1;subst h0 h1;rfl
def QT (t:Xaa × Nat) (cs:List Xab) (k:Nat):Prop:=cs=cT t/\t.1.size<=maxLen/\t.2<4294967296/\k=t.1.size+3
def N3 (h:DataW.trod enc Xaz W base sp held n 64 cs=some y):∃ t,QT t cs (Rows.uptoBulk y.1):=by
 obtain ⟨ys,m,e,hl,b,a⟩:=gX s86 h;obtain ⟨p,f,c⟩:=a 0 _ rfl;obtain ⟨q,g,d⟩:=a 1 _ rfl;have hys2:=OK b f g;rw [c86] at hl
 match cs,hl with
 | [v,u],_ =>
  rw [show Tryz.prog.cellsOf (9,0).1=1 from c9] at c;rw [show Tryz.prog.cellsOf (51,1).1=1 from c52] at d;obtain ⟨s,e0,i,j⟩:=DataW.trod_string u9 c;obtain ⟨k,l,o,hk⟩:=DataW.trod_int u52 d;have hb:=bounds_u32 hk;cases e0; cases l;refine ⟨(s,k.toNat),?_,j,by show k.toNat<_; omega,?_⟩
  ·unfold cT;simp only [List.cons.injEq,Value.int.injEq,true_and,and_true];omega
  ·rw [e,hys2,i,o];simp only [List.map_cons,List.map_nil,Rows.uptoBulk,Rows.uptoBulkAll];rw [de9];show s.data.size+1+(1+0)+1=s.data.size+3;omega
structure OI (h:Hp) (p:Xac) (l c:Nat) (x:bK) (k:Nat):Prop where
 vw:iA h p l x.af
 names:∀ t,t∈x.af->t.1.size<=maxLen
 num:yA x
 many:3*x.af.length<=k
 size:(nk x).length<=2*k
 cap:l<=c
theorem Cm:∀ (ts:dr) (ks:List Nat),ks.length=ts.length->(∀ i,(hi:i<ts.length)->(hk:i<ks.length)->ks[i]=ts[i].1.size+3)->(ts.flatMap HR).length=2*ks.sum-(ts.map (·.1.size)).sum/\(ts.map (·.1.size)).sum+3*ts.length=ks.sum
 | [],ks,hl,_=>by
  have:ks=[]:=ec9.1 hl
  subst this
  simp
 | t::ts,[],hl,_=>by simp at hl
 | t::ts,k::ks,hl,h=>by
  have h0:=h 0 ai ai;simp only [List.getElem_cons_zero] at h0;obtain ⟨a,c⟩:=Cm ts ks (by simpa using hl) (λi hi hk=>h (i+1) (by simpa using hi) (by simpa using hk));have b:(HR t).length=t.1.size+6:=by
   unfold HR jV;simp only [List.length_append,dL]
   have:t.1.data.toList.length=t.1.size:=ai
   omega
  rw [cf9,ae9,cu9,bq9,cu9,cn9,b,a];omega
def Is (h:DataW.trod enc Xaz W base sp held n 53 cs=some y) :
  ∃ p l c x,cs=[.slice p l c,.int .u32 ((x:bK).num:Int)]/\OI W.heap p l c x (Rows.uptoBulk y.1):=by
 obtain ⟨ys,m,s,hl,e,b⟩:=gX s55 h;obtain ⟨w,z,o⟩:=b 0 _ rfl;obtain ⟨K,A,q⟩:=b 1 _ rfl;have hys2:=OK e z A;rw [c55] at hl
 match cs,hl with
 | [v,u],_ =>
  rw [show Tryz.prog.cellsOf (50,0).1=1 from c53] at o;rw [show Tryz.prog.cellsOf (51,1).1=1 from c52] at q;obtain ⟨p,l,c,us,ks,e0,d,r⟩:=open_slice u53 c86 QT (λcs y n h=>N3 h) o;obtain ⟨k,B,C,hk⟩:=DataW.trod_int u52 q;have hb:=bounds_u32 hk;cases e0; cases B;have f:((k.toNat:Nat):Int)=k:=ad
  have g:Rows.uptoBulk y.1=Rows.uptoBulk w.1+2:=by
   rw [s,hys2,C];simp only [List.map_cons,List.map_nil,Rows.uptoBulk,Rows.uptoBulkAll]
  have j:∀ i,(hi:i<us.length)->(hk:i<ks.length)->us[i].1.size<=maxLen/\us[i].2<4294967296/\ks[i]=us[i].1.size+3:=by
   intro i hi hk;obtain ⟨a,cs,_,_,_,D,E,F⟩:=d.cells i hi hk;exact ⟨D,E,F⟩
  have hkl:=d.CT;obtain ⟨G,L⟩:=Cm us ks hkl (λi hi hk=>(j i hi hk).2.2);refine ⟨p,l,c,⟨us,k.toNat⟩,by rw [show ((⟨us,k.toNat⟩:bK).num:Int)=k from f],⟨d.len,λi hi=>?_⟩,?_,⟨?_,by show k.toNat<_; omega⟩,?_,?_,d.cap⟩
  ·have hi:i<us.length:=hi;obtain ⟨a,cs,I,hc,J,_⟩:=d.cells i hi ad;rw [J] at hc;exact ⟨a,I,hc⟩
  ·intro t (ht:t∈us);obtain ⟨i,hi,rfl⟩:=bh9 ht;exact (j i hi ad).1
  ·intro t (ht:t∈us);obtain ⟨i,hi,rfl⟩:=bh9 ht;exact (j i hi ad).2.1
  ·show 3*us.length<=_;omega
  ·show (wa us.length 2++(us.flatMap HR++wa k.toNat 4)).length<=_;rw [ae9,ae9,dL,dL,G];omega
def Wc {α:Type} {ys:List α} {a b c d e:α} (hl:ys.length=5) (h0:ys[0]?=some a) (h1:ys[1]?=some b) (h2:ys[2]?=some c) (f:ys[3]?=some d) (g:ys[4]?=some e):ys=[a,b,c,d,e]:=by
 match ys,hl with
 | [h,i,j,k,l],_ =>
  simp only [List.getElem?_cons_zero,List.getElem?_cons_succ,Option.some.injEq] at h0 h1 h2 f g;subst h0 h1 h2 f g;rfl
def Zh {α:Type} {ys:List α} {a b c d:α} (hl:ys.length=4) (h0:ys[0]?=some a) (h1:ys[1]?=some b) (h2:ys[2]?=some c) (e:ys[3]?=some d):ys=[a,b,c,d]:=by
 match ys,hl with
 | [f,g,h,i],_ =>
  simp only [List.getElem?_cons_zero,List.getElem?_cons_succ,Option.some.injEq] at h0 h1 h2 e;subst h0 h1 h2 e;rfl
def Pc (h:DataW.trod enc Xaz W base sp held n 49 cs=some y):∃ i:Ins,cs=qa i/\Sm i.op/\Rows.uptoBulk y.1=6:=by
 obtain ⟨ys,m,j,hl,b,a⟩:=gX s77 h;obtain ⟨J,k,c⟩:=a 0 _ rfl;obtain ⟨K,l,d⟩:=a 1 _ rfl;obtain ⟨L,o,e⟩:=a 2 _ rfl;obtain ⟨M,p,f⟩:=a 3 _ rfl;obtain ⟨N,q,g⟩:=a 4 _ rfl;have hys5:=Wc b k l o p q;rw [c77] at hl
 match cs,hl with
 | [O,P,Q,R,S],_ =>
  rw [show Tryz.prog.cellsOf (3,0).1=1 from c3] at c;rw [show Tryz.prog.cellsOf (3,1).1=1 from c3] at d;rw [show Tryz.prog.cellsOf (3,2).1=1 from c3] at e;rw [show Tryz.prog.cellsOf (21,3).1=1 from c21] at f;rw [show Tryz.prog.cellsOf (3,4).1=1 from c3] at g;obtain ⟨r,e0,s,t⟩:=DataW.trod_int u3 c;obtain ⟨u,w,x,U⟩:=DataW.trod_int u3 d;obtain ⟨z,A,B,V⟩:=DataW.trod_int u3 e;obtain ⟨C,D,E,X⟩:=DataW.trod_int u21 f;obtain ⟨F,G,I,Y⟩:=DataW.trod_int u3 g;cases e0; cases w; cases A; cases D; cases G;refine ⟨⟨r,u,z,C,F⟩,rfl,bounds_i64 t,?_⟩;rw [j,hys5,s,x,B,E,I];simp only [List.map_cons,List.map_nil,Rows.uptoBulk,Rows.uptoBulkAll]
def QI (h:Hp) (x:cB) (cs:List Xab) (k:Nat):Prop:=∃ p l c b,cs=encI p l c x/\OI h p l c x.e b/\x.name.size<=maxLen/\Sm x.inst.op/\k=x.name.size+b+10
def Du (h:DataW.trod enc Xaz W base sp held n 55 cs=some y):∃ x,QI W.heap x cs (Rows.uptoBulk y.1):=by
 obtain ⟨ys,m,o,hl,b,a⟩:=gX s79 h;obtain ⟨N,q,d⟩:=a 0 _ rfl;obtain ⟨O,r,e⟩:=a 1 _ rfl;obtain ⟨P,t,f⟩:=a 2 _ rfl;obtain ⟨g,u,j⟩:=a 3 _ rfl;obtain ⟨Q,w,k⟩:=a 4 _ rfl;have hys5:=Wc b q r t u w;rw [c79] at hl
 match cs,hl with
 | [R,S,U,V,X,Y,Z,v7,v8,v9],_ =>
  rw [show Tryz.prog.cellsOf (3,0).1=1 from c3] at d;rw [show Tryz.prog.cellsOf (9,1).1=1 from c9] at e;rw [show Tryz.prog.cellsOf (49,2).1=5 from c77] at f;rw [show Tryz.prog.cellsOf (53,7).1=2 from c55] at j;rw [show Tryz.prog.cellsOf (3,9).1=1 from c3] at k;obtain ⟨z,e0,A,w0⟩:=DataW.trod_int u3 d;obtain ⟨s,B,C,D⟩:=DataW.trod_string u9 e;obtain ⟨i,E,F,G⟩:=Pc f;obtain ⟨p,l,c,x,I,J⟩:=Is j;obtain ⟨K,L,M,w4⟩:=DataW.trod_int u3 k;cases e0; cases B; cases E; cases I; cases L;refine ⟨⟨z,s,i,x,K⟩,p,l,c,_,rfl,J,D,F,?_⟩;rw [o,hys5,A,C,M];simp only [List.map_cons,List.map_nil,Rows.uptoBulk,Rows.uptoBulkAll,G];rw [de9];show 1+(s.data.size+1+(6+(Rows.uptoBulk g.1+(1+0))))+1=s.data.size+Rows.uptoBulk g.1+10;omega
def QE (h:Hp) (x:tI) (cs:List Xab) (k:Nat):Prop:=∃ p l c b,cs=X8 p l c x/\OI h p l c x.2 b/\x.1.size<=maxLen/\k=x.1.size+b+2
def RA (h:DataW.trod enc Xaz W base sp held n 116 cs=some y):∃ x,QE W.heap x cs (Rows.uptoBulk y.1):=by
 obtain ⟨ys,m,g,hl,b,a⟩:=gX YG h;obtain ⟨u,i,d⟩:=a 0 _ rfl;obtain ⟨e,j,f⟩:=a 1 _ rfl;have hys2:=OK b i j;rw [c57] at hl
 match cs,hl with
 | [w,z,A],_ =>
  rw [show Tryz.prog.cellsOf (9,0).1=1 from c9] at d;rw [show Tryz.prog.cellsOf (53,1).1=2 from c55] at f;obtain ⟨s,k,o,q⟩:=DataW.trod_string u9 d;obtain ⟨p,l,c,x,r,t⟩:=Is f;cases k; cases r;refine ⟨(s,x),p,l,c,_,rfl,t,q,?_⟩;rw [g,hys2,o];simp only [List.map_cons,List.map_nil,Rows.uptoBulk,Rows.uptoBulkAll];rw [de9];show (s.data.size+1+(Rows.uptoBulk e.1+0))+1=s.data.size+Rows.uptoBulk e.1+2;omega
def QS (x:Xaa) (cs:List Xab) (k:Nat):Prop:=cs=[.string x]/\x.size<=maxLen/\k=x.size+1
def Pt (h:DataW.trod enc Xaz W base sp held n 9 cs=some y):∃ x,QS x cs (Rows.uptoBulk y.1):=by
 obtain ⟨s,a,b,c⟩:=DataW.trod_string u9 h;refine ⟨s,a,c,?_⟩;rw [b];simp only [Rows.uptoBulk];rw [de9] <;> rfl
theorem iS {α:Type} (f:α->Nat) (m:Nat):∀ (us:List α) (ks:List Nat),ks.length=us.length->(∀ i,(hi:i<us.length)->(hk:i<ks.length)->f us[i]<=m*ks[i])->(us.map f).sum<=m*ks.sum
 | [],ks,hl,_=>ai
 | u::us,[],hl,_=>by simp at hl
 | u::us,k::ks,hl,h=>by
  have h0:=h 0 ai ai;simp only [List.getElem_cons_zero] at h0;have ih:=iS f m us ks (by simpa using hl) (λi hi hk=>h (i+1) (by simpa using hi) (by simpa using hk));rw [bq9,cu9,cu9,Nat.mul_add];omega
variable {O:Hp}
def QF {x:cB} {cs:List Xab} {k:Nat} (q:QI O x cs k):(Ku x).length<=2*k:=by
 obtain ⟨p,l,c,b,_,a,_,_,rfl⟩:=q;have h1:=a.size;have ht:(jV x.name).length=x.name.size+2:=by
  unfold jV;rw [ae9,dL]
  have:x.name.data.toList.length=x.name.size:=ai
  omega
 have hi:∀ (n:Int) (w:Nat),(EK n w).length=w:=λn w=>by unfold EK; rw [dL]
 unfold Ku;rw [ae9,hi];split
 ·omega
 ·split
  ·rw [ae9,ae9,ae9,ae9,hi,hi,hi,hi];split
   ·omega
   ·simp
    omega
  ·split
   ·rw [hi]; omega
   ·split
    ·omega
    ·split
     ·rw [hi]; omega
     ·simp
      omega
def Pn {x:tI} {cs:List Xab} {k:Nat} (q:QE O x cs k):(OZ x).length<=2*k:=by
 obtain ⟨p,l,c,b,_,a,_,rfl⟩:=q;have h1:=a.size;unfold OZ jV;rw [ae9,ae9,dL]
 have:x.1.data.toList.length=x.1.size:=ai
 omega
def Mn {x:Xaa} {cs:List Xab} {k:Nat} (q:QS x cs k):(jV x).length<=2*k:=by
 obtain ⟨_,_,rfl⟩:=q;unfold jV;rw [ae9,dL]
 have:x.data.toList.length=x.size:=ai
 omega
def J6 {α:Type} (f:α->Bt) (us:List α):(us.flatMap f).length=(us.map λu=>(f u).length).sum:=by rw [et9]
end
theorem tU:∀ (ks:List Nat) (i:Nat) (h:i<ks.length),ks[i]<=ks.sum
 | k::ks,0,_=>ai
 | k::ks,i+1,h=>by
  have:=tU ks i (by simpa using h)
  simp only [List.getElem_cons_succ,List.sum_cons];omega
theorem lr {α:Type}:∀ us:List α,(us.map λ_=>1).sum=us.length
 | []=>rfl
 | u::us=>by rw [bq9,cu9,lr us,cn9,Nat.add_comm]
def xe {α:Type} {P:α->Prop} {us:List α} (h:∀ i,(hi:i<us.length)->P us[i]):∀ x,x∈us->P x:=λx a=>by
 obtain ⟨i,hi,rfl⟩:=bh9 a;exact h i hi
variable {O:Hp} {U:Xac} {V Y:Nat}
def OI.at {x:bK} {k:Nat} (q:OI O U V Y x k) (hk:k<=2^60):nL O U V x:=⟨q.vw,by have:=q.many; omega,q.names⟩
def KE {us:List cB} {ks:List Nat} (s:FT (QI O) O 10 U V Y us ks) (k:ks.sum<=2^58):Ge O U V us/\(∀ x,x∈us->yA x.e)/\(us.flatMap Ku).length<=2*ks.sum:=by
 have hl:=s.CT;have q:∀ i,(hi:i<us.length)->∃ a cs,U=some a/\aH O (a.add (i*10)) 0 cs/\QI O us[i] cs ks[i]:=λi hi=>s.cells i hi ad
 have one:∀ i,(hi:i<us.length)->1<=1*ks[i]:=λi hi=>by
  obtain ⟨_,_,_,_,_,_,_,_,_,_,_,_,hk⟩:=q i hi;omega
 have m:us.length<=ks.sum:=by
  have:=iS (λ_=>1) 1 us ks hl (λi hi hk=>one i hi)
  rw [lr] at this;omega
 refine ⟨⟨s.len,ad,λi hi=>?_⟩,xe λi hi=>?_,?_⟩
 ·obtain ⟨a,cs,d,hc,p',l',c',b,rfl,f,hn,g,hk⟩:=q i hi
  have:=tU ks i ad
  exact ⟨a,p',l',c',d,hc,f.at ad,hn,g⟩
 ·obtain ⟨a,cs,d,hc,p',l',c',b,rfl,f,hn,g,hk⟩:=q i hi;exact f.num
 ·rw [J6];refine iS _ 2 us ks hl (λi hi hk=>?_);obtain ⟨a,cs,d,hc,j⟩:=q i hi;exact QF j
def Vg {us:List tI} {ks:List Nat} (s:FT (QE O) O 3 U V Y us ks) (g:ks.sum<=2^58):vQ O U V us/\(∀ x,x∈us->yA x.2)/\(us.flatMap OZ).length<=2*ks.sum:=by
 have hl:=s.CT;have q:∀ i,(hi:i<us.length)->∃ a cs,U=some a/\aH O (a.add (i*3)) 0 cs/\QE O us[i] cs ks[i]:=λi hi=>s.cells i hi ad
 have one:∀ i,(hi:i<us.length)->1<=1*ks[i]:=λi hi=>by
  obtain ⟨_,_,_,_,_,_,_,_,_,_,_,hk⟩:=q i hi;omega
 have j:us.length<=ks.sum:=by
  have:=iS (λ_=>1) 1 us ks hl (λi hi hk=>one i hi)
  rw [lr] at this;omega
 refine ⟨⟨s.len,ad,λi hi=>?_⟩,xe λi hi=>?_,?_⟩
 ·obtain ⟨a,cs,d,hc,p',l',c',b,rfl,e,hn,hk⟩:=q i hi
  have:=tU ks i ad
  exact ⟨a,p',l',c',d,hc,e.at ad,hn⟩
 ·obtain ⟨a,cs,d,hc,p',l',c',b,rfl,e,hn,hk⟩:=q i hi;exact e.num
 ·rw [J6];refine iS _ 2 us ks hl (λi hi hk=>?_);obtain ⟨a,cs,d,hc,f⟩:=q i hi;exact Pn f
def Vn {us:List Xaa} {ks:List Nat} (s:FT QS O 1 U V Y us ks) (e:ks.sum<=2^58):Z7 O U V us/\(us.flatMap jV).length<=2*ks.sum:=by
 have hl:=s.CT;have q:∀ i,(hi:i<us.length)->∃ a cs,U=some a/\aH O (a.add (i*1)) 0 cs/\QS us[i] cs ks[i]:=λi hi=>s.cells i hi ad
 have one:∀ i,(hi:i<us.length)->1<=1*ks[i]:=λi hi=>by
  obtain ⟨_,_,_,_,_,_,hk⟩:=q i hi;omega
 have f:us.length<=ks.sum:=by
  have:=iS (λ_=>1) 1 us ks hl (λi hi hk=>one i hi)
  rw [lr] at this;omega
 refine ⟨⟨s.len,ad,λi hi=>?_⟩,?_⟩
 ·obtain ⟨a,cs,b,hc,rfl,hn,hk⟩:=q i hi;exact ⟨a,b,hc,hn⟩
 ·rw [J6];refine iS _ 2 us ks hl (λi hi hk=>?_);obtain ⟨a,cs,b,hc,d⟩:=q i hi;exact Mn d
def yz {us:List cB} {ks:List Nat} (s:FT (QI O) O 10 U V Y us ks):(∀ x,x∈us->x.e.af.length<=ks.sum)/\us.length<=ks.sum:=by
 have hl:=s.CT;have q:∀ i,(hi:i<us.length)->∃ a cs,U=some a/\aH O (a.add (i*10)) 0 cs/\QI O us[i] cs ks[i]:=λi hi=>s.cells i hi ad
 refine ⟨xe λi hi=>?_,?_⟩
 ·obtain ⟨a,cs,f,hc,p',l',c',b,rfl,d,hn,g,hk⟩:=q i hi
  have:=tU ks i ad
  have:=d.many
  omega
 ·have:=iS (λ_=>1) 1 us ks hl (λi hi hk=>by
   obtain ⟨_,_,_,_,_,_,_,_,_,_,_,_,hk⟩:=q i hi;omega)
  rw [lr] at this;omega
theorem XV {α:Type} (g:α->Nat):∀ us:List α,(us.map λx=>3*g x).sum=3*(us.map g).sum
 | []=>rfl
 | u::us=>by rw [bq9,cu9,bq9,cu9,XV g us,Nat.mul_add]
def PP {us:List cB} {ks:List Nat} (s:FT (QI O) O 10 U V Y us ks):(us.map λx=>3*x.e.af.length).sum<=ks.sum:=by
 have:=iS (λx:cB=>3*x.e.af.length) 1 us ks s.CT (λi hi hk=>by
  obtain ⟨a,cs,f,hc,p',l',c',b,_,d,hn,g,hk⟩:=s.cells i hi hk
  have:=d.many
  omega)
 omega
def WK {us:List tI} {ks:List Nat} (s:FT (QE O) O 3 U V Y us ks):(us.map λx=>3*x.2.af.length).sum<=ks.sum:=by
 have:=iS (λx:tI=>3*x.2.af.length) 1 us ks s.CT (λi hi hk=>by
  obtain ⟨a,cs,e,hc,p',l',c',b,_,d,hn,hk⟩:=s.cells i hi hk
  have:=d.many
  omega)
 omega
def Jw {us:List tI} {ks:List Nat} (s:FT (QE O) O 3 U V Y us ks):(∀ x,x∈us->x.2.af.length<=ks.sum)/\us.length<=ks.sum:=by
 have hl:=s.CT;have q:∀ i,(hi:i<us.length)->∃ a cs,U=some a/\aH O (a.add (i*3)) 0 cs/\QE O us[i] cs ks[i]:=λi hi=>s.cells i hi ad
 refine ⟨xe λi hi=>?_,?_⟩
 ·obtain ⟨a,cs,e,hc,p',l',c',b,rfl,d,hn,hk⟩:=q i hi
  have:=tU ks i ad
  have:=d.many
  omega
 ·have:=iS (λ_=>1) 1 us ks hl (λi hi hk=>by
   obtain ⟨_,_,_,_,_,_,_,_,_,_,_,hk⟩:=q i hi;omega)
  rw [lr] at this;omega
def R2 {us:List Xaa} {ks:List Nat} (s:FT QS O 1 U V Y us ks):us.length<=ks.sum:=by
 have hl:=s.CT;have q:∀ i,(hi:i<us.length)->∃ a cs,U=some a/\aH O (a.add (i*1)) 0 cs/\QS us[i] cs ks[i]:=λi hi=>s.cells i hi ad
 have:=iS (λ_=>1) 1 us ks hl (λi hi hk=>by
  obtain ⟨_,_,_,_,_,_,hk⟩:=q i hi;omega)
 rw [lr] at this;omega
structure LV (h:Hp) (a b c d:bC) (u:cm) (N:Nat):Prop where
 at_:vp h a b c d u
 num:XO u
 size:(aay u).length<=2*N+13
 small:(∀ x,x∈u.text->x.e.af.length<=N)/\(∀ x,x∈u.data->x.e.af.length<=N)/\(∀ x,x∈u.bi->x.2.af.length<=N)/\u.aT.length<=N/\u.text.length<=N/\u.data.length<=N/\u.bi.length<=N
 cap:a.l<=a.c
 Zv:3*((Lk.cR u).flatMap (·.af)).length<=N
 kq:u.text.length+u.data.length+u.bi.length+u.aT.length<=N
 pos:1<=N
def Wy {a b c d:bC} {u:cm} {N:Nat} (s:LV O a b c d u N):1<=N:=s.pos
section
variable {H:Type} {enc:TypeId × Xab->H} {W:World} {base n:Nat} {sp:Nat->Bool} {held:Bool} {cs:List Xab} {y:DataW H × List MemPlace}
def Ae (h:DataW.trod enc Xaz W base sp held n 70 cs=some y) (hN:Rows.uptoBulk y.1<=2^50):∃ a b c d u,cs=[bC.v a,bC.v b,bC.v c,bC.v d]/\LV W.heap a b c d u (Rows.uptoBulk y.1):=by
 obtain ⟨ys,m,z,hl,p,f⟩:=gX s30 h;obtain ⟨A,B,r⟩:=f 0 _ rfl;obtain ⟨C,D,s⟩:=f 1 _ rfl;obtain ⟨E,F,t⟩:=f 2 _ rfl;obtain ⟨G,I,w⟩:=f 3 _ rfl;have hys4:=Zh p B D F I;rw [c30] at hl
 match cs,hl with
 | [v0,v1,v2,v3],_ =>
  rw [show Tryz.prog.cellsOf (46,0).1=1 from c26] at r;rw [show Tryz.prog.cellsOf (46,1).1=1 from c26] at s;rw [show Tryz.prog.cellsOf (67,2).1=1 from c27] at t;rw [show Tryz.prog.cellsOf (68,3).1=1 from c28] at w;obtain ⟨p0,l0,J,g,b0,e0,s0,m0⟩:=open_slice Wr c79 (QI W.heap) (λcs y n h=>Du h) r;obtain ⟨K,L,M,i,b1,N,k,m1⟩:=open_slice Wr c79 (QI W.heap) (λcs y n h=>Du h) s;obtain ⟨O,P,Q,j,b2,R,l,m2⟩:=open_slice ZU c57 (QE W.heap) (λcs y n h=>RA h) t;obtain ⟨S,U,V,u3,b3,X,q,m3⟩:=open_slice KN c9 QS (λcs y n h=>Pt h) w;cases e0; cases N; cases R; cases X;have hb:Rows.uptoBulk y.1=Rows.uptoBulk A.1+Rows.uptoBulk C.1+Rows.uptoBulk E.1+Rows.uptoBulk G.1+1:=by
   rw [z,hys4];simp only [List.map_cons,List.map_nil,Rows.uptoBulk,Rows.uptoBulkAll];omega
  obtain ⟨Y,Z,w0⟩:=KE s0 ad;obtain ⟨x1,n1,w1⟩:=KE k ad;obtain ⟨x2,n2,w2⟩:=Vg l ad;obtain ⟨x3,w3⟩:=Vn q ad;refine ⟨⟨p0,l0,J⟩,⟨K,L,M⟩,⟨O,P,Q⟩,⟨S,U,V⟩,⟨g,i,j,u3⟩,rfl,⟨Y,x1,x2,x3⟩,⟨Z,n1,n2⟩,?_,⟨λx o=>by have:=(yz s0).1 x o; omega,λx o=>by have:=(yz k).1 x o; omega,λx o=>by have:=(Jw l).1 x o; omega,by have:=R2 q; show u3.length<=_; omega,by have:=(yz s0).2; show g.length<=_; omega,by have:=(yz k).2; show i.length<=_; omega,by have:=(Jw l).2; show j.length<=_; omega⟩,s0.cap,?_,?_,ad⟩
  ·show (Rb++(EB Ku g++(EB Ku i++(EB OZ j++EB jV u3)))).length<=_;unfold EB;simp only [List.length_append,dL];rw [show Rb.length=5 from rfl];omega
  ·show 3*((Lk.cR ⟨g,i,j,u3⟩).flatMap (·.af)).length<=_;have i0:=PP s0;have i1:=PP k;have i2:=WK l;rw [XV] at i0 i1 i2;unfold Lk.cR;rw [ej9,ej9,ae9,ae9,List.flatMap_map,List.flatMap_map,List.flatMap_map,et9,et9,et9];show 3*((g.map λx=>x.e.af.length).sum+(i.map λx=>x.e.af.length).sum+(j.map λx=>x.2.af.length).sum)<=_;omega
  ·have i0:=(yz s0).2;have i1:=(yz k).2;have i2:=(Jw l).2;have i3:=R2 q;show g.length+i.length+j.length+u3.length<=_;omega
def PW:Tryz.prog.underlying 32=some (.slice 70):=av
def QU (h:Hp) (u:cm) (cs:List Xab) (k:Nat):Prop:=k<=2^50->∃ a b c d,cs=[bC.v a,bC.v b,bC.v c,bC.v d]/\LV h a b c d u k
def Rh (h:DataW.trod enc Xaz W base sp held n 70 cs=some y):∃ u,QU W.heap u cs (Rows.uptoBulk y.1):=by
 by_cases hk:Rows.uptoBulk y.1<=2^50
 ·obtain ⟨a,b,c,d,u,h1,h2⟩:=Ae h hk;exact ⟨u,λ_=>⟨a,b,c,d,h1,h2⟩⟩
 ·exact ⟨⟨[],[],[],[]⟩,λh=>absurd h hk⟩
structure YS (h:Hp) (p:Xac) (l c:Nat) (us:List cm) (N:Nat):Prop where
 vw:xZ h p l us
 sm:N<=2^20->Lk.IJ us
 Zv:3*((us.flatMap Lk.cR).flatMap (·.af)).length<=N
 cap:l<=c
 YJ:c<=maxLen
 nil:p=none->c=0
def J7 {b0:Nat} {v:Xab} {d:DataW H} {ps:List MemPlace} (j:Value.okWide Xaz W .any b0 32 v) (h:DataW.Trod enc Xaz W base sp held 32 v d ps) (z:Rows.uptoBulk d<=2^50) :
  ∃ p l c us,v=.slice p l c/\YS W.heap p l c us (Rows.uptoBulk d):=by
 obtain ⟨p,l,c,rfl⟩:=okWide_slice PW j;obtain ⟨m,h⟩:=h;have f:(Value.slice p l c).cells.toList=[.slice p l c]:=rfl;rw [f] at h;obtain ⟨p',l',c',us,ks,e0,s,o⟩:=open_slice PW c30 (QU W.heap) (λcs y n h=>Rh h) h;cases e0;have hl:=s.CT;have o:ks.sum+1<=Rows.uptoBulk d:=o;have q:∀ i,(hi:i<us.length)->∃ a sa sb sc sd,p=some a/\aH W.heap (a.add (i*4)) 0 [bC.v sa,bC.v sb,bC.v sc,bC.v sd]/\LV W.heap sa sb sc sd us[i] (ks[i]'ad):=by
  intro i hi;obtain ⟨a,cs,g,hc,r⟩:=s.cells i hi ad
  have:=tU ks i ad
  obtain ⟨sa,sb,sc,sd,rfl,b⟩:=r ad;exact ⟨a,sa,sb,sc,sd,g,hc,b⟩
 have pos:∀ i,(hi:i<us.length)->1<=ks[i]'ad:=by
  intro i hi;obtain ⟨a,sa,sb,sc,sd,g,hc,b⟩:=q i hi;exact Wy b
 have A:us.length<=ks.sum:=by
  have:=iS (λ_=>1) 1 us ks hl (λi hi hk=>by have:=pos i hi; omega)
  rw [lr] at this;omega
 have t:3*((us.flatMap Lk.cR).flatMap (·.af)).length<=ks.sum:=by
  have:=iS (λu:cm=>3*((Lk.cR u).flatMap (·.af)).length) 1 us ks hl (λi hi hk=>by
   obtain ⟨a,sa,sb,sc,sd,g,hc,b⟩:=q i hi
   have:=b.Zv
   omega)
  rw [XV] at this;rw [List.flatMap_assoc,et9];omega
 refine ⟨p,l,c,us,rfl,⟨⟨s.len,ad,λi hi=>?_⟩,λw=>⟨ad,?_,?_,ad⟩,ad,s.cap,s.YJ,s.nil⟩⟩
 ·obtain ⟨a,sa,sb,sc,sd,g,hc,b⟩:=q i hi;exact ⟨a,sa,sb,sc,sd,g,hc,b.at_⟩
 ·have:=iS (λu:cm=>u.text.length+u.data.length+u.bi.length+u.aT.length) 1 us ks hl (λi hi hk=>by
   obtain ⟨a,sa,sb,sc,sd,g,hc,b⟩:=q i hi
   have:=b.kq
   omega)
  unfold Lk.wH;omega
 ·refine xe λi hi=>?_
  obtain ⟨a,sa,sb,sc,sd,g,hc,b⟩:=q i hi;intro x k;unfold Lk.cR at k;simp only [List.mem_append,List.mem_map] at k;rcases k with (⟨y,e,rfl⟩ | ⟨y,e,rfl⟩) | ⟨y,e,rfl⟩
  ·exact ⟨(b.num.text y e).num,(b.num.text y e).HL⟩
  ·exact ⟨(b.num.data y e).num,(b.num.data y e).HL⟩
  ·exact ⟨(b.num.bi y e).num,(b.num.bi y e).HL⟩
end
end Go.Sx.Ob
namespace Go.Sx.Cr
open Go.Proofs Go.MapKept Go.WideAt Go.WideMaps Go.Maps Go.RowKit Go.WideElems Go.Sort Go.Shelf
variable {H:Hp}
def Jr {q b:Nat} {D:List (Xaa × Xab)} {cs:Array Xab} {e:TypeId} {f:Nat × Nat} (u:H[q]?=some (.cells cs e f)) (hc:cs[0]?=some (.map (some b))) (m:fq H b D) (hl:D.length<=1024) :
  HC Xaz 89 #[.func (.func 117) #[] #[.pointer (some ⟨q,0,none⟩)]] H λv h'=>∃ a:List (List UInt8),a.Perm (D.map λp=>p.1.data.toList)/\(v=.slice none 0 0↔a=[])/\Ext H h' /\
   a.length=((a.mergeSort λx y=>decide (x<=y)).map encStr).length /\
   ((v=.slice none 0 0/\a.length=0)\/∃ g cap j7,v=.slice (some ⟨g,0,none⟩) a.length cap/\H.size<=g/\h'[g]?=some (.cells j7 9 (0,0))/\a.length<=cap/\cap<=maxLen/\j7.size=cap*1/\j7.toList.take (a.length*1)=(a.mergeSort λx y=>decide (x<=y)).map encStr):=by
 intro W w;subst w;obtain ⟨k,l,j,c⟩:=fq.owns m (by unfold maxLen; omega);have iB:W.cell? ⟨q,0,none⟩=some (.map (some b)):=by
  unfold World.cell?;rw [u];exact hc
 have n:SeqGives Fence.wide 2 Xaz 117 #[.pointer (some ⟨q,0,none⟩)] encStr (λa=>a.Perm (strKeys k)) (Maps.size k) W :=
  AnyZ.keys_gives (ρ:=Tryz.tp) { Tryz.EU with } Fence.wide _ trivial rfl ad q b D.length k _ (eY u) iB l
 have o:Maps.size k<=maxLen:=by rw [c]; unfold maxLen; omega
 have d:Maps.size k*16<=140737488355328:=by rw [c]; omega
 have:=AnyZ.sorted_in Tryz.DM Fence.wide 5 trivial trivial trivial trivial rfl ad (Tryz.Hl _) (enters_of Tryz.func116 av rfl) 117 #[.pointer (some ⟨q,0,none⟩)] trivial (enters_of Tryz.func117 av rfl) _ _ o d _ n
 refine (callsIn_wide.1 this).mono λe w' z=>?_
 obtain ⟨v,a,A,B,r,s,t⟩:=z;obtain ⟨h1,h2⟩:=r;exact ⟨v,A,⟨t.os,t.tape,t.output⟩,a,B.trans j,s,⟨t.size,λi hi _=>t.block i hi⟩,by rw [h1]; simp,h2⟩
theorem yb (x:Xaa):∀ l,(F2 x l).Perm (x::l)
 | []=>List.Perm.refl _
 | y::l=>by
  unfold F2;split
  ·exact List.Perm.refl _
  ·exact ((yb x l).cons y).trans (List.Perm.swap x y l)
theorem Cc:∀ l,(sU l).Perm l
 | []=>List.Perm.refl _
 | x::l=>(yb x (sU l)).trans ((Cc l).cons x)
theorem zJ (x:Xaa):∀ l:List Xaa,(l.Pairwise λa b=>a.data.toList<=b.data.toList)->((F2 x l).Pairwise λa b=>a.data.toList<=b.data.toList)
 | [],_=>by simp [F2]
 | y::l,h=>by
  rw [ds9] at h;unfold F2;rw [Proofs.bytesLess_eq]
  by_cases c:x.data.toList<y.data.toList
  ·rw [ak9 c];have e:x.data.toList<=y.data.toList:=List.le_of_lt c;refine ds9.2 ⟨λb d=>?_,ds9.2 h⟩;rcases bd9.1 d with rfl | d
   ·exact e
   ·exact List.le_trans e (h.1 b d)
  ·rw [al9 c];refine ds9.2 ⟨λb d=>?_,zJ x l h.2⟩;rcases bd9.1 ((yb x l).mem_iff.1 d) with rfl | d
   ·exact List.not_lt.1 c
   ·exact h.1 b d
theorem wC:∀ l,(sU l).Pairwise λa b=>a.data.toList<=b.data.toList
 | []=>List.Pairwise.nil
 | x::l=>zJ x _ (wC l)
def Kv {ss:List (List UInt8)} {ks:List Xaa} (d:ss.Perm (ks.map λk=>k.data.toList)):(ss.mergeSort λx y=>decide (x<=y)).map encStr=(sU ks).map Value.string:=by
 have h1:ss.mergeSort (λx y=>decide (x<=y))=(sU ks).map λk=>k.data.toList:=by
  have e:∀ a b c:List UInt8,decide (a<=b)=true->decide (b<=c)=true->decide (a<=c)=true:=λa b c h1 h2=>by simp only [decide_eq_true_eq] at *; exact List.le_trans h1 h2
  have f:∀ a b:List UInt8,(decide (a<=b) || decide (b<=a))=true:=λa b=>by simp only [Bool.or_eq_true,decide_eq_true_eq]; exact List.le_total a b
  refine List.Perm.eq_of_pairwise (le:=λa b=>decide (a<=b)=true) (λa b _ _ h1 h2=>?_) (List.pairwise_mergeSort e f ss) ?_ ((List.mergeSort_perm ss _).trans (d.trans ((Cc ks).map _).symm))
  ·simp only [decide_eq_true_eq] at h1 h2;exact List.le_antisymm h1 h2
  ·rw [cs9];exact (wC ks).imp λh=>by simpa using h
 rw [h1,bg9];refine cm9 λk _=>?_
 show encStr k.data.toList=.string k;unfold encStr
 congr 1
noncomputable def crx (a:List Xab):Cx:=⟨Xaz,121,131,89,89,117,157,3,λ| 0=>some a | _=>none⟩
def XD:Tryz.prog.cellsOf 9=1:=av
def XI (c:List Xab):Ok (crx c) where
 kt k hk:=by
  have hk:(Nat.beq k 121 || Nat.beq k 131)=true:=hk;rw [Bool.or_eq_true] at hk;rcases hk with hk | hk
  ·have e:k=121:=av9 hk;subst e;exact Ob.kyT
  ·have e:k=131:=av9 hk;subst e;exact Ob.kzT
 ki k hk:=by
  have hk:(true && Nat.beq k 89)=true:=hk;have e:k=89:=av9 hk;subst e;exact Ob.kiT
 idx x n h K hk:=by
  show aQ Xaz (Km 157 #[.string x,.int .u8 n]) h K;refine HV (e:=Extern.BytealgIndexByte.indexByte) Tryz.func157 Wn VB VQ Wb ?_;rw [sK];exact hk
 VY h q b D cs e f z hc m hl:=by
  show HC Xaz 89 #[.func (.func 117) #[] #[.pointer (some ⟨q,0,none⟩)]] h _;refine HC.mono (Jr z hc m hl) λv h' A=>?_
  obtain ⟨d,w,i,j,y,l⟩:=A;refine ⟨j,?_⟩;have a:d.length=D.length:=by rw [w.length_eq]; simp
  cases D with
  | nil =>
   have:d=[]:=bu9 (by rw [a]; rfl)
   exact i.2 this
  | cons p D =>
   rcases l with ⟨_,h0⟩ | ⟨g,cap,j7,hv,B,o,t,r,u,s⟩
   ·rw [a] at h0; simp at h0
   ·have hk:=Kv (ss:=d) (ks:=(p::D).map (·.1)) (by rw [bg9]; exact w);rw [hk] at s;refine ⟨g,j7.toList.drop d.length,cap,B,by rw [<- a]; exact hv,by unfold maxLen at r; omega,?_,by rw [<- a]; exact t,?_⟩
    ·have C:j7.toList.length=cap*1:=by rw [de9]; exact u
     rw [show (crx c).P.cellsOf 9=1 from XD,bs9,C,<- a]; omega
    ·unfold br;rw [o,<- s,Nat.mul_one,cc9]
def opsV:List Xab:=Ob.mJ Ob.wL Ob.xJ
noncomputable def cx:Cx:=crx opsV
def VN:Ok cx:=XI opsV
def Nj:opsV.all (gi 9)=true:=av
def Zs (ht:∃ e f,H[0]?=some (.cells opsV.toArray e f)):∀ b c,cx.ro b=some c->b<cx.ng/\∃ cs e f,H[b]?=some (.cells cs e f)/\∀ (i:Nat) (v:Xab),c[i]?=some v->cs[i]?=some v/\gi 9 v=true:=by
 obtain ⟨e,f,ht⟩:=ht;intro b c a;cases b with
 | succ b=>cases (show none=some c from a)
 | zero =>
  cases (show some opsV=some c from a);refine ⟨show 0<3 from ad,opsV.toArray,e,f,ht,λi v hv=>⟨by rw [ex9]; exact hv,?_⟩⟩;exact bn9.1 Nj v (cr9 hv)
end Go.Sx.Cr
namespace Go.Sx.Ob
open Go.Proofs Go.Proofs.YtmdncdaladplkaaGreatDoor
open Go.ChangeShapes Go.WideShapes Go.ChangeAt Go.WideMaps Go.WideElems Go.RowKit
def Oz {W:World} (h:laidMetH Xaz Rows.poolNumbersRow.laid W):∃ e f,W.heap[0]?=some (.cells Cr.opsV.toArray e f):=by
 rw [MakeChecks.laidMetH_plain _ _ _ av] at h;obtain ⟨ps,⟨C,D,j,E,p0,F,k,l,m,n,⟨G,H,o,I,J,K,p,q,r,s,⟨L,M,t,N,O,P,u,w,x,y,⟨Q,R,z,S,U,V,a,b,c,d,_,_⟩,_⟩,_⟩,_⟩,_,_⟩:=h;obtain rfl:=bb9 ((show Tryz.prog.globalNamed _=some 0 from av).symm.trans a);have A:(Tryz.prog.globals[0]?).map (·.type)=some 202:=av
 obtain rfl:=bb9 (A.symm.trans b);have hr:=D8 d;obtain ⟨B,g,i⟩:=EW a c;exact ⟨B,g,by rw [i,show Cr.opsV=mJ wL xJ from rfl,<- hr]⟩
end Go.Sx.Ob
namespace Go.Sx.Cr
open Go.Proofs
noncomputable def VA:Code:=Tryz.f10.body.getD .skip
noncomputable def csK:CS:=⟨sP cx.ng .nil,cx.ng⟩
def Sa:Tryz.f10.body=some VA:=av
def Te:R4 cx (Yk cx 60) Tryz.f10 (.bool true) VA .nil csK=true:=av
def O1 {h:Hp} (ht:∃ e f,h[0]?=some (.cells opsV.toArray e f)):HC Xaz 10 #[] h λv h'=>v=.bool true/\Ext h h' :=
 QQ (C:=cx) Tryz.func10 Sa λb a c g=>S7 VN mixed (Ta VN mixed 60) rfl Te _ b a h (NL (Zs ht)) c g
end Go.Sx.Cr
namespace Go.Sx.Ob
open Go.Proofs Go.Proofs.YtmdncdaladplkaaGreatDoor
open Go.ChangeMaps
open Go.ChangeShapes Go.WideShapes Go.ChangeAt Go.WideMaps Go.WideElems Go.RowKit
def BD:(Tryz.f6.params.toList.all λt=>decide (t<Tryz.prog.types.size))=true:=av
def BC:Tryz.prog.inPlace 6=Rows.poolKeptUptoRow.inPlace:=av
def CC:Tryz.prog.unfollowed 6=Rows.poolKeptUptoRow.unfollowed:=av
def CA:Tryz.prog.recurses 6=Rows.poolKeptUptoRow.recurses:=av
def CP:Tryz.prog.varsNamed 6=Rows.poolKeptUptoRow.named:=av
def CH:joinedFacts Xaz 6 Tryz.f6 (Rows.OpenSpec.upto Rows.poolKeptSpec).bare Rows.poolKeptUptoRow=true:=by
 unfold joinedFacts;rw [BC,CC,CA,CP]
 kernel_rfl
def zZ (os:Os) (started:os.Started) (H:Type) (enc:TypeId × Xab->H) (F:Stop.Interp) :
  ReturnsInHanded {} Tryz.checked os 6 .any (λw args=>((Rows.OpenSpec.upto Rows.poolKeptSpec).pre enc Xaz Tryz.f6 [] false w args/\laidMetH Xaz Rows.poolKeptUptoRow.laid w)/\sizedMet enc Xaz Tryz.f6 (Rows.OpenSpec.upto Rows.poolKeptSpec) false w args)
   (((Rows.OpenSpec.upto Rows.poolKeptSpec).at F).post enc Xaz Tryz.f6 false true false false):=by
 refine Pk (k:=Rows.uptoSmall) rfl (C:=Tryz.checked) (X:=λw _=>laidMetH Xaz Rows.poolKeptUptoRow.laid w) (λ_ _ _ o h=>h.of_heap o) aaN started av Tryz.func6
  (IX (k:=Rows.uptoSmall) rfl (C:=Tryz.checked) (os:=os) (X:=λw _=>laidMetH Xaz Rows.poolKeptUptoRow.laid w) (World.doorLaid Xaz 400 os) #[.slice none 0 0] 8 rfl (World.shaped_of_RefB av av) av (x:=([.nil],[],[])) av rfl av (R0 os _)) ?_
 intro W base args r gs before a m hk g;have b:∀ (j:Nat) t v,Tryz.f6.params[j]?=some t->args[j]?=some v->Value.okWide Xaz W .any base t v:=a
 have hW':=m;obtain ⟨p,q,c,s,rfl,u,y⟩:=m;have n:DataW.TrodAll enc Xaz W 0 (λ_=>true) true Tryz.f6.params.toList args.toList r p:=c;have i:Tryz.f6.params=#[32]:=av
 rw [i] at n b;clear c a;obtain ⟨z,A,K,B,p0,L,d,rfl,rfl,D,l⟩:=trodAll_cons n;obtain ⟨rfl,rfl,rfl⟩:=trodAll_nil l;obtain ⟨args⟩:=args;simp only at d;subst d;have hk:=ai9 hk;have hkb:=hk;simp only [List.append_nil,nA,cA] at hkb;obtain ⟨rfl,rfl⟩:=trodVars_none s;obtain ⟨E,l0,c0,M,rfl,h0⟩:=J7 (b 0 32 z rfl rfl) D (by simp only [Rows.uptoBulkAll] at hkb; omega);simp only [List.append_nil] at hW';simp only [List.append_nil,List.nil_append,List.cons_append,Rows.uptoBulkAll] at hk;refine (RL (Po.Qh (KI g).2 (KI g).1 (λh2 G=>Cr.O1 (by obtain ⟨e,f,ht⟩:=Oz g; exact ⟨e,f,G.get ht ai⟩)) (su:=⟨E,l0,c0⟩) h0.vw (h0.sm ad)) (λ_ _ h=>h.2)).mono λe N ⟨v,I,J,hv,_⟩=>?_
 subst I hv;exact ⟨_,rfl,P8 rfl hW' (λ_ _ _=>trodAll_mk1 (shut_bool u4 _)) rfl rfl (λt ht=>ai9 (bn9.1 BD t ht)) J⟩
def AT:Rows.PoolKeptUptoSaid :=
 OpenClaim.holds_of_cond 6 Tryz.f6 rfl rfl rfl rfl rfl rfl rfl ⟨rfl,rfl,rfl,rfl,rfl⟩ rfl rfl rfl rfl rfl av Tryz.func6 CH
  (ai9 av) (by unfold Func.isWrapper; first | (rw [ag9 (by decide +kernel)]; kernel_rfl) | (rw [ac9 (by decide +kernel)]; exact ⟨rfl,rfl⟩))
  (λos started H enc _ F=>zZ os started H enc F)
end Go.Sx.Ob
