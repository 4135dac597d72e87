/- Contracts over heaps, part 7. Condition: as each statement says. -/
import Derived.Test.YtmdncdaladplkaaGreatDoorP6
import Derived.Test.YtmdncdaladplkaaGreatDoorSxZ
import Derived.Test.YtmdncdaladplkaaGreatDoorTie
import Derived.Test.YtmdncdaladplkaaGreatDoorCards
import Derived.SevenTiedAt
set_option linter.all false
set_option maxRecDepth 100000
set_option maxHeartbeats 4000000
namespace Go.Sx.Ob
open Go.Proofs Go.Proofs.YtmdncdaladplkaaGreatDoor
open Go.ChangeShapes Go.WideShapes Go.ChangeAt Go.WideMaps Go.WideElems Go.RowKit
variable {H:Type} {apart:Bool}
def Z0:ownKnob Tryz.prog.godebug=none:=ax
def u9:Tryz.prog.underlying 9=some .string:=ax
def u4:Tryz.prog.underlying 4=some .bool:=ax
def u3:Tryz.prog.underlying 3=some (.int .i64):=ax
def u5:Tryz.prog.underlying 5=some (.int .u8):=ax
def ZP:Tryz.prog.underlying 202=some (.array 43 171):=ax
def YZ:Tryz.prog.cellsOf 171=3:=ax
def Z8:Tryz.prog.cellsOf 202=129:=ax
def c9:Tryz.prog.cellsOf 9=1:=ax
def c5:Tryz.prog.cellsOf 5=1:=ax
def c3:Tryz.prog.cellsOf 3=1:=ax
def aah:wX Xaz 171=some [(9,0),(5,1),(3,2)]:=ax
def FG:List (DataW Unit):=match (Rows.laid_spandrel_isa_table:DataW Unit) with | .agg l=>l | _=>[]
def O6:DataW Unit->Int
 | .agg [_,_,.lit (.int _ n)]=>n
 | _=>0
def Th:(Rows.laid_spandrel_isa_table:DataW Unit)=.agg FG:=ax
def PM:FG.map O6=(List.range 43).map fun k=>((oJ.getD k 0:Nat):Int):=ax
theorem F5 {α β:Type} (f:α->List β) (m:Nat) (a:∀ x,(f x).length=m):∀ l:List α,(l.flatMap f).length=l.length*m
 | []=>aj
 | x::l=>by rw [cd9,af9,a,F5 f m a l,cj9,Nat.succ_mul,Nat.add_comm]
def EB (nm:Nat->Xaa) (by_:Nat->Int):(lT nm by_).length=129:=by
 unfold lT;rw [F5 _ 3 (fun x=>rfl),du9]
def Xb:DataW Unit->List UInt8
 | .agg [.lit (.string s),_,_]=>s
 | _=>[]
def Xe:DataW Unit->Int
 | .agg [_,.lit (.int _ n),_]=>n
 | _=>0
def ZF (k:Nat):List UInt8:=(vW k).data.toList
def Sj:FG.map Xb=(List.range 43).map fun k=>ZF k:=ax
def Ty:FG.map Xe=(List.range 43).map fun k=>xg k:=ax
variable {Z:World} {O Y:Nat}
def DH {enc:TypeId × Xab->Unit} {base:Nat} {sp:Nat->Bool} {g:Bool} {cs:List Xab} {p:List MemPlace}
  (h:DataW.trod enc Xaz Z base sp g O 202 cs=some (Rows.laid_spandrel_isa_table,p)):cs=lT vW xg:=by
 obtain ⟨xs,m,_,F,hl,B,G⟩:=DataW.trod_array ZP h;rw [Z8] at hl;have r:xs.map (·.1)=FG:=by
  have:=as9 Prod.fst F
  rw [show (Rows.laid_spandrel_isa_table,p).1=DataW.agg FG from Th] at this;simpa using this.symm
 have l:∀ i,i<43->(cs.drop (i*3)).take 3=[.string (vW i),.int .u8 (xg i),vI ((oJ.getD i 0:Nat):Int)]:=by
  intro i hi;have h1:=G i hi;rw [YZ] at h1;rw [ad9 ad] at h1;obtain ⟨ys,n,t,o,u,f⟩:=gH aah h1;obtain ⟨I,J,C⟩:=f 0 _ rfl;obtain ⟨K,L,D⟩:=f 1 _ rfl;obtain ⟨M,N,E⟩:=f 2 _ rfl;rw [YZ] at o;generalize hc:(cs.drop (i*3)).take 3=c at *
  match c,o with
  | [S,U,V],_ =>
   rw [show Tryz.prog.cellsOf (9,0).1=1 from c9] at C;rw [show Tryz.prog.cellsOf (5,1).1=1 from c5] at D;rw [show Tryz.prog.cellsOf (3,2).1=1 from c3] at E;obtain ⟨s,e0,w,_⟩:=DataW.trod_string u9 C;obtain ⟨b,P,y,_⟩:=DataW.trod_int u5 D;obtain ⟨k,Q,z,_⟩:=DataW.trod_int u3 E;cases e0; cases P; cases Q;have d:ys=[I,K,M]:=by
    apply df9;intro j
    match j with
    | 0=>exact J
    | 1=>exact L
    | 2=>exact N
    | j+3=>rw [bs9 (by rw [u]; simp),bs9 aj]
   have h2:(xs.map (·.1))[i]?=some (xs[i]'ad).1:=by rw [ci9,ad9 ad]; rfl
   rw [r] at h2;have hk:k=((oJ.getD i 0:Nat):Int):=by
    have e:(FG.map O6)[i]?=some (O6 (xs[i]'ad).1):=by rw [ci9,h2]; rfl
    rw [PM,ci9,dl9 hi] at e;rw [t,d,w,y,z] at e;exact (bb9 e).symm
   have q:b=xg i:=by
    have e:(FG.map Xe)[i]?=some (Xe (xs[i]'ad).1):=by rw [ci9,h2]; rfl
    rw [Ty,ci9,dl9 hi] at e;rw [t,d,w,y,z] at e;exact (bb9 e).symm
   have R:s=vW i:=by
    have e:(FG.map Xb)[i]?=some (Xb (xs[i]'ad).1):=by rw [ci9,h2]; rfl
    rw [Sj,ci9,dl9 hi] at e;rw [t,d,w,y,z] at e;exact AG (bb9 e).symm
   rw [hk,q,R]
 apply df9;intro j
 by_cases X:j<129
 ·obtain ⟨a,b,A,q⟩:∃ a b,j=a*3+b/\b<3:=⟨j / 3,j % 3,ad,ad⟩
  subst A;unfold lT;rw [xd (fun k=>[Value.string (vW k),.int .u8 (xg k),vI (oJ.getD k 0:Nat)]) 3 (fun x=>rfl) _ a b q,dl9 ad];show cs[a*3+b]?=[Value.string (vW a),.int .u8 (xg a),vI ((oJ.getD a 0:Nat):Int)][b]?
  have:=l a ad
  rw [<- this,ei9,ag9 q,ej9]
 ·have Y:(lT vW xg).length=129:=EB _ _;rw [bs9 ad,bs9 ad]
def Eu {P:Program} {name:String} {cs:Array Xab} (a:P.globalNamed name=some O) (hv:Z.var? P name=some cs):∃ e f,Z.heap[O]?=some (.cells cs e f):=by
 unfold World.var? at hv;rw [a] at hv;have hv:(match (Z.heap[O]?:Option Obj) with | some (.cells cs _ _)=>some cs | _=>none)=some cs:=hv;split at hv
 ·rename_i b e f c;cases hv;exact ⟨e,f,c⟩
 ·cases hv
def J4 (h:laidMetH Xaz Rows.poolNumbersRow.laid Z):yO Z.heap/\eM Z.heap:=by
 rw [MakeChecks.laidMetH_plain _ _ _ ax] at h;obtain ⟨ps,⟨G,I,q,J,p0,K,r,s,t,u,⟨L,M,w,N,O,P,x,y,z,A,⟨Q,R,B,S,U,V,a,c,d,f,⟨X,Y,C,f3,p3,q3,b,g,i,j,_,_⟩,_⟩,_⟩,_⟩,_,_⟩:=h;obtain rfl:=bb9 ((show Tryz.prog.globalNamed _=some 1 from ax).symm.trans a);obtain rfl:=bb9 ((show Tryz.prog.globalNamed _=some 0 from ax).symm.trans b);have h2:(Tryz.prog.globals[1]?).map (·.type)=some 258:=ax
 obtain rfl:=bb9 (h2.symm.trans c);have D:(Tryz.prog.globals[0]?).map (·.type)=some 202:=ax
 obtain rfl:=bb9 (D.symm.trans g);have hc:=Lib.cells_of_tab (n:=20) (e:=175) (k:=.u64) (zs:=Lib.pow10Tab) ax ax ax ax f;have hr:=DH j;obtain ⟨E,l,m⟩:=Eu a d;obtain ⟨F,o,p⟩:=Eu b i;refine ⟨⟨vW,xg,F,o,?_⟩,⟨E,l,?_⟩⟩
 ·rw [p,<- hr]
 ·rw [m,<- hc]
def Rg (os:Os) (args:Array Xab):laidMetH Xaz Rows.poolNumbersRow.laid ((World.doorLaid Xaz 400 os).forCall (fun _ _=>0) ⟨#[],args,[]⟩).memory :=
 laidMetH_of_parts3 (fuel:=8) (laidMet_of_run' 8 ax ax) ax ax
def YD:Kids Xaz (·<Tryz.prog.types.size):=kids_rows ax ax
def sliceB:((List.range Tryz.prog.types.size).all fun t=>match Tryz.prog.underlying t with | some (.slice e)=>decide (0<Tryz.prog.cellsOf e) | _=>true)=true:=ax
def Wq {t e:TypeId} (ht:t<Tryz.prog.types.size) (a:Tryz.prog.underlying t=some (.slice e)):0<Tryz.prog.cellsOf e:=by
 have:=bn9.1 sliceB t (dv9.2 ht)
 rw [a] at this;exact ah9 this
theorem uB {enc:TypeId × Xab->H} {W e:World} {sp:Nat->Bool} (f:Below W.heap.size W e):∀ {ts:List TypeId} {g:List Xab} {i:List (DataW H)} {ps:List MemPlace},(∀ t∈ts,t<Tryz.prog.types.size) ->
  DataW.TrodAll enc Xaz W 0 (fun _=>true) true ts g i ps->(∀ p∈ps,p.block<W.heap.size)->(∀ p∈ps,sp p.block=true)->DataW.TrodAll enc Xaz e 0 sp true ts g i ps
 | [],_,_,_,_,h,_,_=>by
  obtain ⟨rfl,rfl,rfl⟩:=trodAll_nil h;exact trodAll_mk0
 | t::ts,_,_,_,ht,h,hl,j=>by
  obtain ⟨v,k,d,l,a,b,rfl,rfl,rfl,⟨n,h1⟩,h2⟩:=trodAll_cons h;exact ⟨a,b,⟨n,DataW.trod_stays YD (fun h m=>Wq h m) (fun h=>by cases h) (ht t (cw9 ..)) h1 (fun p c=>I1 f (hl p (bh9 _ c))) (fun p c=>j p (bh9 _ c))⟩,
   uB f (fun t h=>ht t (ap9 _ h)) h2 (fun p c=>hl p (br9 _ c)) (fun p c=>j p (br9 _ c)),rfl⟩
def Pp {enc:TypeId × Xab->H} {f:Func} {s:ChangeSpec} {fresh handsOn:Bool} {W':World} {args:Array Xab} {v:Xab} {c gs:List (DataW H)} {before:List MemPlace} (d:s.vars=[])
  (g:DataW.Whole enc Xaz f.params.toList s.vars apart Z args.toList c gs before)
  (e:∀ (b:Nat) (sp:Nat->Bool) (l:Bool),DataW.TrodAll enc Xaz W' b sp l f.resultTypes.toList (v.resultList f.resultTypes.size) (s.fn H (c++gs)).results [])
  (a:(s.fn H (c++gs)).args=c) (et:(s.fn H (c++gs)).vars=[]) (i:∀ t∈f.params.toList,t<Tryz.prog.types.size) (j:Below Z.heap.size Z W') :
  s.post enc Xaz f apart fresh handsOn false Z args v W':=by
 have hlt:=g.lt;have hW':=g;obtain ⟨p,q,m,k,rfl,o,hn⟩:=g;rw [d] at k;obtain ⟨rfl,rfl⟩:=trodVars_none k;rw [bz9] at hlt hW';refine ⟨c,[],p,[],p,[],hW',e _ _ _,?_,?_,j.frame _,fun h=>by cases h⟩
 ·rw [a];exact uB j i m hlt (fun p n=>aj9 (hlt p n))
 ·rw [et,d] <;> rfl
variable {a:FuncId} {b:OpenSpec}
def OF {enc:TypeId × Xab->H} {c:Assume} {C:Checked} {os:Os} {fn:Func} {k:(H:Type)->List (DataW H)->Bool} (hk:b.cond=some k) {F:Stop.Interp} {conds:List PathCond} {fresh handsOn again:Bool} {X:World->Array Xab->Prop}
  (z:∀ (w w':World) (args:Array Xab),w.heap=w'.heap->X w args->X w' args)
  (own:ownKnob C.prog.godebug=none) (started:os.Started) (g:C.prog.inits.idxOf? a=none) (p:C.prog.funcs[a]?=some fn)
  (witness:∃ (w:World) (tape:Tape) (i:Input),w.os=os/\(w.forCall tape i).Shaped C.prog/\i.vars=[]/\Input.okWide C.prog (w.forCall tape i) .any w.heap.size a i /\
   ((b.pre enc C.prog fn conds apart (w.forCall tape i).memory i.args/\X (w.forCall tape i).memory i.args)/\sizedMet enc C.prog fn b apart (w.forCall tape i).memory i.args)/\c.holds C.prog (lone (Frame.enter C.prog a i.args .normal) [] (w.forCall tape i)))
  (d:∀ (W:World) (base:Nat) (args:Array Xab) (n gs:List (DataW H)) (before:List MemPlace),
   (∀ (j:Nat) t v,fn.params[j]?=some t->args[j]?=some v->Value.okWide C.prog W .any base t v) ->
   DataW.Whole enc C.prog fn.params.toList b.vars apart W args.toList n gs before->k H (n++gs)=true->X W args ->
   Calls C.prog a args W fun e y=>∃ v,e=.returned v/\(b.at F).post enc C.prog fn apart fresh handsOn again W args v y) :
  ReturnsInHanded c C os a .any (fun w args=>(b.pre enc C.prog fn conds apart w args/\X w args)/\sizedMet enc C.prog fn b apart w args) ((b.at F).post enc C.prog fn apart fresh handsOn again):=by
 refine returnsInHanded_of_calls own started g witness ?_;intro w tape i _ _ _ q h o;obtain ⟨_,_,_,r,l,_,_,_,_,m⟩:=q;have e:r=fn:=bb9 (l.symm.trans p);subst e;obtain ⟨⟨u,A⟩,E⟩:=h;obtain ⟨n,gs,before,B,hc,x⟩:=(OpenSpec.pre_some hk conds apart _ _).1 u;have hw':=DataW.Whole.of_heap (w':=w.forCall tape i) (by rfl) B;refine (d (w.forCall tape i) w.heap.size i.args n gs before m hw' x (z _ _ _ (by rfl) A)).mono fun e y ⟨v,D,u⟩=>?_
 subst D;exact ChangeSpec.post_blind u
def Ij {enc:TypeId × Xab->H} {C:Checked} {os:Os} {fn:Func} {k:(H:Type)->List (DataW H)->Bool} (hk:b.cond=some k) {X:World->Array Xab->Prop} (d:World) (args:Array Xab) (c:Nat) (g:d.os=os)
  (h:(d.forCall (fun _ _=>0) ⟨#[],args,[]⟩).Shaped C.prog)
  (e:Input.okWideB C.prog (d.forCall (fun _ _=>0) ⟨#[],args,[]⟩) a ⟨#[],args,[]⟩=true)
  {x:List (DataW H) × List (DataW H) × List MemPlace} (m:DataW.whole enc C.prog (d.forCall (fun _ _=>0) ⟨#[],args,[]⟩).memory fn.params.toList b.vars apart args.toList c=some x) (j:k H (x.1++x.2.1)=true)
  (l:b.bare.sizedB enc C.prog fn apart (d.forCall (fun _ _=>0) ⟨#[],args,[]⟩).memory args c=true)
  (n:X (d.forCall (fun _ _=>0) ⟨#[],args,[]⟩).memory args) :
  ∃ (w:World) (tape:Tape) (i:Input),w.os=os/\(w.forCall tape i).Shaped C.prog/\i.vars=[]/\Input.okWide C.prog (w.forCall tape i) .any w.heap.size a i /\
   ((b.pre enc C.prog fn [] apart (w.forCall tape i).memory i.args/\X (w.forCall tape i).memory i.args)/\sizedMet enc C.prog fn b apart (w.forCall tape i).memory i.args)/\({}:Assume).holds C.prog (lone (Frame.enter C.prog a i.args .normal) [] (w.forCall tape i)) :=
 ⟨d,fun _ _=>0,⟨#[],args,[]⟩,g,h,(Input.okWide_of_okWideB (base:=0) e).1,(Input.okWide_of_okWideB e).2,
  ⟨⟨(OpenSpec.pre_some hk [] apart _ _).2 ⟨x.1,x.2.1,x.2.2,DataW.Whole_of_whole m,rfl,j⟩,n⟩,sizedMet_of_sizedB l⟩,by
  simp only [Assume.holds];exact ⟨aj,aj,aj,aj,aj⟩⟩
structure ya (x:bM):Prop where
 Ha:∀ t,t∈x.ah->t.2<4294967296
 num:x.num<4294967296
structure W2 (u:cv):Prop where
 text:∀ x,x∈u.text->ya x.e
 data:∀ x,x∈u.data->ya x.e
 bj:∀ x,x∈u.bj->ya x.2
def u52:Tryz.prog.underlying 51=some (.int .u32):=ax
def u21:Tryz.prog.underlying 21=some (.int .i32):=ax
def u53:Tryz.prog.underlying 50=some (.slice 64):=ax
def c86:Tryz.prog.cellsOf 64=2:=ax
def ZC:Tryz.prog.cellsOf 53=2:=ax
def c53:Tryz.prog.cellsOf 50=1:=ax
def c52:Tryz.prog.cellsOf 51=1:=ax
def c21:Tryz.prog.cellsOf 21=1:=ax
def c77:Tryz.prog.cellsOf 49=5:=ax
def Z7:Tryz.prog.cellsOf 55=10:=ax
def c57:Tryz.prog.cellsOf 116=3:=ax
def c26:Tryz.prog.cellsOf 46=1:=ax
def c27:Tryz.prog.cellsOf 67=1:=ax
def c28:Tryz.prog.cellsOf 68=1:=ax
def c30:Tryz.prog.cellsOf 70=4:=ax
def ZD:wX Xaz 64=some [(9,0),(51,1)]:=ax
def s55:wX Xaz 53=some [(50,0),(51,1)]:=ax
def s77:wX Xaz 49=some [(3,0),(3,1),(3,2),(21,3),(3,4)]:=ax
def ZW:wX Xaz 55=some [(3,0),(9,1),(49,2),(53,7),(3,9)]:=ax
def XN:wX Xaz 116=some [(9,0),(53,1)]:=ax
def Zs:wX Xaz 70=some [(46,0),(46,1),(67,2),(68,3)]:=ax
section
variable {H:Type} {enc:TypeId × Xab->H} {W:World} {base n:Nat} {sp:Nat->Bool} {held:Bool} {cs:List Xab} {y:DataW H × List MemPlace}
def N3 {α:Type} {ys:List α} {a b:α} (hl:ys.length=2) (h0:ys[0]?=some a) (h1:ys[1]?=some b):ys=[a,b]:=by
 match ys,hl with
 | [x,y],_ =>
  simp only [List.getElem?_cons_zero,List.getElem?_cons_succ,Option.some.injEq] at h0 h1;subst h0 h1;rfl
def QT (t:Xaa × Nat) (cs:List Xab) (k:Nat):Prop:=cs=dp t/\t.1.size<=maxLen/\t.2<4294967296/\k=t.1.size+3
def Nn (h:DataW.trod enc Xaz W base sp held n 64 cs=some y):∃ t,QT t cs (Rows.uptoBulk y.1):=by
 obtain ⟨ys,m,e,hl,b,a⟩:=gH ZD h;obtain ⟨p,f,c⟩:=a 0 _ rfl;obtain ⟨q,g,d⟩:=a 1 _ rfl;have hys2:=N3 b f g;rw [c86] at hl
 match cs,hl with
 | [v,u],_ =>
  rw [show Tryz.prog.cellsOf (9,0).1=1 from c9] at c;rw [show Tryz.prog.cellsOf (51,1).1=1 from c52] at d;obtain ⟨s,e0,i,j⟩:=DataW.trod_string u9 c;obtain ⟨k,l,o,hk⟩:=DataW.trod_int u52 d;have hb:=bounds_u32 hk;cases e0; cases l;refine ⟨(s,k.toNat),?_,j,by show k.toNat<_; omega,?_⟩
  ·unfold dp;simp only [List.cons.injEq,Value.int.injEq,true_and,and_true];omega
  ·rw [e,hys2,i,o];simp only [List.map_cons,List.map_nil,Rows.uptoBulk,Rows.uptoBulkAll];rw [db9];show s.data.size+1+(1+0)+1=s.data.size+3;omega
structure N1 (h:Hp) (p:Xac) (l c:Nat) (x:bM) (k:Nat):Prop where
 vw:iD h p l x.ah
 names:∀ t,t∈x.ah->t.1.size<=maxLen
 num:ya x
 many:3*x.ah.length<=k
 size:(mC x).length<=2*k
 cap:l<=c
theorem BX:∀ (ts:dt) (ks:List Nat),ks.length=ts.length->(∀ i,(hi:i<ts.length)->(hk:i<ks.length)->ks[i]=ts[i].1.size+3)->(ts.flatMap Hh).length=2*ks.sum-(ts.map (·.1.size)).sum/\(ts.map (·.1.size)).sum+3*ts.length=ks.sum
 | [],ks,hl,_=>by
  have:ks=[]:=dy9.1 hl
  subst this
  simp
 | t::ts,[],hl,_=>by simp at hl
 | t::ts,k::ks,hl,h=>by
  have h0:=h 0 aj aj;simp only [List.getElem_cons_zero] at h0;obtain ⟨a,c⟩:=BX ts ks (by simpa using hl) (fun i hi hk=>h (i+1) (by simpa using hi) (by simpa using hk));have b:(Hh t).length=t.1.size+6:=by
   unfold Hh jE;simp only [List.length_append,dK]
   have:t.1.data.toList.length=t.1.size:=aj
   omega
  rw [cd9,af9,cn9,bq9,cn9,cj9,b,a];omega
def HS (h:DataW.trod enc Xaz W base sp held n 53 cs=some y) :
  ∃ p l c x,cs=[.slice p l c,.int .u32 ((x:bM).num:Int)]/\N1 W.heap p l c x (Rows.uptoBulk y.1):=by
 obtain ⟨ys,m,s,hl,e,b⟩:=gH s55 h;obtain ⟨w,z,o⟩:=b 0 _ rfl;obtain ⟨K,A,q⟩:=b 1 _ rfl;have hys2:=N3 e z A;rw [ZC] at hl
 match cs,hl with
 | [v,u],_ =>
  rw [show Tryz.prog.cellsOf (50,0).1=1 from c53] at o;rw [show Tryz.prog.cellsOf (51,1).1=1 from c52] at q;obtain ⟨p,l,c,us,ks,e0,d,r⟩:=open_slice u53 c86 QT (fun cs y n h=>Nn h) o;obtain ⟨k,B,C,hk⟩:=DataW.trod_int u52 q;have hb:=bounds_u32 hk;cases e0; cases B;have f:((k.toNat:Nat):Int)=k:=ad
  have g:Rows.uptoBulk y.1=Rows.uptoBulk w.1+2:=by
   rw [s,hys2,C];simp only [List.map_cons,List.map_nil,Rows.uptoBulk,Rows.uptoBulkAll]
  have j:∀ i,(hi:i<us.length)->(hk:i<ks.length)->us[i].1.size<=maxLen/\us[i].2<4294967296/\ks[i]=us[i].1.size+3:=by
   intro i hi hk;obtain ⟨a,cs,_,_,_,D,E,F⟩:=d.cells i hi hk;exact ⟨D,E,F⟩
  have hkl:=d.Cs;obtain ⟨G,L⟩:=BX us ks hkl (fun i hi hk=>(j i hi hk).2.2);refine ⟨p,l,c,⟨us,k.toNat⟩,by rw [show ((⟨us,k.toNat⟩:bM).num:Int)=k from f],⟨d.len,fun i hi=>?_⟩,?_,⟨?_,by show k.toNat<_; omega⟩,?_,?_,d.cap⟩
  ·have hi:i<us.length:=hi;obtain ⟨a,cs,I,hc,J,_⟩:=d.cells i hi ad;rw [J] at hc;exact ⟨a,I,hc⟩
  ·intro t (ht:t∈us);obtain ⟨i,hi,rfl⟩:=bg9 ht;exact (j i hi ad).1
  ·intro t (ht:t∈us);obtain ⟨i,hi,rfl⟩:=bg9 ht;exact (j i hi ad).2.1
  ·show 3*us.length<=_;omega
  ·show (vk us.length 2++(us.flatMap Hh++vk k.toNat 4)).length<=_;rw [af9,af9,dK,dK,G];omega
def Vn {α:Type} {ys:List α} {a b c d e:α} (hl:ys.length=5) (h0:ys[0]?=some a) (h1:ys[1]?=some b) (h2:ys[2]?=some c) (f:ys[3]?=some d) (g:ys[4]?=some e):ys=[a,b,c,d,e]:=by
 match ys,hl with
 | [h,i,j,k,l],_ =>
  simp only [List.getElem?_cons_zero,List.getElem?_cons_succ,Option.some.injEq] at h0 h1 h2 f g;subst h0 h1 h2 f g;rfl
def Yt {α:Type} {ys:List α} {a b c d:α} (hl:ys.length=4) (h0:ys[0]?=some a) (h1:ys[1]?=some b) (h2:ys[2]?=some c) (e:ys[3]?=some d):ys=[a,b,c,d]:=by
 match ys,hl with
 | [f,g,h,i],_ =>
  simp only [List.getElem?_cons_zero,List.getElem?_cons_succ,Option.some.injEq] at h0 h1 h2 e;subst h0 h1 h2 e;rfl
def Oy (h:DataW.trod enc Xaz W base sp held n 49 cs=some y):∃ i:Ins,cs=px i/\Sm i.op/\Rows.uptoBulk y.1=6:=by
 obtain ⟨ys,m,j,hl,b,a⟩:=gH s77 h;obtain ⟨J,k,c⟩:=a 0 _ rfl;obtain ⟨K,l,d⟩:=a 1 _ rfl;obtain ⟨L,o,e⟩:=a 2 _ rfl;obtain ⟨M,p,f⟩:=a 3 _ rfl;obtain ⟨N,q,g⟩:=a 4 _ rfl;have hys5:=Vn b k l o p q;rw [c77] at hl
 match cs,hl with
 | [O,P,Q,R,S],_ =>
  rw [show Tryz.prog.cellsOf (3,0).1=1 from c3] at c;rw [show Tryz.prog.cellsOf (3,1).1=1 from c3] at d;rw [show Tryz.prog.cellsOf (3,2).1=1 from c3] at e;rw [show Tryz.prog.cellsOf (21,3).1=1 from c21] at f;rw [show Tryz.prog.cellsOf (3,4).1=1 from c3] at g;obtain ⟨r,e0,s,t⟩:=DataW.trod_int u3 c;obtain ⟨u,w,x,U⟩:=DataW.trod_int u3 d;obtain ⟨z,A,B,V⟩:=DataW.trod_int u3 e;obtain ⟨C,D,E,X⟩:=DataW.trod_int u21 f;obtain ⟨F,G,I,Y⟩:=DataW.trod_int u3 g;cases e0; cases w; cases A; cases D; cases G;refine ⟨⟨r,u,z,C,F⟩,rfl,bounds_i64 t,?_⟩;rw [j,hys5,s,x,B,E,I];simp only [List.map_cons,List.map_nil,Rows.uptoBulk,Rows.uptoBulkAll]
def QI (h:Hp) (x:cC) (cs:List Xab) (k:Nat):Prop:=∃ p l c b,cs=encI p l c x/\N1 h p l c x.e b/\x.name.size<=maxLen/\Sm x.inst.op/\k=x.name.size+b+10
def C4 (h:DataW.trod enc Xaz W base sp held n 55 cs=some y):∃ x,QI W.heap x cs (Rows.uptoBulk y.1):=by
 obtain ⟨ys,m,o,hl,b,a⟩:=gH ZW h;obtain ⟨N,q,d⟩:=a 0 _ rfl;obtain ⟨O,r,e⟩:=a 1 _ rfl;obtain ⟨P,t,f⟩:=a 2 _ rfl;obtain ⟨g,u,j⟩:=a 3 _ rfl;obtain ⟨Q,w,k⟩:=a 4 _ rfl;have hys5:=Vn b q r t u w;rw [Z7] at hl
 match cs,hl with
 | [R,S,U,V,X,Y,Z,v7,v8,v9],_ =>
  rw [show Tryz.prog.cellsOf (3,0).1=1 from c3] at d;rw [show Tryz.prog.cellsOf (9,1).1=1 from c9] at e;rw [show Tryz.prog.cellsOf (49,2).1=5 from c77] at f;rw [show Tryz.prog.cellsOf (53,7).1=2 from ZC] at j;rw [show Tryz.prog.cellsOf (3,9).1=1 from c3] at k;obtain ⟨z,e0,A,w0⟩:=DataW.trod_int u3 d;obtain ⟨s,B,C,D⟩:=DataW.trod_string u9 e;obtain ⟨i,E,F,G⟩:=Oy f;obtain ⟨p,l,c,x,I,J⟩:=HS j;obtain ⟨K,L,M,w4⟩:=DataW.trod_int u3 k;cases e0; cases B; cases E; cases I; cases L;refine ⟨⟨z,s,i,x,K⟩,p,l,c,_,rfl,J,D,F,?_⟩;rw [o,hys5,A,C,M];simp only [List.map_cons,List.map_nil,Rows.uptoBulk,Rows.uptoBulkAll,G];rw [db9];show 1+(s.data.size+1+(6+(Rows.uptoBulk g.1+(1+0))))+1=s.data.size+Rows.uptoBulk g.1+10;omega
def QE (h:Hp) (x:sS) (cs:List Xab) (k:Nat):Prop:=∃ p l c b,cs=Xj p l c x/\N1 h p l c x.2 b/\x.1.size<=maxLen/\k=x.1.size+b+2
def QM (h:DataW.trod enc Xaz W base sp held n 116 cs=some y):∃ x,QE W.heap x cs (Rows.uptoBulk y.1):=by
 obtain ⟨ys,m,g,hl,b,a⟩:=gH XN h;obtain ⟨u,i,d⟩:=a 0 _ rfl;obtain ⟨e,j,f⟩:=a 1 _ rfl;have hys2:=N3 b i j;rw [c57] at hl
 match cs,hl with
 | [w,z,A],_ =>
  rw [show Tryz.prog.cellsOf (9,0).1=1 from c9] at d;rw [show Tryz.prog.cellsOf (53,1).1=2 from ZC] at f;obtain ⟨s,k,o,q⟩:=DataW.trod_string u9 d;obtain ⟨p,l,c,x,r,t⟩:=HS f;cases k; cases r;refine ⟨(s,x),p,l,c,_,rfl,t,q,?_⟩;rw [g,hys2,o];simp only [List.map_cons,List.map_nil,Rows.uptoBulk,Rows.uptoBulkAll];rw [db9];show (s.data.size+1+(Rows.uptoBulk e.1+0))+1=s.data.size+Rows.uptoBulk e.1+2;omega
def QS (x:Xaa) (cs:List Xab) (k:Nat):Prop:=cs=[.string x]/\x.size<=maxLen/\k=x.size+1
def OK (h:DataW.trod enc Xaz W base sp held n 9 cs=some y):∃ x,QS x cs (Rows.uptoBulk y.1):=by
 obtain ⟨s,a,b,c⟩:=DataW.trod_string u9 h;refine ⟨s,a,c,?_⟩;rw [b];simp only [Rows.uptoBulk];rw [db9] <;> rfl
theorem iI {α:Type} (f:α->Nat) (m:Nat):∀ (us:List α) (ks:List Nat),ks.length=us.length->(∀ i,(hi:i<us.length)->(hk:i<ks.length)->f us[i]<=m*ks[i])->(us.map f).sum<=m*ks.sum
 | [],ks,hl,_=>aj
 | u::us,[],hl,_=>by simp at hl
 | u::us,k::ks,hl,h=>by
  have h0:=h 0 aj aj;simp only [List.getElem_cons_zero] at h0;have ih:=iI f m us ks (by simpa using hl) (fun i hi hk=>h (i+1) (by simpa using hi) (by simpa using hk));rw [bq9,cn9,cn9,Nat.mul_add];omega
variable {O:Hp}
def PV {x:cC} {cs:List Xab} {k:Nat} (q:QI O x cs k):(JP x).length<=2*k:=by
 obtain ⟨p,l,c,b,_,a,_,_,rfl⟩:=q;have h1:=a.size;have ht:(jE x.name).length=x.name.size+2:=by
  unfold jE;rw [af9,dK]
  have:x.name.data.toList.length=x.name.size:=aj
  omega
 have hi:∀ (n:Int) (w:Nat),(Ej n w).length=w:=fun n w=>by unfold Ej; rw [dK]
 unfold JP;rw [af9,hi];split
 ·omega
 ·split
  ·rw [af9,af9,af9,af9,hi,hi,hi,hi];split
   ·omega
   ·simp
    omega
  ·split
   ·rw [hi]; omega
   ·split
    ·omega
    ·split
     ·rw [hi]; omega
     ·simp
      omega
def OG {x:sS} {cs:List Xab} {k:Nat} (q:QE O x cs k):(Oi x).length<=2*k:=by
 obtain ⟨p,l,c,b,_,a,_,rfl⟩:=q;have h1:=a.size;unfold Oi jE;rw [af9,af9,dK]
 have:x.1.data.toList.length=x.1.size:=aj
 omega
def Lz {x:Xaa} {cs:List Xab} {k:Nat} (q:QS x cs k):(jE x).length<=2*k:=by
 obtain ⟨_,_,rfl⟩:=q;unfold jE;rw [af9,dK]
 have:x.data.toList.length=x.size:=aj
 omega
def Jt {α:Type} (f:α->Bt) (us:List α):(us.flatMap f).length=(us.map fun u=>(f u).length).sum:=by rw [ep9]
end
theorem tj:∀ (ks:List Nat) (i:Nat) (h:i<ks.length),ks[i]<=ks.sum
 | k::ks,0,_=>aj
 | k::ks,i+1,h=>by
  have:=tj ks i (by simpa using h)
  simp only [List.getElem_cons_succ,List.sum_cons];omega
theorem kH {α:Type}:∀ us:List α,(us.map fun _=>1).sum=us.length
 | []=>rfl
 | u::us=>by rw [bq9,cn9,kH us,cj9,Nat.add_comm]
def wB {α:Type} {P:α->Prop} {us:List α} (h:∀ i,(hi:i<us.length)->P us[i]):∀ x,x∈us->P x:=fun x a=>by
 obtain ⟨i,hi,rfl⟩:=bg9 a;exact h i hi
variable {U:Hp} {V:Xac}
def N1.at {x:bM} {k:Nat} (q:N1 U V O Y x k) (hk:k<=2^60):rh U V O x:=⟨q.vw,by have:=q.many; omega,q.names⟩
def JY {us:List cC} {ks:List Nat} (s:Fp (QI U) U 10 V O Y us ks) (k:ks.sum<=2^58):FJ U V O us/\(∀ x,x∈us->ya x.e)/\(us.flatMap JP).length<=2*ks.sum:=by
 have hl:=s.Cs;have q:∀ i,(hi:i<us.length)->∃ a cs,V=some a/\aH U (a.add (i*10)) 0 cs/\QI U us[i] cs ks[i]:=fun i hi=>s.cells i hi ad
 have one:∀ i,(hi:i<us.length)->1<=1*ks[i]:=fun i hi=>by
  obtain ⟨_,_,_,_,_,_,_,_,_,_,_,_,hk⟩:=q i hi;omega
 have m:us.length<=ks.sum:=by
  have:=iI (fun _=>1) 1 us ks hl (fun i hi hk=>one i hi)
  rw [kH] at this;omega
 refine ⟨⟨s.len,ad,fun i hi=>?_⟩,wB fun i hi=>?_,?_⟩
 ·obtain ⟨a,cs,d,hc,p',l',c',b,rfl,f,hn,g,hk⟩:=q i hi
  have:=tj ks i ad
  exact ⟨a,p',l',c',d,hc,f.at ad,hn,g⟩
 ·obtain ⟨a,cs,d,hc,p',l',c',b,rfl,f,hn,g,hk⟩:=q i hi;exact f.num
 ·rw [Jt];refine iI _ 2 us ks hl (fun i hi hk=>?_);obtain ⟨a,cs,d,hc,j⟩:=q i hi;exact PV j
def Us {us:List sS} {ks:List Nat} (s:Fp (QE U) U 3 V O Y us ks) (g:ks.sum<=2^58):uV U V O us/\(∀ x,x∈us->ya x.2)/\(us.flatMap Oi).length<=2*ks.sum:=by
 have hl:=s.Cs;have q:∀ i,(hi:i<us.length)->∃ a cs,V=some a/\aH U (a.add (i*3)) 0 cs/\QE U us[i] cs ks[i]:=fun i hi=>s.cells i hi ad
 have one:∀ i,(hi:i<us.length)->1<=1*ks[i]:=fun i hi=>by
  obtain ⟨_,_,_,_,_,_,_,_,_,_,_,hk⟩:=q i hi;omega
 have j:us.length<=ks.sum:=by
  have:=iI (fun _=>1) 1 us ks hl (fun i hi hk=>one i hi)
  rw [kH] at this;omega
 refine ⟨⟨s.len,ad,fun i hi=>?_⟩,wB fun i hi=>?_,?_⟩
 ·obtain ⟨a,cs,d,hc,p',l',c',b,rfl,e,hn,hk⟩:=q i hi
  have:=tj ks i ad
  exact ⟨a,p',l',c',d,hc,e.at ad,hn⟩
 ·obtain ⟨a,cs,d,hc,p',l',c',b,rfl,e,hn,hk⟩:=q i hi;exact e.num
 ·rw [Jt];refine iI _ 2 us ks hl (fun i hi hk=>?_);obtain ⟨a,cs,d,hc,f⟩:=q i hi;exact OG f
def Uy {us:List Xaa} {ks:List Nat} (s:Fp QS U 1 V O Y us ks) (e:ks.sum<=2^58):Zi U V O us/\(us.flatMap jE).length<=2*ks.sum:=by
 have hl:=s.Cs;have q:∀ i,(hi:i<us.length)->∃ a cs,V=some a/\aH U (a.add (i*1)) 0 cs/\QS us[i] cs ks[i]:=fun i hi=>s.cells i hi ad
 have one:∀ i,(hi:i<us.length)->1<=1*ks[i]:=fun i hi=>by
  obtain ⟨_,_,_,_,_,_,hk⟩:=q i hi;omega
 have f:us.length<=ks.sum:=by
  have:=iI (fun _=>1) 1 us ks hl (fun i hi hk=>one i hi)
  rw [kH] at this;omega
 refine ⟨⟨s.len,ad,fun i hi=>?_⟩,?_⟩
 ·obtain ⟨a,cs,b,hc,rfl,hn,hk⟩:=q i hi;exact ⟨a,b,hc,hn⟩
 ·rw [Jt];refine iI _ 2 us ks hl (fun i hi hk=>?_);obtain ⟨a,cs,b,hc,d⟩:=q i hi;exact Lz d
def x8 {us:List cC} {ks:List Nat} (s:Fp (QI U) U 10 V O Y us ks):(∀ x,x∈us->x.e.ah.length<=ks.sum)/\us.length<=ks.sum:=by
 have hl:=s.Cs;have q:∀ i,(hi:i<us.length)->∃ a cs,V=some a/\aH U (a.add (i*10)) 0 cs/\QI U us[i] cs ks[i]:=fun i hi=>s.cells i hi ad
 refine ⟨wB fun i hi=>?_,?_⟩
 ·obtain ⟨a,cs,f,hc,p',l',c',b,rfl,d,hn,g,hk⟩:=q i hi
  have:=tj ks i ad
  have:=d.many
  omega
 ·have:=iI (fun _=>1) 1 us ks hl (fun i hi hk=>by
   obtain ⟨_,_,_,_,_,_,_,_,_,_,_,_,hk⟩:=q i hi;omega)
  rw [kH] at this;omega
theorem W8 {α:Type} (g:α->Nat):∀ us:List α,(us.map fun x=>3*g x).sum=3*(us.map g).sum
 | []=>rfl
 | u::us=>by rw [bq9,cn9,bq9,cn9,W8 g us,Nat.mul_add]
def O4 {us:List cC} {ks:List Nat} (s:Fp (QI U) U 10 V O Y us ks):(us.map fun x=>3*x.e.ah.length).sum<=ks.sum:=by
 have:=iI (fun x:cC=>3*x.e.ah.length) 1 us ks s.Cs (fun i hi hk=>by
  obtain ⟨a,cs,f,hc,p',l',c',b,_,d,hn,g,hk⟩:=s.cells i hi hk
  have:=d.many
  omega)
 omega
def VV {us:List sS} {ks:List Nat} (s:Fp (QE U) U 3 V O Y us ks):(us.map fun x=>3*x.2.ah.length).sum<=ks.sum:=by
 have:=iI (fun x:sS=>3*x.2.ah.length) 1 us ks s.Cs (fun i hi hk=>by
  obtain ⟨a,cs,e,hc,p',l',c',b,_,d,hn,hk⟩:=s.cells i hi hk
  have:=d.many
  omega)
 omega
def IN {us:List sS} {ks:List Nat} (s:Fp (QE U) U 3 V O Y us ks):(∀ x,x∈us->x.2.ah.length<=ks.sum)/\us.length<=ks.sum:=by
 have hl:=s.Cs;have q:∀ i,(hi:i<us.length)->∃ a cs,V=some a/\aH U (a.add (i*3)) 0 cs/\QE U us[i] cs ks[i]:=fun i hi=>s.cells i hi ad
 refine ⟨wB fun i hi=>?_,?_⟩
 ·obtain ⟨a,cs,e,hc,p',l',c',b,rfl,d,hn,hk⟩:=q i hi
  have:=tj ks i ad
  have:=d.many
  omega
 ·have:=iI (fun _=>1) 1 us ks hl (fun i hi hk=>by
   obtain ⟨_,_,_,_,_,_,_,_,_,_,_,hk⟩:=q i hi;omega)
  rw [kH] at this;omega
def Rh {us:List Xaa} {ks:List Nat} (s:Fp QS U 1 V O Y us ks):us.length<=ks.sum:=by
 have hl:=s.Cs;have q:∀ i,(hi:i<us.length)->∃ a cs,V=some a/\aH U (a.add (i*1)) 0 cs/\QS us[i] cs ks[i]:=fun i hi=>s.cells i hi ad
 have:=iI (fun _=>1) 1 us ks hl (fun i hi hk=>by
  obtain ⟨_,_,_,_,_,_,hk⟩:=q i hi;omega)
 rw [kH] at this;omega
structure K4 (h:Hp) (a b c d:bU) (u:cv) (N:Nat):Prop where
 at_:uD h a b c d u
 num:W2 u
 size:(ZJ u).length<=2*N+13
 small:(∀ x,x∈u.text->x.e.ah.length<=N)/\(∀ x,x∈u.data->x.e.ah.length<=N)/\(∀ x,x∈u.bj->x.2.ah.length<=N)/\u.aU.length<=N/\u.text.length<=N/\u.data.length<=N/\u.bj.length<=N
 cap:a.l<=a.c
 YH:3*((Lk.cR u).flatMap (·.ah)).length<=N
 jn:u.text.length+u.data.length+u.bj.length+u.aU.length<=N
 pos:1<=N
def VI {a b c d:bU} {u:cv} {N:Nat} (s:K4 U a b c d u N):1<=N:=s.pos
section
variable {H:Type} {enc:TypeId × Xab->H} {W:World} {base n:Nat} {sp:Nat->Bool} {held:Bool} {cs:List Xab} {y:DataW H × List MemPlace}
def zQ (h:DataW.trod enc Xaz W base sp held n 70 cs=some y) (hN:Rows.uptoBulk y.1<=2^50):∃ a b c d u,cs=[bU.v a,bU.v b,bU.v c,bU.v d]/\K4 W.heap a b c d u (Rows.uptoBulk y.1):=by
 obtain ⟨ys,m,z,hl,p,f⟩:=gH Zs h;obtain ⟨A,B,r⟩:=f 0 _ rfl;obtain ⟨C,D,s⟩:=f 1 _ rfl;obtain ⟨E,F,t⟩:=f 2 _ rfl;obtain ⟨G,I,w⟩:=f 3 _ rfl;have hys4:=Yt p B D F I;rw [c30] at hl
 match cs,hl with
 | [v0,v1,v2,v3],_ =>
  rw [show Tryz.prog.cellsOf (46,0).1=1 from c26] at r;rw [show Tryz.prog.cellsOf (46,1).1=1 from c26] at s;rw [show Tryz.prog.cellsOf (67,2).1=1 from c27] at t;rw [show Tryz.prog.cellsOf (68,3).1=1 from c28] at w;obtain ⟨p0,l0,J,g,b0,e0,s0,m0⟩:=open_slice VB Z7 (QI W.heap) (fun cs y n h=>C4 h) r;obtain ⟨K,L,M,i,b1,N,k,m1⟩:=open_slice VB Z7 (QI W.heap) (fun cs y n h=>C4 h) s;obtain ⟨O,P,Q,j,b2,R,l,m2⟩:=open_slice Y5 c57 (QE W.heap) (fun cs y n h=>QM h) t;obtain ⟨S,U,V,u3,b3,X,q,m3⟩:=open_slice J9 c9 QS (fun cs y n h=>OK h) w;cases e0; cases N; cases R; cases X;have hb:Rows.uptoBulk y.1=Rows.uptoBulk A.1+Rows.uptoBulk C.1+Rows.uptoBulk E.1+Rows.uptoBulk G.1+1:=by
   rw [z,hys4];simp only [List.map_cons,List.map_nil,Rows.uptoBulk,Rows.uptoBulkAll];omega
  obtain ⟨Y,Z,w0⟩:=JY s0 ad;obtain ⟨x1,n1,w1⟩:=JY k ad;obtain ⟨x2,n2,w2⟩:=Us l ad;obtain ⟨x3,w3⟩:=Uy q ad;refine ⟨⟨p0,l0,J⟩,⟨K,L,M⟩,⟨O,P,Q⟩,⟨S,U,V⟩,⟨g,i,j,u3⟩,rfl,⟨Y,x1,x2,x3⟩,⟨Z,n1,n2⟩,?_,⟨fun x o=>by have:=(x8 s0).1 x o; omega,fun x o=>by have:=(x8 k).1 x o; omega,fun x o=>by have:=(IN l).1 x o; omega,by have:=Rh q; show u3.length<=_; omega,by have:=(x8 s0).2; show g.length<=_; omega,by have:=(x8 k).2; show i.length<=_; omega,by have:=(IN l).2; show j.length<=_; omega⟩,s0.cap,?_,?_,ad⟩
  ·show (Qm++(D9 JP g++(D9 JP i++(D9 Oi j++D9 jE u3)))).length<=_;unfold D9;simp only [List.length_append,dK];rw [show Qm.length=5 from rfl];omega
  ·show 3*((Lk.cR ⟨g,i,j,u3⟩).flatMap (·.ah)).length<=_;have i0:=O4 s0;have i1:=O4 k;have i2:=VV l;rw [W8] at i0 i1 i2;unfold Lk.cR;rw [dt9,dt9,af9,af9,List.flatMap_map,List.flatMap_map,List.flatMap_map,ep9,ep9,ep9];show 3*((g.map fun x=>x.e.ah.length).sum+(i.map fun x=>x.e.ah.length).sum+(j.map fun x=>x.2.ah.length).sum)<=_;omega
  ·have i0:=(x8 s0).2;have i1:=(x8 k).2;have i2:=(IN l).2;have i3:=Rh q;show g.length+i.length+j.length+u3.length<=_;omega
def Pa:Tryz.prog.underlying 32=some (.slice 70):=ax
def QU (h:Hp) (u:cv) (cs:List Xab) (k:Nat):Prop:=k<=2^50->∃ a b c d,cs=[bU.v a,bU.v b,bU.v c,bU.v d]/\K4 h a b c d u k
def Qq (h:DataW.trod enc Xaz W base sp held n 70 cs=some y):∃ u,QU W.heap u cs (Rows.uptoBulk y.1):=by
 by_cases hk:Rows.uptoBulk y.1<=2^50
 ·obtain ⟨a,b,c,d,u,h1,h2⟩:=zQ h hk;exact ⟨u,fun _=>⟨a,b,c,d,h1,h2⟩⟩
 ·exact ⟨⟨[],[],[],[]⟩,fun h=>absurd h hk⟩
structure X1 (h:Hp) (p:Xac) (l c:Nat) (us:List cv) (N:Nat):Prop where
 vw:xA h p l us
 sm:N<=2^20->Lk.H7 us
 YH:3*((us.flatMap Lk.cR).flatMap (·.ah)).length<=N
 cap:l<=c
 XQ:c<=maxLen
 nil:p=none->c=0
def Ju {b0:Nat} {v:Xab} {d:DataW H} {ps:List MemPlace} (j:Value.okWide Xaz W .any b0 32 v) (h:DataW.Trod enc Xaz W base sp held 32 v d ps) (z:Rows.uptoBulk d<=2^50) :
  ∃ p l c us,v=.slice p l c/\X1 W.heap p l c us (Rows.uptoBulk d):=by
 obtain ⟨p,l,c,rfl⟩:=okWide_slice Pa j;obtain ⟨m,h⟩:=h;have f:(Value.slice p l c).cells.toList=[.slice p l c]:=rfl;rw [f] at h;obtain ⟨p',l',c',us,ks,e0,s,o⟩:=open_slice Pa c30 (QU W.heap) (fun cs y n h=>Qq h) h;cases e0;have hl:=s.Cs;have o:ks.sum+1<=Rows.uptoBulk d:=o;have q:∀ i,(hi:i<us.length)->∃ a sa sb sc sd,p=some a/\aH W.heap (a.add (i*4)) 0 [bU.v sa,bU.v sb,bU.v sc,bU.v sd]/\K4 W.heap sa sb sc sd us[i] (ks[i]'ad):=by
  intro i hi;obtain ⟨a,cs,g,hc,r⟩:=s.cells i hi ad
  have:=tj ks i ad
  obtain ⟨sa,sb,sc,sd,rfl,b⟩:=r ad;exact ⟨a,sa,sb,sc,sd,g,hc,b⟩
 have pos:∀ i,(hi:i<us.length)->1<=ks[i]'ad:=by
  intro i hi;obtain ⟨a,sa,sb,sc,sd,g,hc,b⟩:=q i hi;exact VI b
 have A:us.length<=ks.sum:=by
  have:=iI (fun _=>1) 1 us ks hl (fun i hi hk=>by have:=pos i hi; omega)
  rw [kH] at this;omega
 have t:3*((us.flatMap Lk.cR).flatMap (·.ah)).length<=ks.sum:=by
  have:=iI (fun u:cv=>3*((Lk.cR u).flatMap (·.ah)).length) 1 us ks hl (fun i hi hk=>by
   obtain ⟨a,sa,sb,sc,sd,g,hc,b⟩:=q i hi
   have:=b.YH
   omega)
  rw [W8] at this;rw [List.flatMap_assoc,ep9];omega
 refine ⟨p,l,c,us,rfl,⟨⟨s.len,ad,fun i hi=>?_⟩,fun w=>⟨ad,?_,?_,ad⟩,ad,s.cap,s.XQ,s.nil⟩⟩
 ·obtain ⟨a,sa,sb,sc,sd,g,hc,b⟩:=q i hi;exact ⟨a,sa,sb,sc,sd,g,hc,b.at_⟩
 ·have:=iI (fun u:cv=>u.text.length+u.data.length+u.bj.length+u.aU.length) 1 us ks hl (fun i hi hk=>by
   obtain ⟨a,sa,sb,sc,sd,g,hc,b⟩:=q i hi
   have:=b.jn
   omega)
  unfold Lk.vR;omega
 ·refine wB fun i hi=>?_
  obtain ⟨a,sa,sb,sc,sd,g,hc,b⟩:=q i hi;intro x k;unfold Lk.cR at k;simp only [List.mem_append,List.mem_map] at k;rcases k with (⟨y,e,rfl⟩ | ⟨y,e,rfl⟩) | ⟨y,e,rfl⟩
  ·exact ⟨(b.num.text y e).num,(b.num.text y e).Ha⟩
  ·exact ⟨(b.num.data y e).num,(b.num.data y e).Ha⟩
  ·exact ⟨(b.num.bj y e).num,(b.num.bj y e).Ha⟩
end
end Go.Sx.Ob
namespace Go.Sx.Cr
open Go.Proofs Go.MapKept Go.WideAt Go.WideMaps Go.Maps Go.RowKit Go.WideElems Go.Sort Go.Shelf
variable {H:Hp}
def IJ {q b:Nat} {D:List (Xaa × Xab)} {cs:Array Xab} {e:TypeId} {f:Nat × Nat} (u:H[q]?=some (.cells cs e f)) (hc:cs[0]?=some (.map (some b))) (m:fl H b D) (hl:D.length<=1024) :
  HC Xaz 89 #[.func (.func 117) #[] #[.pointer (some ⟨q,0,none⟩)]] H fun v h'=>∃ a:List (List UInt8),a.Perm (D.map fun p=>p.1.data.toList)/\(v=.slice none 0 0↔a=[])/\Ext H h' /\
   a.length=((a.mergeSort fun x y=>decide (x<=y)).map encStr).length /\
   ((v=.slice none 0 0/\a.length=0)\/∃ g cap jO,v=.slice (some ⟨g,0,none⟩) a.length cap/\H.size<=g/\h'[g]?=some (.cells jO 9 (0,0))/\a.length<=cap/\cap<=maxLen/\jO.size=cap*1/\jO.toList.take (a.length*1)=(a.mergeSort fun x y=>decide (x<=y)).map encStr):=by
 intro W w;subst w;obtain ⟨k,l,j,c⟩:=fl.owns m (by unfold maxLen; omega);have ig:W.cell? ⟨q,0,none⟩=some (.map (some b)):=by
  unfold World.cell?;rw [u];exact hc
 have n:SeqGives Fence.wide 2 Xaz 117 #[.pointer (some ⟨q,0,none⟩)] encStr (fun a=>a.Perm (strKeys k)) (Maps.size k) W :=
  AnyZ.keys_gives (ρ:=Tryz.sF) { Tryz.Es with } Fence.wide _ trivial rfl ad q b D.length k _ (eV u) ig l
 have o:Maps.size k<=maxLen:=by rw [c]; unfold maxLen; omega
 have d:Maps.size k*16<=140737488355328:=by rw [c]; omega
 have:=AnyZ.sorted_in Tryz.Dm Fence.wide 5 trivial trivial trivial trivial rfl ad (Tryz.GM _) (enters_of Tryz.func116 ax rfl) 117 #[.pointer (some ⟨q,0,none⟩)] trivial (enters_of Tryz.func117 ax rfl) _ _ o d _ n
 refine (callsIn_wide.1 this).mono fun e w' z=>?_
 obtain ⟨v,a,A,B,r,s,t⟩:=z;obtain ⟨h1,h2⟩:=r;exact ⟨v,A,⟨t.os,t.tape,t.output⟩,a,B.trans j,s,⟨t.size,fun i hi _=>t.block i hi⟩,by rw [h1]; simp,h2⟩
theorem xG (x:Xaa):∀ l,(Fy x l).Perm (x::l)
 | []=>List.Perm.refl _
 | y::l=>by
  unfold Fy;split
  ·exact List.Perm.refl _
  ·exact ((xG x l).cons y).trans (List.Perm.swap x y l)
theorem BO:∀ l,(sf l).Perm l
 | []=>List.Perm.refl _
 | x::l=>(xG x (sf l)).trans ((BO l).cons x)
theorem zr (x:Xaa):∀ l:List Xaa,(l.Pairwise fun a b=>a.data.toList<=b.data.toList)->((Fy x l).Pairwise fun a b=>a.data.toList<=b.data.toList)
 | [],_=>by simp [Fy]
 | y::l,h=>by
  rw [dp9] at h;unfold Fy;rw [Proofs.bytesLess_eq]
  by_cases c:x.data.toList<y.data.toList
  ·rw [aj9 c];have e:x.data.toList<=y.data.toList:=List.le_of_lt c;refine dp9.2 ⟨fun b d=>?_,dp9.2 h⟩;rcases be9.1 d with rfl | d
   ·exact e
   ·exact List.le_trans e (h.1 b d)
  ·rw [ak9 c];refine dp9.2 ⟨fun b d=>?_,zr x l h.2⟩;rcases be9.1 ((xG x l).mem_iff.1 d) with rfl | d
   ·exact List.not_lt.1 c
   ·exact h.1 b d
theorem vN:∀ l,(sf l).Pairwise fun a b=>a.data.toList<=b.data.toList
 | []=>List.Pairwise.nil
 | x::l=>zr x _ (vN l)
def JQ {ss:List (List UInt8)} {ks:List Xaa} (d:ss.Perm (ks.map fun k=>k.data.toList)):(ss.mergeSort fun x y=>decide (x<=y)).map encStr=(sf ks).map Value.string:=by
 have h1:ss.mergeSort (fun x y=>decide (x<=y))=(sf ks).map fun k=>k.data.toList:=by
  have e:∀ a b c:List UInt8,decide (a<=b)=true->decide (b<=c)=true->decide (a<=c)=true:=fun a b c h1 h2=>by simp only [decide_eq_true_eq] at *; exact List.le_trans h1 h2
  have f:∀ a b:List UInt8,(decide (a<=b) || decide (b<=a))=true:=fun a b=>by simp only [Bool.or_eq_true,decide_eq_true_eq]; exact List.le_total a b
  refine List.Perm.eq_of_pairwise (le:=fun a b=>decide (a<=b)=true) (fun a b _ _ h1 h2=>?_) (List.pairwise_mergeSort e f ss) ?_ ((List.mergeSort_perm ss _).trans (d.trans ((BO ks).map _).symm))
  ·simp only [decide_eq_true_eq] at h1 h2;exact List.le_antisymm h1 h2
  ·rw [cr9];exact (vN ks).imp fun h=>by simpa using h
 rw [h1,bf9];refine ck9 fun k _=>?_
 show encStr k.data.toList=.string k;unfold encStr
 congr 1
noncomputable def crx (a:List Xab):Cx:=⟨Xaz,121,131,89,89,117,157,3,fun | 0=>some a | _=>none⟩
def WQ:Tryz.prog.cellsOf 9=1:=ax
def WV (c:List Xab):Ok (crx c) where
 kt k hk:=by
  have hk:(Nat.beq k 121 || Nat.beq k 131)=true:=hk;rw [Bool.or_eq_true] at hk;rcases hk with hk | hk
  ·have e:k=121:=au9 hk;subst e;exact Ob.Zq
  ·have e:k=131:=au9 hk;subst e;exact Ob.ZN
 ki k hk:=by
  have hk:(true && Nat.beq k 89)=true:=hk;have e:k=89:=au9 hk;subst e;exact Ob.kiT
 idx x n h K hk:=by
  show aS Xaz (JJ 157 #[.string x,.int .u8 n]) h K;refine Hl (e:=Extern.BytealgIndexByte.indexByte) Tryz.func157 Vx UK U1 Vm ?_;rw [rU];exact hk
 U9 h q b D cs e f z hc m hl:=by
  show HC Xaz 89 #[.func (.func 117) #[] #[.pointer (some ⟨q,0,none⟩)]] h _;refine HC.mono (IJ z hc m hl) fun v h' A=>?_
  obtain ⟨d,w,i,j,y,l⟩:=A;refine ⟨j,?_⟩;have a:d.length=D.length:=by rw [w.length_eq]; simp
  cases D with
  | nil =>
   have:d=[]:=bo9 (by rw [a]; rfl)
   exact i.2 this
  | cons p D =>
   rcases l with ⟨_,h0⟩ | ⟨g,cap,jO,hv,B,o,t,r,u,s⟩
   ·rw [a] at h0; simp at h0
   ·have hk:=JQ (ss:=d) (ks:=(p::D).map (·.1)) (by rw [bf9]; exact w);rw [hk] at s;refine ⟨g,jO.toList.drop d.length,cap,B,by rw [<- a]; exact hv,by unfold maxLen at r; omega,?_,by rw [<- a]; exact t,?_⟩
    ·have C:jO.toList.length=cap*1:=by rw [db9]; exact u
     rw [show (crx c).P.cellsOf 9=1 from WQ,bw9,C,<- a]; omega
    ·unfold bC;rw [o,<- s,Nat.mul_one,ce9]
def opsV:List Xab:=Ob.lT Ob.vW Ob.xg
noncomputable def cx:Cx:=crx opsV
def UZ:Ok cx:=WV opsV
def Mz:opsV.all (fU 9)=true:=ax
def YF (ht:∃ e f,H[0]?=some (.cells opsV.toArray e f)):∀ b c,cx.ro b=some c->b<cx.ng/\∃ cs e f,H[b]?=some (.cells cs e f)/\∀ (i:Nat) (v:Xab),c[i]?=some v->cs[i]?=some v/\fU 9 v=true:=by
 obtain ⟨e,f,ht⟩:=ht;intro b c a;cases b with
 | succ b=>cases (show none=some c from a)
 | zero =>
  cases (show some opsV=some c from a);refine ⟨show 0<3 from ad,opsV.toArray,e,f,ht,fun i v hv=>⟨by rw [eu9]; exact hv,?_⟩⟩;exact bn9.1 Mz v (cp9 hv)
end Go.Sx.Cr
namespace Go.Sx.Ob
open Go.Proofs Go.Proofs.YtmdncdaladplkaaGreatDoor
open Go.ChangeShapes Go.WideShapes Go.ChangeAt Go.WideMaps Go.WideElems Go.RowKit
def NQ {W:World} (h:laidMetH Xaz Rows.poolNumbersRow.laid W):∃ e f,W.heap[0]?=some (.cells Cr.opsV.toArray e f):=by
 rw [MakeChecks.laidMetH_plain _ _ _ ax] at h;obtain ⟨ps,⟨C,D,j,E,p0,F,k,l,m,n,⟨G,H,o,I,J,K,p,q,r,s,⟨L,M,t,N,O,P,u,w,x,y,⟨Q,R,z,S,U,V,a,b,c,d,_,_⟩,_⟩,_⟩,_⟩,_,_⟩:=h;obtain rfl:=bb9 ((show Tryz.prog.globalNamed _=some 0 from ax).symm.trans a);have A:(Tryz.prog.globals[0]?).map (·.type)=some 202:=ax
 obtain rfl:=bb9 (A.symm.trans b);have hr:=DH d;obtain ⟨B,g,i⟩:=Eu a c;exact ⟨B,g,by rw [i,show Cr.opsV=lT vW xg from rfl,<- hr]⟩
end Go.Sx.Ob
namespace Go.Sx.Cr
open Go.Proofs
noncomputable def UJ:Code:=Tryz.f10.body.getD .skip
noncomputable def csK:CS:=⟨rZ cx.ng .nil,cx.ng⟩
def Ro:Tryz.f10.body=some UJ:=ax
def Si:Rj cx (Xv cx 60) Tryz.f10 (.bool true) UJ .nil csK=true:=ax
def Ol {h:Hp} (ht:∃ e f,h[0]?=some (.cells opsV.toArray e f)):HC Xaz 10 #[] h fun v h'=>v=.bool true/\Ext h h' :=
 P6 (C:=cx) Tryz.func10 Ro fun b a c g=>R9 UZ mixed (Sd UZ mixed 60) rfl Si _ b a h (MZ (YF ht)) c g
end Go.Sx.Cr
namespace Go.Sx.Ob
open Go.Proofs Go.Proofs.YtmdncdaladplkaaGreatDoor
open Go.ChangeMaps
open Go.ChangeShapes Go.WideShapes Go.ChangeAt Go.WideMaps Go.WideElems Go.RowKit
def yb:(Tryz.f5.params.toList.all fun t=>decide (t<Tryz.prog.types.size))=true:=ax
def yg:Tryz.prog.inPlace 5=Rows.poolSharesUptoRow.inPlace:=ax
def xO:Tryz.prog.unfollowed 5=Rows.poolSharesUptoRow.unfollowed:=ax
def yr:Tryz.prog.recurses 5=Rows.poolSharesUptoRow.recurses:=ax
def yu:Tryz.prog.varsNamed 5=Rows.poolSharesUptoRow.named:=ax
def x7:joinedFacts Xaz 5 Tryz.f5 (Rows.OpenSpec.upto Rows.poolSharesSpec).bare Rows.poolSharesUptoRow=true:=by
 unfold joinedFacts;rw [yg,xO,yr,yu]
 kernel_rfl
def vT (os:Os) (started:os.Started) (H:Type) (enc:TypeId × Xab->H) (F:Stop.Interp) :
  ReturnsInHanded {} Tryz.checked os 5 .any (fun w args=>((Rows.OpenSpec.upto Rows.poolSharesSpec).pre enc Xaz Tryz.f5 [] false w args/\laidMetH Xaz Rows.poolSharesUptoRow.laid w)/\sizedMet enc Xaz Tryz.f5 (Rows.OpenSpec.upto Rows.poolSharesSpec) false w args)
   (((Rows.OpenSpec.upto Rows.poolSharesSpec).at F).post enc Xaz Tryz.f5 false true false false):=by
 refine OF (k:=Rows.uptoSmall) rfl (C:=Tryz.checked) (X:=fun w _=>laidMetH Xaz Rows.poolSharesUptoRow.laid w) (fun _ _ _ o h=>h.of_heap o) Z0 started ax Tryz.func5
  (Ij (k:=Rows.uptoSmall) rfl (C:=Tryz.checked) (os:=os) (X:=fun w _=>laidMetH Xaz Rows.poolSharesUptoRow.laid w) (World.doorLaid Xaz 400 os) #[.slice none 0 0] 8 rfl (World.shaped_of_RefB ax ax) ax (x:=([.nil],[],[])) ax rfl ax (Rg os _)) ?_
 intro W base args r gs before a m hk g;have b:∀ (j:Nat) t v,Tryz.f5.params[j]?=some t->args[j]?=some v->Value.okWide Xaz W .any base t v:=a
 have hW':=m;obtain ⟨p,q,c,s,rfl,u,y⟩:=m;have n:DataW.TrodAll enc Xaz W 0 (fun _=>true) true Tryz.f5.params.toList args.toList r p:=c;have i:Tryz.f5.params=#[32]:=ax
 rw [i] at n b;clear c a;obtain ⟨z,A,K,B,p0,L,d,rfl,rfl,D,l⟩:=trodAll_cons n;obtain ⟨rfl,rfl,rfl⟩:=trodAll_nil l;obtain ⟨args⟩:=args;simp only at d;subst d;have hk:=ah9 hk;have hkb:=hk;simp only [List.append_nil,nA,cA] at hkb;obtain ⟨rfl,rfl⟩:=trodVars_none s;obtain ⟨E,l0,c0,M,rfl,h0⟩:=Ju (b 0 32 z rfl rfl) D (by simp only [Rows.uptoBulkAll] at hkb; omega);simp only [List.append_nil] at hW';simp only [List.append_nil,List.nil_append,List.cons_append,Rows.uptoBulkAll] at hk;refine (Q0 (Po.Jf (J4 g).2 (J4 g).1 (fun h2 G=>Cr.Ol (by obtain ⟨e,f,ht⟩:=NQ g; exact ⟨e,f,G.get ht aj⟩)) (su:=⟨E,l0,c0⟩) h0.vw (h0.sm ad)) (fun _ _ h=>h.2)).mono fun e N ⟨v,I,J,hv,_⟩=>?_
 subst I hv;exact ⟨_,rfl,Pp rfl hW' (fun _ _ _=>trodAll_mk1 (shut_bool u4 _)) rfl rfl (fun t ht=>ah9 (bn9.1 yb t ht)) J⟩
def yC:Rows.PoolSharesUptoSaid :=
 OpenClaim.holds_of_cond 5 Tryz.f5 rfl rfl rfl rfl rfl rfl rfl ⟨rfl,rfl,rfl,rfl,rfl⟩ rfl rfl rfl rfl rfl ax Tryz.func5 x7
  (ah9 ax) (by unfold Func.isWrapper; first | (rw [ag9 (by decide +kernel)]; kernel_rfl) | (rw [ac9 (by decide +kernel)]; exact ⟨rfl,rfl⟩))
  (fun os started H enc _ F=>vT os started H enc F)
end Go.Sx.Ob
