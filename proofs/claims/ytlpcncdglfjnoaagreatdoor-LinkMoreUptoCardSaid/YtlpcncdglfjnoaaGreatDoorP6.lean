/- Contracts over heaps, and plain laws, for the functions that the laws of chapter 9 call, part 6: What is handed in, opened: structs, lists; over any program. What a row lists li Condition: as each statement says. -/
import Derived.Test.YtlpcncdglfjnoaaGreatDoorP5
import Derived.Test.YtlpcncdglfjnoaaGreatDoorRows
import Derived.ProofKit
import Derived.LaidMore
import Derived.LaidLaws
import Derived.OpenShut
import Derived.ChangeSame
import Derived.ChangeStays
import Derived.ChangeOld
import Derived.ChangeSlices
import Derived.ChangeMaps5
import Derived.JoinedCond
import Derived.Lib.LaidTab
import Derived.Stop.Joined
import Derived.Test.YtlpcncdglfjnoaaGreatDoorTie
import Derived.Test.YtlpcncdglfjnoaaGreatDoorCards
import Derived.SevenTiedAt
set_option linter.all false
set_option maxRecDepth 100000
set_option maxHeartbeats 4000000
namespace Go.Sx.Ob
open Go.Proofs Go.Proofs.YtlpcncdglfjnoaaGreatDoor
open Go.ChangeShapes Go.WideShapes Go.ChangeAt Go.WideMaps Go.WideElems Go.RowKit
def uU (P:Program) (t:TypeId):Option (List (TypeId × Nat)):=(P.underlying t).bind fun d=>match d with | .struct fs=>some (fs.toList.map fun f=>(f.type,f.offset)) | _=>none
section
variable {H:Type} {enc:TypeId × ZB->H} {P:Program} {W:World} {base fuel:Nat} {sp:Nat->Bool} {held:Bool} {t:TypeId} {cs:List ZB} {y:DataW H × List MemPlace}
theorem fE {l:List (TypeId × Nat)} (hu:uU P t=some l) (h:DataW.trod enc P W base sp held fuel t cs=some y) :
  ∃ (xs:List (DataW H × List MemPlace)) (n:Nat),y.1=.agg (xs.map (·.1))/\cs.length=P.cellsOf t/\xs.length=l.length/\∀ (i:Nat) (p:TypeId × Nat),l[i]?=some p->∃ x,xs[i]?=some x/\DataW.trod enc P W base sp held n p.1 ((cs.drop p.2).take (P.cellsOf p.1))=some x:=by
 unfold uU at hu;cases hd:P.underlying t with
 | none=>rw [hd] at hu; cases hu
 | some d =>
  rw [hd] at hu;simp only [Option.bind_some] at hu;split at hu
  ·rename_i fs;simp only [Option.some.injEq] at hu;obtain ⟨xs,n,_,hy,hl,hlen,hf⟩:=DataW.trod_struct hd h;refine ⟨xs,n,by rw [hy],hl,by rw [<- hu,WQ,hlen,XT],fun i p hp=>?_⟩;rw [<- hu,XB,YE] at hp;obtain ⟨f,hf1,rfl⟩:=hp;rw [X5] at hf1;have h1:=hf i f hf1;cases hx:xs[i]? with
   | none =>
    rw [List.getElem?_eq_none_iff] at hx
    have:i<fs.size:=by
     by_cases g:i<fs.size
     ·exact g
     ·rw [XF ad] at hf1;cases hf1
    omega
   | some x=>rw [hx] at h1; exact ⟨x,rfl,h1⟩
  ·cases hu
theorem iZ {h:Hp} {a:ZC}:∀ (vs:List ZB) (i:Nat),(∀ j,(hj:j<vs.length)->gU h (a.add (i+j))=some vs[j])->aG h a i vs
 | [],_,_=>trivial
 | v::vs,i,hh=>⟨by have:=hh 0 aj; rw [YT] at this; exact this,iZ vs (i+1) fun j hj=>by
  have:=hh (j+1) (by simpa using hj)
  rw [show i+1+j=i+(j+1) from ad];simpa using this⟩
theorem Si {a:ZC} {n:Nat} (h:W.cells? base a n=some cs):cs.length=n/\aG W.heap a 0 cs:=by
 unfold World.cells? at h;split at h
 ·have hl:cs.length=n:=by simpa using Lib.mapM_length h
  refine ⟨hl,iZ cs 0 fun j hj=>?_⟩;obtain ⟨b,hb,hf⟩:=Lib.mapM_at h j j (X4 ad);rw [WT hj] at hb;cases hb;rw [Xq,<- JB];exact hf
 ·cases h
theorem xM {α:Type} (Q:Nat->α->Prop):∀ n,(∀ i,i<n->∃ x,Q i x)->∃ l:List α,l.length=n/\∀ i (hi:i<l.length),Q i l[i]
 | 0,_=>⟨[],rfl,fun i hi=>by simp at hi⟩
 | n+1,h=>by
  obtain ⟨l,hl,hp⟩:=xM Q n (fun i hi=>h i ad);obtain ⟨x,hx⟩:=h n ad;refine ⟨l++[x],by simp [hl],fun i hi=>?_⟩
  by_cases hin:i<l.length
  ·rw [XK hin];exact hp i hin
  ·have hi':i=n:=by simp at hi; omega
   subst hi';rw [Yk ad];simpa using hx
theorem Mi {ds:List (DataW H)} {ks:List Nat} (hl:ds.length=ks.length) (h:∀ i,(hi:i<ks.length)->(hj:i<ds.length)->ks[i]=Rows.uptoBulk ds[i]):Rows.uptoBulkAll ds=ks.sum:=by
 induction ds generalizing ks with
 | nil =>
  cases ks with
  | nil=>rfl
  | cons k ks=>simp at hl
 | cons d ds ih =>
  cases ks with
  | nil=>simp at hl
  | cons k ks =>
   have h0:=h 0 aj aj;simp only [List.getElem_cons_zero] at h0
   have:=ih (ks:=ks) (by simpa using hl) (fun i hi hj=>h (i+1) (by simpa using hi) (by simpa using hj))
   unfold Rows.uptoBulkAll;rw [this,XW,h0]
structure B7 {α:Type} (Q:α->List ZB->Nat->Prop) (h:Hp) (sz:Nat) (p:Option ZC) (l c:Nat) (us:List α) (ks:List Nat):Prop where
 len:l=us.length
 AB:ks.length=us.length
 cells:∀ i,(hi:i<us.length)->(hk:i<ks.length)->∃ a cs,p=some a/\aG h (a.add (i*sz)) 0 cs/\Q us[i] cs ks[i]
 cap:l<=c
 U6:c<=maxLen
 nil:p=none->c=0
theorem open_slice {α:Type} {e:TypeId} {sz:Nat} (hu:P.underlying t=some (.slice e)) (hc:P.cellsOf e=sz) (Q:α->List ZB->Nat->Prop)
  (hel:∀ (cs:List ZB) (y:DataW H × List MemPlace) (n:Nat),DataW.trod enc P W base sp held n e cs=some y->∃ x:α,Q x cs (Rows.uptoBulk y.1))
  (h:DataW.trod enc P W base sp held fuel t cs=some y) :
  ∃ (p:Option ZC) (l c:Nat) (us:List α) (ks:List Nat),cs=[.slice p l c]/\B7 Q W.heap sz p l c us ks/\ks.sum+1<=Rows.uptoBulk y.1:=by
 rcases DataW.trod_slice hu h with ⟨e0,hy0⟩ | ⟨a,len,cap,elems,rest,n,_,e0,hy0,hbase,hlc,hcm,hlen,hev,_,_⟩
 ·refine ⟨none,0,0,[],[],e0,⟨rfl,rfl,fun i hi=>by simp at hi,W9 _,YK _,fun _=>rfl⟩,?_⟩;rw [hy0];simp only [Rows.uptoBulk];decide
 ·have each:∀ i,i<len->∃ x:α × Nat,∃ cs',aG W.heap (a.add (i*sz)) 0 cs'/\Q x.1 cs' x.2/\∃ y,elems[i]?=some y/\x.2=Rows.uptoBulk y.1:=by
   intro i hi;have he:=hev i hi;cases hy:elems[i]? with
   | none=>rw [List.getElem?_eq_none_iff] at hy; omega
   | some y =>
    rw [hy,hc] at he;simp only [Option.bind_eq_some_iff] at he;obtain ⟨cs',hcs,htr⟩:=he;obtain ⟨hl,gU⟩:=Si hcs;obtain ⟨x,hx⟩:=hel _ _ _ htr;exact ⟨(x,Rows.uptoBulk y.1),cs',gU,hx,y,rfl,rfl⟩
  obtain ⟨xs,hxl,hxs⟩:=xM _ len each;refine ⟨some a,len,cap,xs.map (·.1),xs.map (·.2),e0,⟨by rw [WQ,hxl],by rw [WQ,WQ],fun i hi hk=>?_,hlc,hcm,fun h=>by cases h⟩,?_⟩
  ·rw [WQ] at hi;obtain ⟨cs',h1,h2,_⟩:=hxs i hi;rw [WY,WY];exact ⟨a,cs',rfl,h1,h2⟩
  ·have:=Mi (ds:=elems.map (·.1)) (ks:=xs.map (·.2)) (by rw [WQ,WQ,hlen,hxl]) (fun i hi hj=>by
    rw [WQ] at hi hj;obtain ⟨cs',_,_,y,hy,hk⟩:=hxs i hi;rw [WT hj] at hy;rw [WY,WY,hk,Xc hy])
   rw [hy0];simp only [Rows.uptoBulk];rw [this];omega
end
theorem MQ {P:Program} {f:FuncId} {args:Array ZB} {W:World} {R:ZB->Hp->Prop} (h:HC P f args W.heap R) (he:∀ v h',R v h'->Ext W.heap h'):Calls P f args W fun e w'=>∃ v,e=.returned v/\Below W.heap.size W w'/\R v w'.heap:=by
 refine (h W rfl).mono fun e w' ⟨v,hv,hs,hr⟩=>⟨v,hv,⟨hs.os,hs.tape,hs.output,(he v _ hr).size,fun k hk=>(he v _ hr).same k hk aj⟩,hr⟩
theorem GG {W W':World} (hB:Below W.heap.size W W') {p:MemPlace} (hp:p.block<W.heap.size):W.sameAt W' p:=by
 cases p with
 | cell b off =>
  show W'.cell? _=W.cell? _;unfold World.cell?;rw [hB.block b hp]
 | map b=>exact hB.block b hp
theorem Vw:ownKnob Tryz.prog.godebug=none:=ax
theorem u9:Tryz.prog.underlying 9=some .string:=ax
theorem u4:Tryz.prog.underlying 4=some .bool:=ax
theorem u3:Tryz.prog.underlying 3=some (.int .i64):=ax
theorem u5:Tryz.prog.underlying 5=some (.int .u8):=ax
theorem VH:Tryz.prog.underlying 193=some (.array 43 165):=ax
theorem UE:Tryz.prog.cellsOf 165=3:=ax
theorem V8:Tryz.prog.cellsOf 193=129:=ax
theorem c9:Tryz.prog.cellsOf 9=1:=ax
theorem c5:Tryz.prog.cellsOf 5=1:=ax
theorem c3:Tryz.prog.cellsOf 3=1:=ax
theorem V7:uU Tryz.prog 165=some [(9,0),(5,1),(3,2)]:=ax
def C8:List (DataW Unit):=match (Rows.laid_spandrel_isa_table:DataW Unit) with | .agg l=>l | _=>[]
def MG:DataW Unit->Int
 | .agg [_,_,.lit (.int _ n)]=>n
 | _=>0
theorem OI:(Rows.laid_spandrel_isa_table:DataW Unit)=.agg C8:=ax
theorem Mx:C8.map MG=(List.range 43).map fun k=>((nu.getD k 0:Nat):Int):=ax
theorem En {α β:Type} (f:α->List β) (m:Nat) (hf:∀ x,(f x).length=m):∀ l:List α,(l.flatMap f).length=l.length*m
 | []=>aj
 | x::l=>by rw [XH,WU,hf,En f m hf l,XL,Nat.succ_mul,Nat.add_comm]
theorem CI (nm:Nat->ZA) (by_:Nat->Int):(lE nm by_).length=129:=by
 unfold lE;rw [En _ 3 (fun x=>rfl),Yh]
def RN:DataW Unit->List UInt8
 | .agg [.lit (.string s),_,_]=>s
 | _=>[]
def TC:DataW Unit->Int
 | .agg [_,.lit (.int _ n),_]=>n
 | _=>0
theorem Oy:C8.map RN=(List.range 43).map fun k=>VJ k:=ax
theorem PS:C8.map TC=(List.range 43).map fun k=>uN k:=ax
theorem BP {enc:TypeId × ZB->Unit} {W:World} {base fuel:Nat} {sp:Nat->Bool} {held:Bool} {cs:List ZB} {p:List MemPlace}
  (h:DataW.trod enc Tryz.prog W base sp held fuel 193 cs=some (Rows.laid_spandrel_isa_table,p)):cs=lE um uN:=by
 obtain ⟨xs,m,_,hx,hl,hlen,hf⟩:=DataW.trod_array VH h;rw [V8] at hl;have hxs:xs.map (·.1)=C8:=by
  have:=Xa Prod.fst hx
  rw [show (Rows.laid_spandrel_isa_table,p).1=DataW.agg C8 from OI] at this;simpa using this.symm
 have each:∀ i,i<43->(cs.drop (i*3)).take 3=[.string (um i),.int .u8 (uN i),.int .i64 ((nu.getD i 0:Nat):Int)]:=by
  intro i hi;have h1:=hf i hi;rw [UE] at h1;rw [WT ad] at h1;obtain ⟨ys,n,hy,hyl,hyn,hys⟩:=fE V7 h1;obtain ⟨y0,g0,t0⟩:=hys 0 _ rfl;obtain ⟨y1,g1,t1⟩:=hys 1 _ rfl;obtain ⟨y2,g2,t2⟩:=hys 2 _ rfl;rw [UE] at hyl;generalize hc:(cs.drop (i*3)).take 3=c at *
  match c,hyl with
  | [v0,v1,v2],_ =>
   rw [show Tryz.prog.cellsOf (9,0).1=1 from c9] at t0;rw [show Tryz.prog.cellsOf (5,1).1=1 from c5] at t1;rw [show Tryz.prog.cellsOf (3,2).1=1 from c3] at t2;obtain ⟨s,e0,r0,_⟩:=DataW.trod_string u9 t0;obtain ⟨b,e1,r1,_⟩:=DataW.trod_int u5 t1;obtain ⟨k,e2,r2,_⟩:=DataW.trod_int u3 t2;cases e0; cases e1; cases e2;have hys3:ys=[y0,y1,y2]:=by
    apply X7;intro j
    match j with
    | 0=>exact g0
    | 1=>exact g1
    | 2=>exact g2
    | j+3=>rw [Xs (by rw [hyn]; simp),Xs aj]
   have h2:(xs.map (·.1))[i]?=some (xs[i]'ad).1:=by rw [XB,WT ad]; rfl
   rw [hxs] at h2;have hk:k=((nu.getD i 0:Nat):Int):=by
    have h3:(C8.map MG)[i]?=some (MG (xs[i]'ad).1):=by rw [XB,h2]; rfl
    rw [Mx,XB,X4 hi] at h3;rw [hy,hys3,r0,r1,r2] at h3;exact (Xc h3).symm
   have hb:b=uN i:=by
    have h3:(C8.map TC)[i]?=some (TC (xs[i]'ad).1):=by rw [XB,h2]; rfl
    rw [PS,XB,X4 hi] at h3;rw [hy,hys3,r0,r1,r2] at h3;exact (Xc h3).symm
   have hs:s=um i:=by
    have h3:(C8.map RN)[i]?=some (RN (xs[i]'ad).1):=by rw [XB,h2]; rfl
    rw [Oy,XB,X4 hi] at h3;rw [hy,hys3,r0,r1,r2] at h3;exact C0 (Xc h3).symm
   rw [hk,hb,hs]
 apply X7;intro j
 by_cases hj:j<129
 ·obtain ⟨a,b,hab,hb⟩:∃ a b,j=a*3+b/\b<3:=⟨j / 3,j % 3,ad,ad⟩
  subst hab;unfold lE;rw [ue (fun k=>[Value.string (um k),.int .u8 (uN k),.int .i64 (nu.getD k 0:Nat)]) 3 (fun x=>rfl) _ a b hb,X4 ad];show cs[a*3+b]?=[Value.string (um a),.int .u8 (uN a),.int .i64 ((nu.getD a 0:Nat):Int)][b]?
  have:=each a ad
  rw [<- this,Yv,W2 hb,Ym]
 ·have hr:(lE um uN).length=129:=CI _ _;rw [Xs ad,Xs ad]
theorem Cs {P:Program} {W:World} {name:String} {g:Nat} {cs:Array ZB} (hg:P.globalNamed name=some g) (hv:W.var? P name=some cs):∃ e f,W.heap[g]?=some (.cells cs e f):=by
 unfold World.var? at hv;rw [hg] at hv;have hv:(match (W.heap[g]?:Option Obj) with | some (.cells cs _ _)=>some cs | _=>none)=some cs:=hv;split at hv
 ·rename_i cs' e f hh;cases hv;exact ⟨e,f,hh⟩
 ·cases hv
theorem HX {W:World} (h:laidMetH Tryz.prog Rows.linkNumbersRow.laid W):An W.heap/\Go.Sx.fZ W.heap:=by
 rw [MakeChecks.laidMetH_plain _ _ _ ax] at h;obtain ⟨ps,⟨g0,t0,cs0,f0,p0,q0,hg0,ht0,hv0,hd0,⟨g1,t1,cs1,f1,p1,q1,hg1,ht1,hv1,hd1,⟨g2,t2,cs2,f2,p2,q2,hg2,ht2,hv2,hd2,⟨g3,t3,cs3,f3,p3,q3,hg3,ht3,hv3,hd3,_,_⟩,_⟩,_⟩,_⟩,_,_⟩:=h;obtain rfl:=Xc ((show Tryz.prog.globalNamed _=some 1 from ax).symm.trans hg2);obtain rfl:=Xc ((show Tryz.prog.globalNamed _=some 0 from ax).symm.trans hg3);have h2:(Tryz.prog.globals[1]?).map (·.type)=some 228:=ax
 obtain rfl:=Xc (h2.symm.trans ht2);have h3:(Tryz.prog.globals[0]?).map (·.type)=some 193:=ax
 obtain rfl:=Xc (h3.symm.trans ht3);have hc:=Lib.cells_of_tab (n:=20) (e:=207) (k:=.u64) (zs:=Lib.pow10Tab) ax ax ax ax hd2;have hr:=BP hd3;obtain ⟨e2,ff2,ho2⟩:=Cs hg2 hv2;obtain ⟨e3,ff3,ho3⟩:=Cs hg3 hv3;refine ⟨⟨um,uN,e3,ff3,?_⟩,⟨e2,ff2,?_⟩⟩
 ·rw [ho3,<- hr]
 ·rw [ho2,<- hc]
theorem NA (os:Os) (args:Array ZB):laidMetH Tryz.prog Rows.linkNumbersRow.laid ((World.doorLaid Tryz.prog 400 os).forCall (fun _ _=>0) ⟨#[],args,[]⟩).memory :=
 laidMetH_of_parts3 (fuel:=8) (laidMet_of_run' 8 ax ax) ax ax
theorem Uz:Kids Tryz.prog (·<Tryz.prog.types.size):=kids_rows ax ax
theorem sliceB:((List.range Tryz.prog.types.size).all fun t=>match Tryz.prog.underlying t with | some (.slice e)=>decide (0<Tryz.prog.cellsOf e) | _=>true)=true:=ax
theorem S5 {t e:TypeId} (ht:t<Tryz.prog.types.size) (hu:Tryz.prog.underlying t=some (.slice e)):0<Tryz.prog.cellsOf e:=by
 have:=Xn.1 sliceB t (Yo.2 ht)
 rw [hu] at this;exact WR this
theorem sE {H:Type} {enc:TypeId × ZB->H} {W W':World} {sp:Nat->Bool} (hB:Below W.heap.size W W'):∀ {ts:List TypeId} {vs:List ZB} {ds:List (DataW H)} {ps:List MemPlace},(∀ t∈ts,t<Tryz.prog.types.size) ->
  DataW.TrodAll enc Tryz.prog W 0 (fun _=>true) true ts vs ds ps->(∀ p∈ps,p.block<W.heap.size)->(∀ p∈ps,sp p.block=true)->DataW.TrodAll enc Tryz.prog W' 0 sp true ts vs ds ps
 | [],_,_,_,_,h,_,_=>by
  obtain ⟨rfl,rfl,rfl⟩:=trodAll_nil h;exact trodAll_mk0
 | t::ts,_,_,_,ht,h,hl,hs=>by
  obtain ⟨v,vs1,d,ds1,a,b,rfl,rfl,rfl,⟨n,h1⟩,h2⟩:=trodAll_cons h;exact ⟨a,b,⟨n,DataW.trod_stays Uz (fun h hu=>S5 h hu) (fun h=>by cases h) (ht t (Yn ..)) h1 (fun p hp=>GG hB (hl p (Xk _ hp))) (fun p hp=>hs p (Xk _ hp))⟩,
   sE hB (fun t h=>ht t (Xb _ h)) h2 (fun p hp=>hl p (Xr _ hp)) (fun p hp=>hs p (Xr _ hp)),rfl⟩
theorem Nw {H:Type} {enc:TypeId × ZB->H} {f:Func} {s:ChangeSpec} {apart fresh handsOn:Bool} {W W':World} {args:Array ZB} {v:ZB} {ds gs:List (DataW H)} {before:List MemPlace} (hv0:s.vars=[])
  (hW:DataW.Whole enc Tryz.prog f.params.toList s.vars apart W args.toList ds gs before)
  (hres:∀ (b:Nat) (sp:Nat->Bool) (hd:Bool),DataW.TrodAll enc Tryz.prog W' b sp hd f.resultTypes.toList (v.resultList f.resultTypes.size) (s.fn H (ds++gs)).results [])
  (hargs:(s.fn H (ds++gs)).args=ds) (dU:(s.fn H (ds++gs)).vars=[]) (hts:∀ t∈f.params.toList,t<Tryz.prog.types.size) (hB:Below W.heap.size W W') :
  s.post enc Tryz.prog f apart fresh handsOn false W args v W':=by
 have hlt:=hW.lt;have hW':=hW;obtain ⟨p,q,hA,hV,rfl,hz,hn⟩:=hW;rw [hv0] at hV;obtain ⟨rfl,rfl⟩:=trodVars_none hV;rw [XP] at hlt hW';refine ⟨ds,[],p,[],p,[],hW',hres _ _ _,?_,?_,hB.frame _,fun h=>by cases h⟩
 ·rw [hargs];exact sE hB hts hA hlt (fun p hp=>W1 (hlt p hp))
 ·rw [dU,hv0] <;> rfl
theorem LU {H:Type} {enc:TypeId × ZB->H} {a:Assume} {C:Checked} {os:Os} {f:FuncId} {fn:Func} {s:OpenSpec} {k:(H:Type)->List (DataW H)->Bool} (hk:s.cond=some k) {F:Stop.Interp} {conds:List PathCond} {apart fresh handsOn again:Bool} {X:World->Array ZB->Prop}
  (hX:∀ (w w':World) (args:Array ZB),w.heap=w'.heap->X w args->X w' args)
  (own:ownKnob C.prog.godebug=none) (started:os.Started) (noInit:C.prog.inits.idxOf? f=none) (hfn:C.prog.funcs[f]?=some fn)
  (witness:∃ (w:World) (tape:Tape) (i:Input),w.os=os/\(w.forCall tape i).Shaped C.prog/\i.vars=[]/\Input.okWide C.prog (w.forCall tape i) .any w.heap.size f i /\
   ((s.pre enc C.prog fn conds apart (w.forCall tape i).memory i.args/\X (w.forCall tape i).memory i.args)/\sizedMet enc C.prog fn s apart (w.forCall tape i).memory i.args)/\a.holds C.prog (lone (Frame.enter C.prog f i.args .normal) [] (w.forCall tape i)))
  (contract:∀ (W:World) (base:Nat) (args:Array ZB) (ds gs:List (DataW H)) (before:List MemPlace),
   (∀ (j:Nat) t v,fn.params[j]?=some t->args[j]?=some v->Value.okWide C.prog W .any base t v) ->
   DataW.Whole enc C.prog fn.params.toList s.vars apart W args.toList ds gs before->k H (ds++gs)=true->X W args ->
   Calls C.prog f args W fun e W'=>∃ v,e=.returned v/\(s.at F).post enc C.prog fn apart fresh handsOn again W args v W') :
  ReturnsInHanded a C os f .any (fun w args=>(s.pre enc C.prog fn conds apart w args/\X w args)/\sizedMet enc C.prog fn s apart w args) ((s.at F).post enc C.prog fn apart fresh handsOn again):=by
 refine returnsInHanded_of_calls own started noInit witness ?_;intro w tape i _ _ _ hok hpre hholds;obtain ⟨_,_,_,fn',hfn',_,_,_,_,hval⟩:=hok;have e:fn'=fn:=Xc (hfn'.symm.trans hfn);subst e;obtain ⟨⟨hp,hx⟩,hz⟩:=hpre;obtain ⟨ds,gs,before,hw,hc,hkk⟩:=(OpenSpec.pre_some hk conds apart _ _).1 hp;have hw':=DataW.Whole.of_heap (w':=w.forCall tape i) (by rfl) hw;refine (contract (w.forCall tape i) w.heap.size i.args ds gs before hval hw' hkk (hX _ _ _ (by rfl) hx)).mono fun e W' ⟨v,he,hp⟩=>?_
 subst he;exact ChangeSpec.post_blind hp
theorem F7 {H:Type} {enc:TypeId × ZB->H} {C:Checked} {os:Os} {f:FuncId} {fn:Func} {s:OpenSpec} {k:(H:Type)->List (DataW H)->Bool} (hk:s.cond=some k) {apart:Bool} {X:World->Array ZB->Prop} (w0:World) (args:Array ZB) (fuel:Nat) (hos:w0.os=os)
  (hsh:(w0.forCall (fun _ _=>0) ⟨#[],args,[]⟩).Shaped C.prog)
  (hok:Input.okWideB C.prog (w0.forCall (fun _ _=>0) ⟨#[],args,[]⟩) f ⟨#[],args,[]⟩=true)
  {x:List (DataW H) × List (DataW H) × List MemPlace} (hx:DataW.whole enc C.prog (w0.forCall (fun _ _=>0) ⟨#[],args,[]⟩).memory fn.params.toList s.vars apart args.toList fuel=some x) (hkk:k H (x.1++x.2.1)=true)
  (hsz:s.bare.sizedB enc C.prog fn apart (w0.forCall (fun _ _=>0) ⟨#[],args,[]⟩).memory args fuel=true)
  (hX:X (w0.forCall (fun _ _=>0) ⟨#[],args,[]⟩).memory args) :
  ∃ (w:World) (tape:Tape) (i:Input),w.os=os/\(w.forCall tape i).Shaped C.prog/\i.vars=[]/\Input.okWide C.prog (w.forCall tape i) .any w.heap.size f i /\
   ((s.pre enc C.prog fn [] apart (w.forCall tape i).memory i.args/\X (w.forCall tape i).memory i.args)/\sizedMet enc C.prog fn s apart (w.forCall tape i).memory i.args)/\({}:Assume).holds C.prog (lone (Frame.enter C.prog f i.args .normal) [] (w.forCall tape i)) :=
 ⟨w0,fun _ _=>0,⟨#[],args,[]⟩,hos,hsh,(Input.okWide_of_okWideB (base:=0) hok).1,(Input.okWide_of_okWideB hok).2,
  ⟨⟨(OpenSpec.pre_some hk [] apart _ _).2 ⟨x.1,x.2.1,x.2.2,DataW.Whole_of_whole hx,rfl,hkk⟩,hX⟩,sizedMet_of_sizedB hsz⟩,by
  simp only [Assume.holds];exact ⟨aj,aj,aj,aj,aj⟩⟩
structure wj (x:bX):Prop where
 DV:∀ t,t∈x.ai->t.2<4294967296
 num:x.num<4294967296
structure Sr (u:bJ):Prop where
 text:∀ x,x∈u.text->wj x.e
 data:∀ x,x∈u.data->wj x.e
 aY:∀ x,x∈u.aY->wj x.2
theorem Wa:Tryz.prog.underlying 58=some (.int .u32):=ax
theorem WN:Tryz.prog.underlying 21=some (.int .i32):=ax
theorem WL:Tryz.prog.underlying 57=some (.slice 66):=ax
theorem Wi:Tryz.prog.cellsOf 66=2:=ax
theorem V0:Tryz.prog.cellsOf 60=2:=ax
theorem WJ:Tryz.prog.cellsOf 57=1:=ax
theorem Wm:Tryz.prog.cellsOf 58=1:=ax
theorem WK:Tryz.prog.cellsOf 21=1:=ax
theorem Wq:Tryz.prog.cellsOf 62=5:=ax
theorem VG:Tryz.prog.cellsOf 64=10:=ax
theorem Wl:Tryz.prog.cellsOf 88=3:=ax
theorem Wb:Tryz.prog.cellsOf 26=1:=ax
theorem WB:Tryz.prog.cellsOf 27=1:=ax
theorem VA:Tryz.prog.cellsOf 28=1:=ax
theorem Wo:Tryz.prog.cellsOf 30=4:=ax
theorem Vt:uU Tryz.prog 66=some [(9,0),(58,1)]:=ax
theorem Wu:uU Tryz.prog 60=some [(57,0),(58,1)]:=ax
theorem WM:uU Tryz.prog 62=some [(3,0),(3,1),(3,2),(21,3),(3,4)]:=ax
theorem VB:uU Tryz.prog 64=some [(3,0),(9,1),(62,2),(60,7),(3,9)]:=ax
theorem Vg:uU Tryz.prog 88=some [(9,0),(60,1)]:=ax
theorem Vp:uU Tryz.prog 30=some [(26,0),(26,1),(27,2),(28,3)]:=ax
section
variable {H:Type} {enc:TypeId × ZB->H} {W:World} {base n:Nat} {sp:Nat->Bool} {held:Bool} {cs:List ZB} {y:DataW H × List MemPlace}
theorem M8 {α:Type} {ys:List α} {a b:α} (hl:ys.length=2) (h0:ys[0]?=some a) (h1:ys[1]?=some b):ys=[a,b]:=by
 match ys,hl with
 | [x,y],_ =>
  simp only [List.getElem?_cons_zero,List.getElem?_cons_succ,Option.some.injEq] at h0 h1;subst h0 h1;rfl
def QT (t:ZA × Nat) (cs:List ZB) (k:Nat):Prop:=cs=cR t/\t.1.size<=maxLen/\t.2<4294967296/\k=t.1.size+3
theorem Kd (h:DataW.trod enc Tryz.prog W base sp held n 66 cs=some y):∃ t,QT t cs (Rows.uptoBulk y.1):=by
 obtain ⟨ys,m,hy,hl,hyn,hys⟩:=fE Vt h;obtain ⟨y0,g0,t0⟩:=hys 0 _ rfl;obtain ⟨y1,g1,t1⟩:=hys 1 _ rfl;have hys2:=M8 hyn g0 g1;rw [Wi] at hl
 match cs,hl with
 | [v,u],_ =>
  rw [show Tryz.prog.cellsOf (9,0).1=1 from c9] at t0;rw [show Tryz.prog.cellsOf (58,1).1=1 from Wm] at t1;obtain ⟨s,e0,r0,hs⟩:=DataW.trod_string u9 t0;obtain ⟨k,e1,r1,hk⟩:=DataW.trod_int Wa t1;have hb:=bounds_u32 hk;cases e0; cases e1;refine ⟨(s,k.toNat),?_,hs,by show k.toNat<_; omega,?_⟩
  ·unfold cR;simp only [List.cons.injEq,Value.int.injEq,true_and,and_true];omega
  ·rw [hy,hys2,r0,r1];simp only [List.map_cons,List.map_nil,Rows.uptoBulk,Rows.uptoBulkAll];rw [XT];show s.data.size+1+(1+0)+1=s.data.size+3;omega
structure KP (h:Hp) (p:Option ZC) (l c:Nat) (x:bX) (k:Nat):Prop where
 vw:gn h p l x.ai
 names:∀ t,t∈x.ai->t.1.size<=maxLen
 num:wj x
 many:3*x.ai.length<=k
 size:(kU x).length<=2*k
 cap:l<=c
theorem zz:∀ (ts:cU) (ks:List Nat),ks.length=ts.length->(∀ i,(hi:i<ts.length)->(hk:i<ks.length)->ks[i]=ts[i].1.size+3)->(ts.flatMap EU).length=2*ks.sum-(ts.map (·.1.size)).sum/\(ts.map (·.1.size)).sum+3*ts.length=ks.sum
 | [],ks,hl,_=>by
  have:ks=[]:=Yr.1 hl
  subst this
  simp
 | t::ts,[],hl,_=>by simp at hl
 | t::ts,k::ks,hl,h=>by
  have h0:=h 0 aj aj;simp only [List.getElem_cons_zero] at h0;obtain ⟨i1,i2⟩:=zz ts ks (by simpa using hl) (fun i hi hk=>h (i+1) (by simpa using hi) (by simpa using hk));have hw:(EU t).length=t.1.size+6:=by
   unfold EU iK;simp only [List.length_append,dk]
   have:t.1.data.toList.length=t.1.size:=aj
   omega
  rw [XH,WU,XW,Xy,XW,XL,hw,i1];omega
theorem DJ (h:DataW.trod enc Tryz.prog W base sp held n 60 cs=some y) :
  ∃ p l c x,cs=[.slice p l c,.int .u32 ((x:bX).num:Int)]/\KP W.heap p l c x (Rows.uptoBulk y.1):=by
 obtain ⟨ys,m,hy,hl,hyn,hys⟩:=fE Wu h;obtain ⟨y0,g0,t0⟩:=hys 0 _ rfl;obtain ⟨y1,g1,t1⟩:=hys 1 _ rfl;have hys2:=M8 hyn g0 g1;rw [V0] at hl
 match cs,hl with
 | [v,u],_ =>
  rw [show Tryz.prog.cellsOf (57,0).1=1 from WJ] at t0;rw [show Tryz.prog.cellsOf (58,1).1=1 from Wm] at t1;obtain ⟨p,l,c,us,ks,e0,ls,hsum⟩:=open_slice WL Wi QT (fun cs y n h=>Kd h) t0;obtain ⟨k,e1,r1,hk⟩:=DataW.trod_int Wa t1;have hb:=bounds_u32 hk;cases e0; cases e1;have hkk:((k.toNat:Nat):Int)=k:=ad
  have hbulk:Rows.uptoBulk y.1=Rows.uptoBulk y0.1+2:=by
   rw [hy,hys2,r1];simp only [List.map_cons,List.map_nil,Rows.uptoBulk,Rows.uptoBulkAll]
  have hq:∀ i,(hi:i<us.length)->(hk:i<ks.length)->us[i].1.size<=maxLen/\us[i].2<4294967296/\ks[i]=us[i].1.size+3:=by
   intro i hi hk;obtain ⟨a,cs,_,_,_,q2,q3,q4⟩:=ls.cells i hi hk;exact ⟨q2,q3,q4⟩
  have hkl:=ls.AB;obtain ⟨w1,w2⟩:=zz us ks hkl (fun i hi hk=>(hq i hi hk).2.2);refine ⟨p,l,c,⟨us,k.toNat⟩,by rw [show ((⟨us,k.toNat⟩:bX).num:Int)=k from hkk],⟨ls.len,fun i hi=>?_⟩,?_,⟨?_,by show k.toNat<_; omega⟩,?_,?_,ls.cap⟩
  ·have hi:i<us.length:=hi;obtain ⟨a,cs,ha,hc,q1,_⟩:=ls.cells i hi ad;rw [q1] at hc;exact ⟨a,ha,hc⟩
  ·intro t (ht:t∈us);obtain ⟨i,hi,rfl⟩:=Xg ht;exact (hq i hi ad).1
  ·intro t (ht:t∈us);obtain ⟨i,hi,rfl⟩:=Xg ht;exact (hq i hi ad).2.1
  ·show 3*us.length<=_;omega
  ·show (tA us.length 2++(us.flatMap EU++tA k.toNat 4)).length<=_;rw [WU,WU,dk,dk,w1];omega
theorem Rw {α:Type} {ys:List α} {a b c d e:α} (hl:ys.length=5) (h0:ys[0]?=some a) (h1:ys[1]?=some b) (h2:ys[2]?=some c) (h3:ys[3]?=some d) (h4:ys[4]?=some e):ys=[a,b,c,d,e]:=by
 match ys,hl with
 | [x0,x1,x2,x3,x4],_ =>
  simp only [List.getElem?_cons_zero,List.getElem?_cons_succ,Option.some.injEq] at h0 h1 h2 h3 h4;subst h0 h1 h2 h3 h4;rfl
theorem Ur {α:Type} {ys:List α} {a b c d:α} (hl:ys.length=4) (h0:ys[0]?=some a) (h1:ys[1]?=some b) (h2:ys[2]?=some c) (h3:ys[3]?=some d):ys=[a,b,c,d]:=by
 match ys,hl with
 | [x0,x1,x2,x3],_ =>
  simp only [List.getElem?_cons_zero,List.getElem?_cons_succ,Option.some.injEq] at h0 h1 h2 h3;subst h0 h1 h2 h3;rfl
theorem ML (h:DataW.trod enc Tryz.prog W base sp held n 62 cs=some y):∃ i:Ins,cs=nU i/\Sm i.op/\Rows.uptoBulk y.1=6:=by
 obtain ⟨ys,m,hy,hl,hyn,hys⟩:=fE WM h;obtain ⟨y0,g0,t0⟩:=hys 0 _ rfl;obtain ⟨y1,g1,t1⟩:=hys 1 _ rfl;obtain ⟨y2,g2,t2⟩:=hys 2 _ rfl;obtain ⟨y3,g3,t3⟩:=hys 3 _ rfl;obtain ⟨y4,g4,t4⟩:=hys 4 _ rfl;have hys5:=Rw hyn g0 g1 g2 g3 g4;rw [Wq] at hl
 match cs,hl with
 | [v0,v1,v2,v3,v4],_ =>
  rw [show Tryz.prog.cellsOf (3,0).1=1 from c3] at t0;rw [show Tryz.prog.cellsOf (3,1).1=1 from c3] at t1;rw [show Tryz.prog.cellsOf (3,2).1=1 from c3] at t2;rw [show Tryz.prog.cellsOf (21,3).1=1 from WK] at t3;rw [show Tryz.prog.cellsOf (3,4).1=1 from c3] at t4;obtain ⟨k0,e0,r0,w0⟩:=DataW.trod_int u3 t0;obtain ⟨k1,e1,r1,w1⟩:=DataW.trod_int u3 t1;obtain ⟨k2,e2,r2,w2⟩:=DataW.trod_int u3 t2;obtain ⟨k3,e3,r3,w3⟩:=DataW.trod_int WN t3;obtain ⟨k4,e4,r4,w4⟩:=DataW.trod_int u3 t4;cases e0; cases e1; cases e2; cases e3; cases e4;refine ⟨⟨k0,k1,k2,k3,k4⟩,rfl,bounds_i64 w0,?_⟩;rw [hy,hys5,r0,r1,r2,r3,r4];simp only [List.map_cons,List.map_nil,Rows.uptoBulk,Rows.uptoBulkAll]
def QI (h:Hp) (x:cB) (cs:List ZB) (k:Nat):Prop:=∃ p l c b,cs=encI p l c x/\KP h p l c x.e b/\x.name.size<=maxLen/\Sm x.inst.op/\k=x.name.size+b+10
theorem A5 (h:DataW.trod enc Tryz.prog W base sp held n 64 cs=some y):∃ x,QI W.heap x cs (Rows.uptoBulk y.1):=by
 obtain ⟨ys,m,hy,hl,hyn,hys⟩:=fE VB h;obtain ⟨y0,g0,t0⟩:=hys 0 _ rfl;obtain ⟨y1,g1,t1⟩:=hys 1 _ rfl;obtain ⟨y2,g2,t2⟩:=hys 2 _ rfl;obtain ⟨y3,g3,t3⟩:=hys 3 _ rfl;obtain ⟨y4,g4,t4⟩:=hys 4 _ rfl;have hys5:=Rw hyn g0 g1 g2 g3 g4;rw [VG] at hl
 match cs,hl with
 | [v0,v1,v2,v3,v4,v5,v6,v7,v8,v9],_ =>
  rw [show Tryz.prog.cellsOf (3,0).1=1 from c3] at t0;rw [show Tryz.prog.cellsOf (9,1).1=1 from c9] at t1;rw [show Tryz.prog.cellsOf (62,2).1=5 from Wq] at t2;rw [show Tryz.prog.cellsOf (60,7).1=2 from V0] at t3;rw [show Tryz.prog.cellsOf (3,9).1=1 from c3] at t4;obtain ⟨k0,e0,r0,w0⟩:=DataW.trod_int u3 t0;obtain ⟨s,e1,r1,w1⟩:=DataW.trod_string u9 t1;obtain ⟨i,e2,w2,r2⟩:=ML t2;obtain ⟨p,l,c,x,e3,lk⟩:=DJ t3;obtain ⟨k4,e4,r4,w4⟩:=DataW.trod_int u3 t4;cases e0; cases e1; cases e2; cases e3; cases e4;refine ⟨⟨k0,s,i,x,k4⟩,p,l,c,_,rfl,lk,w1,w2,?_⟩;rw [hy,hys5,r0,r1,r4];simp only [List.map_cons,List.map_nil,Rows.uptoBulk,Rows.uptoBulkAll,r2];rw [XT];show 1+(s.data.size+1+(6+(Rows.uptoBulk y3.1+(1+0))))+1=s.data.size+Rows.uptoBulk y3.1+10;omega
def QE (h:Hp) (x:qi) (cs:List ZB) (k:Nat):Prop:=∃ p l c b,cs=SX p l c x/\KP h p l c x.2 b/\x.1.size<=maxLen/\k=x.1.size+b+2
theorem Nv (h:DataW.trod enc Tryz.prog W base sp held n 88 cs=some y):∃ x,QE W.heap x cs (Rows.uptoBulk y.1):=by
 obtain ⟨ys,m,hy,hl,hyn,hys⟩:=fE Vg h;obtain ⟨y0,g0,t0⟩:=hys 0 _ rfl;obtain ⟨y1,g1,t1⟩:=hys 1 _ rfl;have hys2:=M8 hyn g0 g1;rw [Wl] at hl
 match cs,hl with
 | [v0,v1,v2],_ =>
  rw [show Tryz.prog.cellsOf (9,0).1=1 from c9] at t0;rw [show Tryz.prog.cellsOf (60,1).1=2 from V0] at t1;obtain ⟨s,e1,r1,w1⟩:=DataW.trod_string u9 t0;obtain ⟨p,l,c,x,e3,lk⟩:=DJ t1;cases e1; cases e3;refine ⟨(s,x),p,l,c,_,rfl,lk,w1,?_⟩;rw [hy,hys2,r1];simp only [List.map_cons,List.map_nil,Rows.uptoBulk,Rows.uptoBulkAll];rw [XT];show (s.data.size+1+(Rows.uptoBulk y1.1+0))+1=s.data.size+Rows.uptoBulk y1.1+2;omega
def QS (x:ZA) (cs:List ZB) (k:Nat):Prop:=cs=[.string x]/\x.size<=maxLen/\k=x.size+1
theorem LL (h:DataW.trod enc Tryz.prog W base sp held n 9 cs=some y):∃ x,QS x cs (Rows.uptoBulk y.1):=by
 obtain ⟨s,e1,r1,w1⟩:=DataW.trod_string u9 h;refine ⟨s,e1,w1,?_⟩;rw [r1];simp only [Rows.uptoBulk];rw [XT] <;> rfl
theorem gz {α:Type} (f:α->Nat) (m:Nat):∀ (us:List α) (ks:List Nat),ks.length=us.length->(∀ i,(hi:i<us.length)->(hk:i<ks.length)->f us[i]<=m*ks[i])->(us.map f).sum<=m*ks.sum
 | [],ks,hl,_=>aj
 | u::us,[],hl,_=>by simp at hl
 | u::us,k::ks,hl,h=>by
  have h0:=h 0 aj aj;simp only [List.getElem_cons_zero] at h0;have ih:=gz f m us ks (by simpa using hl) (fun i hi hk=>h (i+1) (by simpa using hi) (by simpa using hk));rw [Xy,XW,XW,Nat.mul_add];omega
theorem NF {h:Hp} {x:cB} {cs:List ZB} {k:Nat} (q:QI h x cs k):(G6 x).length<=2*k:=by
 obtain ⟨p,l,c,b,_,lk,_,_,rfl⟩:=q;have h1:=lk.size;have ht:(iK x.name).length=x.name.size+2:=by
  unfold iK;rw [WU,dk]
  have:x.name.data.toList.length=x.name.size:=aj
  omega
 have hi:∀ (n:Int) (w:Nat),(CV n w).length=w:=fun n w=>by unfold CV; rw [dk]
 unfold G6;rw [WU,hi];split
 ·omega
 ·split
  ·rw [WU,WU,WU,WU,hi,hi,hi,hi];split
   ·omega
   ·simp
    omega
  ·split
   ·rw [hi]; omega
   ·split
    ·omega
    ·split
     ·rw [hi]; omega
     ·simp
      omega
theorem Km {h:Hp} {x:qi} {cs:List ZB} {k:Nat} (q:QE h x cs k):(Mg x).length<=2*k:=by
 obtain ⟨p,l,c,b,_,lk,_,rfl⟩:=q;have h1:=lk.size;unfold Mg iK;rw [WU,WU,dk]
 have:x.1.data.toList.length=x.1.size:=aj
 omega
theorem Jg {x:ZA} {cs:List ZB} {k:Nat} (q:QS x cs k):(iK x).length<=2*k:=by
 obtain ⟨_,_,rfl⟩:=q;unfold iK;rw [WU,dk]
 have:x.data.toList.length=x.size:=aj
 omega
theorem F0 {α:Type} (f:α->Bt) (us:List α):(us.flatMap f).length=(us.map fun u=>(f u).length).sum:=by rw [Yz]
end
theorem rq:∀ (ks:List Nat) (i:Nat) (h:i<ks.length),ks[i]<=ks.sum
 | k::ks,0,_=>aj
 | k::ks,i+1,h=>by
  have:=rq ks i (by simpa using h)
  simp only [List.getElem_cons_succ,List.sum_cons];omega
theorem jz {α:Type}:∀ us:List α,(us.map fun _=>1).sum=us.length
 | []=>rfl
 | u::us=>by rw [Xy,XW,jz us,XL,Nat.add_comm]
theorem vz {α:Type} {P:α->Prop} {us:List α} (h:∀ i,(hi:i<us.length)->P us[i]):∀ x,x∈us->P x:=fun x hx=>by
 obtain ⟨i,hi,rfl⟩:=Xg hx;exact h i hi
theorem KP.at {h:Hp} {p:Option ZC} {l c:Nat} {x:bX} {k:Nat} (q:KP h p l c x k) (hk:k<=2^60):nB h p l x:=⟨q.vw,by have:=q.many; omega,q.names⟩
theorem Hq {h:Hp} {p:Option ZC} {l c:Nat} {us:List cB} {ks:List Nat} (s:B7 (QI h) h 10 p l c us ks) (hs:ks.sum<=2^58):CD h p l us/\(∀ x,x∈us->wj x.e)/\(us.flatMap G6).length<=2*ks.sum:=by
 have hl:=s.AB;have q:∀ i,(hi:i<us.length)->∃ a cs,p=some a/\aG h (a.add (i*10)) 0 cs/\QI h us[i] cs ks[i]:=fun i hi=>s.cells i hi ad
 have one:∀ i,(hi:i<us.length)->1<=1*ks[i]:=fun i hi=>by
  obtain ⟨_,_,_,_,_,_,_,_,_,_,_,_,hk⟩:=q i hi;omega
 have hm:us.length<=ks.sum:=by
  have:=gz (fun _=>1) 1 us ks hl (fun i hi hk=>one i hi)
  rw [jz] at this;omega
 refine ⟨⟨s.len,ad,fun i hi=>?_⟩,vz fun i hi=>?_,?_⟩
 ·obtain ⟨a,cs,ha,hc,p',l',c',b,rfl,lk,hn,ho,hk⟩:=q i hi
  have:=rq ks i ad
  exact ⟨a,p',l',c',ha,hc,lk.at ad,hn,ho⟩
 ·obtain ⟨a,cs,ha,hc,p',l',c',b,rfl,lk,hn,ho,hk⟩:=q i hi;exact lk.num
 ·rw [F0];refine gz _ 2 us ks hl (fun i hi hk=>?_);obtain ⟨a,cs,ha,hc,hq⟩:=q i hi;exact NF hq
theorem QB {h:Hp} {p:Option ZC} {l c:Nat} {us:List qi} {ks:List Nat} (s:B7 (QE h) h 3 p l c us ks) (hs:ks.sum<=2^58):tH h p l us/\(∀ x,x∈us->wj x.2)/\(us.flatMap Mg).length<=2*ks.sum:=by
 have hl:=s.AB;have q:∀ i,(hi:i<us.length)->∃ a cs,p=some a/\aG h (a.add (i*3)) 0 cs/\QE h us[i] cs ks[i]:=fun i hi=>s.cells i hi ad
 have one:∀ i,(hi:i<us.length)->1<=1*ks[i]:=fun i hi=>by
  obtain ⟨_,_,_,_,_,_,_,_,_,_,_,hk⟩:=q i hi;omega
 have hm:us.length<=ks.sum:=by
  have:=gz (fun _=>1) 1 us ks hl (fun i hi hk=>one i hi)
  rw [jz] at this;omega
 refine ⟨⟨s.len,ad,fun i hi=>?_⟩,vz fun i hi=>?_,?_⟩
 ·obtain ⟨a,cs,ha,hc,p',l',c',b,rfl,lk,hn,hk⟩:=q i hi
  have:=rq ks i ad
  exact ⟨a,p',l',c',ha,hc,lk.at ad,hn⟩
 ·obtain ⟨a,cs,ha,hc,p',l',c',b,rfl,lk,hn,hk⟩:=q i hi;exact lk.num
 ·rw [F0];refine gz _ 2 us ks hl (fun i hi hk=>?_);obtain ⟨a,cs,ha,hc,hq⟩:=q i hi;exact Km hq
theorem Pu {h:Hp} {p:Option ZC} {l c:Nat} {us:List ZA} {ks:List Nat} (s:B7 QS h 1 p l c us ks) (hs:ks.sum<=2^58):Uh h p l us/\(us.flatMap iK).length<=2*ks.sum:=by
 have hl:=s.AB;have q:∀ i,(hi:i<us.length)->∃ a cs,p=some a/\aG h (a.add (i*1)) 0 cs/\QS us[i] cs ks[i]:=fun i hi=>s.cells i hi ad
 have one:∀ i,(hi:i<us.length)->1<=1*ks[i]:=fun i hi=>by
  obtain ⟨_,_,_,_,_,_,hk⟩:=q i hi;omega
 have hm:us.length<=ks.sum:=by
  have:=gz (fun _=>1) 1 us ks hl (fun i hi hk=>one i hi)
  rw [jz] at this;omega
 refine ⟨⟨s.len,ad,fun i hi=>?_⟩,?_⟩
 ·obtain ⟨a,cs,ha,hc,rfl,hn,hk⟩:=q i hi;exact ⟨a,ha,hc,hn⟩
 ·rw [F0];refine gz _ 2 us ks hl (fun i hi hk=>?_);obtain ⟨a,cs,ha,hc,hq⟩:=q i hi;exact Jg hq
theorem vS {h:Hp} {p:Option ZC} {l c:Nat} {us:List cB} {ks:List Nat} (s:B7 (QI h) h 10 p l c us ks):(∀ x,x∈us->x.e.ai.length<=ks.sum)/\us.length<=ks.sum:=by
 have hl:=s.AB;have q:∀ i,(hi:i<us.length)->∃ a cs,p=some a/\aG h (a.add (i*10)) 0 cs/\QI h us[i] cs ks[i]:=fun i hi=>s.cells i hi ad
 refine ⟨vz fun i hi=>?_,?_⟩
 ·obtain ⟨a,cs,ha,hc,p',l',c',b,rfl,lk,hn,ho,hk⟩:=q i hi
  have:=rq ks i ad
  have:=lk.many
  omega
 ·have:=gz (fun _=>1) 1 us ks hl (fun i hi hk=>by
   obtain ⟨_,_,_,_,_,_,_,_,_,_,_,_,hk⟩:=q i hi;omega)
  rw [jz] at this;omega
theorem Tx {α:Type} (g:α->Nat):∀ us:List α,(us.map fun x=>3*g x).sum=3*(us.map g).sum
 | []=>rfl
 | u::us=>by rw [Xy,XW,Xy,XW,Tx g us,Nat.mul_add]
theorem Md {h:Hp} {p:Option ZC} {l c:Nat} {us:List cB} {ks:List Nat} (s:B7 (QI h) h 10 p l c us ks):(us.map fun x=>3*x.e.ai.length).sum<=ks.sum:=by
 have:=gz (fun x:cB=>3*x.e.ai.length) 1 us ks s.AB (fun i hi hk=>by
  obtain ⟨a,cs,ha,hc,p',l',c',b,_,lk,hn,ho,hk⟩:=s.cells i hi hk
  have:=lk.many
  omega)
 omega
theorem Sz {h:Hp} {p:Option ZC} {l c:Nat} {us:List qi} {ks:List Nat} (s:B7 (QE h) h 3 p l c us ks):(us.map fun x=>3*x.2.ai.length).sum<=ks.sum:=by
 have:=gz (fun x:qi=>3*x.2.ai.length) 1 us ks s.AB (fun i hi hk=>by
  obtain ⟨a,cs,ha,hc,p',l',c',b,_,lk,hn,hk⟩:=s.cells i hi hk
  have:=lk.many
  omega)
 omega
theorem GS {h:Hp} {p:Option ZC} {l c:Nat} {us:List qi} {ks:List Nat} (s:B7 (QE h) h 3 p l c us ks):(∀ x,x∈us->x.2.ai.length<=ks.sum)/\us.length<=ks.sum:=by
 have hl:=s.AB;have q:∀ i,(hi:i<us.length)->∃ a cs,p=some a/\aG h (a.add (i*3)) 0 cs/\QE h us[i] cs ks[i]:=fun i hi=>s.cells i hi ad
 refine ⟨vz fun i hi=>?_,?_⟩
 ·obtain ⟨a,cs,ha,hc,p',l',c',b,rfl,lk,hn,hk⟩:=q i hi
  have:=rq ks i ad
  have:=lk.many
  omega
 ·have:=gz (fun _=>1) 1 us ks hl (fun i hi hk=>by
   obtain ⟨_,_,_,_,_,_,_,_,_,_,_,hk⟩:=q i hi;omega)
  rw [jz] at this;omega
theorem Oe {h:Hp} {p:Option ZC} {l c:Nat} {us:List ZA} {ks:List Nat} (s:B7 QS h 1 p l c us ks):us.length<=ks.sum:=by
 have hl:=s.AB;have q:∀ i,(hi:i<us.length)->∃ a cs,p=some a/\aG h (a.add (i*1)) 0 cs/\QS us[i] cs ks[i]:=fun i hi=>s.cells i hi ad
 have:=gz (fun _=>1) 1 us ks hl (fun i hi hk=>by
  obtain ⟨_,_,_,_,_,_,hk⟩:=q i hi;omega)
 rw [jz] at this;omega
structure HT (h:Hp) (a b c d:cn) (u:bJ) (N:Nat):Prop where
 at_:nX h a b c d u
 num:Sr u
 size:(VM u).length<=2*N+13
 small:(∀ x,x∈u.text->x.e.ai.length<=N)/\(∀ x,x∈u.data->x.e.ai.length<=N)/\(∀ x,x∈u.aY->x.2.ai.length<=N)/\u.aP.length<=N/\u.text.length<=N/\u.data.length<=N/\u.aY.length<=N
 cap:a.l<=a.c
 TN:3*((Lk.cg u).flatMap (·.ai)).length<=N
 jg:u.text.length+u.data.length+u.aY.length+u.aP.length<=N
 pos:1<=N
theorem Sp {h:Hp} {a b c d:cn} {u:bJ} {N:Nat} (s:HT h a b c d u N):1<=N:=s.pos
section
variable {H:Type} {enc:TypeId × ZB->H} {W:World} {base n:Nat} {sp:Nat->Bool} {held:Bool} {cs:List ZB} {y:DataW H × List MemPlace}
theorem xX (h:DataW.trod enc Tryz.prog W base sp held n 30 cs=some y) (hN:Rows.uptoBulk y.1<=2^50):∃ a b c d u,cs=[cn.v a,cn.v b,cn.v c,cn.v d]/\HT W.heap a b c d u (Rows.uptoBulk y.1):=by
 obtain ⟨ys,m,hy,hl,hyn,hys⟩:=fE Vp h;obtain ⟨y0,g0,t0⟩:=hys 0 _ rfl;obtain ⟨y1,g1,t1⟩:=hys 1 _ rfl;obtain ⟨y2,g2,t2⟩:=hys 2 _ rfl;obtain ⟨y3,g3,t3⟩:=hys 3 _ rfl;have hys4:=Ur hyn g0 g1 g2 g3;rw [Wo] at hl
 match cs,hl with
 | [v0,v1,v2,v3],_ =>
  rw [show Tryz.prog.cellsOf (26,0).1=1 from Wb] at t0;rw [show Tryz.prog.cellsOf (26,1).1=1 from Wb] at t1;rw [show Tryz.prog.cellsOf (27,2).1=1 from WB] at t2;rw [show Tryz.prog.cellsOf (28,3).1=1 from VA] at t3;obtain ⟨p0,l0,k0,u0,b0,e0,s0,m0⟩:=open_slice Q5 VG (QI W.heap) (fun cs y n h=>A5 h) t0;obtain ⟨p1,l1,k1,u1,b1,e1,s1,m1⟩:=open_slice Q5 VG (QI W.heap) (fun cs y n h=>A5 h) t1;obtain ⟨p2,l2,k2,u2,b2,e2,s2,m2⟩:=open_slice U7 Wl (QE W.heap) (fun cs y n h=>Nv h) t2;obtain ⟨p3,l3,k3,u3,b3,e3,s3,m3⟩:=open_slice Hw c9 QS (fun cs y n h=>LL h) t3;cases e0; cases e1; cases e2; cases e3;have hb:Rows.uptoBulk y.1=Rows.uptoBulk y0.1+Rows.uptoBulk y1.1+Rows.uptoBulk y2.1+Rows.uptoBulk y3.1+1:=by
   rw [hy,hys4];simp only [List.map_cons,List.map_nil,Rows.uptoBulk,Rows.uptoBulkAll];omega
  obtain ⟨x0,n0,w0⟩:=Hq s0 ad;obtain ⟨x1,n1,w1⟩:=Hq s1 ad;obtain ⟨x2,n2,w2⟩:=QB s2 ad;obtain ⟨x3,w3⟩:=Pu s3 ad;refine ⟨⟨p0,l0,k0⟩,⟨p1,l1,k1⟩,⟨p2,l2,k2⟩,⟨p3,l3,k3⟩,⟨u0,u1,u2,u3⟩,rfl,⟨x0,x1,x2,x3⟩,⟨n0,n1,n2⟩,?_,⟨fun x hx=>by have:=(vS s0).1 x hx; omega,fun x hx=>by have:=(vS s1).1 x hx; omega,fun x hx=>by have:=(GS s2).1 x hx; omega,by have:=Oe s3; show u3.length<=_; omega,by have:=(vS s0).2; show u0.length<=_; omega,by have:=(vS s1).2; show u1.length<=_; omega,by have:=(GS s2).2; show u2.length<=_; omega⟩,s0.cap,?_,?_,ad⟩
  ·show (Na++(BZ G6 u0++(BZ G6 u1++(BZ Mg u2++BZ iK u3)))).length<=_;unfold BZ;simp only [List.length_append,dk];rw [show Na.length=5 from rfl];omega
  ·show 3*((Lk.cg ⟨u0,u1,u2,u3⟩).flatMap (·.ai)).length<=_;have i0:=Md s0;have i1:=Md s1;have i2:=Sz s2;rw [Tx] at i0 i1 i2;unfold Lk.cg;rw [Yc,Yc,WU,WU,List.flatMap_map,List.flatMap_map,List.flatMap_map,Yz,Yz,Yz];show 3*((u0.map fun x=>x.e.ai.length).sum+(u1.map fun x=>x.e.ai.length).sum+(u2.map fun x=>x.2.ai.length).sum)<=_;omega
  ·have i0:=(vS s0).2;have i1:=(vS s1).2;have i2:=(GS s2).2;have i3:=Oe s3;show u0.length+u1.length+u2.length+u3.length<=_;omega
theorem NI:Tryz.prog.underlying 22=some (.slice 30):=ax
def QU (h:Hp) (u:bJ) (cs:List ZB) (k:Nat):Prop:=k<=2^50->∃ a b c d,cs=[cn.v a,cn.v b,cn.v c,cn.v d]/\HT h a b c d u k
theorem K2 (h:DataW.trod enc Tryz.prog W base sp held n 30 cs=some y):∃ u,QU W.heap u cs (Rows.uptoBulk y.1):=by
 by_cases hk:Rows.uptoBulk y.1<=2^50
 ·obtain ⟨a,b,c,d,u,h1,h2⟩:=xX h hk;exact ⟨u,fun _=>⟨a,b,c,d,h1,h2⟩⟩
 ·exact ⟨⟨[],[],[],[]⟩,fun h=>absurd h hk⟩
structure T' (h:Hp) (p:Option ZC) (l c:Nat) (us:List bJ) (N:Nat):Prop where
 vw:uz h p l us
 sm:N<=2^20->Lk.FJ us
 TN:3*((us.flatMap Lk.cg).flatMap (·.ai)).length<=N
 cap:l<=c
 U6:c<=maxLen
 nil:p=none->c=0
theorem GI {b0:Nat} {v:ZB} {d:DataW H} {ps:List MemPlace} (hval:Value.okWide Tryz.prog W .any b0 22 v) (h:DataW.Trod enc Tryz.prog W base sp held 22 v d ps) (hN:Rows.uptoBulk d<=2^50) :
  ∃ p l c us,v=.slice p l c/\T' W.heap p l c us (Rows.uptoBulk d):=by
 obtain ⟨p,l,c,rfl⟩:=okWide_slice NI hval;obtain ⟨fuel,h⟩:=h;have hlist:(Value.slice p l c).cells.toList=[.slice p l c]:=rfl;rw [hlist] at h;obtain ⟨p',l',c',us,ks,e0,s,hs⟩:=open_slice NI Wo (QU W.heap) (fun cs y n h=>K2 h) h;cases e0;have hl:=s.AB;have hs:ks.sum+1<=Rows.uptoBulk d:=hs;have q:∀ i,(hi:i<us.length)->∃ a sa sb sc sd,p=some a/\aG W.heap (a.add (i*4)) 0 [cn.v sa,cn.v sb,cn.v sc,cn.v sd]/\HT W.heap sa sb sc sd us[i] (ks[i]'ad):=by
  intro i hi;obtain ⟨a,cs,ha,hc,hq⟩:=s.cells i hi ad
  have:=rq ks i ad
  obtain ⟨sa,sb,sc,sd,rfl,hu⟩:=hq ad;exact ⟨a,sa,sb,sc,sd,ha,hc,hu⟩
 have pos:∀ i,(hi:i<us.length)->1<=ks[i]'ad:=by
  intro i hi;obtain ⟨a,sa,sb,sc,sd,ha,hc,hu⟩:=q i hi;exact Sp hu
 have hm:us.length<=ks.sum:=by
  have:=gz (fun _=>1) 1 us ks hl (fun i hi hk=>by have:=pos i hi; omega)
  rw [jz] at this;omega
 have htm:3*((us.flatMap Lk.cg).flatMap (·.ai)).length<=ks.sum:=by
  have:=gz (fun u:bJ=>3*((Lk.cg u).flatMap (·.ai)).length) 1 us ks hl (fun i hi hk=>by
   obtain ⟨a,sa,sb,sc,sd,ha,hc,hu⟩:=q i hi
   have:=hu.TN
   omega)
  rw [Tx] at this;rw [List.flatMap_assoc,Yz];omega
 refine ⟨p,l,c,us,rfl,⟨⟨s.len,ad,fun i hi=>?_⟩,fun hN2=>⟨ad,?_,?_,ad⟩,ad,s.cap,s.U6,s.nil⟩⟩
 ·obtain ⟨a,sa,sb,sc,sd,ha,hc,hu⟩:=q i hi;exact ⟨a,sa,sb,sc,sd,ha,hc,hu.at_⟩
 ·have:=gz (fun u:bJ=>u.text.length+u.data.length+u.aY.length+u.aP.length) 1 us ks hl (fun i hi hk=>by
   obtain ⟨a,sa,sb,sc,sd,ha,hc,hu⟩:=q i hi
   have:=hu.jg
   omega)
  unfold Lk.pn;omega
 ·refine vz fun i hi=>?_
  obtain ⟨a,sa,sb,sc,sd,ha,hc,hu⟩:=q i hi;intro x hx;unfold Lk.cg at hx;simp only [List.mem_append,List.mem_map] at hx;rcases hx with (⟨y,hy,rfl⟩ | ⟨y,hy,rfl⟩) | ⟨y,hy,rfl⟩
  ·exact ⟨(hu.num.text y hy).num,(hu.num.text y hy).DV⟩
  ·exact ⟨(hu.num.data y hy).num,(hu.num.data y hy).DV⟩
  ·exact ⟨(hu.num.aY y hy).num,(hu.num.aY y hy).DV⟩
end
theorem My {W:World} (h:laidMetH Tryz.prog Rows.linkNumbersRow.laid W):∃ e f,W.heap[0]?=some (.cells Cr.opsV.toArray e f):=by
 rw [MakeChecks.laidMetH_plain _ _ _ ax] at h;obtain ⟨ps,⟨g0,t0,cs0,f0,p0,q0,hg0,ht0,hv0,hd0,⟨g1,t1,cs1,f1,p1,q1,hg1,ht1,hv1,hd1,⟨g2,t2,cs2,f2,p2,q2,hg2,ht2,hv2,hd2,⟨g3,t3,cs3,f3,p3,q3,hg3,ht3,hv3,hd3,_,_⟩,_⟩,_⟩,_⟩,_,_⟩:=h;obtain rfl:=Xc ((show Tryz.prog.globalNamed _=some 0 from ax).symm.trans hg3);have h3:(Tryz.prog.globals[0]?).map (·.type)=some 193:=ax
 obtain rfl:=Xc (h3.symm.trans ht3);have hr:=BP hd3;obtain ⟨e3,ff3,ho3⟩:=Cs hg3 hv3;exact ⟨e3,ff3,by rw [ho3,show Cr.opsV=lE um uN from rfl,<- hr]⟩
open Go.ChangeMaps
theorem yw:(Tryz.f4.params.toList.all fun t=>decide (t<Tryz.prog.types.size))=true:=ax
theorem yV:Tryz.prog.inPlace 4=Rows.linkMoreUptoRow.inPlace:=ax
theorem ze:Tryz.prog.unfollowed 4=Rows.linkMoreUptoRow.unfollowed:=ax
theorem zh:Tryz.prog.recurses 4=Rows.linkMoreUptoRow.recurses:=ax
theorem yS:Tryz.prog.varsNamed 4=Rows.linkMoreUptoRow.named:=ax
theorem zZ:joinedFacts Tryz.prog 4 Tryz.f4 (Rows.OpenSpec.upto Rows.linkMoreSpec).bare Rows.linkMoreUptoRow=true:=by
 unfold joinedFacts;rw [yV,ze,zh,yS]
 kernel_rfl
theorem xQ (os:Os) (started:os.Started) (H:Type) (enc:TypeId × ZB->H) (F:Stop.Interp) :
  ReturnsInHanded {} Tryz.checked os 4 .any (fun w args=>((Rows.OpenSpec.upto Rows.linkMoreSpec).pre enc Tryz.prog Tryz.f4 [] false w args/\laidMetH Tryz.prog Rows.linkMoreUptoRow.laid w)/\sizedMet enc Tryz.prog Tryz.f4 (Rows.OpenSpec.upto Rows.linkMoreSpec) false w args)
   (((Rows.OpenSpec.upto Rows.linkMoreSpec).at F).post enc Tryz.prog Tryz.f4 false true false false):=by
 refine LU (k:=Rows.uptoSmall) rfl (C:=Tryz.checked) (X:=fun w _=>laidMetH Tryz.prog Rows.linkMoreUptoRow.laid w) (fun _ _ _ hh h=>h.of_heap hh) Vw started ax Tryz.func4
  (F7 (k:=Rows.uptoSmall) rfl (C:=Tryz.checked) (os:=os) (X:=fun w _=>laidMetH Tryz.prog Rows.linkMoreUptoRow.laid w) (World.doorLaid Tryz.prog 400 os) #[.slice none 0 0] 8 rfl (World.shaped_of_RefB ax ax) ax (x:=([.nil],[],[])) ax rfl ax (NA os _)) ?_
 intro W base args ds gs before hval0 hW hk hL;have hval:∀ (j:Nat) t v,Tryz.f4.params[j]?=some t->args[j]?=some v->Value.okWide Tryz.prog W .any base t v:=hval0
 have hW':=hW;obtain ⟨p,q,hA0,hV,rfl,hfz,hnd⟩:=hW;have hA:DataW.TrodAll enc Tryz.prog W 0 (fun _=>true) true Tryz.f4.params.toList args.toList ds p:=hA0;have hpf:Tryz.f4.params=#[22]:=ax
 rw [hpf] at hA hval;clear hA0 hval0;obtain ⟨v0,vs0,d0,ds0,p0,q0,hv0,rfl,rfl,t0,hA1⟩:=trodAll_cons hA;obtain ⟨rfl,rfl,rfl⟩:=trodAll_nil hA1;obtain ⟨args⟩:=args;simp only at hv0;subst hv0;have hk:=WR hk;have hkb:=hk;simp only [List.append_nil,nA,cA] at hkb;obtain ⟨rfl,rfl⟩:=trodVars_none hV;obtain ⟨a0,l0,c0,x0,rfl,h0⟩:=GI (hval 0 22 v0 rfl rfl) t0 (by simp only [Rows.uptoBulkAll] at hkb; omega);simp only [List.append_nil] at hW';simp only [List.append_nil,List.nil_append,List.cons_append,Rows.uptoBulkAll] at hk;refine (MQ (Lk.OE (HX hL).2 (HX hL).1 (My hL) (su:=⟨a0,l0,c0⟩) h0.vw (h0.sm ad) (by have:=h0.TN; omega)) (fun _ _ h=>h.2)).mono fun e W' ⟨v,he,hB,hv,_⟩=>?_
 subst he hv;exact ⟨_,rfl,Nw rfl hW' (fun _ _ _=>trodAll_mk1 (shut_bool u4 _)) rfl rfl (fun t ht=>WR (Xn.1 yw t ht)) hB⟩
theorem y6:Rows.LinkMoreUptoSaid :=
 OpenClaim.holds_of_cond 4 Tryz.f4 rfl rfl rfl rfl rfl rfl rfl ⟨rfl,rfl,rfl,rfl,rfl⟩ rfl rfl rfl rfl rfl ax Tryz.func4 zZ
  (WR ax) (by unfold Func.isWrapper; first | (rw [W2 (by decide +kernel)]; kernel_rfl) | (rw [WV (by decide +kernel)]; exact ⟨rfl,rfl⟩))
  (fun os started H enc _ F=>xQ os started H enc F)
end Go.Sx.Ob
