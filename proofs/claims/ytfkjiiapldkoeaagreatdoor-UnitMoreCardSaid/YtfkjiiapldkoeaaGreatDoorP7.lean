/- Contracts over heaps, and plain laws, for the functions that the laws of chapter 9 call, part 7: errors.As over heaps; UnitMore. UnitFine. The law's runs over heaps: a line is r Condition: as each statement says. -/
import Derived.Test.YtfkjiiapldkoeaaGreatDoorP6
import Derived.Test.YtfkjiiapldkoeaaGreatDoorAtU
import Derived.HandedShaped
import Derived.Shelf.Vars
import Derived.LaidHandle
import Derived.Test.YtfkjiiapldkoeaaGreatDoorTie
import Derived.Test.YtfkjiiapldkoeaaGreatDoorCards
import Derived.SevenTiedAt
set_option linter.unusedVariables false
set_option linter.unusedSimpArgs false
set_option maxRecDepth 100000
namespace Go.Sx.Ob
open Go.Proofs
def Bb (h:Hp):Prop:=aG h ⟨0,0,none⟩ 0 [.iface 163 (.agg #[.pointer (some ⟨8,29,none⟩)])]
theorem Bb.ah {h h':Hp} (t:Bb h) (e:Ext h h'):Bb h':=bk e (by simp) _ _ t
theorem EO (t:Value) (h:Hp):tp Tryz.prog 30 [.nilIface,t] h (.bool false):=by
 intro W hW;subst hW;refine (Go.Proofs.YtfkjiiapldkoeaaGreatDoor.Ju t W).mono ?_;rintro e w' ⟨he,rfl⟩;exact ⟨_,he,bL.refl _,rfl,rfl⟩
theorem AR {h:Hp} (et:Bb h) {a g:Nat} (b:aN h g 59 [.pointer none]) :
  HC Tryz.prog 30 #[.iface 59 (ptr a),.iface 61 (ptr g)] h fun v h'=>v=.bool true∧aN h' g 59 [ptr a]∧Ch [g] h h':=by
 intro W hW;subst hW;refine (Go.Proofs.YtfkjiiapldkoeaaGreatDoor.Jo ⟨a,0,none⟩ ⟨g,0,none⟩ (.pointer none) W ?_ ?_ ?_).mono ?_
 ·rw [dz]; exact et.1
 ·rw [dz,b.cell]; rfl
 ·rw [zi]; exact b.frozen
 ·rintro e w' ⟨he,rfl⟩;refine ⟨_,he,⟨rfl,rfl,rfl⟩,rfl,?_⟩;rw [EY];have k:Ext W.heap (((W.heap.push (.cells #[.pointer (some ⟨g,0,none⟩)] 61 (0,0))).push (.cells #[.pointer (some ⟨8,61,none⟩),.pointer (some ⟨W.heap.size,0,none⟩),.int .u64 150] 115 (0,0))).push (.cells #[.pointer (some ⟨8,61,none⟩),.pointer (some ⟨W.heap.size,0,none⟩),.int .u64 150] 115 (0,0)) |>.push (.cells #[.pointer (some ⟨a,0,none⟩)] 59 (0,0))) :=
   (((Ext.push _ _).trans (Ext.push _ _)).trans (Ext.push _ _)).trans (Ext.push _ _)
  have b4:=b.ah k (by simp);obtain ⟨h1,h2,_⟩:=vf (off:=0) b4 (ptr a);exact ⟨h1,Ch.trans (k.mono (by simp)) h2 (fun i hi _=>hi)⟩
theorem ID {L:Lp} {K:Value→Hp→Prop} {h h0:Hp} {ev:Value} {e:Option (Nat × Nat)} (E:nk h0 ev e) (o:Nat) {k:Bool→T} (hk:k (!Mi e) L K h) :
  T.aV Tryz.prog (Sx.bJ (BinOp.neq) 29 (Operand.tmp o) (Operand.const Value.nilIface) ev .nilIface) false [(false,[.bool])] k L K h:=by
 cases e with
 | none =>
  have E:ev=.nilIface:=E;subst E;refine bD (b:=false) (fun K' hk'=>?_) hk;rw [Le]; exact hk'
 | some q =>
  obtain ⟨a,rfl,_⟩:=E;refine bD (b:=true) (fun K' hk'=>?_) hk;rw [LD]; exact hk'
theorem A8.take {h:Hp} {p:Option Addr} {l:Nat} {us:List bw} (v:A8 h p l us) {k:Nat} (hk:k≤l):A8 h p k (us.take k):=by
 have hl:=v.len;have hm:=v.many;refine ⟨by rw [List.length_take]; omega,by rw [List.length_take]; omega,fun i hi=>?_⟩;rw [List.length_take] at hi;rw [List.getElem_take];exact v.cells i (by omega)
theorem AE (p:Option Addr) (c:Nat):(if c=0 then p else Option.map (fun a=>Addr.add a 0) p)=p:=by
 split
 ·rfl
 ·cases p with
  | none=>rfl
  | some a=>rw [Option.map_some,Bv]
def xD (s t:ByteArray):ByteArray:=(s++⟨#[10]⟩)++t
theorem Br (s t:ByteArray):(xD s t).data.toList=s.data.toList++10::t.data.toList:=by
 unfold xD;simp [ByteArray.data_append]
theorem wM {r:Except (Nat × Nat) jv} (h:kX r=none):r=.ok (rj r).1:=by
 cases r with
 | ok u=>rfl
 | error q=>cases h
theorem CX {r:Except (Nat × Nat) jv} {q:Nat × Nat} (h:kX r=some q):r=.error q:=by
 cases r with
 | ok u=>cases h
 | error q=>cases h; rfl
set_option maxHeartbeats 2000000 in
theorem H3 (s0 t0:ByteArray) (h:Hp) (f:Fx h) (et:Bb h):HC Tryz.prog 8 #[.string s0,.string t0] h fun v h'=>v=.bool true∧Ext h h':=by
 refine aI (args:=[.string s0,.string t0]) mixed Tryz.func8 (by kernel_rfl) (iP s0 t0) ?_;unfold fv;refine aC (Fh s0 1000 h) ?_;rintro _ h1 ⟨rfl,e1⟩;refine ⟨(xZ s0 1000,()),rfl,?_⟩;dsimp only [flat,aA,ai,nA,cA];have hs:=wZ s0 1000;generalize xZ s0 1000=s at hs;have f1:=f.ah e1;refine F3 f1 (AV (by omega)) ?_;intro a b c d ev h2 h3 e2 _ _ xu Eu e3 bu hac _;have f3:=(f1.ah e2).ah e3;have xu:=xu.ah e3;refine aB (by omega) ?_;refine aC (Fh t0 500 h3) ?_;rintro _ h4 ⟨rfl,e4⟩;refine ⟨(xZ t0 500,()),rfl,?_⟩;dsimp only [flat,aA,ai,nA,cA];have ht:=wZ t0 500;generalize xZ t0 500=t at ht;have hsz:(s++⟨#[10]⟩).size=s.size+1:=by rw [ByteArray.size_append]; rfl
 have hmz:(xD s t).size=s.size+1+t.size:=by unfold xD; rw [ByteArray.size_append,hsz]
 refine aB (by rw [hsz]; omega) ?_;have hmd:=Br s t;show T.call Tryz.prog 10 [.string (xD s t)] true _ _ _ _ _;generalize xD s t=m at hmz hmd;refine F3 (f3.ah e4) (AV (by omega)) ?_;intro av bv cv dv ev2 h5 h6 e5 _ _ xv Ev e6 bv' hav hbv;have xv:=xv.ah e6;have e36:=(e4.trans e5).trans e6;have q3:=bu.lt;have q45:=e4.size;have q5:=e5.size;have q6:=bv'.lt;refine aT ?_;intro h7 b7 e7 z7;refine aT ?_;intro h8 b8 e8 z8;have e38:=(e36.trans e7).trans e8;have e68:=e7.trans e8;have b78:=b7.ah e8 (by simp);have h08:Ext h h8:=((e1.trans e2).trans e3).trans e38;have kn0:∀ {g:Hp} {L:Lp},Ext h g→Ext h3 g→(T.call Tryz.prog 14 [] false [(false,[.bool])] fun (b:Bool)=>T.ret (.bool b)) L (fun v h'=>v=.bool true∧Ext h h') g:=by
  intro g L e0 e;refine aC (tW g (f3.ah e)) ?_;rintro _ g' ⟨rfl,e'⟩;refine ⟨(true,()),rfl,?_⟩;dsimp only [flat,aA,ai,nA,cA];exact ⟨rfl,e0.trans e'⟩
 refine dt (cs:=[(false,[.bool])]) (fun x h'=>Ext h6 h'∧∀ q,kX (cQ s)=some q→q.2=23) ?_ ?_
 ·cases he:kX (cQ s) with
  | none =>
   rw [he] at Eu;have Eu:ev=.nilIface:=Eu;subst Eu;refine aD (EO _ h8) ?_;refine bm rfl ?_;exact bh (cs:=[(false,[.bool])]) (false,()) rfl rfl ⟨e68,fun q hq=>by cases hq⟩
  | some q =>
   rw [he] at Eu;obtain ⟨ea,rfl,eb⟩:=Eu;have eb8:=eb.ah (e3.trans e38) (by simp);have lea:ea<h6.size:=by have:=eb.lt; have:=e3.size; omega
   refine aC (AR (((((et.ah e1).ah e2).ah e3).ah e38)) b78) ?_;rintro _ h9 ⟨rfl,b9,k9⟩;refine ⟨(true,()),rfl,?_⟩;dsimp only [flat,aA,ai,nA,cA];have eb9:=eb8.ah k9 (by simp; omega);have e69:Ext h6 h9:=Ch.trans e68 k9 (fun i hi hl=>by simp at hi; omega);refine aX rfl ?_;refine ad b9 (some ⟨ea,0,none⟩,()) rfl ?_;dsimp only [flat,aA,ai,nA,cA];refine aX rfl ?_;refine ad b9 (some ⟨ea,0,none⟩,()) rfl ?_;dsimp only [flat,aA,ai,nA,cA];refine an rfl ?_;rw [ao];refine ad eb9 ((q.2:Int),()) rfl ?_;dsimp only [flat,aA,ai,nA,cA];refine af (fun r=>?_) (fun r=>?_)
   ·have r:q.2≠23:=fun hh=>by rw [hh] at r; simp at r
    have hm:=yv hmd (by omega) (CX he) r;rw [hm] at Ev;obtain ⟨ea2,rfl,eb2⟩:=Ev;have e89:Ext h6 h9:=e69;have b89:aN h9 h7.size 59 [.pointer none]:=b8.ah k9 (by simp; omega);have f9:Bb h9:=(((et.ah e1).ah e2).ah e3).ah (e36.trans e69);refine aC (AR f9 b89) ?_;rintro _ h10 ⟨rfl,b10,k10⟩;refine ⟨(true,()),rfl,?_⟩;dsimp only [flat,aA,ai,nA,cA];have b910:=b9.ah k10 (by simp; omega);have eb10:=eb9.ah k10 (by simp; omega);have eb2':aN h10 ea2 63 [.int .i64 (q.1:Nat),.int .i64 (q.2:Nat)]:=(eb2.ah (e6.trans e69) (by simp)).ah k10 (by have:=eb2.lt; have:=e6.size; simp; omega);have e610:Ext h6 h10:=Ch.trans e69 k10 (fun i hi hl=>by simp at hi; omega);refine aX rfl ?_;refine ad b10 (some ⟨ea2,0,none⟩,()) rfl ?_;dsimp only [flat,aA,ai,nA,cA];refine aX rfl ?_;refine ad b10 (some ⟨ea2,0,none⟩,()) rfl ?_;dsimp only [flat,aA,ai,nA,cA];refine an rfl ?_;refine ad eb2' ((q.1:Int),()) rfl ?_;dsimp only [flat,aA,ai,nA,cA];refine ad b910 (some ⟨ea,0,none⟩,()) rfl ?_;dsimp only [flat,aA,ai,nA,cA];refine an rfl ?_;refine ad eb10 ((q.1:Int),()) rfl ?_;dsimp only [flat,aA,ai,nA,cA];refine aX (by simp) ?_;refine ad b10 (some ⟨ea2,0,none⟩,()) rfl ?_;dsimp only [flat,aA,ai,nA,cA];refine an rfl ?_;rw [ao];refine ad eb2' ((q.2:Int),()) rfl ?_;dsimp only [flat,aA,ai,nA,cA];refine ad b910 (some ⟨ea,0,none⟩,()) rfl ?_;dsimp only [flat,aA,ai,nA,cA];refine an rfl ?_;rw [ao];refine ad eb10 ((q.2:Int),()) rfl ?_;dsimp only [flat,aA,ai,nA,cA];refine aX (by simp) ?_;refine aC (tW h10 (f3.ah (e36.trans e610))) ?_;rintro _ g' ⟨rfl,e'⟩;refine ⟨(true,()),rfl,?_⟩;dsimp only [flat,aA,ai,nA,cA];have c1:=b10.ah e' (by simp);have c2:=b910.ah e' (by simp);have c3:=eb10.ah e' (by simp);have c4:=eb2'.ah e' (by simp);refine ⟨⟨c3.cells _ rfl,c2.cells _ rfl,c4.cells _ rfl,c1.cells _ rfl,c3.cells _ rfl,c2.cells _ rfl,c4.cells _ rfl,c1.cells _ rfl,c1.cells _ rfl,trivial⟩,rfl,?_⟩;exact ((((e1.trans e2).trans e3).trans e36).trans e610).trans e'
   ·have r:q.2=23:=by
     have:((q.2:Nat):Int)=23:=by simpa using r
     omega
    exact bh (cs:=[(false,[.bool])]) (false,()) rfl rfl ⟨e69,fun q' hq=>by cases hq; exact r⟩
 rintro ⟨b34,⟨⟩⟩ h9 ⟨e69,h23⟩;dsimp only [flat,aA,ai,nA,cA];have e39:=e36.trans e69;have e09:=((e1.trans e2).trans e3).trans e39;refine ID Eu _ ?_;refine af (fun _=>kn0 e09 e39) (fun r1=>?_);refine ID Ev _ ?_;refine af (fun _=>kn0 e09 e39) (fun r2=>?_);have r1:kX (cQ s)=none:=by
  cases he:kX (cQ s) with
  | none=>rfl
  | some q=>rw [he] at r1; cases r1
 have r2:kX (cQ m)=none:=by
  cases he:kX (cQ m) with
  | none=>rfl
  | some q=>rw [he] at r2; cases r2
 obtain ⟨p1,p2⟩:=Dx hmd (by omega) (wM r1) (wM r2);have u9:=xu.ah e39;have v9:=xv.ah e69;generalize (rj (cQ s)).1=u at *;generalize (rj (cQ m)).1=v at *;have bu9:=bu.ah e39 (by simp);have bv9:=bv'.ah e69 (by simp);have lT:=u9.text.len;have lD:=u9.data.len;have mT:=v9.text.len;have mD:=v9.data.len;have n1:=p1.length_le;have n2:=p2.length_le;refine ad bu9 ((a.p,a.l,a.c),()) rfl ?_;dsimp only [flat,aA,ai,nA,cA];refine ad bv9 ((av.p,av.l,av.c),()) rfl ?_;dsimp only [flat,aA,ai,nA,cA];refine aX (decide_eq_true (by omega)) ?_;rw [ao];refine ad bu9 ((b.p,b.l,b.c),()) rfl ?_;dsimp only [flat,aA,ai,nA,cA];rw [ao];refine ad bv9 ((bv.p,bv.l,bv.c),()) rfl ?_;dsimp only [flat,aA,ai,nA,cA];refine aX (decide_eq_true (by omega)) ?_;refine ad bu9 ((a.p,a.l,a.c),()) rfl ?_;dsimp only [flat,aA,ai,nA,cA];refine ad bv9 ((av.p,av.l,av.c),()) rfl ?_;dsimp only [flat,aA,ai,nA,cA];refine ad bu9 ((a.p,a.l,a.c),()) rfl ?_;dsimp only [flat,aA,ai,nA,cA];refine aB ⟨by omega,by omega,by omega⟩ ?_;rw [AE,show Int.toNat (a.l:Int)-0=a.l by omega];have t1:v.text.take a.l=u.text:=by rw [lT]; exact (List.prefix_iff_eq_take.1 p1).symm
 have t2:v.data.take b.l=u.data:=by rw [lD]; exact (List.prefix_iff_eq_take.1 p2).symm
 have w1:=v9.text.take (k:=a.l) (by omega);rw [t1] at w1;refine aC (qI u9.text w1) ?_;rintro _ h10 ⟨bb,rfl,hb,e10⟩;have hb:=hb.2 rfl;subst hb;refine ⟨(true,()),rfl,?_⟩;dsimp only [flat,aA,ai,nA,cA];have bu10:=bu9.ah e10 (by simp);have bv10:=bv9.ah e10 (by simp);refine ⟨⟨bu10.cells _ rfl,bv10.cells _ rfl,bv10.cells _ rfl,bu10.cells _ rfl,bv10.cells _ rfl,bu10.cells _ rfl,trivial⟩,?_⟩;refine aX rfl ?_;refine ad bu10 ((b.p,b.l,b.c),()) rfl ?_;dsimp only [flat,aA,ai,nA,cA];refine ad bv10 ((bv.p,bv.l,bv.c),()) rfl ?_;dsimp only [flat,aA,ai,nA,cA];refine ad bu10 ((b.p,b.l,b.c),()) rfl ?_;dsimp only [flat,aA,ai,nA,cA];refine aB ⟨by omega,by omega,by omega⟩ ?_;rw [AE,show Int.toNat (b.l:Int)-0=b.l by omega];have w2:=(v9.data.ah e10).take (k:=b.l) (by omega);rw [t2] at w2;refine aC (qI (u9.data.ah e10) w2) ?_;rintro _ h11 ⟨bb,rfl,hb,e11⟩;have hb:=hb.2 rfl;subst hb;refine ⟨(true,()),rfl,?_⟩;dsimp only [flat,aA,ai,nA,cA];have bu11:=bu10.ah e11 (by simp);have bv11:=bv10.ah e11 (by simp);refine ⟨⟨bu11.cells _ rfl,bv11.cells _ rfl,bu11.cells _ rfl,bv11.cells _ rfl,bu11.cells _ rfl,bv11.cells _ rfl,bu11.cells _ rfl,bv11.cells _ rfl,bu11.cells _ rfl,trivial⟩,?_⟩;refine aX rfl ?_;have e311:=(e39.trans e10).trans e11;refine aC (tW h11 (f3.ah e311)) ?_;rintro _ h12 ⟨rfl,e12⟩;refine ⟨(true,()),rfl,?_⟩;dsimp only [flat,aA,ai,nA,cA];have c1:=bu11.ah e12 (by simp);have c2:=bv11.ah e12 (by simp);refine ⟨⟨c1.cells _ rfl,c2.cells _ rfl,c1.cells _ rfl,c1.cells _ rfl,c2.cells _ rfl,c1.cells _ rfl,c2.cells _ rfl,c1.cells _ rfl,c2.cells _ rfl,c1.cells _ rfl,trivial⟩,rfl,?_⟩;exact (((e09.trans e10).trans e11).trans e12)
open Go.Proofs Go.Proofs.YtfkjiiapldkoeaaGreatDoor
open Go.ChangeShapes Go.WideShapes Go.ChangeAt Go.WideMaps Go.WideElems Go.RowKit
theorem Lw:ownKnob Tryz.prog.godebug=none:=by kernel_rfl
theorem u9:Tryz.prog.underlying 9=some .string:=by kernel_rfl
theorem u4:Tryz.prog.underlying 4=some .bool:=by kernel_rfl
theorem u3:Tryz.prog.underlying 3=some (.int .i64):=by kernel_rfl
theorem u5:Tryz.prog.underlying 5=some (.int .u8):=by kernel_rfl
theorem K2:Tryz.prog.underlying 215=some (.array 43 158):=by kernel_rfl
theorem KO:Tryz.prog.cellsOf 158=3:=by kernel_rfl
theorem LQ:Tryz.prog.cellsOf 215=129:=by kernel_rfl
theorem c9:Tryz.prog.cellsOf 9=1:=by kernel_rfl
theorem c5:Tryz.prog.cellsOf 5=1:=by kernel_rfl
theorem c3:Tryz.prog.cellsOf 3=1:=by kernel_rfl
theorem Lx:Aj Tryz.prog 158=some [(9,0),(5,1),(3,2)]:=by kernel_rfl
def yo:List (DataW Unit):=match (Rows.laid_spandrel_isa_table:DataW Unit) with | .agg l=>l | _=>[]
def EG:DataW Unit→Int
 | .agg [_,_,.lit (.int _ n)]=>n
 | _=>0
theorem H9:(Rows.laid_spandrel_isa_table:DataW Unit)=.agg yo:=by kernel_rfl
theorem Gt:yo.map EG=(List.range 43).map fun k=>((bO.getD k 0:Nat):Int):=by kernel_rfl
theorem zM {α β:Type} (f:α→List β) (m:Nat) (hf:∀ x,(f x).length=m):∀ l:List α,(l.flatMap f).length=l.length*m
 | []=>by simp
 | x::l=>by rw [List.flatMap_cons,List.length_append,hf,zM f m hf l,List.length_cons,Nat.succ_mul,Nat.add_comm]
theorem yf (nm:Nat→ByteArray) (v8:Nat→Int):(lu nm v8).length=129:=by
 unfold lu;rw [zM _ 3 (fun x=>rfl),List.length_range]
def Jm:DataW Unit→List UInt8
 | .agg [.lit (.string s),_,_]=>s
 | _=>[]
def I6:DataW Unit→Int
 | .agg [_,.lit (.int _ n),_]=>n
 | _=>0
theorem H7:yo.map Jm=(List.range 43).map fun k=>D9 k:=by kernel_rfl
theorem Hd:yo.map I6=(List.range 43).map fun k=>bZ k:=by kernel_rfl
theorem DK {enc:TypeId × Value→Unit} {W:World} {base fuel:Nat} {sp:Nat→Bool} {held:Bool} {cs:List Value} {p:List MemPlace}
  (h:DataW.trod enc Tryz.prog W base sp held fuel 215 cs=some (Rows.laid_spandrel_isa_table,p)):cs=lu bX bZ:=by
 obtain ⟨xs,m,_,hx,hl,hlen,hf⟩:=DataW.trod_array K2 h;rw [LQ] at hl;have hxs:xs.map (·.1)=yo:=by
  have:=congrArg Prod.fst hx
  rw [show (Rows.laid_spandrel_isa_table,p).1=DataW.agg yo from H9] at this;simpa using this.symm
 have each:∀ i,i<43→(cs.drop (i*3)).take 3=[.string (bX i),.int .u8 (bZ i),.int .i64 ((bO.getD i 0:Nat):Int)]:=by
  intro i hi;have h1:=hf i hi;rw [KO] at h1;rw [List.getElem?_eq_getElem (by omega)] at h1;obtain ⟨ys,n,hy,hyl,hyn,hys⟩:=Aa Lx h1;obtain ⟨y0,g0,t0⟩:=hys 0 _ rfl;obtain ⟨y1,g1,t1⟩:=hys 1 _ rfl;obtain ⟨y2,g2,t2⟩:=hys 2 _ rfl;rw [KO] at hyl;generalize hc:(cs.drop (i*3)).take 3=c at *
  match c,hyl with
  | [v0,v1,v2],_ =>
   rw [show Tryz.prog.cellsOf (9,0).1=1 from c9] at t0;rw [show Tryz.prog.cellsOf (5,1).1=1 from c5] at t1;rw [show Tryz.prog.cellsOf (3,2).1=1 from c3] at t2;obtain ⟨s,e0,r0,_⟩:=DataW.trod_string u9 t0;obtain ⟨b,e1,r1,_⟩:=DataW.trod_int u5 t1;obtain ⟨k,e2,r2,_⟩:=DataW.trod_int u3 t2;cases e0; cases e1; cases e2;have hys3:ys=[y0,y1,y2]:=by
    apply List.ext_getElem?;intro j
    match j with
    | 0=>exact g0
    | 1=>exact g1
    | 2=>exact g2
    | j+3=>rw [List.getElem?_eq_none (by rw [hyn]; simp),List.getElem?_eq_none (by simp)]
   have h2:(xs.map (·.1))[i]?=some (xs[i]'(by omega)).1:=by rw [List.getElem?_map,List.getElem?_eq_getElem (by omega)]; rfl
   rw [hxs] at h2;have hk:k=((bO.getD i 0:Nat):Int):=by
    have h3:(yo.map EG)[i]?=some (EG (xs[i]'(by omega)).1):=by rw [List.getElem?_map,h2]; rfl
    rw [Gt,List.getElem?_map,List.getElem?_range hi] at h3;rw [hy,hys3,r0,r1,r2] at h3;exact (Option.some.inj h3).symm
   have hb:b=bZ i:=by
    have h3:(yo.map I6)[i]?=some (I6 (xs[i]'(by omega)).1):=by rw [List.getElem?_map,h2]; rfl
    rw [Hd,List.getElem?_map,List.getElem?_range hi] at h3;rw [hy,hys3,r0,r1,r2] at h3;exact (Option.some.inj h3).symm
   have hs:s=bX i:=by
    have h3:(yo.map Jm)[i]?=some (Jm (xs[i]'(by omega)).1):=by rw [List.getElem?_map,h2]; rfl
    rw [H7,List.getElem?_map,List.getElem?_range hi] at h3;rw [hy,hys3,r0,r1,r2] at h3;exact kB (Option.some.inj h3).symm
   rw [hk,hb,hs]
 apply List.ext_getElem?;intro j
 by_cases hj:j<129
 ·obtain ⟨a,b,hab,hb⟩:∃ a b,j=a*3+b∧b<3:=⟨j / 3,j % 3,by omega,by omega⟩
  subst hab;unfold lu;rw [uw (fun k=>[Value.string (bX k),.int .u8 (bZ k),.int .i64 (bO.getD k 0:Nat)]) 3 (fun x=>rfl) _ a b hb,List.getElem?_range (by omega)];show cs[a*3+b]?=[Value.string (bX a),.int .u8 (bZ a),.int .i64 ((bO.getD a 0:Nat):Int)][b]?
  have:=each a (by omega)
  rw [← this,List.getElem?_take,if_pos hb,List.getElem?_drop]
 ·have hr:(lu bX bZ).length=129:=yf _ _;rw [List.getElem?_eq_none (by omega),List.getElem?_eq_none (by omega)]
theorem CN {P:Program} {W:World} {name:String} {g:Nat} {cs:Array Value} (hg:P.globalNamed name=some g) (hv:W.var? P name=some cs):∃ e f,W.heap[g]?=some (.cells cs e f):=by
 unfold World.var? at hv;rw [hg] at hv;have hv:(match (W.heap[g]?:Option Obj) with | some (.cells cs _ _)=>some cs | _=>none)=some cs:=hv;split at hv
 ·rename_i cs' e f hh;cases hv;exact ⟨e,f,hh⟩
 ·cases hv
theorem J0 : Tryz.prog.underlying 29 = some (.interface #[("Error", 85)]) := by kernel_rfl
theorem HF {W:World} (h:laidMetH Tryz.prog Rows.unitAssemblesRow.laid W):lZ W.heap∧Laid W.heap∧mn W.heap:=by
 rw [MakeChecks.laidMetH_plain _ _ _ (by kernel_rfl)] at h;obtain ⟨ps,⟨g0,t0,cs0,f0,p0,q0,hg0,ht0,hv0,hd0,⟨g1,t1,cs1,f1,p1,q1,hg1,ht1,hv1,hd1,⟨g2,t2,cs2,f2,p2,q2,hg2,ht2,hv2,hd2,⟨g3,t3,cs3,f3,p3,q3,hg3,ht3,hv3,hd3,⟨g4,t4,cs4,f4,p4,q4,hg4,ht4,hv4,hd4,⟨g5,t5,cs5,f5,p5,q5,hg5,ht5,hv5,hd5,_,_⟩,_⟩,_⟩,_⟩,_⟩,_⟩,_,_⟩:=h;obtain rfl:=Option.some.inj ((show Tryz.prog.globalNamed _=some 3 by kernel_rfl).symm.trans hg2);obtain rfl:=Option.some.inj ((show Tryz.prog.globalNamed _=some 1 by kernel_rfl).symm.trans hg3);obtain rfl:=Option.some.inj ((show Tryz.prog.globalNamed _=some 5 by kernel_rfl).symm.trans hg4);obtain rfl:=Option.some.inj ((show Tryz.prog.globalNamed _=some 4 by kernel_rfl).symm.trans hg5);have h2:(Tryz.prog.globals[3]?).map (·.type)=some 295:=by kernel_rfl
 obtain rfl:=Option.some.inj (h2.symm.trans ht2);have h3:(Tryz.prog.globals[1]?).map (·.type)=some 215:=by kernel_rfl
 obtain rfl:=Option.some.inj (h3.symm.trans ht3);have h4:(Tryz.prog.globals[5]?).map (·.type)=some 29:=by kernel_rfl
 obtain rfl:=Option.some.inj (h4.symm.trans ht4);have h5:(Tryz.prog.globals[4]?).map (·.type)=some 29:=by kernel_rfl
 obtain rfl:=Option.some.inj (h5.symm.trans ht5);have hc:=Lib.cells_of_tab (n:=20) (e:=209) (k:=.u64) (zs:=Lib.pow10Tab) (by kernel_rfl) (by kernel_rfl) (by kernel_rfl) (by kernel_rfl) hd2;have hr:=DK hd3;obtain ⟨e2,ff2,ho2⟩:=CN hg2 hv2;obtain ⟨e3,ff3,ho3⟩:=CN hg3 hv3;obtain ⟨_,w4,v4,e4,_⟩:=iface_of_trod J0 hd4;obtain ⟨_,w5,v5,e5,_⟩:=iface_of_trod J0 hd5;have c4:=World.var?_cell hg4 hv4 0;have c5:=World.var?_cell hg5 hv5 0;rw [← Array.getElem?_toList,e4] at c4;rw [← Array.getElem?_toList,e5] at c5;refine ⟨⟨e3,ff3,?_⟩,⟨⟨_,c5,rfl⟩,⟨_,c4,rfl⟩⟩,⟨e2,ff2,?_⟩⟩
 ·rw [ho3,← hr]
 ·rw [ho2,← hc]
theorem KD:Kids Tryz.prog (·<Tryz.prog.types.size):=kids_rows (by kernel_rfl) (by kernel_rfl)
theorem sliceB:((List.range Tryz.prog.types.size).all fun t=>match Tryz.prog.underlying t with | some (.slice e)=>decide (0<Tryz.prog.cellsOf e) | _=>true)=true:=by kernel_rfl
theorem I7 {t e:TypeId} (ht:t<Tryz.prog.types.size) (hu:Tryz.prog.underlying t=some (.slice e)):0<Tryz.prog.cellsOf e:=by
 have:=List.all_eq_true.1 sliceB t (List.mem_range.2 ht)
 rw [hu] at this;exact of_decide_eq_true this
theorem oE {H:Type} {enc:TypeId × Value→H} {W W':World} {sp:Nat→Bool} (hB:Below W.heap.size W W'):∀ {ts:List TypeId} {vs:List Value} {ds:List (DataW H)} {ps:List MemPlace},(∀ t∈ts,t<Tryz.prog.types.size) →
  DataW.TrodAll enc Tryz.prog W 0 (fun _=>true) true ts vs ds ps→(∀ p∈ps,p.block<W.heap.size)→(∀ p∈ps,sp p.block=true)→DataW.TrodAll enc Tryz.prog W' 0 sp true ts vs ds ps
 | [],_,_,_,_,h,_,_=>by
  obtain ⟨rfl,rfl,rfl⟩:=trodAll_nil h;exact trodAll_mk0
 | t::ts,_,_,_,ht,h,hl,hs=>by
  obtain ⟨v,vs1,d,ds1,a,b,rfl,rfl,rfl,⟨n,h1⟩,h2⟩:=trodAll_cons h;exact ⟨a,b,⟨n,DataW.trod_stays KD (fun h hu=>I7 h hu) (fun h=>by cases h) (ht t (List.mem_cons_self ..)) h1 (fun p hp=>B' hB (hl p (List.mem_append_left _ hp))) (fun p hp=>hs p (List.mem_append_left _ hp))⟩,
   oE hB (fun t h=>ht t (List.mem_cons_of_mem _ h)) h2 (fun p hp=>hl p (List.mem_append_right _ hp)) (fun p hp=>hs p (List.mem_append_right _ hp)),rfl⟩
theorem El {H:Type} {enc:TypeId × Value→H} {f:Func} {s:ChangeSpec} {apart fresh handsOn:Bool} {W W':World} {args:Array Value} {v:Value} {ds gs:List (DataW H)} {before:List MemPlace} (hv0:s.vars=[])
  (hW:DataW.Whole enc Tryz.prog f.params.toList s.vars apart W args.toList ds gs before)
  (hres:∀ (b:Nat) (sp:Nat→Bool) (hd:Bool),DataW.TrodAll enc Tryz.prog W' b sp hd f.resultTypes.toList (v.resultList f.resultTypes.size) (s.fn H (ds++gs)).results [])
  (hargs:(s.fn H (ds++gs)).args=ds) (fk:(s.fn H (ds++gs)).vars=[]) (hts:∀ t∈f.params.toList,t<Tryz.prog.types.size) (hB:Below W.heap.size W W') :
  s.post enc Tryz.prog f apart fresh handsOn false W args v W':=by
 have hlt:=hW.lt;have hW':=hW;obtain ⟨p,q,hA,hV,rfl,hz,hn⟩:=hW;rw [hv0] at hV;obtain ⟨rfl,rfl⟩:=trodVars_none hV;rw [List.append_nil] at hlt hW';refine ⟨ds,[],p,[],p,[],hW',hres _ _ _,?_,?_,hB.frame _,fun h=>by cases h⟩
 ·rw [hargs];exact oE hB hts hA hlt (fun p hp=>decide_eq_true (hlt p hp))
 ·rw [fk,hv0] <;> rfl
theorem Mn:Aj Tryz.prog 94=some [(91,0),(92,1)]:=by kernel_rfl
theorem Mo:Aj Tryz.prog 96=some [(3,0),(9,1),(90,2),(94,7),(3,9)]:=by kernel_rfl
section
variable {H:Type} {enc:TypeId × Value→H} {W:World} {base n:Nat} {sp:Nat→Bool} {held:Bool} {cs:List Value} {y:DataW H × List MemPlace}
end
open Go.ChangeMaps
theorem zv {w:World} (h:w.ShapedOpen Tryz.prog):∃ m,w.cell? ⟨2,0,none⟩=some (.int .i64 m) :=
 cell_of_shapedOpen_int (g:=2) (t:=3) (zero:=#[.int .i64 0]) h (of_decide_eq_true (by kernel_rfl)) (by kernel_rfl) rfl (by kernel_rfl) (by kernel_rfl) (by kernel_rfl)
theorem Kd {W:World} (h:lZ W.heap∧Laid W.heap∧mn W.heap) (hs:W.ShapedOpen Tryz.prog):Fx W.heap:=by
 obtain ⟨m,hm⟩:=zv hs;exact ⟨h.1,h.2.1,h.2.2,m,by rw [dz] at hm; exact hm,trivial⟩
theorem uG {H:Type} {enc:TypeId × Value→H} {a:Assume} {C:Checked} {os:Os} {f:FuncId} {fn:Func} {s:ChangeSpec} {conds:List PathCond} {apart fresh handsOn again:Bool} {X:World→Array Value→Prop}
  (hX:∀ (w w':World) (args:Array Value),w.heap=w'.heap→X w args→X w' args)
  (own:ownKnob C.prog.godebug=none) (started:os.Started) (noInit:C.prog.inits.idxOf? f=none) (hfn:C.prog.funcs[f]?=some fn)
  (witness:∃ (w:World) (tape:Tape) (i:Input),w.os=os∧(w.forCall tape i).Shaped C.prog∧i.vars=[]∧Input.okWide C.prog (w.forCall tape i) .any w.heap.size f i ∧
   ((s.pre enc C.prog fn conds apart (w.forCall tape i).memory i.args∧X (w.forCall tape i).memory i.args)∧sizedMet enc C.prog fn (OpenSpec.ofChange s) apart (w.forCall tape i).memory i.args)∧a.holds C.prog (lone (Frame.enter C.prog f i.args .normal) [] (w.forCall tape i)))
  (contract:∀ (W:World) (base:Nat) (args:Array Value) (ds gs:List (DataW H)) (before:List MemPlace),
   (∀ (j:Nat) t v,fn.params[j]?=some t→args[j]?=some v→Value.okWide C.prog W .any base t v) →
   DataW.Whole enc C.prog fn.params.toList s.vars apart W args.toList ds gs before→W.ShapedOpen C.prog→X W args →
   Calls C.prog f args W fun e W'=>∃ v,e=.returned v∧s.post enc C.prog fn apart fresh handsOn again W args v W') :
  ReturnsInHanded a C os f .any (fun w args=>(s.pre enc C.prog fn conds apart w args∧X w args)∧sizedMet enc C.prog fn (OpenSpec.ofChange s) apart w args) (s.post enc C.prog fn apart fresh handsOn again):=by
 refine returnsInHanded_of_calls own started noInit witness ?_;intro w tape i _ hsh _ hok hpre hholds;obtain ⟨_,_,_,fn',hfn',_,_,_,_,hval⟩:=hok;have e:fn'=fn:=Option.some.inj (hfn'.symm.trans hfn);subst e;obtain ⟨⟨⟨ds,gs,before,hw,hc⟩,hx⟩,hz⟩:=hpre;have hw':=DataW.Whole.of_heap (w':=w.forCall tape i) (by rfl) hw;refine (contract (w.forCall tape i) w.heap.size i.args ds gs before hval hw' hsh (hX _ _ _ (by rfl) hx)).mono fun e W' ⟨v,he,hp⟩=>?_
 subst he;exact ChangeSpec.post_blind hp
theorem Md : Tryz.prog.globalNamed "errors.errorType" = some 0 := by kernel_rfl
theorem L8 : (Tryz.prog.cutTypes.find? (·.1 == "internal/reflectlite.rtype")).map (·.2) = some 163 := by kernel_rfl
theorem GV:((List.range 342).filter fun t=>Tryz.prog.rowNamed t [101,114,114,111,114])=[29]:=by kernel_rfl
theorem Ka:Tryz.prog.types.size=342:=by kernel_rfl
theorem zN {W:World} (h:laidMetH Tryz.prog Rows.unitFineRow.laid W):(lZ W.heap∧Laid W.heap∧mn W.heap)∧Bb W.heap:=by
 have hq : laidMetH Tryz.prog Rows.unitFineRow.laid W = (laidMet Tryz.prog Rows.unitAssemblesRow.laid W ∧ handlesMet Tryz.prog [("errors.errorType", Rows.laid_errors_errorType)] W) := by kernel_rfl
 have h':=hq▸h;refine ⟨HF (by rw [MakeChecks.laidMetH_plain _ _ _ (by kernel_rfl)]; exact h'.1),?_⟩;obtain ⟨name, u, ty, e1, e2, e3, e4, e5⟩ := h'.2 ("errors.errorType", Rows.laid_errors_errorType) (.head _)
 have en:name=[101,114,114,111,114]:=(Option.some.inj e1).symm;subst en;obtain rfl:=Option.some.inj (L8.symm.trans e2);have hm:ty∈(List.range 342).filter fun t=>Tryz.prog.rowNamed t [101,114,114,111,114]:=List.mem_filter.2 ⟨List.mem_range.2 (by rw [← Ka]; exact e3),e4⟩
 rw [GV] at hm;obtain rfl:=List.mem_singleton.1 hm;have hh:typeHandle Tryz.prog 29=.pointer (some ⟨8,29,none⟩):=by kernel_rfl
 rw [hh] at e5
 have:=World.var?_cell Md e5 0
 exact ⟨by rw [Bv]; rw [dz] at this; simpa using this,trivial⟩
theorem DQ (os:Os) (args:Array Value):laidMetH Tryz.prog Rows.unitFineRow.laid ((World.doorLaid Tryz.prog 400 os).forCall (fun _ _=>0) ⟨#[],args,[]⟩).memory :=
 laidMetH_of_parts3 (fuel:=8) (laidMet_of_run' 8 (by kernel_rfl) (by kernel_rfl)) (by kernel_rfl) (by kernel_rfl)
theorem vV:(Tryz.f8.params.toList.all fun t=>decide (t<Tryz.prog.types.size))=true:=by kernel_rfl
theorem tJ:Tryz.prog.inPlace 8=Rows.unitMoreRow.inPlace:=by kernel_rfl
theorem vk:Tryz.prog.unfollowed 8=Rows.unitMoreRow.unfollowed:=by kernel_rfl
theorem u':Tryz.prog.recurses 8=Rows.unitMoreRow.recurses:=by kernel_rfl
theorem vN:Tryz.prog.varsNamed 8=Rows.unitMoreRow.named:=by kernel_rfl
theorem uQ:joinedFacts Tryz.prog 8 Tryz.f8 Rows.unitMoreSpec Rows.unitMoreRow=true:=by
 unfold joinedFacts;rw [tJ,vk,u',vN]
 kernel_rfl
theorem sN (os:Os) (started:os.Started) (H:Type) (enc:TypeId × Value→H) :
  ReturnsInHanded {} Tryz.checked os 8 .any (fun w args=>(Rows.unitMoreSpec.pre enc Tryz.prog Tryz.f8 [] false w args∧laidMetH Tryz.prog Rows.unitMoreRow.laid w)∧sizedMet enc Tryz.prog Tryz.f8 (OpenSpec.ofChange Rows.unitMoreSpec) false w args)
   (Rows.unitMoreSpec.post enc Tryz.prog Tryz.f8 false true false false):=by
 refine uG (C:=Tryz.checked) (X:=fun w _=>laidMetH Tryz.prog Rows.unitMoreRow.laid w) (fun _ _ _ hh h=>h.of_heap hh) Lw started (by kernel_rfl) Tryz.func8
  (ChangeSpec.witness_shaped (enc:=enc) (C:=Tryz.checked) (os:=os) (X:=fun w _=>laidMetH Tryz.prog Rows.unitMoreRow.laid w) false (World.doorLaid Tryz.prog 400 os) #[.string ⟨#[]⟩,.string ⟨#[]⟩] 8 rfl (World.shaped_of_RefB (by kernel_rfl) (by kernel_rfl)) (by kernel_rfl) (by kernel_rfl) (by kernel_rfl) (DQ os _)) ?_
 intro W base args ds gs before hval0 hW hsh hL;have hval:∀ (j:Nat) t v,Tryz.f8.params[j]?=some t→args[j]?=some v→Value.okWide Tryz.prog W .any base t v:=hval0
 have hW':=hW;obtain ⟨p,q,hA0,hV,rfl,hfz,hnd⟩:=hW;have hA:DataW.TrodAll enc Tryz.prog W 0 (fun _=>true) true Tryz.f8.params.toList args.toList ds p:=hA0;have hpf:Tryz.f8.params=#[9,9]:=by kernel_rfl
 rw [hpf] at hA hval;clear hA0 hval0;obtain ⟨v0,vs0,d0,ds0,p0,q0,hv0,rfl,rfl,t0,hA1⟩:=trodAll_cons hA;obtain ⟨v1,vs1,d1,ds1,p1,q1,hv1,rfl,rfl,t1,hA2⟩:=trodAll_cons hA1;subst hv1;obtain ⟨rfl,rfl,rfl⟩:=trodAll_nil hA2;obtain ⟨args⟩:=args;simp only at hv0;subst hv0;obtain ⟨rfl,rfl⟩:=trodVars_none hV;obtain ⟨x0,rfl,rfl,rfl,h0⟩:=open_string u9 (hval 0 9 v0 rfl rfl) t0;obtain ⟨x1,rfl,rfl,rfl,h1⟩:=open_string u9 (hval 1 9 v1 rfl rfl) t1;simp only [List.append_nil] at hW';refine (zc (H3 x0 x1 _ (Kd (zN hL).1 hsh) (zN hL).2) (fun _ _ h=>h.2)).mono fun e W' ⟨v,he,hB,hv,_⟩=>?_
 subst he hv;exact ⟨_,rfl,El rfl hW' (fun _ _ _=>trodAll_mk1 (shut_bool u4 _)) rfl rfl (fun t ht=>of_decide_eq_true (List.all_eq_true.1 vV t ht)) hB⟩
theorem tK:Rows.UnitMoreSaid :=
 OpenClaim.holds_of_wide 8 Tryz.f8 rfl rfl rfl rfl rfl rfl rfl ⟨rfl,rfl,rfl,rfl,rfl⟩ rfl rfl rfl rfl rfl (by kernel_rfl) Tryz.func8 uQ
  (of_decide_eq_true (by kernel_rfl)) (by unfold Func.isWrapper; first | (rw [if_pos (by decide +kernel)]; kernel_rfl) | (rw [if_neg (by decide +kernel)]; exact ⟨rfl,rfl⟩))
  (fun os started H enc _=>sN os started H enc)
end Go.Sx.Ob
