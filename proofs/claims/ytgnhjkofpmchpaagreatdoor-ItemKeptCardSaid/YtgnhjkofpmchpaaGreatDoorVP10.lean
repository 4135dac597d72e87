/- Contracts over heaps, and plain laws, for the functions that the laws of chapter 8 call, part 10: The law ItemKept over heaps: it answers true. What is handed in, opened: structs, lists; over any program. The law ItemReads over heaps: it answers true. What a row lists lies in the heap: the table of operations with its names, the errors. Units and bytes that are handed in: what they read as, and  Condition: as each statement says. -/
import Derived.Test.YtgnhjkofpmchpaaGreatDoorVP9
import Derived.Test.YtgnhjkofpmchpaaGreatDoorVItF
import Derived.Test.YtgnhjkofpmchpaaGreatDoorRows
import Derived.ProofKit
import Derived.LaidMore
import Derived.LaidLaws
import Derived.OpenShut
import Derived.ChangeSame
import Derived.ChangeStays
import Derived.ChangeOld
import Derived.ChangeSlices
import Derived.ChangeMaps5
import Derived.JoinedCond
import Derived.Lib.LaidTab
import Derived.Stop.Joined
import Derived.Test.YtgnhjkofpmchpaaGreatDoorTie
import Derived.Test.YtgnhjkofpmchpaaGreatDoorCards
import Derived.SevenTiedAt
set_option linter.unusedVariables false
set_option linter.unusedSimpArgs false
set_option maxRecDepth 100000
namespace Go.Sx.Ob
open Go.Proofs
theorem enc_plain (us:List Tok):(us.map enc).flatten.all plainV=true:=by
 rw [List.all_eq_true]
 intro v hv
 obtain ⟨x,hx,hv⟩:=List.mem_flatten.1 hv
 obtain ⟨t,_,rfl⟩:=List.mem_map.1 hx
 simp only [enc,List.mem_cons,List.not_mem_nil,or_false] at hv
 rcases hv with rfl | rfl | rfl | rfl <;> rfl
set_option maxHeartbeats 2000000 in
theorem itemKept_hc {h:Hp} (tb:TabN h) (ld:Laid h) (s0:ByteArray):HC Tryz.prog 4 #[.string s0] h fun w h'=>w=.bool true∧Ext h h':=by
 refine hcr_of (args:=[.string s0]) mixed Tryz.func4 (by kernel_rfl) (t_spandrellaw8_ItemKept_eq s0) ?_
 unfold t_spandrellaw8_ItemKept
 refine call_str (few_hc s0 300 _) ?_
 have hs:=few_size s0 300
 generalize (if 300<s0.size then s0.extract 0 300 else s0)=s at hs
 have hs3:s.size≤300:=hs
 have hs:s.size≤2^20:=by omega
 have kn:∀ {gg:Hp} {L:Lp},Ext h gg→(T.call Tryz.prog 11 [] false [(false,[.bool])] <| fun (b:Bool)=>T.ret (.bool b)) L (fun w h'=>w=.bool true∧Ext h h') gg:=by
  intro gg L e
  refine call_of (known_hc (tb.keep e (by simp)) (ld.ext e)) ?_
  rintro _ g' ⟨rfl,e'⟩
  refine ⟨(true,()),rfl,?_⟩
  dsimp only [flat,unc,unc1,nA,cA]
  exact ⟨rfl,e.trans e'⟩
 refine call_of (parse_hc s _ (by omega) ld) ?_
 rintro _ g3 ⟨e3,p,c,al,rfl,A,ha⟩
 refine ⟨((parseS s).1.label,(parseS s).1.op,(p,al.length,c),((parseS s).2.1:Int),((parseS s).2.2:Int),()),rfl,?_⟩
 dsimp only [flat,unc,unc1,nA,cA]
 refine newB ?_
 intro g4 b4 e4 z4
 refine stores_of b4 rfl (by simp) ?_
 intro g5 b5 k5 z5
 have e45:=e4.st k5 (Nat.le_refl _)
 have e05:=e3.trans e45
 have A5:=(A.mono (Nat.le_refl _)).keep e45 (by simp) (by simp)
 have b5:Box g5 g3.size 39 [.string (parseS s).1.label,.string (parseS s).1.op,.slice p al.length c]:=b5
 refine cond_mk (fun q=>kn e05) (fun q=>?_)
 have facts:=parse_facts s hs
 have fb:=parseS_bound s
 have fsz:∀ a,a∈al→a.ts.length≤300∧a.ts≠[]:=fun a hm=>by
  have:=ha▸List.mem_map_of_mem (f:=In.ts) hm
  exact ⟨by have:=fb.1 _ this; omega,(facts _ this).2.2.1⟩
 have hal:al.length≤301:=by
  have:=fb.2
  rw [← ha,List.length_map] at this
  omega
 have v5:=VwA.parse s hs A5 ha
 have ht:∀ sec:Int,ThgGd (trR (readA ⟨(parseS s).1.label,(parseS s).1.op,al.map In.ts⟩ (decide (sec=1)))).1:=by
  intro sec
  rw [show (⟨(parseS s).1.label,(parseS s).1.op,al.map In.ts⟩:Ln)=(parseS s).1 by rw [ha]]
  have:=sayR_gd s hs sec
  unfold sayR at this
  rw [if_neg (by simpa using q)] at this
  exact this
 generalize (parseS s).1.label=lab at *
 generalize (parseS s).1.op=op at *
 refine loads_box b5 (lab,()) rfl ?_
 dsimp only [flat,unc,unc1,nA,cA]
 rw [add_box]
 refine loads_box b5 (op,()) rfl ?_
 dsimp only [flat,unc,unc1,nA,cA]
 refine newB ?_
 intro g6 b6 e6 z6
 refine stores_of b6 rfl (by simp) ?_
 intro g7 b7 k7 z7
 have e67:=e6.st k7 (Nat.le_refl _)
 have b7:Box g7 g5.size 39 [.string lab,.string op,.slice none 0 0]:=b7
 have e07:=e05.trans e67
 have b57:=b5.keep e67 (by simp)
 have A7:=(A5.mono (Nat.le_refl _)).keep e67 (by simp) (by simp)
 have s5:=e05.size
 have s3:=e3.size
 have s35:g3.size<g5.size:=b5.lt
 have s57:g5.size<g7.size:=b7.lt
 simp only [add_box]
 refine loop_of (cs:=[(false,[.int .i64])]) (fun x n h'=>∃ (k:Nat) (pw:Option Addr) (cw:Nat) (dn:List In),x.1=(k:Int)∧k≤al.length∧n=al.length-k∧Ch [g5.size] g7 h'∧Box h' g5.size 39 [.string lab,.string op,.slice pw k cw] ∧
  Args h' (g5.size+1) 42 57 pw cw dn∧dn.map In.ts=(al.take k).map In.ts∧dn.length=k) ((0:Int),()) al.length rfl ⟨0,none,0,[],rfl,by omega,rfl,Ch.refl _ _,b7,Args.nil _ _ _ _,rfl,rfl⟩ ?_
 rintro ⟨n13,⟨⟩⟩ m hl ⟨k,pw,cw,dn,hk,hkle,rfl,kl,bw,D,hd,hdl⟩
 simp only at hk
 subst hk
 dsimp only [flat,unc,unc1,nA,cA]
 have bl:Box hl g3.size 39 [.string lab,.string op,.slice p al.length c]:=b57.keep kl (by simp; omega)
 have Al:=A7.keep kl (fun i hi=>by have:=(Sx.SL.blk A5.out hi).2; simp; omega) (fun a ha i hi=>by have:=(Sx.SL.blk (A5.inn a ha) hi).2; simp; omega)
 have sl7:=kl.size
 refine loads_box bl ((p,al.length,c),()) rfl ?_
 dsimp only [flat,unc,unc1,nA,cA]
 refine cond_mk (fun g=>?_) (fun g=>?_)
 ·have g:=of_decide_eq_true g
  have hk:k<al.length:=by omega
  refine loads_box bw ((pw,k,cw),()) rfl ?_
  dsimp only [flat,unc,unc1,nA,cA]
  refine loads_box bl ((p,al.length,c),()) rfl ?_
  dsimp only [flat,unc,unc1,nA,cA]
  obtain ⟨a,hpa,hc⟩:=Al.out.cells (i:=k) (by rw [List.length_map]; exact hk)
  rw [List.getElem_map] at hc
  have hq:=Al.inn al[k] (List.getElem_mem hk)
  have hqs:=fsz al[k] (List.getElem_mem hk)
  have htk:(al.take (k+1)).map In.ts=(al.take k).map In.ts++[al[k].ts]:=by rw [List.take_succ_eq_append_getElem hk,List.map_append]; rfl
  generalize al[k]=q at hc hq hqs htk
  rw [hpa]
  refine need_of ⟨by omega,by omega⟩ (osome_mk rfl ?_)
  rw [show Int.toNat (k:Int)=k by omega]
  refine loads_of ((q.p,q.l,q.c),()) hc ?_
  dsimp only [flat,unc,unc1,nA,cA]
  refine lit0_of und23 tokZ ?_
  intro hm sm em
  have bwm:=bw.keep em (by simp)
  have blm:=bl.keep em (by simp)
  have hcm:=cellsAt_keep em (by simp) _ _ hc
  rw [hpa] at blm
  refine ⟨⟨hcm,blm.cells _ rfl,bwm.cells _ rfl,trivial⟩,?_⟩
  have hqm:=Sx.SL.keep' hq em (by simp)
  obtain ⟨qp,ql,qc,qts⟩:=q
  simp only at hqm hqs hc hcm htk ⊢
  have hql:ql=qts.length:=by rw [hqm.1,List.length_map]
  obtain ⟨qa,rfl⟩:∃ qa,qp=some qa:=by
   cases qp with
   | some qa=>exact ⟨qa,rfl⟩
   | none =>
    have:=hqm.2.2.2
    rw [List.map_eq_nil_iff] at this
    exact absurd this hqs.2
  refine appSL_of (sz:=4) und23 tokZ rfl sm hqm (enc_plain _) (by omega) (by omega) (by have:=em.size; omega) ?_
  intro p1 c1 hn sn kn1 hp1
  have smn:=em.size
  have kn1:Ext hl hn:=Ch.trans em kn1 (fun i hi hl=>by simp [blkOf] at hi; omega)
  rw [Nat.zero_add,List.nil_append] at sn
  have bwn:=bw.keep kn1 (by simp)
  have bln:=bl.keep kn1 (by simp)
  rw [hpa] at bln
  have hcn:=cellsAt_keep kn1 (by simp) _ _ hc
  refine ⟨⟨bln.cells _ rfl,bwn.cells _ rfl,trivial⟩,?_⟩
  have Dn:=D.keep kn1 (by simp) (by simp)
  have snn:=kn1.size
  rw [Nat.zero_add]
  refine push_st (e:=42) (vs:=[.slice p1 ql c1]) und38 slZ rfl (by omega) (by omega) (by kernel_rfl) rfl rfl (by rw [← hdl]; exact Dn.out) (by omega) (by omega) (by omega) (fun h' e=>⟨cellsAt_keep e (by simp) _ _ hcn,(bln.keep e (by simp)).cells _ rfl,(bwn.keep e (by simp)).cells _ rfl,trivial⟩) ?_
  intro p2 c2 ho so ko hp2
  have hnW:∀ i,i∈blkOf pw→g5.size+1≤i:=fun i hi=>(Sx.SL.blk D.out hi).1
  have hWpw:g5.size∉blkOf pw:=fun hi=>by have:=hnW _ hi; omega
  have blo:=bln.keep ko (fun hi=>by have:=hnW _ hi; omega)
  have bwo:=bwn.keep ko hWpw
  have ha7:∀ i,i=a.block→i<g7.size:=fun i hi=>by
   have:=(Sx.SL.blk A7.out (i:=i) (by rw [hpa,hi]; simp [blkOf])).2
   exact this
  have haG:a.block<g5.size:=(Sx.SL.blk A5.out (i:=a.block) (by rw [hpa]; simp [blkOf])).2
  have hco:=cellsAt_keep ko (by rw [add_block]; intro hi; have:=hnW _ hi; omega) _ _ hcn
  refine ⟨⟨hco,blo.cells _ rfl,trivial⟩,?_⟩
  refine stores_of bwo rfl (by simp) ?_
  intro hr br kr zr
  have br:Box hr g5.size 39 [.string lab,.string op,.slice p2 (k+1) c2]:=br
  have so1:=ko.size
  have hp1':∀ i,i∈blkOf p1→hl.size≤i:=fun i hi=>by
   have:=(Sx.SL.blk sn hi).1
   omega
  have DD:Args ho (g5.size+1) 42 57 p2 c2 (dn++[⟨p1,ql,c1,qts⟩]):=by
   refine Args.snoc (a:=⟨p1,ql,c1,qts⟩) Dn (by omega) (by rw [hdl]; exact so) ko hp2 (Sx.SL.mono sn (by omega)) ?_ ?_
   ·intro i hi hh
    have h1:=hp1' i hi
    have h2:=(Sx.SL.blk D.out hh).2
    omega
   ·intro x hx i hi hh
    have h1:=hp1' i hh
    have h2:=(Sx.SL.blk (D.inn x hx) hi).2
    omega
  have DR:=DD.keep kr (fun i hi=>by have:=(Sx.SL.blk DD.out hi).1; simp; omega) (fun x hx i hi=>by have:=(Sx.SL.blk (DD.inn x hx) hi).1; simp; omega)
  have hw:IntKind.wrap .i64 ((k:Int)+1)=((k+1:Nat):Int):=by rw [wrap_i64 (by omega) (by omega)]; omega
  refine again_mk (cs:=[(false,[.int .i64])]) (((k+1:Nat):Int),()) (al.length-(k+1)) rfl (by omega) (congrArg (fun z=>[Value.int .i64 z]) hw) ?_
  refine ⟨k+1,p2,c2,_,rfl,by omega,rfl,?_,br,DR,?_,by simp [hdl]⟩
  ·have k1:Ch [g5.size] g7 hn:=Ch.trans kl kn1 (by simp)
   have k2:Ch [g5.size] g7 ho:=Ch.trans k1 ko (fun i hi hl'=>by
    have:=(Sx.SL.blk D.out hi).1
    omega)
   exact Ch.trans k2 kr (fun i hi _=>hi)
  ·rw [List.map_append,hd,htk]; rfl
 ·have g:=of_decide_eq_false g
  have hk:k=al.length:=by omega
  have hd:dn.map In.ts=al.map In.ts:=by rw [hd,hk,List.take_length]
  refine newB ?_
  intro gs bs es zs
  have e0l:Ext h hl:=Ch.trans e07 kl (fun i hi hl=>by simp at hi; omega)
  have e0s:=e0l.trans es
  have bls:=bl.keep es (by simp)
  have bws:=bw.keep es (by simp)
  have As:=Al.keep es (by simp) (by simp)
  have Ds:=D.keep es (by simp) (by simp)
  have Bs:BkN gs hl.size:=BkN.new bs
  have hAb:(∀ i,i∈blkOf p→i<hl.size)∧∀ a,a∈al→∀ i,i∈blkOf a.p→i<hl.size:=⟨fun i hi=>(Sx.SL.blk Al.out hi).2,fun a ha i hi=>(Sx.SL.blk (Al.inn a ha) hi).2⟩
  have hDb:(∀ i,i∈blkOf pw→i<hl.size)∧∀ a,a∈dn→∀ i,i∈blkOf a.p→i<hl.size:=⟨fun i hi=>(Sx.SL.blk D.out hi).2,fun a ha i hi=>(Sx.SL.blk (D.inn a ha) hi).2⟩
  have ll:=bl.lt
  have lw:=bw.lt
  have s0l:=e0l.size
  generalize hl.size=gb at *
  refine loop_of (cs:=[(false,[.bool]),(false,[.int .i64])]) (fun x n h'=>∃ i:Nat,x.2.1=(i:Int)∧i≤2∧n=2-i∧Ch [gb] gs h'∧BkN h' gb) (false,(0:Int),()) 2 rfl ⟨0,rfl,by omega,rfl,Ch.refl _ _,Bs⟩ ?_
  rintro ⟨b18,n19,⟨⟩⟩ m0 h0 ⟨i,hi,hi2,rfl,ks,BN⟩
  simp only at hi
  subst hi
  dsimp only [flat,unc,unc1,nA,cA]
  have eh0:Ext h h0:=Ch.trans e0s ks (fun j hj hl=>by simp at hj; omega)
  have bl0:=bls.keep ks (by simp; omega)
  have bw0:=bws.keep ks (by simp; omega)
  have A0:=As.keep ks (fun j hj=>by have:=hAb.1 j hj; simp; omega) (fun a ha j hj=>by have:=hAb.2 a ha j hj; simp; omega)
  have D0:=Ds.keep ks (fun j hj=>by have:=hDb.1 j hj; simp; omega) (fun a ha j hj=>by have:=hDb.2 a ha j hj; simp; omega)
  have szs:=ks.size
  refine cond_mk (fun f=>?_) (fun f=>?_)
  ·have f:=of_decide_eq_true f
   refine loads_box bl0 (lab,op,(p,al.length,c),()) rfl ?_
   dsimp only [flat,unc,unc1,nA,cA]
   have gd:=ht (i:Int)
   refine call_of (read_hc (tb.keep eh0 (by simp)) (VwA.parse s hs A0 ha).1 (by omega) (i:Int)) ?_
   intro u h1 q1
   obtain ⟨e1,sl,us,se,rfl,T1⟩:=thg_any q1
   have Lo:∀ j,j∈blkOf sl.p→h0.size≤j∧j<h1.size:=fun j hj=>Sx.SL.blk T1.its.out hj
   have Eo:∀ u,u∈us→∀ j,j∈blkOf u.1.p→h0.size≤j∧j<h1.size:=fun u hu j hj=>Sx.SL.blk (T1.its.own u hu) hj
   have So:∀ j,j∈blkOf se.p→h0.size≤j∧j<h1.size:=fun j hj=>Sx.SL.blk T1.e hj
   clear q1
   refine ⟨(((trR (readA ⟨lab,op,al.map In.ts⟩ (decide ((i:Int)=1)))).1.kind:Int),(sl.p,sl.l,sl.c),(trR (readA ⟨lab,op,al.map In.ts⟩ (decide ((i:Int)=1)))).1.name,(se.p,se.l,se.c),((trR (readA ⟨lab,op,al.map In.ts⟩ (decide ((i:Int)=1)))).1.e.num:Int),((trR (readA ⟨lab,op,al.map In.ts⟩ (decide ((i:Int)=1)))).1.sec:Int),((trR (readA ⟨lab,op,al.map In.ts⟩ (decide ((i:Int)=1)))).2:Int),()),rfl,?_⟩
   dsimp only [flat,unc,unc1,nA,cA]
   refine newB ?_
   intro h2 b2 e2 z2
   refine stores_of b2 rfl (by simp) ?_
   intro h3 b3 k3 z3
   have e13:=e2.st k3 (Nat.le_refl _)
   have e03:=e1.trans e13
   have bl3:=bl0.keep e03 (by simp)
   have A3:=A0.keep e03 (by simp) (by simp)
   refine loads_box bl3 (lab,op,(p,al.length,c),()) rfl ?_
   dsimp only [flat,unc,unc1,nA,cA]
   refine call_of (read_hc (tb.keep (eh0.trans e03) (by simp)) (VwA.parse s hs A3 ha).1 (by omega) (i:Int)) ?_
   intro u h4 q4
   obtain ⟨e4,sl',us',se',rfl,T4⟩:=thg_any q4
   have Lo':∀ j,j∈blkOf sl'.p→h3.size≤j∧j<h4.size:=fun j hj=>Sx.SL.blk T4.its.out hj
   have Eo':∀ u,u∈us'→∀ j,j∈blkOf u.1.p→h3.size≤j∧j<h4.size:=fun u hu j hj=>Sx.SL.blk (T4.its.own u hu) hj
   clear q4
   generalize trR (readA ⟨lab,op,al.map In.ts⟩ (decide ((i:Int)=1)))=R at *
   obtain ⟨t,ee⟩:=R
   simp only at gd T1 T4 b3
   have b3:Box h3 h1.size 28 (thgC t.kind sl.p sl.l sl.c t.name se.p se.l se.c t.e.num t.sec):=b3
   refine ⟨((t.kind:Int),(sl'.p,sl'.l,sl'.c),t.name,(se'.p,se'.l,se'.c),(t.e.num:Int),(t.sec:Int),(ee:Int),()),rfl,?_⟩
   dsimp only [flat,unc,unc1,nA,cA]
   refine newB ?_
   intro h5 b5 e5 z5
   refine stores_of b5 rfl (by simp) ?_
   intro h6 b6 k6 z6
   have b6:Box h6 h4.size 28 (thgC t.kind sl'.p sl'.l sl'.c t.name se'.p se'.l se'.c t.e.num t.sec):=b6
   have e46:=e5.st k6 (Nat.le_refl _)
   have e36:=e4.trans e46
   have e16:=e13.trans e36
   have e06:=e1.trans e16
   have b36:=b3.keep e36 (by simp)
   have T1:=T1.keep e16 (by simp)
   have T4:=T4.keep e46 (by simp)
   simp only [add_box]
   refine loads_box b36 ((se.p,se.l,se.c),()) rfl ?_
   dsimp only [flat,unc,unc1,nA,cA]
   have n01:=e1.size
   have n13:h1.size<h3.size:=b3.lt
   have n34:=e4.size
   have n46:h4.size<h6.size:=b6.lt
   obtain ⟨dd,ok⟩:=gd.ok
   have usl:us.length=t.items.length:=by rw [← T1.eq,List.length_map]
   have usl':us'.length=t.items.length:=by rw [← T4.eq,List.length_map]
   have hl1:sl.l=us.length:=T1.its.len
   have hl4:sl'.l=us'.length:=T4.its.len
   have hmany:=gd.sz.many
   have N1:h6.size≤h6.size:=Nat.le_refl _
   have gb0:gb<h0.size:=by omega
   refine call_of (keepB_hc (BN.b e06 h6.size) (Nat.le_refl _) (by omega) gb0 (Sx.SL.mono T1.e (by omega)) gd.sz.e (fun j hj=>⟨(So j hj).1,by have:=(So j hj).2; omega,fun x=>x⟩)) ?_
   rintro _ h7 ⟨rfl,M7,B7⟩
   refine ⟨(),rfl,?_⟩
   dsimp only [flat,unc,unc1,nA,cA]
   obtain ⟨Sk,hSk⟩:∃ Sk:Nat→Nat→Prop,Sk=fun k j=>j∈blkOf se.p∨∃ (x:Nat) (u:Sli × Itm),x<k∧(us[x]?=some u∨us'[x]?=some u)∧j∈blkOf u.1.p:=⟨_,rfl⟩
   have Ou:=T1.its.out
   refine loop_of (cs:=[(false,[.bool]),(false,[.int .i64])]) (fun x n h'=>∃ (k:Nat) (xs:List (List Value)),x.2.1=(k:Int)∧k≤us.length∧n=us.length-k∧Mid gb h0.size h6.size (fun j=>j∈blkOf sl.p) h6 h'∧Bk h' gb h0.size h6.size (Sk k) ∧
    SL h' h0.size 54 10 sl.p sl.l sl.c xs∧∀ j,k≤j→xs[j]?=(us.map encD)[j]?) (b18,(0:Int),()) us.length rfl ⟨0,us.map encD,rfl,by omega,rfl,M7.mono (fun j hj=>hj.elim),B7.mono (fun j hj=>by rw [hSk]; exact .inl (hj.elim (fun x=>x.elim) id)),M7.sl Ou (fun j hj=>⟨(Lo j hj).1,by have:=(Lo j hj).2; omega,fun x=>x⟩),fun j _=>rfl⟩ ?_
   rintro ⟨b57,n58,⟨⟩⟩ m1 h8 ⟨k2,xs,hk2,hk2le,rfl,M8,B8,O8,X8⟩
   simp only at hk2
   subst hk2
   dsimp only [flat,unc,unc1,nA,cA]
   have n68:=M8.size
   have nolo:h1.size∉blkOf sl.p:=fun hj=>by have:=(Lo _ hj).2; omega
   have nolo':h4.size∉blkOf sl.p:=fun hj=>by have:=(Lo _ hj).2; omega
   have c3:=M8.box b36 (by omega) (by omega) nolo
   have c6:=M8.box b6 (by omega) (by omega) nolo'
   have ks6:Ch [gb] gs h6:=Ch.trans ks e06 (by simp)
   have Kl:∀ {hh:Hp},Mid gb h0.size h6.size (fun j=>j∈blkOf sl.p) h6 hh→Ch [gb] gs hh:=fun M=>Mid.low ks6 M (by omega) (by omega) (fun j hj=>by have:=(Lo j hj).1; omega)
   have hwi:IntKind.wrap .i64 ((i:Int)+1)=((i+1:Nat):Int):=by rw [wrap_i64 (by omega) (by omega)]; omega
   refine loads_box c3 ((sl.p,sl.l,sl.c),()) rfl ?_
   dsimp only [flat,unc,unc1,nA,cA]
   refine cond_mk (fun a1=>?_) (fun a1=>again_mk (cs:=[(false,[.bool]),(false,[.int .i64])]) (b57,((i+1:Nat):Int),()) (2-(i+1)) rfl (by omega) (congrArg (fun z=>[Value.bool b57,.int .i64 z]) hwi) ⟨i+1,rfl,by omega,rfl,Kl M8,B8.n⟩)
   have a1:=of_decide_eq_true a1
   refine loads_box c6 ((sl'.p,sl'.l,sl'.c),()) rfl ?_
   dsimp only [flat,unc,unc1,nA,cA]
   refine cond_mk (fun a2=>?_) (fun a2=>again_mk (cs:=[(false,[.bool]),(false,[.int .i64])]) (b57,((i+1:Nat):Int),()) (2-(i+1)) rfl (by omega) (congrArg (fun z=>[Value.bool b57,.int .i64 z]) hwi) ⟨i+1,rfl,by omega,rfl,Kl M8,B8.n⟩)
   have a2:=of_decide_eq_true a2
   have hu:k2<us.length:=by omega
   have hu':k2<us'.length:=by omega
   have xl:xs.length=us.length:=by rw [← O8.1,hl1]
   have ue:se.p=none:=by
    rcases T1.apt with x | x
    ·rw [x] at hu; simp at hu
    ·exact x
   have nse:∀ j,¬ j∈blkOf se.p:=fun j hj=>by rw [ue] at hj; simp [blkOf] at hj
   have um:us[k2]∈us:=List.getElem_mem hu
   have um':us'[k2]∈us':=List.getElem_mem hu'
   have tm:us[k2].2∈t.items:=by rw [← T1.eq]; exact List.mem_map_of_mem um
   have tm':us'[k2].2∈t.items:=by rw [← T4.eq]; exact List.mem_map_of_mem um'
   have own1:=T1.its.own _ um
   have own4:=T4.its.own _ um'
   have eo1:=Eo _ um
   have eo4:=Eo' _ um'
   have po1:=T1.its.po _ um
   have xk:xs[k2]=encD us[k2]:=by
    have:=X8 k2 (Nat.le_refl _)
    rw [List.getElem?_eq_getElem (by omega),List.getElem?_eq_getElem (by rw [List.length_map]; exact hu),List.getElem_map] at this
    exact Option.some.inj this
   have pp1:∀ (x:Nat) (u:Sli × Itm),x<k2→us[x]?=some u→∀ j,j∈blkOf u.1.p→j∉blkOf us[k2].1.p:=by
    intro x u hx hxu
    rw [List.getElem?_eq_getElem (by omega)] at hxu
    have:=List.pairwise_iff_getElem.1 T1.its.pp x k2 (by omega) hu hx
    rw [Option.some.inj hxu] at this
    exact this
   have pp4:∀ (x:Nat) (u:Sli × Itm),x<k2→us'[x]?=some u→∀ j,j∈blkOf u.1.p→j∉blkOf us'[k2].1.p:=by
    intro x u hx hxu
    rw [List.getElem?_eq_getElem (by omega)] at hxu
    have:=List.pairwise_iff_getElem.1 T4.its.pp x k2 (by omega) hu' hx
    rw [Option.some.inj hxu] at this
    exact this
   have ux:us[k2]?=some us[k2]:=List.getElem?_eq_getElem hu
   have ux':us'[k2]?=some us'[k2]:=List.getElem?_eq_getElem hu'
   obtain ⟨a,hpa,hc⟩:=O8.cells (i:=k2) (by omega)
   rw [xk] at hc
   obtain ⟨a',hpa',hc'⟩:=T4.its.out.cells (i:=k2) (by rw [List.length_map]; exact hu')
   rw [List.getElem_map] at hc'
   have kind':=ok.items _ tm'
   have big1:=gd.sz.item _ tm
   have big4:=gd.sz.item _ tm'
   generalize us[k2]=u1 at *
   generalize us'[k2]=u4 at *
   refine loads_box c3 ((sl.p,sl.l,sl.c),()) rfl ?_
   dsimp only [flat,unc,unc1,nA,cA]
   refine need_of ⟨by omega,by omega⟩ (osome_mk hpa ?_)
   rw [show Int.toNat (k2:Int)=k2 by omega]
   refine loads_of ((u1.1.p,u1.1.l,u1.1.c),()) (cellsAt_add _ 7 0 ⟨hc.2.2.2.2.2.2.2.1,trivial⟩) ?_
   dsimp only [flat,unc,unc1,nA,cA]
   have o1':SL h8 gb 50 2 u1.1.p u1.1.l u1.1.c (u1.2.e.terms.map encT):=Sx.SL.mono (M8.sl own1 (fun j hj=>⟨(eo1 j hj).1,by have:=(eo1 j hj).2; omega,po1 j hj⟩)) (by omega)
   refine call_of (keepB_hc B8 (by omega) (by omega) gb0 o1' big1 (fun j hj=>⟨(eo1 j hj).1,by have:=(eo1 j hj).2; omega,fun hS=>?_⟩)) ?_
   ·rw [hSk] at hS
    rcases hS with x | ⟨x,u,hx,hxu | hxu,hj'⟩
    ·exact nse j x
    ·exact pp1 x u hx hxu j hj' hj
    ·have h1:=(Eo' u (List.mem_of_getElem? hxu) j hj').1
     have h2:=(eo1 j hj).2
     omega
   rintro _ h9 ⟨rfl,M9,B9⟩
   refine ⟨(),rfl,?_⟩
   dsimp only [flat,unc,unc1,nA,cA]
   have M69:=M8.trans (M9.mono (fun j hj=>hj.elim))
   have n89:=M9.size
   have d6:=M69.box b6 (by omega) (by omega) nolo'
   refine loads_box d6 ((sl'.p,sl'.l,sl'.c),()) rfl ?_
   dsimp only [flat,unc,unc1,nA,cA]
   refine need_of ⟨by omega,by omega⟩ (osome_mk hpa' ?_)
   have lo4:∀ j,j∈blkOf sl'.p→h0.size≤j∧j<h6.size∧¬ j∈blkOf sl.p:=fun j hj=>⟨by have:=(Lo' j hj).1; omega,by have:=(Lo' j hj).2; omega,fun x=>by have h1:=(Lo j x).2; have h2:=(Lo' j hj).1; omega⟩
   have out9:=M69.sl T4.its.out lo4
   obtain ⟨a9,hpa9,hc9⟩:=out9.cells (i:=k2) (by rw [List.length_map]; exact hu')
   rw [hpa'] at hpa9
   cases hpa9
   rw [List.getElem_map] at hc9
   have e4k:us'[k2]=u4:=by rw [List.getElem?_eq_getElem hu'] at ux'; exact Option.some.inj ux'
   rw [e4k] at hc9
   refine loads_of ((u4.1.p,u4.1.l,u4.1.c),()) (cellsAt_add _ 7 0 ⟨hc9.2.2.2.2.2.2.2.1,trivial⟩) ?_
   dsimp only [flat,unc,unc1,nA,cA]
   have o4':SL h9 gb 50 2 u4.1.p u4.1.l u4.1.c (u4.2.e.terms.map encT):=Sx.SL.mono (M69.sl own4 (fun j hj=>⟨by have:=(eo4 j hj).1; omega,by have:=(eo4 j hj).2; omega,fun x=>by have h1:=(Lo j x).2; have h2:=(eo4 j hj).1; omega⟩)) (by omega)
   refine call_of (keepB_hc B9 (by omega) (by omega) gb0 o4' big4 (fun j hj=>⟨by have:=(eo4 j hj).1; omega,by have:=(eo4 j hj).2; omega,fun hS=>?_⟩)) ?_
   ·rcases hS with hS | hS
    ·rw [hSk] at hS
     rcases hS with x | ⟨x,u,hx,hxu | hxu,hj'⟩
     ·exact nse j x
     ·have h1:=(Eo u (List.mem_of_getElem? hxu) j hj').2
      have h2:=(eo4 j hj).1
      omega
     ·exact pp4 x u hx hxu j hj' hj
    ·have h1:=(eo1 j hS).2
     have h2:=(eo4 j hj).1
     omega
   rintro _ hA ⟨rfl,MA,BA⟩
   refine ⟨(),rfl,?_⟩
   dsimp only [flat,unc,unc1,nA,cA]
   have M6A:=M69.trans (MA.mono (fun j hj=>hj.elim))
   have n9A:=MA.size
   have c3A:=M6A.box b36 (by omega) (by omega) nolo
   refine loads_box c3A ((sl.p,sl.l,sl.c),()) rfl ?_
   dsimp only [flat,unc,unc1,nA,cA]
   refine need_of ⟨by omega,by omega⟩ (osome_mk hpa ?_)
   have loF:∀ j,j∈blkOf sl.p→h0.size≤j∧j<h6.size∧¬ False:=fun j hj=>⟨(Lo j hj).1,by have:=(Lo j hj).2; omega,fun x=>x⟩
   have OA:=MA.sl (M9.sl O8 loF) loF
   refine OA.store (P:=Tryz.prog) (i:=k2) (by omega) (vs:=[.int .i64 (-9:Int),.string ⟨#[]⟩,.int .i64 (0:Int),.int .i64 (0:Int),.int .i64 (0:Int),.int .i32 (0:Int),.int .i64 (0:Int),.slice none 0 0,.int .u32 (0:Int),.int .i64 (0:Int)]) rfl rfl hpa ?_
   intro hB OB kB zB
   have MB:Mid gb h0.size h6.size (fun j=>j∈blkOf sl.p) hA hB:=⟨_,kB,fun j hj _=>.inr (.inr hj)⟩
   have M6B:=M6A.trans MB
   have BB:=BA.keep kB gb0 (fun j hj=>⟨(Lo j hj).1,by have:=(Lo j hj).2; omega,fun hS=>by
    rcases hS with (hS | hS) | hS
    ·rw [hSk] at hS
     rcases hS with x | ⟨x,u,hx,hxu | hxu,hj'⟩
     ·exact nse j x
     ·exact T1.its.po u (List.mem_of_getElem? hxu) j hj' hj
     ·have h1:=(Eo' u (List.mem_of_getElem? hxu) j hj').1
      have h2:=(Lo j hj).2
      omega
    ·exact po1 j hS hj
    ·have h1:=(eo4 j hS).1
     have h2:=(Lo j hj).2
     omega⟩)
   have d6B:=M6B.box b6 (by omega) (by omega) nolo'
   refine loads_box d6B ((sl'.p,sl'.l,sl'.c),()) rfl ?_
   dsimp only [flat,unc,unc1,nA,cA]
   refine need_of ⟨by omega,by omega⟩ (osome_mk hpa' ?_)
   have outB:=M6B.sl T4.its.out lo4
   obtain ⟨aB,hpaB,hcB⟩:=outB.cells (i:=k2) (by rw [List.length_map]; exact hu')
   rw [hpa'] at hpaB
   cases hpaB
   rw [List.getElem_map,e4k] at hcB
   refine loads_of (u4.2.kind,()) ⟨hcB.1,trivial⟩ ?_
   dsimp only [flat,unc,unc1,nA,cA]
   have hkd:u4.2.kind≠-9:=by
    intro e9
    have:=kind'.1
    unfold itmR at this
    rw [e9] at this
    simp at this
   refine cond_f (by simpa using hkd) ?_
   have hw2:IntKind.wrap .i64 ((k2:Int)+1)=((k2+1:Nat):Int):=by rw [wrap_i64 (by omega) (by omega)]; omega
   refine again_mk (cs:=[(false,[.bool]),(false,[.int .i64])]) (b57,((k2+1:Nat):Int),()) (us.length-(k2+1)) rfl (by omega) (congrArg (fun z=>[Value.bool b57,.int .i64 z]) hw2) ⟨k2+1,_,rfl,by omega,rfl,M6B,BB.mono ?_,OB,?_⟩
   ·intro j hj
    rw [hSk] at hj ⊢
    rcases hj with (hj | hj) | hj
    ·rcases hj with x | ⟨x,u,hx,hxu,hj'⟩
     ·exact .inl x
     ·exact .inr ⟨x,u,by omega,hxu,hj'⟩
    ·exact .inr ⟨k2,u1,by omega,.inl ux,hj⟩
    ·exact .inr ⟨k2,u4,by omega,.inr ux',hj⟩
   ·intro j hj
    rw [List.getElem?_set_ne (by omega)]
    exact X8 j (by omega)
  ·have dnl:dn.length=al.length:=by omega
   have hts:∀ j,(h1:j<dn.length)→(h2:j<al.length)→dn[j].ts=al[j].ts:=by
    intro j h1 h2
    have e1:(dn.map In.ts)[j]'(by rw [List.length_map]; exact h1)=dn[j].ts:=by simp
    have e2:(al.map In.ts)[j]'(by rw [List.length_map]; exact h2)=al[j].ts:=by simp
    rw [← e1,← e2]
    exact getE hd _ _
   refine loop_of (cs:=[(false,[.bool]),(false,[.int .i64])]) (fun x n h'=>h'=h0∧∃ j:Nat,x.2.1=(j:Int)∧j≤al.length∧n=al.length-j) (b18,(0:Int),()) al.length rfl ⟨rfl,0,rfl,by omega,rfl⟩ ?_
   rintro ⟨b20,n21,⟨⟩⟩ m2 h9 ⟨rfl,j,hj,hjle,rfl⟩
   simp only at hj
   subst hj
   dsimp only [flat,unc,unc1,nA,cA]
   refine loads_box bw0 ((pw,k,cw),()) rfl ?_
   dsimp only [flat,unc,unc1,nA,cA]
   refine cond_mk (fun a1=>?_) (fun a1=>?_)
   ·have a1:=of_decide_eq_true a1
    have h1:j<dn.length:=by omega
    have h2:j<al.length:=by omega
    have ee:=hts j h1 h2
    obtain ⟨a,hpa,hc⟩:=D0.out.cells (i:=j) (by rw [List.length_map]; exact h1)
    obtain ⟨a',hpa',hc'⟩:=A0.out.cells (i:=j) (by rw [List.length_map]; exact h2)
    rw [List.getElem_map] at hc hc'
    have q1:=D0.inn dn[j] (List.getElem_mem h1)
    have q2:=A0.inn al[j] (List.getElem_mem h2)
    have q3:=(fsz al[j] (List.getElem_mem h2)).1
    generalize dn[j]=d1 at *
    generalize al[j]=d2 at *
    refine loads_box bw0 ((pw,k,cw),()) rfl ?_
    dsimp only [flat,unc,unc1,nA,cA]
    refine need_of ⟨by omega,by omega⟩ (osome_mk hpa ?_)
    rw [show Int.toNat (j:Int)=j by omega]
    refine loads_of ((d1.p,d1.l,d1.c),()) hc ?_
    dsimp only [flat,unc,unc1,nA,cA]
    refine loads_box bl0 ((p,al.length,c),()) rfl ?_
    dsimp only [flat,unc,unc1,nA,cA]
    refine need_of ⟨by omega,by omega⟩ (osome_mk hpa' ?_)
    refine loads_of ((d2.p,d2.l,d2.c),()) hc' ?_
    dsimp only [flat,unc,unc1,nA,cA]
    rw [ee] at q1
    refine call_bool (bookSame_hc (by omega) q1 q2) ?_
    refine ⟨⟨bl0.cells _ rfl,bw0.cells _ rfl,trivial⟩,?_⟩
    refine cond_f rfl ?_
    have hwj:IntKind.wrap .i64 ((j:Int)+1)=((j+1:Nat):Int):=by rw [wrap_i64 (by omega) (by omega)]; omega
    exact again_mk (cs:=[(false,[.bool]),(false,[.int .i64])]) (b20,((j+1:Nat):Int),()) (al.length-(j+1)) rfl (by omega) (congrArg (fun z=>[Value.bool b20,.int .i64 z]) hwj) ⟨rfl,j+1,rfl,by omega,rfl⟩
   ·obtain ⟨pl,cl,pw',cw',es',hlen,B⟩:=BN
    refine call_of (TB.apart_hc B hlen (by have:=B.lt.1; omega)) ?_
    rintro _ hZ ⟨rfl,sz⟩
    refine ⟨(true,()),rfl,?_⟩
    dsimp only [flat,unc,unc1,nA,cA]
    refine cond_t rfl ?_
    have sc:TB.Since h.size h9 hZ:=⟨sz.1,fun x hx hl=>sz.2 x (by omega) hl⟩
    exact kn (TB.Since.ext eh0 sc)
open Go.Proofs Go.Proofs.YtgnhjkofpmchpaaGreatDoor
open Go.ChangeShapes Go.WideShapes Go.ChangeAt Go.WideMaps Go.WideElems Go.RowKit
def flds2 (P:Program) (t:TypeId):Option (List (TypeId × Nat)):=(P.underlying t).bind fun d=>match d with | .struct fs=>some (fs.toList.map fun f=>(f.type,f.offset)) | _=>none
section
variable {H:Type} {enc:TypeId × Value→H} {P:Program} {W:World} {base fuel:Nat} {sp:Nat→Bool} {held:Bool} {t:TypeId} {cs:List Value} {y:DataW H × List MemPlace}
theorem open_struct {l:List (TypeId × Nat)} (hu:flds2 P t=some l) (h:DataW.trod enc P W base sp held fuel t cs=some y) :
  ∃ (xs:List (DataW H × List MemPlace)) (n:Nat),y.1=.agg (xs.map (·.1))∧cs.length=P.cellsOf t∧xs.length=l.length∧∀ (i:Nat) (p:TypeId × Nat),l[i]?=some p→∃ x,xs[i]?=some x∧DataW.trod enc P W base sp held n p.1 ((cs.drop p.2).take (P.cellsOf p.1))=some x:=by
 unfold flds2 at hu
 cases hd:P.underlying t with
 | none=>rw [hd] at hu; cases hu
 | some d =>
  rw [hd] at hu
  simp only [Option.bind_some] at hu
  split at hu
  ·rename_i fs
   simp only [Option.some.injEq] at hu
   obtain ⟨xs,n,_,hy,hl,hlen,hf⟩:=DataW.trod_struct hd h
   refine ⟨xs,n,by rw [hy],hl,by rw [← hu,List.length_map,hlen,Array.length_toList],fun i p hp=>?_⟩
   rw [← hu,List.getElem?_map,Option.map_eq_some_iff] at hp
   obtain ⟨f,hf1,rfl⟩:=hp
   rw [Array.getElem?_toList] at hf1
   have h1:=hf i f hf1
   cases hx:xs[i]? with
   | none =>
    rw [List.getElem?_eq_none_iff] at hx
    have:i<fs.size:=by
     by_cases g:i<fs.size
     ·exact g
     ·rw [Array.getElem?_eq_none (by omega)] at hf1
      cases hf1
    omega
   | some x=>rw [hx] at h1; exact ⟨x,rfl,h1⟩
  ·cases hu
end
theorem calls_of {P:Program} {f:FuncId} {args:Array Value} {W:World} {R:Value→Hp→Prop} (h:HC P f args W.heap R) (he:∀ v h',R v h'→Ext W.heap h'):Calls P f args W fun e w'=>∃ v,e=.returned v∧Below W.heap.size W w'∧R v w'.heap:=by
 refine (h W rfl).mono fun e w' ⟨v,hv,hs,hr⟩=>⟨v,hv,⟨hs.os,hs.tape,hs.output,(he v _ hr).size,fun k hk=>(he v _ hr).same k hk (by simp)⟩,hr⟩
theorem below_same {W W':World} (hB:Below W.heap.size W W') {p:MemPlace} (hp:p.block<W.heap.size):W.sameAt W' p:=by
 cases p with
 | cell b off =>
  show W'.cell? _=W.cell? _
  unfold World.cell?
  rw [hB.block b hp]
 | map b=>exact hB.block b hp
theorem ownK:ownKnob Tryz.prog.godebug=none:=by kernel_rfl
theorem u9:Tryz.prog.underlying 9=some .string:=by kernel_rfl
theorem u4:Tryz.prog.underlying 4=some .bool:=by kernel_rfl
theorem u3:Tryz.prog.underlying 3=some (.int .i64):=by kernel_rfl
theorem u5:Tryz.prog.underlying 5=some (.int .u8):=by kernel_rfl
theorem u127:Tryz.prog.underlying 113=some (.array 43 112):=by kernel_rfl
theorem c106:Tryz.prog.cellsOf 112=3:=by kernel_rfl
theorem c127:Tryz.prog.cellsOf 113=129:=by kernel_rfl
theorem c9:Tryz.prog.cellsOf 9=1:=by kernel_rfl
theorem c5:Tryz.prog.cellsOf 5=1:=by kernel_rfl
theorem c3:Tryz.prog.cellsOf 3=1:=by kernel_rfl
theorem s106:flds2 Tryz.prog 112=some [(9,0),(5,1),(3,2)]:=by kernel_rfl
def tabL:List (DataW Unit):=match (Rows.laid_spandrel_isa_table:DataW Unit) with | .agg l=>l | _=>[]
def shpOf:DataW Unit→Int
 | .agg [_,_,.lit (.int _ n)]=>n
 | _=>0
theorem tabL_eq:(Rows.laid_spandrel_isa_table:DataW Unit)=.agg tabL:=by kernel_rfl
theorem tabL_shp:tabL.map shpOf=(List.range 43).map fun k=>((shpL.getD k 0:Nat):Int):=by kernel_rfl
theorem flat_len {α β:Type} (f:α→List β) (m:Nat) (hf:∀ x,(f x).length=m):∀ l:List α,(l.flatMap f).length=l.length*m
 | []=>by simp
 | x::l=>by rw [List.flatMap_cons,List.length_append,hf,flat_len f m hf l,List.length_cons,Nat.succ_mul,Nat.add_comm]
theorem rowsV_length (nm:Nat→ByteArray) (by_:Nat→Int):(rowsV nm by_).length=129:=by
 unfold rowsV
 rw [flat_len _ 3 (fun x=>rfl),List.length_range]
def nmOf:DataW Unit→List UInt8
 | .agg [.lit (.string s),_,_]=>s
 | _=>[]
def byOf:DataW Unit→Int
 | .agg [_,.lit (.int _ n),_]=>n
 | _=>0
theorem tabL_nm:tabL.map nmOf=(List.range 43).map fun k=>opNm k:=by kernel_rfl
theorem tabL_by:tabL.map byOf=(List.range 43).map fun k=>opsB k:=by kernel_rfl
theorem tab_cells {enc:TypeId × Value→Unit} {W:World} {base fuel:Nat} {sp:Nat→Bool} {held:Bool} {cs:List Value} {p:List MemPlace}
  (h:DataW.trod enc Tryz.prog W base sp held fuel 113 cs=some (Rows.laid_spandrel_isa_table,p)):cs=rowsV opsN opsB:=by
 obtain ⟨xs,m,_,hx,hl,hlen,hf⟩:=DataW.trod_array u127 h
 rw [c127] at hl
 have hxs:xs.map (·.1)=tabL:=by
  have:=congrArg Prod.fst hx
  rw [show (Rows.laid_spandrel_isa_table,p).1=DataW.agg tabL from tabL_eq] at this
  simpa using this.symm
 have each:∀ i,i<43→(cs.drop (i*3)).take 3=[.string (opsN i),.int .u8 (opsB i),.int .i64 ((shpL.getD i 0:Nat):Int)]:=by
  intro i hi
  have h1:=hf i hi
  rw [c106] at h1
  rw [List.getElem?_eq_getElem (by omega)] at h1
  obtain ⟨ys,n,hy,hyl,hyn,hys⟩:=open_struct s106 h1
  obtain ⟨y0,g0,t0⟩:=hys 0 _ rfl
  obtain ⟨y1,g1,t1⟩:=hys 1 _ rfl
  obtain ⟨y2,g2,t2⟩:=hys 2 _ rfl
  rw [c106] at hyl
  generalize hc:(cs.drop (i*3)).take 3=c at *
  match c,hyl with
  | [v0,v1,v2],_ =>
   rw [show Tryz.prog.cellsOf (9,0).1=1 from c9] at t0
   rw [show Tryz.prog.cellsOf (5,1).1=1 from c5] at t1
   rw [show Tryz.prog.cellsOf (3,2).1=1 from c3] at t2
   obtain ⟨s,e0,r0,_⟩:=DataW.trod_string u9 t0
   obtain ⟨b,e1,r1,_⟩:=DataW.trod_int u5 t1
   obtain ⟨k,e2,r2,_⟩:=DataW.trod_int u3 t2
   cases e0; cases e1; cases e2
   have hys3:ys=[y0,y1,y2]:=by
    apply List.ext_getElem?
    intro j
    match j with
    | 0=>exact g0
    | 1=>exact g1
    | 2=>exact g2
    | j+3=>rw [List.getElem?_eq_none (by rw [hyn]; simp),List.getElem?_eq_none (by simp)]
   have h2:(xs.map (·.1))[i]?=some (xs[i]'(by omega)).1:=by rw [List.getElem?_map,List.getElem?_eq_getElem (by omega)]; rfl
   rw [hxs] at h2
   have hk:k=((shpL.getD i 0:Nat):Int):=by
    have h3:(tabL.map shpOf)[i]?=some (shpOf (xs[i]'(by omega)).1):=by rw [List.getElem?_map,h2]; rfl
    rw [tabL_shp,List.getElem?_map,List.getElem?_range hi] at h3
    rw [hy,hys3,r0,r1,r2] at h3
    exact (Option.some.inj h3).symm
   have hb:b=opsB i:=by
    have h3:(tabL.map byOf)[i]?=some (byOf (xs[i]'(by omega)).1):=by rw [List.getElem?_map,h2]; rfl
    rw [tabL_by,List.getElem?_map,List.getElem?_range hi] at h3
    rw [hy,hys3,r0,r1,r2] at h3
    exact (Option.some.inj h3).symm
   have hs:s=opsN i:=by
    have h3:(tabL.map nmOf)[i]?=some (nmOf (xs[i]'(by omega)).1):=by rw [List.getElem?_map,h2]; rfl
    rw [tabL_nm,List.getElem?_map,List.getElem?_range hi] at h3
    rw [hy,hys3,r0,r1,r2] at h3
    exact ba_ext (Option.some.inj h3).symm
   rw [hk,hb,hs]
 apply List.ext_getElem?
 intro j
 by_cases hj:j<129
 ·obtain ⟨a,b,hab,hb⟩:∃ a b,j=a*3+b∧b<3:=⟨j / 3,j % 3,by omega,by omega⟩
  subst hab
  unfold rowsV
  rw [flat_get (fun k=>[Value.string (opsN k),.int .u8 (opsB k),.int .i64 (shpL.getD k 0:Nat)]) 3 (fun x=>rfl) _ a b hb,List.getElem?_range (by omega)]
  show cs[a*3+b]?=[Value.string (opsN a),.int .u8 (opsB a),.int .i64 ((shpL.getD a 0:Nat):Int)][b]?
  have:=each a (by omega)
  rw [← this,List.getElem?_take,if_pos hb,List.getElem?_drop]
 ·have hr:(rowsV opsN opsB).length=129:=rowsV_length _ _
  rw [List.getElem?_eq_none (by omega),List.getElem?_eq_none (by omega)]
theorem var_obj {P:Program} {W:World} {name:String} {g:Nat} {cs:Array Value} (hg:P.globalNamed name=some g) (hv:W.var? P name=some cs):∃ e f,W.heap[g]?=some (.cells cs e f):=by
 unfold World.var? at hv
 rw [hg] at hv
 have hv:(match (W.heap[g]?:Option Obj) with | some (.cells cs _ _)=>some cs | _=>none)=some cs:=hv
 split at hv
 ·rename_i cs' e f hh
  cases hv
  exact ⟨e,f,hh⟩
 ·cases hv
theorem u148 : Tryz.prog.underlying 148 = some (.interface #[("Error", 228)]) := by kernel_rfl
theorem laid_of {W:World} (h:laidMetH Tryz.prog Rows.itemReadsRow.laid W):TabN W.heap∧Laid W.heap:=by
 rw [MakeChecks.laidMetH_plain _ _ _ (by kernel_rfl)] at h
 obtain ⟨ps,⟨g0,t0,cs0,f0,p0,q0,hg0,ht0,hv0,hd0,⟨g1,t1,cs1,f1,p1,q1,hg1,ht1,hv1,hd1,⟨g2,t2,cs2,f2,p2,q2,hg2,ht2,hv2,hd2,⟨g3,t3,cs3,f3,p3,q3,hg3,ht3,hv3,hd3,⟨g4,t4,cs4,f4,p4,q4,hg4,ht4,hv4,hd4,⟨g5,t5,cs5,f5,p5,q5,hg5,ht5,hv5,hd5,_,_⟩,_⟩,_⟩,_⟩,_⟩,_⟩,_,_⟩:=h
 obtain rfl:=Option.some.inj ((show Tryz.prog.globalNamed _=some 0 by kernel_rfl).symm.trans hg3)
 obtain rfl:=Option.some.inj ((show Tryz.prog.globalNamed _=some 3 by kernel_rfl).symm.trans hg4)
 obtain rfl:=Option.some.inj ((show Tryz.prog.globalNamed _=some 2 by kernel_rfl).symm.trans hg5)
 have h3:(Tryz.prog.globals[0]?).map (·.type)=some 113:=by kernel_rfl
 obtain rfl:=Option.some.inj (h3.symm.trans ht3)
 have h4:(Tryz.prog.globals[3]?).map (·.type)=some 148:=by kernel_rfl
 obtain rfl:=Option.some.inj (h4.symm.trans ht4)
 have h5:(Tryz.prog.globals[2]?).map (·.type)=some 148:=by kernel_rfl
 obtain rfl:=Option.some.inj (h5.symm.trans ht5)
 have hr:=tab_cells hd3
 obtain ⟨e3,ff3,ho3⟩:=var_obj hg3 hv3
 obtain ⟨_,w4,v4,e4,_⟩:=iface_of_trod u148 hd4
 obtain ⟨_,w5,v5,e5,_⟩:=iface_of_trod u148 hd5
 have c4:=World.var?_cell hg4 hv4 0
 have c5:=World.var?_cell hg5 hv5 0
 rw [← Array.getElem?_toList,e4] at c4
 rw [← Array.getElem?_toList,e5] at c5
 refine ⟨⟨e3,ff3,?_⟩,⟨⟨_,c5,rfl⟩,⟨_,c4,rfl⟩⟩⟩
 rw [ho3,← hr]
theorem door_met (os:Os) (args:Array Value):laidMetH Tryz.prog Rows.itemReadsRow.laid ((World.doorLaid Tryz.prog 400 os).forCall (fun _ _=>0) ⟨#[],args,[]⟩).memory :=
 laidMetH_of_parts3 (fuel:=8) (laidMet_of_run' 8 (by kernel_rfl) (by kernel_rfl)) (by kernel_rfl) (by kernel_rfl)
theorem kidsT:Kids Tryz.prog (·<Tryz.prog.types.size):=kids_rows (by kernel_rfl) (by kernel_rfl)
theorem sliceB:((List.range Tryz.prog.types.size).all fun t=>match Tryz.prog.underlying t with | some (.slice e)=>decide (0<Tryz.prog.cellsOf e) | _=>true)=true:=by kernel_rfl
theorem sliceT {t e:TypeId} (ht:t<Tryz.prog.types.size) (hu:Tryz.prog.underlying t=some (.slice e)):0<Tryz.prog.cellsOf e:=by
 have:=List.all_eq_true.1 sliceB t (List.mem_range.2 ht)
 rw [hu] at this
 exact of_decide_eq_true this
theorem trodAll_stays {H:Type} {enc:TypeId × Value→H} {W W':World} {sp:Nat→Bool} (hB:Below W.heap.size W W'):∀ {ts:List TypeId} {vs:List Value} {ds:List (DataW H)} {ps:List MemPlace},(∀ t∈ts,t<Tryz.prog.types.size) →
  DataW.TrodAll enc Tryz.prog W 0 (fun _=>true) true ts vs ds ps→(∀ p∈ps,p.block<W.heap.size)→(∀ p∈ps,sp p.block=true)→DataW.TrodAll enc Tryz.prog W' 0 sp true ts vs ds ps
 | [],_,_,_,_,h,_,_=>by
  obtain ⟨rfl,rfl,rfl⟩:=trodAll_nil h
  exact trodAll_mk0
 | t::ts,_,_,_,ht,h,hl,hs=>by
  obtain ⟨v,vs1,d,ds1,a,b,rfl,rfl,rfl,⟨n,h1⟩,h2⟩:=trodAll_cons h
  exact ⟨a,b,⟨n,DataW.trod_stays kidsT (fun h hu=>sliceT h hu) (fun h=>by cases h) (ht t (List.mem_cons_self ..)) h1 (fun p hp=>below_same hB (hl p (List.mem_append_left _ hp))) (fun p hp=>hs p (List.mem_append_left _ hp))⟩,
   trodAll_stays hB (fun t h=>ht t (List.mem_cons_of_mem _ h)) h2 (fun p hp=>hl p (List.mem_append_right _ hp)) (fun p hp=>hs p (List.mem_append_right _ hp)),rfl⟩
theorem post_old {H:Type} {enc:TypeId × Value→H} {f:Func} {s:ChangeSpec} {apart fresh handsOn:Bool} {W W':World} {args:Array Value} {v:Value} {ds gs:List (DataW H)} {before:List MemPlace} (hv0:s.vars=[])
  (hW:DataW.Whole enc Tryz.prog f.params.toList s.vars apart W args.toList ds gs before)
  (hres:∀ (b:Nat) (sp:Nat→Bool) (hd:Bool),DataW.TrodAll enc Tryz.prog W' b sp hd f.resultTypes.toList (v.resultList f.resultTypes.size) (s.fn H (ds++gs)).results [])
  (hargs:(s.fn H (ds++gs)).args=ds) (hvs:(s.fn H (ds++gs)).vars=[]) (hts:∀ t∈f.params.toList,t<Tryz.prog.types.size) (hB:Below W.heap.size W W') :
  s.post enc Tryz.prog f apart fresh handsOn false W args v W':=by
 have hlt:=hW.lt
 have hW':=hW
 obtain ⟨p,q,hA,hV,rfl,hz,hn⟩:=hW
 rw [hv0] at hV
 obtain ⟨rfl,rfl⟩:=trodVars_none hV
 rw [List.append_nil] at hlt hW'
 refine ⟨ds,[],p,[],p,[],hW',hres _ _ _,?_,?_,hB.frame _,fun h=>by cases h⟩
 ·rw [hargs]
  exact trodAll_stays hB hts hA hlt (fun p hp=>decide_eq_true (hlt p hp))
 ·rw [hvs,hv0]
  rfl
theorem s55:flds2 Tryz.prog 26=some [(23,0),(24,1)]:=by kernel_rfl
theorem s79:flds2 Tryz.prog 54=some [(3,0),(9,1),(52,2),(26,7),(3,9)]:=by kernel_rfl
section
variable {H:Type} {enc:TypeId × Value→H} {W:World} {base n:Nat} {sp:Nat→Bool} {held:Bool} {cs:List Value} {y:DataW H × List MemPlace}
end
open Go.ChangeMaps
theorem itemKept_small:(Tryz.f4.params.toList.all fun t=>decide (t<Tryz.prog.types.size))=true:=by kernel_rfl
theorem itemKept_cell0:Tryz.prog.inPlace 4=Rows.itemKeptRow.inPlace:=by kernel_rfl
theorem itemKept_cell1:Tryz.prog.unfollowed 4=Rows.itemKeptRow.unfollowed:=by kernel_rfl
theorem itemKept_cell2:Tryz.prog.recurses 4=Rows.itemKeptRow.recurses:=by kernel_rfl
theorem itemKept_cell3:Tryz.prog.varsNamed 4=Rows.itemKeptRow.named:=by kernel_rfl
theorem itemKept_facts:joinedFacts Tryz.prog 4 Tryz.f4 Rows.itemKeptSpec Rows.itemKeptRow=true:=by
 unfold joinedFacts
 rw [itemKept_cell0,itemKept_cell1,itemKept_cell2,itemKept_cell3]
 kernel_rfl
theorem itemKept_lifted (os:Os) (started:os.Started) (H:Type) (enc:TypeId × Value→H) :
  ReturnsInHanded {} Tryz.checked os 4 .any (fun w args=>(Rows.itemKeptSpec.pre enc Tryz.prog Tryz.f4 [] false w args∧laidMetH Tryz.prog Rows.itemKeptRow.laid w)∧sizedMet enc Tryz.prog Tryz.f4 (OpenSpec.ofChange Rows.itemKeptSpec) false w args)
   (Rows.itemKeptSpec.post enc Tryz.prog Tryz.f4 false true false false):=by
 refine returnsInHanded_of_change_and (C:=Tryz.checked) (X:=fun w _=>laidMetH Tryz.prog Rows.itemKeptRow.laid w) (fun _ _ _ hh h=>h.of_heap hh) ownK started (by kernel_rfl) Tryz.func4
  (ChangeSpec.witness_shaped (enc:=enc) (C:=Tryz.checked) (os:=os) (X:=fun w _=>laidMetH Tryz.prog Rows.itemKeptRow.laid w) false (World.doorLaid Tryz.prog 400 os) #[.string ⟨#[]⟩] 8 rfl (World.shaped_of_RefB (by kernel_rfl) (by kernel_rfl)) (by kernel_rfl) (by kernel_rfl) (by kernel_rfl) (door_met os _)) ?_
 intro W base args ds gs before hval0 hW _ hwt hL _
 have hval:∀ (j:Nat) t v,Tryz.f4.params[j]?=some t→args[j]?=some v→Value.okWide Tryz.prog W .any base t v:=hval0
 have hW':=hW
 obtain ⟨p,q,hA0,hV,rfl,hfz,hnd⟩:=hW
 have hA:DataW.TrodAll enc Tryz.prog W 0 (fun _=>true) true Tryz.f4.params.toList args.toList ds p:=hA0
 have hpf:Tryz.f4.params=#[9]:=by kernel_rfl
 rw [hpf] at hA hval
 clear hA0 hval0
 obtain ⟨v0,vs0,d0,ds0,p0,q0,hv0,rfl,rfl,t0,hA1⟩:=trodAll_cons hA
 obtain ⟨rfl,rfl,rfl⟩:=trodAll_nil hA1
 obtain ⟨args⟩:=args
 simp only at hv0
 subst hv0
 obtain ⟨rfl,rfl⟩:=trodVars_none hV
 obtain ⟨x0,rfl,rfl,rfl,h0⟩:=open_string u9 (hval 0 9 v0 rfl rfl) t0
 simp only [List.append_nil] at hW'
 refine (calls_of (itemKept_hc (laid_of hL).1 (laid_of hL).2 x0) (fun _ _ h=>h.2)).mono fun e W' ⟨v,he,hB,hv,_⟩=>?_
 subst he hv
 exact ⟨_,rfl,post_old rfl hW' (fun _ _ _=>trodAll_mk1 (shut_bool u4 _)) rfl rfl (fun t ht=>of_decide_eq_true (List.all_eq_true.1 itemKept_small t ht)) hB⟩
theorem itemKept_holds:Rows.ItemKeptSaid :=
 OpenClaim.holds_of_wide 4 Tryz.f4 rfl rfl rfl rfl rfl rfl rfl ⟨rfl,rfl,rfl,rfl,rfl⟩ rfl rfl rfl rfl rfl (by kernel_rfl) Tryz.func4 itemKept_facts
  (of_decide_eq_true (by kernel_rfl)) (by unfold Func.isWrapper; first | (rw [if_pos (by decide +kernel)]; kernel_rfl) | (rw [if_neg (by decide +kernel)]; exact ⟨rfl,rfl⟩))
  (fun os started H enc _=>itemKept_lifted os started H enc)
end Go.Sx.Ob
