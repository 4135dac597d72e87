/- Contracts over heaps, and plain laws, for the functions that the laws of chapter 9 call, part 7: CopyUnit over heaps, its parts: names, equs. CopyUnit over heaps. Bytes over hea Condition: as each statement says. -/
import Derived.Test.YtfkjiiapldkoeaaGreatDoorP6
import Derived.Test.YtfkjiiapldkoeaaGreatDoorAtP
import Derived.Test.YtfkjiiapldkoeaaGreatDoorAtT
import Derived.HandedShaped
import Derived.Shelf.Vars
import Derived.Test.YtfkjiiapldkoeaaGreatDoorTie
import Derived.Test.YtfkjiiapldkoeaaGreatDoorCards
import Derived.SevenTiedAt
set_option linter.unusedVariables false
set_option linter.unusedSimpArgs false
set_option maxRecDepth 100000
namespace Go.Sx.Ob
open Go.Proofs
theorem qw {h:Hp} {a:Addr}:∀ (xs:List ByteArray) (k:Nat),(∀ i,(hi:i<xs.length)→aH h (a.add ((k+i)*1)) 0 [.string xs[i]])→aH h a k (xs.map yM).flatten
 | [],_,_=>trivial
 | x::xs,k,hc=>by
  refine ⟨?_,?_⟩
  ·have:=(hc 0 (by simp)).1
   rw [add_add] at this;simpa using this
  ·refine qw xs (k+1) fun i hi=>?_
   have:=hc (i+1) (by simpa using hi)
   rw [show k+1+i=k+(i+1) by omega];simpa using this
theorem FK.flat {h:Hp} {a:Addr} {l:Nat} {xs:List ByteArray} (v:FK h (some a) l xs):aH h a 0 (xs.map yM).flatten :=
 qw xs 0 fun i hi=>by
  obtain ⟨b,hb,hc,_⟩:=v.cells i hi;cases hb;rw [Nat.zero_add];exact hc
theorem IW {L:Lp} {K:Value→Hp→Prop} {h:Hp} {k:Option Addr→Nat→Nat→T} {b:Nat} {p:Option Addr} {c:Nat} (s:SL h b 9 1 p 0 c []) {q:Option Addr} {m d:Nat} {us:List ByteArray} (v:FK h q m us)
  (hl:us.length≤2^40) (hb:b≤h.size)
  (hk:∀ p' c' h',SN h' b p' m c' us→Ch (az p) h h'→k p' m c' L K h') :
  T.aS Tryz.prog (Builtin.append_ #[25,25] 25 #[.slice p 0 c,.slice q m d]) false [(false,[.slice 0])] k L K h:=by
 obtain ⟨i,hi,hz,hsz,hby⟩:=fF Ja;have hlen:=v.len;refine bN ?_;cases q with
 | none =>
  have h1:us=[]:=by
   cases us with
   | nil=>rfl
   | cons t us=>obtain ⟨a,ha,_⟩:=v.cells 0 (by simp); cases ha
  have h0:m=0:=by rw [h1] at hlen; exact hlen
  subst h0 h1;have hfin:∃ p' l' c',Value.slice p 0 c=.slice p' l' c'∧k p' l' c' L K h:=⟨p,0,c,rfl,hk p c h s (Ch.refl _ _)⟩
  cases p with
  | none =>
   have hc:c=0:=s.2.2.1;subst hc;simp [Builtin.append_,ak,ay vW,aT hi,Builtin.lenOf,Builtin.firstCells,storeCells];exact hfin
  | some a =>
   simp [Builtin.append_,ak,ay vW,aT hi,Builtin.lenOf,Builtin.firstCells,storeCells];exact hfin
 | some a =>
  have hpl:(us.map yM).flatten.all dA=true:=by
   rw [List.all_eq_true];intro x hx;obtain ⟨y,hy,hxy⟩:=List.mem_flatten.1 hx;obtain ⟨z,_,rfl⟩:=List.mem_map.1 hy;rw [List.mem_singleton.1 hxy];rfl
  refine fL vW hi hz (by rw [hsz]; rfl) (by rw [hsz]; exact s) (ys:=us.map yM) (by rw [List.length_map]; exact hlen) (fun y hy=>?_) v.flat hpl (by rw [hby]; omega) (by omega) hb ?_
  ·obtain ⟨t,_,rfl⟩:=List.mem_map.1 hy;rw [hsz];rfl
  ·intro p' c' h' s' k' hp';rw [hsz] at s';rw [Nat.zero_add] at s' ⊢;exact ⟨_,_,_,rfl,hk p' c' h' s' k'⟩
structure CU (h0:Hp) (a b c d:bE) (h:Hp):Prop where
 b1:aM h h0.size 27 [a.v,b.v,c.v,d.v]
 b2:aM h (h0.size+1) 27 zU
 ext:Ext h0 h
section
variable {h0 h h':Hp} {a b c d:bE}
theorem CU.af (s:CU h0 a b c d h) (e:Ext h h'):CU h0 a b c d h':=⟨s.b1.af e (by simp),s.b2.af e (by simp),s.ext.trans e⟩
theorem CU.c0 (s:CU h0 a b c d h):aH h ⟨h0.size,0,none⟩ 0 [a.v]:=s.b1.cells _ rfl
theorem CU.c1 (s:CU h0 a b c d h):aH h (Addr.add ⟨h0.size,0,none⟩ 1) 0 [b.v]:=by rw [au]; exact s.b1.cells _ rfl
theorem CU.c3 (s:CU h0 a b c d h):aH h (Addr.add ⟨h0.size,0,none⟩ 3) 0 [d.v]:=by rw [au]; exact s.b1.cells _ rfl
theorem CU.sz (s:CU h0 a b c d h):h0.size+2≤h.size:=by have:=s.b2.lt; omega
end
def Iw (a1 a24 a2:Addr):T :=
   T.loop [(false,[.int .i64])] [.int .i64 (0:Int)] <| fun (n25:Int) =>
   T.ae (a1.add 2) [.slice 99] <| fun (p26:Option Addr) (l27:Nat) (l28:Nat) =>
   cond (decide (n25<(l27:Int)))
   (T.ae (a24.add 2) [.slice 99] <| fun (p29:Option Addr) (l30:Nat) (l31:Nat) =>
   T.ae (a1.add 2) [.slice 99] <| fun (p32:Option Addr) (l33:Nat) (l34:Nat) =>
   T.need (((0:Int)≤n25)∧(n25<(l33:Int))) <|
   T.aw p32 <| fun (a35:Addr) =>
   T.ae (a35.add ((Int.toNat n25)*3)) [.string] <| fun (s36:ByteArray) =>
   T.ae (a1.add 2) [.slice 99] <| fun (p37:Option Addr) (l38:Nat) (l39:Nat) =>
   T.need (((0:Int)≤n25)∧(n25<(l38:Int))) <|
   T.aw p37 <| fun (a40:Addr) =>
   T.ae ((a40.add ((Int.toNat n25)*3)).add 1) [.slice 109,.int .u32] <| fun (p41:Option Addr) (l42:Nat) (l43:Nat) (n44:Int) =>
   T.call Tryz.prog 55 [.agg #[.slice p41 l42 l43,.int .u32 n44]] false [(true,[.slice 109,.int .u32])] <| fun (p45:Option Addr) (l46:Nat) (l47:Nat) (n48:Int) =>
   T.aB [((a1.add 2),[.slice p37 l38 l39]),((a35.add ((Int.toNat n25)*3)),[.string s36]),((a1.add 2),[.slice p32 l33 l34]),((a24.add 2),[.slice p29 l30 l31])] <|
   T.aS Tryz.prog (Instr.buildSlice 24 1 #[(0,.agg #[.string s36,.slice p45 l46 l47,.int .u32 n48])]) false [(false,[.slice 0])] <| fun (p49:Option Addr) (l50:Nat) (l51:Nat) =>
   T.aB [(((a40.add ((Int.toNat n25)*3)).add 1),[.slice p41 l42 l43,.int .u32 n44]),((a1.add 2),[.slice p37 l38 l39]),((a35.add ((Int.toNat n25)*3)),[.string s36]),((a1.add 2),[.slice p32 l33 l34]),((a24.add 2),[.slice p29 l30 l31])] <|
   T.aS Tryz.prog (Builtin.append_ #[24,24] 24 #[.slice p29 l30 l31,.slice p49 l50 l51]) false [(false,[.slice 0])] <| fun (p52:Option Addr) (l53:Nat) (l54:Nat) =>
   T.aB [(((a40.add ((Int.toNat n25)*3)).add 1),[.slice p41 l42 l43,.int .u32 n44]),((a1.add 2),[.slice p37 l38 l39]),((a35.add ((Int.toNat n25)*3)),[.string s36]),((a1.add 2),[.slice p32 l33 l34])] <|
   T.ao (a24.add 2) [.slice p52 l53 l54] <|
   T.again 0 [.int .i64 (IntKind.wrap .i64 (n25+(1:Int)))])
   (T.ae a24 [.slice 96,.slice 96,.slice 99,.slice 9] <| fun (p29:Option Addr) (l30:Nat) (l31:Nat) (p32:Option Addr) (l33:Nat) (l34:Nat) (p35:Option Addr) (l36:Nat) (l37:Nat) (p38:Option Addr) (l39:Nat) (l40:Nat) =>
   T.ao a2 [.slice p29 l30 l31,.slice p32 l33 l34,.slice p35 l36 l37,.slice p38 l39 l40] <|
   T.ae a2 [.slice 96,.slice 96,.slice 99,.slice 9] <| fun (p41:Option Addr) (l42:Nat) (l43:Nat) (p44:Option Addr) (l45:Nat) (l46:Nat) (p47:Option Addr) (l48:Nat) (l49:Nat) (p50:Option Addr) (l51:Nat) (l52:Nat) =>
   T.ret (.agg #[.slice p41 l42 l43,.slice p44 l45 l46,.slice p47 l48 l49,.slice p50 l51 l52]))
def ul (u:fU) (h:Hp) (w:Value) (h':Hp):Prop :=
 (∃ (a b c d:bE) (wT wD:List (bE × bD)) (wE:List (bE × kl)),w=jM a b c d∧CF h' h.size a.p a.l a.c wT∧CF h' h.size b.p b.l b.c wD∧Lq h' h.size c.p c.l c.c wE∧SN h' h.size d.p d.l d.c u.aG∧wT.map (·.2)=u.text∧wD.map (·.2)=u.data∧wE.map (·.2)=u.aQ)∧Ext h h'
theorem G4 {h0 h1:Hp} {a b c d:bE} {u:fU} (v:Iy h0 c.p c.l u.aQ) (hl:u.aQ.length≤2^20) (htl:∀ e,e∈u.aQ→e.2.aC.length≤2^40) (s:CU h0 a b c d h1) {g:Nat} {A B D:bE} {wT wD:List (bE × bD)} (hg:h0.size+2≤g) (bg:aM h1 g 27 [A.v,B.v,fV.v,D.v])
  (lT:CF h1 (h0.size+2) A.p A.l A.c wT) (lD:CF h1 (h0.size+2) B.p B.l B.c wD) (lS:SN h1 (h0.size+2) D.p D.l D.c u.aG) (eT:wT.map (·.2)=u.text) (eD:wD.map (·.2)=u.data) :
  Iw ⟨h0.size,0,none⟩ ⟨g,0,none⟩ ⟨h0.size+1,0,none⟩ [] (ul u h0) h1:=by
 unfold Iw;have hll:=v.len;have hgl:=bg.lt;have hsz:=s.sz;simp only [au];refine aY (cs:=[(false,[.int .i64])]) (fun x w h'=>∃ (i:Nat) (C:bE) (ws:List (bE × kl)),x.1=(i:Int)∧i≤u.aQ.length∧w=u.aQ.length-i∧Ch [g] h1 h'∧aM h' g 27 [A.v,B.v,C.v,D.v]∧Lq h' h1.size C.p C.l C.c ws∧ws.map (·.2)=u.aQ.take i)
  ((0:Int),()) u.aQ.length rfl ⟨0,fV,[],rfl,by omega,by omega,Ch.refl _ _,bg,Ls.nil _ _,rfl⟩ ?_
 rintro ⟨n25,⟨⟩⟩ w h2 ⟨i,C,ws,hi0,hile,rfl,k2,b2,own,hws⟩;simp only at hi0;subst hi0;dsimp only [flat,aD,aj,nA,cA];have e02:Ext h0 h2:=Ch.trans s.ext k2 (fun j hj hl=>by simp at hj; omega);have hz2:=k2.size;have ba:=s.b1.af k2 (by simp; omega);have bb:=s.b2.af k2 (by simp; omega);refine ad ba ((c.p,c.l,c.c),()) rfl ?_;dsimp only [flat,aD,aj,nA,cA];refine ah (fun g1=>?_) (fun g1=>?_)
 ·have g1:=of_decide_eq_true g1;have hilt:i<u.aQ.length:=by omega
  refine ad b2 ((C.p,C.l,C.c),()) rfl ?_;dsimp only [flat,aD,aj,nA,cA];refine ad ba ((c.p,c.l,c.c),()) rfl ?_;dsimp only [flat,aD,aj,nA,cA];obtain ⟨aa,pp,ll,cc,ha,hc0,va0,vn0⟩:=v.cells i hilt;have htk:u.aQ.take (i+1)=u.aQ.take i++[u.aQ[i]]:=List.take_succ_eq_append_getElem hilt;have htl:=htl u.aQ[i] (List.getElem_mem hilt);generalize u.aQ[i]=e at hc0 va0 vn0 htk htl;have hat:∀ h',Ext h2 h'→aH h' (aa.add (i*3)) 0 (rQ pp ll cc e):=fun h' x=>bj (e02.trans x) (by simp) _ _ hc0
  have hst1:∀ h',Ext h2 h'→aH h' (aa.add (i*3)) 0 [.string e.1]:=fun h' x=>⟨(hat h' x).1,trivial⟩
  have hst2:∀ h',Ext h2 h'→aH h' ((aa.add (i*3)).add 1) 0 [.slice pp ll cc,.int .u32 (e.2.num:Int)]:=fun h' x=>⟨by rw [add_add]; exact (hat h' x).2.1,by rw [add_add]; exact (hat h' x).2.2.1,trivial⟩
  refine aA ⟨by omega,by omega⟩ (ai ha ?_);rw [show Int.toNat (i:Int)=i by omega];refine aE (e.1,()) (hst1 h2 (Ch.refl _ _)) ?_;dsimp only [flat,aD,aj,nA,cA];refine ad ba ((c.p,c.l,c.c),()) rfl ?_;dsimp only [flat,aD,aj,nA,cA];refine aA ⟨by omega,by omega⟩ (ai ha ?_);refine aE ((pp,ll,cc),(e.2.num:Int),()) (hst2 h2 (Ch.refl _ _)) ?_;dsimp only [flat,aD,aj,nA,cA];refine aF (wF (x:=e.2) (c:=cc) (va0.af e02).vw htl) ?_;rintro _ h3 ⟨⟨pc,lc,ccc,rfl,sc⟩,e3⟩;refine ⟨((pc,lc,ccc),(e.2.num:Int),()),rfl,?_⟩;dsimp only [flat,aD,aj,nA,cA];have own3:=own.af e3 (by simp);have st:∀ h',Ext h2 h'→aH h' ⟨h0.size,0+2,none⟩ 0 [.slice c.p c.l c.c]:=fun h' x=>(ba.af x (by simp)).cells _ rfl
  have st':∀ h',Ext h2 h'→aH h' ⟨g,0+2,none⟩ 0 [.slice C.p C.l C.c]:=fun h' x=>(b2.af x (by simp)).cells _ rfl
  refine ⟨⟨st h3 e3,hst1 h3 e3,st h3 e3,st' h3 e3,trivial⟩,?_⟩;have hwl:ws.length=i:=by have:=congrArg List.length hws; simp at this; omega
  have hol:=own.len;have hz3:=e3.size;refine sJ (vs:=rQ pc lc ccc e) Kw MX rfl (by omega) (by omega) (by kernel_rfl) rfl rfl own3.sl (by omega) (by omega) (by omega) (fun h' x=>⟨hst2 h' (e3.trans x),st h' (e3.trans x),hst1 h' (e3.trans x),st h' (e3.trans x),st' h' (e3.trans x),trivial⟩) ?_;intro p5 c5 h5 s5 k5 hp5;have hbb:=Ob.SL.bR own3.sl;have e25:Ext h0 h5:=Ch.trans (e02.trans e3) k5 (fun j hj hl=>by have:=(hbb _ hj).1; omega);have c05:aH h5 (aa.add (i*3)) 0 (rQ pp ll cc e):=bj e25 (by simp) _ _ hc0;have ba5:=(ba.af e3 (by simp)).af k5 (fun hj=>by have:=(hbb _ hj).1; omega);refine ⟨⟨⟨by rw [add_add]; exact c05.2.1,by rw [add_add]; exact c05.2.2.1,trivial⟩,ba5.cells _ rfl,⟨c05.1,trivial⟩,ba5.cells _ rfl,trivial⟩,?_⟩;have b5:=(b2.af e3 (by simp)).af k5 (fun hj=>by have:=(hbb _ hj).1; omega);refine an b5 rfl (by simp) ?_;intro h6 b6 k6 z6;have b6:aM h6 g 27 [A.v,B.v,(⟨p5,C.l+1,c5⟩:bE).v,D.v]:=b6;rw [wrap_i64 (by omega) (by omega)];refine aK (cs:=[(false,[.int .i64])]) (((i+1:Nat):Int),()) (u.aQ.length-(i+1)) rfl (by omega) rfl ⟨i+1,⟨p5,C.l+1,c5⟩,ws++[((⟨pc,lc,ccc⟩:bE),e)],rfl,by omega,rfl,?_,b6,?_,by rw [List.map_append,hws,htk]; rfl⟩
  ·exact Ch.trans (Ch.trans (Ch.trans k2 e3 (by simp)) k5 (fun j hj hl=>by have:=(hbb _ hj).1; omega)) k6 (fun j hj _=>hj)
  ·have l5:Lq h5 h1.size p5 (C.l+1) c5 (ws++[((⟨pc,lc,ccc⟩:bE),e)]):=by
    refine ⟨by rw [List.map_append]; exact s5,fun x hx=>?_,fun _ _=>trivial⟩;rcases List.mem_append.1 hx with hx | hx
    ·exact SL.wu (own3.own x hx) k5 (Ob.SL.yq own3.sl) (by decide)
    ·rw [List.mem_singleton.1 hx];exact SL.wu (Sx.SL.mono sc (by omega)) k5 (Ob.SL.yq own3.sl) (by decide)
   exact l5.af k6 (fun j hj _=>by simp at hj; omega)
 ·have g1:=of_decide_eq_false g1;have htk:u.aQ.take i=u.aQ:=List.take_of_length_le (by omega);rw [htk] at hws;refine ad b2 ((A.p,A.l,A.c),(B.p,B.l,B.c),(C.p,C.l,C.c),(D.p,D.l,D.c),()) rfl ?_;dsimp only [flat,aD,aj,nA,cA];refine an bb rfl (by simp [zU]) ?_;intro h3 b3 k3 z3;have b3:aM h3 (h0.size+1) 27 [A.v,B.v,C.v,D.v]:=b3;refine ad b3 ((A.p,A.l,A.c),(B.p,B.l,B.c),(C.p,C.l,C.c),(D.p,D.l,D.c),()) rfl ?_;have hw:∀ (e:TypeId),e≠27→∀ i,i∈[g]→i<h1.size→i<h0.size+2∨∃ e' ys,aM h1 i e' ys∧e'≠e∧e'≠109:=fun e he i hi _=>by
   rw [List.mem_singleton.1 hi];exact .inr ⟨27,_,bg,fun e=>he e.symm,by decide⟩
  have hk3:∀ i,i∈[(⟨h0.size+1,0,none⟩:Addr).block]→i<h2.size→i<h0.size+2:=fun i hi _=>by simp at hi; omega
  have lS2:SN h2 (h0.size+2) D.p D.l D.c u.aG:=SL.wu lS k2 (e':=27) (fun i hi=>by rw [List.mem_singleton.1 hi]; exact ⟨_,bg⟩) (by decide);exact ⟨⟨A,B,C,D,wT,wD,ws,rfl,((Ls.Cw lT k2 (hw _ (by decide))).af k3 hk3).mono (by omega),((Ls.Cw lD k2 (hw _ (by decide))).af k3 hk3).mono (by omega),(own.af k3 (fun i hi _=>by simp at hi; omega)).mono (by omega),Sx.SL.mono (SL.lZ lS2 k3 hk3) (by omega),eT,eD,hws⟩,Ch.trans e02 k3 (fun j hj hl=>by simp at hj; omega)⟩
def Zk (h0 h h':Hp):Prop:=∃ ws,Ch ws h h'∧∀ i,i∈ws→h0.size+2≤i∧∃ ys,aM h i 9 ys
theorem ek {h0 h h':Hp} {g:Nat} {xs:List Value} (b:aM h g 27 xs) (z:Zk h0 h h'):aM h' g 27 xs:=by
 obtain ⟨ws,k,hw⟩:=z;refine b.af k (fun hm=>?_);obtain ⟨_,ys,b2⟩:=hw g hm;unfold aM at b b2;rw [b] at b2;simp at b2
theorem bL {h0 h h':Hp} {b:Nat} {p:Option Addr} {l c:Nat} {ws:List (bE × bD)} (s:CF h b p l c ws) (z:Zk h0 h h'):CF h' b p l c ws:=by
 obtain ⟨vs,k,hw⟩:=z;refine Ls.Cw s k (fun i hi _=>?_);obtain ⟨_,ys,b2⟩:=hw i hi;exact .inr ⟨9,ys,b2,by decide,by decide⟩
theorem CU.jN {h0 h h':Hp} {a b c d:bE} (s:CU h0 a b c d h) (z:Zk h0 h h'):CU h0 a b c d h':=by
 obtain ⟨vs,k,hw⟩:=z;exact ⟨s.b1.af k (fun hm=>by have:=(hw _ hm).1; omega),s.b2.af k (fun hm=>by have:=(hw _ hm).1; omega),Ch.trans s.ext k (fun i hi hl=>by have:=(hw i hi).1; omega)⟩
section
variable {L:Lp} {K:Value→Hp→Prop} {h0 h:Hp}
theorem cB (hz:h0.size+2≤h.size) {p:Option Addr} {l c:Nat} {us:List bD} (v:AH h p l us) (hn:us.length≤2^20) (ht:∀ x,x∈us→x.e.aC.length≤2^40) {k:Option Addr→Nat→Nat→T}
  (hk:∀ p' c' h' ws,CF h' (h0.size+2) p' l c' ws→ws.map (·.2)=us→Ext h h'→k p' l c' L K h'):T.call Tryz.prog 54 [.slice p l c] false [(false,[.slice 96])] k L K h:=by
 refine aF (AE v hn ht) ?_;rintro _ h' ⟨⟨p',c',ws,rfl,ls,hw⟩,e⟩;exact ⟨((p',l,c'),()),rfl,hk p' c' h' ws (ls.mono hz) hw e⟩
theorem ja (hz:h0.size+2≤h.size) {k:Option Addr→Nat→Nat→T} (hk:∀ p h',SL h' (h0.size+2) 9 1 p 0 0 []→Ext h h'→k p 0 0 L K h'):T.aS Tryz.prog (Instr.buildSlice 25 0 #[]) false [(false,[.slice 0])] k L K h :=
 Ep vW Ja fun h' s e=>hk _ h' (Sx.SL.mono s hz) e
theorem dX (hz:h0.size+2≤h.size) {p:Option Addr} {c:Nat} (s:SL h (h0.size+2) 9 1 p 0 c []) {q:Option Addr} {m d:Nat} {us:List ByteArray} (v:FK h q m us) (hl:us.length≤2^40) {k:Option Addr→Nat→Nat→T}
  (hk:∀ p' c' h',SN h' (h0.size+2) p' m c' us→Zk h0 h h'→k p' m c' L K h'):T.aS Tryz.prog (Builtin.append_ #[25,25] 25 #[.slice p 0 c,.slice q m d]) false [(false,[.slice 0])] k L K h :=
 IW s v hl hz fun p' c' h' s' k'=>hk p' c' h' s' ⟨_,k',fun i hi=>⟨(Ob.SL.bR s i hi).1,Ob.SL.yq s i hi⟩⟩
theorem vg {a b c d:bE} (s:CU h0 a b c d h) {k:Addr→T} (hk:∀ h' g,aM h' g 27 zU→h0.size+2≤g→Ext h h'→k ⟨g,0,none⟩ L K h'):T.new [.slice none 0 0,.slice none 0 0,.slice none 0 0,.slice none 0 0] 27 k L K h :=
 aW fun h' b e z=>hk h' h.size b s.sz e
end
theorem jS {h0 h1:Hp} {a b c d:bE} {u:fU} (v:eZ h0 a b c d u) (hE:u.aQ.length≤2^20) (tE:∀ e,e∈u.aQ→e.2.aC.length≤2^40) (s:CU h0 a b c d h1) {g:Nat} (bg:aM h1 g 27 zU) (hg:h0.size+2≤g) {A B D:bE} {wT wD:List (bE × bD)}
  (lT:CF h1 (h0.size+2) A.p A.l A.c wT) (lD:CF h1 (h0.size+2) B.p B.l B.c wD) (lS:SN h1 (h0.size+2) D.p D.l D.c u.aG) (eT:wT.map (·.2)=u.text) (eD:wD.map (·.2)=u.data) :
  T.ao ⟨g,0,none⟩ [.slice A.p A.l A.c,.slice B.p B.l B.c,.slice none 0 0,.slice D.p D.l D.c] (Iw ⟨h0.size,0,none⟩ ⟨g,0,none⟩ ⟨h0.size+1,0,none⟩) [] (ul u h0) h1:=by
 refine an bg rfl (by simp [zU]) ?_;intro h9 b9 k9 z9;have b9:aM h9 g 27 [A.v,B.v,fV.v,D.v]:=b9;have hw:∀ (e:TypeId),e≠27→∀ i,i∈[(⟨g,0,none⟩:Addr).block]→i<h1.size→i<h0.size+2∨∃ e' ys,aM h1 i e' ys∧e'≠e∧e'≠109:=fun e he i hi _=>by
  rw [List.mem_singleton.1 hi];exact .inr ⟨27,_,bg,fun e=>he e.symm,by decide⟩
 have s9:CU h0 a b c d h9:=⟨s.b1.af k9 (by simp; omega),s.b2.af k9 (by simp; omega),Ch.trans s.ext k9 (fun i hi hl=>by simp at hi; omega)⟩
 exact G4 v.aQ hE tE s9 hg b9 (Ls.Cw lT k9 (hw _ (by decide))) (Ls.Cw lD k9 (hw _ (by decide))) (SL.wu lS k9 (e':=27) (fun i hi=>by rw [List.mem_singleton.1 hi]; exact ⟨_,bg⟩) (by decide)) eT eD
theorem Cn {h:Hp} {a b c d:bE} {u:fU} (v:eZ h a b c d u) (hT:u.text.length≤2^20) (hD:u.data.length≤2^20) (hE:u.aQ.length≤2^20) (hS:u.aG.length≤2^40)
  (tT:∀ x,x∈u.text→x.e.aC.length≤2^40) (tD:∀ x,x∈u.data→x.e.aC.length≤2^40) (tE:∀ e,e∈u.aQ→e.2.aC.length≤2^40) :
  HC Tryz.prog 25 #[jM a b c d] h (ul u h):=by
 refine aL (args:=[jM a b c d]) mixed Tryz.func25 (by kernel_rfl) (jF a.p a.l a.c b.p b.l b.c c.p c.l c.c d.p d.l d.c) ?_;unfold fK;refine aW ?_;intro h1 b1 e1 z1;refine aW ?_;intro h2 b2 e2 z2;rw [z1] at b2;rw [show (⟨h1.size,0,none⟩:Addr)=⟨h.size+1,0,none⟩ by rw [z1]];have s:CU h a b c d h2:=⟨b1.af e2 (by simp),b2,e1.trans e2⟩
 refine aE ((a.p,a.l,a.c),()) s.c0 ?_;dsimp only [flat,aD,aj,nA,cA];refine aE ((b.p,b.l,b.c),()) s.c1 ?_;dsimp only [flat,aD,aj,nA,cA];refine aE ((d.p,d.l,d.c),()) s.c3 ?_;dsimp only [flat,aD,aj,nA,cA];refine ⟨?_,?_,?_,trivial⟩
 ·refine cB s.sz (v.text.af s.ext) hT tT ?_;intro pT cT h1 wT lT eT e1;have s:=s.af e1;refine ⟨⟨s.c3,s.c1,trivial⟩,?_⟩;refine ⟨?_,?_,?_,trivial⟩
  ·refine cB s.sz (v.data.af s.ext) hD tD ?_;intro pD cD h2 wD lD eD e2;have s:=s.af e2;have lT:=lT.af e2 (by simp);refine ⟨⟨s.c3,s.c0,trivial⟩,?_⟩;refine ⟨?_,?_,trivial⟩
   ·refine ja s.sz ?_;intro pz h3 sl e3;have s:=s.af e3;have lT:=lT.af e3 (by simp);have lD:=lD.af e3 (by simp);refine ⟨⟨s.c3,s.c1,s.c0,trivial⟩,?_⟩;refine ⟨?_,?_,trivial⟩
    ·refine dX s.sz sl (v.aG.af s.ext) hS ?_;intro pS cS h4 lS k4;have s:=s.jN k4;have lT:=bL lT k4;have lD:=bL lD k4;refine ⟨⟨s.c1,s.c0,trivial⟩,?_⟩;refine vg s ?_;intro h5 g bx hg e5;have s:=s.af e5;have lT:=lT.af e5 (by simp);have lD:=lD.af e5 (by simp);have lS:=lS.af e5 (by simp);refine ⟨⟨s.c3,s.c1,s.c0,trivial⟩,?_⟩;exact jS (A:=⟨pT,a.l,cT⟩) (B:=⟨pD,b.l,cD⟩) (D:=⟨pS,d.l,cS⟩) v hE tE s bx hg lT lD lS eT eD
    ·refine vg s ?_;intro h7 g bx hg e7;have s:=s.af e7;have sl:=sl.af e7 (by simp);have lT:=lT.af e7 (by simp);have lD:=lD.af e7 (by simp);refine ⟨⟨s.c3,s.c1,s.c0,trivial⟩,?_⟩;refine dX s.sz sl (v.aG.af s.ext) hS ?_;intro pS cS h8 lS k8;have s:=s.jN k8;have bx:=ek bx k8;have lT:=bL lT k8;have lD:=bL lD k8;refine ⟨⟨s.c1,s.c0,trivial⟩,?_⟩;exact jS (A:=⟨pT,a.l,cT⟩) (B:=⟨pD,b.l,cD⟩) (D:=⟨pS,d.l,cS⟩) v hE tE s bx hg lT lD lS eT eD
   ·refine vg s ?_;intro h10 g bx hg e10;have s:=s.af e10;have lT:=lT.af e10 (by simp);have lD:=lD.af e10 (by simp);refine ⟨⟨s.c3,s.c1,s.c0,trivial⟩,?_⟩;refine ja s.sz ?_;intro pz h11 sl e11;have s:=s.af e11;have bx:=bx.af e11 (by simp);have lT:=lT.af e11 (by simp);have lD:=lD.af e11 (by simp);refine ⟨⟨s.c3,s.c1,s.c0,trivial⟩,?_⟩;refine dX s.sz sl (v.aG.af s.ext) hS ?_;intro pS cS h12 lS k12;have s:=s.jN k12;have bx:=ek bx k12;have lT:=bL lT k12;have lD:=bL lD k12;refine ⟨⟨s.c1,s.c0,trivial⟩,?_⟩;exact jS (A:=⟨pT,a.l,cT⟩) (B:=⟨pD,b.l,cD⟩) (D:=⟨pS,d.l,cS⟩) v hE tE s bx hg lT lD lS eT eD
  ·refine ja s.sz ?_;intro pz h14 sl e14;have s:=s.af e14;have lT:=lT.af e14 (by simp);refine ⟨⟨s.c3,s.c1,s.c0,trivial⟩,?_⟩;refine ⟨?_,?_,trivial⟩
   ·refine cB s.sz (v.data.af s.ext) hD tD ?_;intro pD cD h15 wD lD eD e15;have s:=s.af e15;have sl:=sl.af e15 (by simp);have lT:=lT.af e15 (by simp);refine ⟨⟨s.c3,s.c0,trivial⟩,?_⟩;refine ⟨?_,?_,trivial⟩
    ·refine dX s.sz sl (v.aG.af s.ext) hS ?_;intro pS cS h16 lS k16;have s:=s.jN k16;have lT:=bL lT k16;have lD:=bL lD k16;refine ⟨⟨s.c1,s.c0,trivial⟩,?_⟩;refine vg s ?_;intro h17 g bx hg e17;have s:=s.af e17;have lT:=lT.af e17 (by simp);have lD:=lD.af e17 (by simp);have lS:=lS.af e17 (by simp);refine ⟨⟨s.c3,s.c1,s.c0,trivial⟩,?_⟩;exact jS (A:=⟨pT,a.l,cT⟩) (B:=⟨pD,b.l,cD⟩) (D:=⟨pS,d.l,cS⟩) v hE tE s bx hg lT lD lS eT eD
    ·refine vg s ?_;intro h19 g bx hg e19;have s:=s.af e19;have sl:=sl.af e19 (by simp);have lT:=lT.af e19 (by simp);have lD:=lD.af e19 (by simp);refine ⟨⟨s.c3,s.c1,s.c0,trivial⟩,?_⟩;refine dX s.sz sl (v.aG.af s.ext) hS ?_;intro pS cS h20 lS k20;have s:=s.jN k20;have bx:=ek bx k20;have lT:=bL lT k20;have lD:=bL lD k20;refine ⟨⟨s.c1,s.c0,trivial⟩,?_⟩;exact jS (A:=⟨pT,a.l,cT⟩) (B:=⟨pD,b.l,cD⟩) (D:=⟨pS,d.l,cS⟩) v hE tE s bx hg lT lD lS eT eD
   ·refine vg s ?_;intro h22 g bx hg e22;have s:=s.af e22;have sl:=sl.af e22 (by simp);have lT:=lT.af e22 (by simp);refine ⟨⟨s.c3,s.c1,s.c0,trivial⟩,?_⟩;refine cB s.sz (v.data.af s.ext) hD tD ?_;intro pD cD h23 wD lD eD e23;have s:=s.af e23;have bx:=bx.af e23 (by simp);have sl:=sl.af e23 (by simp);have lT:=lT.af e23 (by simp);refine ⟨⟨s.c3,s.c0,trivial⟩,?_⟩;refine dX s.sz sl (v.aG.af s.ext) hS ?_;intro pS cS h24 lS k24;have s:=s.jN k24;have bx:=ek bx k24;have lT:=bL lT k24;have lD:=bL lD k24;refine ⟨⟨s.c1,s.c0,trivial⟩,?_⟩;exact jS (A:=⟨pT,a.l,cT⟩) (B:=⟨pD,b.l,cD⟩) (D:=⟨pS,d.l,cS⟩) v hE tE s bx hg lT lD lS eT eD
  ·refine vg s ?_;intro h26 g bx hg e26;have s:=s.af e26;have lT:=lT.af e26 (by simp);refine ⟨⟨s.c3,s.c1,s.c0,trivial⟩,?_⟩;refine ⟨?_,?_,trivial⟩
   ·refine cB s.sz (v.data.af s.ext) hD tD ?_;intro pD cD h27 wD lD eD e27;have s:=s.af e27;have bx:=bx.af e27 (by simp);have lT:=lT.af e27 (by simp);refine ⟨⟨s.c3,s.c0,trivial⟩,?_⟩;refine ja s.sz ?_;intro pz h28 sl e28;have s:=s.af e28;have bx:=bx.af e28 (by simp);have lT:=lT.af e28 (by simp);have lD:=lD.af e28 (by simp);refine ⟨⟨s.c3,s.c1,s.c0,trivial⟩,?_⟩;refine dX s.sz sl (v.aG.af s.ext) hS ?_;intro pS cS h29 lS k29;have s:=s.jN k29;have bx:=ek bx k29;have lT:=bL lT k29;have lD:=bL lD k29;refine ⟨⟨s.c1,s.c0,trivial⟩,?_⟩;exact jS (A:=⟨pT,a.l,cT⟩) (B:=⟨pD,b.l,cD⟩) (D:=⟨pS,d.l,cS⟩) v hE tE s bx hg lT lD lS eT eD
   ·refine ja s.sz ?_;intro pz h31 sl e31;have s:=s.af e31;have bx:=bx.af e31 (by simp);have lT:=lT.af e31 (by simp);refine ⟨⟨s.c3,s.c1,s.c0,trivial⟩,?_⟩;refine cB s.sz (v.data.af s.ext) hD tD ?_;intro pD cD h32 wD lD eD e32;have s:=s.af e32;have bx:=bx.af e32 (by simp);have sl:=sl.af e32 (by simp);have lT:=lT.af e32 (by simp);refine ⟨⟨s.c3,s.c0,trivial⟩,?_⟩;refine dX s.sz sl (v.aG.af s.ext) hS ?_;intro pS cS h33 lS k33;have s:=s.jN k33;have bx:=ek bx k33;have lT:=bL lT k33;have lD:=bL lD k33;refine ⟨⟨s.c1,s.c0,trivial⟩,?_⟩;exact jS (A:=⟨pT,a.l,cT⟩) (B:=⟨pD,b.l,cD⟩) (D:=⟨pS,d.l,cS⟩) v hE tE s bx hg lT lD lS eT eD
 ·refine ja s.sz ?_;intro pz h35 sl e35;have s:=s.af e35;refine ⟨⟨s.c3,s.c1,s.c0,trivial⟩,?_⟩;refine ⟨?_,?_,trivial⟩
  ·refine cB s.sz (v.text.af s.ext) hT tT ?_;intro pT cT h36 wT lT eT e36;have s:=s.af e36;have sl:=sl.af e36 (by simp);refine ⟨⟨s.c3,s.c1,trivial⟩,?_⟩;refine ⟨?_,?_,trivial⟩
   ·refine cB s.sz (v.data.af s.ext) hD tD ?_;intro pD cD h37 wD lD eD e37;have s:=s.af e37;have sl:=sl.af e37 (by simp);have lT:=lT.af e37 (by simp);refine ⟨⟨s.c3,s.c0,trivial⟩,?_⟩;refine ⟨?_,?_,trivial⟩
    ·refine dX s.sz sl (v.aG.af s.ext) hS ?_;intro pS cS h38 lS k38;have s:=s.jN k38;have lT:=bL lT k38;have lD:=bL lD k38;refine ⟨⟨s.c1,s.c0,trivial⟩,?_⟩;refine vg s ?_;intro h39 g bx hg e39;have s:=s.af e39;have lT:=lT.af e39 (by simp);have lD:=lD.af e39 (by simp);have lS:=lS.af e39 (by simp);refine ⟨⟨s.c3,s.c1,s.c0,trivial⟩,?_⟩;exact jS (A:=⟨pT,a.l,cT⟩) (B:=⟨pD,b.l,cD⟩) (D:=⟨pS,d.l,cS⟩) v hE tE s bx hg lT lD lS eT eD
    ·refine vg s ?_;intro h41 g bx hg e41;have s:=s.af e41;have sl:=sl.af e41 (by simp);have lT:=lT.af e41 (by simp);have lD:=lD.af e41 (by simp);refine ⟨⟨s.c3,s.c1,s.c0,trivial⟩,?_⟩;refine dX s.sz sl (v.aG.af s.ext) hS ?_;intro pS cS h42 lS k42;have s:=s.jN k42;have bx:=ek bx k42;have lT:=bL lT k42;have lD:=bL lD k42;refine ⟨⟨s.c1,s.c0,trivial⟩,?_⟩;exact jS (A:=⟨pT,a.l,cT⟩) (B:=⟨pD,b.l,cD⟩) (D:=⟨pS,d.l,cS⟩) v hE tE s bx hg lT lD lS eT eD
   ·refine vg s ?_;intro h44 g bx hg e44;have s:=s.af e44;have sl:=sl.af e44 (by simp);have lT:=lT.af e44 (by simp);refine ⟨⟨s.c3,s.c1,s.c0,trivial⟩,?_⟩;refine cB s.sz (v.data.af s.ext) hD tD ?_;intro pD cD h45 wD lD eD e45;have s:=s.af e45;have bx:=bx.af e45 (by simp);have sl:=sl.af e45 (by simp);have lT:=lT.af e45 (by simp);refine ⟨⟨s.c3,s.c0,trivial⟩,?_⟩;refine dX s.sz sl (v.aG.af s.ext) hS ?_;intro pS cS h46 lS k46;have s:=s.jN k46;have bx:=ek bx k46;have lT:=bL lT k46;have lD:=bL lD k46;refine ⟨⟨s.c1,s.c0,trivial⟩,?_⟩;exact jS (A:=⟨pT,a.l,cT⟩) (B:=⟨pD,b.l,cD⟩) (D:=⟨pS,d.l,cS⟩) v hE tE s bx hg lT lD lS eT eD
  ·refine vg s ?_;intro h48 g bx hg e48;have s:=s.af e48;have sl:=sl.af e48 (by simp);refine ⟨⟨s.c3,s.c1,s.c0,trivial⟩,?_⟩;refine cB s.sz (v.text.af s.ext) hT tT ?_;intro pT cT h49 wT lT eT e49;have s:=s.af e49;have bx:=bx.af e49 (by simp);have sl:=sl.af e49 (by simp);refine ⟨⟨s.c3,s.c1,trivial⟩,?_⟩;refine cB s.sz (v.data.af s.ext) hD tD ?_;intro pD cD h50 wD lD eD e50;have s:=s.af e50;have bx:=bx.af e50 (by simp);have sl:=sl.af e50 (by simp);have lT:=lT.af e50 (by simp);refine ⟨⟨s.c3,s.c0,trivial⟩,?_⟩;refine dX s.sz sl (v.aG.af s.ext) hS ?_;intro pS cS h51 lS k51;have s:=s.jN k51;have bx:=ek bx k51;have lT:=bL lT k51;have lD:=bL lD k51;refine ⟨⟨s.c1,s.c0,trivial⟩,?_⟩;exact jS (A:=⟨pT,a.l,cT⟩) (B:=⟨pD,b.l,cD⟩) (D:=⟨pS,d.l,cS⟩) v hE tE s bx hg lT lD lS eT eD
 ·refine vg s ?_;intro h53 g bx hg e53;have s:=s.af e53;refine ⟨⟨s.c3,s.c1,s.c0,trivial⟩,?_⟩;refine ⟨?_,?_,trivial⟩
  ·refine cB s.sz (v.text.af s.ext) hT tT ?_;intro pT cT h54 wT lT eT e54;have s:=s.af e54;have bx:=bx.af e54 (by simp);refine ⟨⟨s.c3,s.c1,trivial⟩,?_⟩;refine ⟨?_,?_,trivial⟩
   ·refine cB s.sz (v.data.af s.ext) hD tD ?_;intro pD cD h55 wD lD eD e55;have s:=s.af e55;have bx:=bx.af e55 (by simp);have lT:=lT.af e55 (by simp);refine ⟨⟨s.c3,s.c0,trivial⟩,?_⟩;refine ja s.sz ?_;intro pz h56 sl e56;have s:=s.af e56;have bx:=bx.af e56 (by simp);have lT:=lT.af e56 (by simp);have lD:=lD.af e56 (by simp);refine ⟨⟨s.c3,s.c1,s.c0,trivial⟩,?_⟩;refine dX s.sz sl (v.aG.af s.ext) hS ?_;intro pS cS h57 lS k57;have s:=s.jN k57;have bx:=ek bx k57;have lT:=bL lT k57;have lD:=bL lD k57;refine ⟨⟨s.c1,s.c0,trivial⟩,?_⟩;exact jS (A:=⟨pT,a.l,cT⟩) (B:=⟨pD,b.l,cD⟩) (D:=⟨pS,d.l,cS⟩) v hE tE s bx hg lT lD lS eT eD
   ·refine ja s.sz ?_;intro pz h59 sl e59;have s:=s.af e59;have bx:=bx.af e59 (by simp);have lT:=lT.af e59 (by simp);refine ⟨⟨s.c3,s.c1,s.c0,trivial⟩,?_⟩;refine cB s.sz (v.data.af s.ext) hD tD ?_;intro pD cD h60 wD lD eD e60;have s:=s.af e60;have bx:=bx.af e60 (by simp);have sl:=sl.af e60 (by simp);have lT:=lT.af e60 (by simp);refine ⟨⟨s.c3,s.c0,trivial⟩,?_⟩;refine dX s.sz sl (v.aG.af s.ext) hS ?_;intro pS cS h61 lS k61;have s:=s.jN k61;have bx:=ek bx k61;have lT:=bL lT k61;have lD:=bL lD k61;refine ⟨⟨s.c1,s.c0,trivial⟩,?_⟩;exact jS (A:=⟨pT,a.l,cT⟩) (B:=⟨pD,b.l,cD⟩) (D:=⟨pS,d.l,cS⟩) v hE tE s bx hg lT lD lS eT eD
  ·refine ja s.sz ?_;intro pz h63 sl e63;have s:=s.af e63;have bx:=bx.af e63 (by simp);refine ⟨⟨s.c3,s.c1,s.c0,trivial⟩,?_⟩;refine cB s.sz (v.text.af s.ext) hT tT ?_;intro pT cT h64 wT lT eT e64;have s:=s.af e64;have bx:=bx.af e64 (by simp);have sl:=sl.af e64 (by simp);refine ⟨⟨s.c3,s.c1,trivial⟩,?_⟩;refine cB s.sz (v.data.af s.ext) hD tD ?_;intro pD cD h65 wD lD eD e65;have s:=s.af e65;have bx:=bx.af e65 (by simp);have sl:=sl.af e65 (by simp);have lT:=lT.af e65 (by simp);refine ⟨⟨s.c3,s.c0,trivial⟩,?_⟩;refine dX s.sz sl (v.aG.af s.ext) hS ?_;intro pS cS h66 lS k66;have s:=s.jN k66;have bx:=ek bx k66;have lT:=bL lT k66;have lD:=bL lD k66;refine ⟨⟨s.c1,s.c0,trivial⟩,?_⟩;exact jS (A:=⟨pT,a.l,cT⟩) (B:=⟨pD,b.l,cD⟩) (D:=⟨pS,d.l,cS⟩) v hE tE s bx hg lT lD lS eT eD
theorem SL.Mc {h:Hp} {b:Nat} {e:TypeId} {sz:Nat} {p:Option Addr} {l c:Nat} {xs:List (List Value)} (s:SL h b e sz p l c xs):l≤c:=by
 cases p with
 | none =>
  have h2:=s.2.2.2;have h3:=s.1;rw [h2] at h3;simp at h3;omega
 | some a =>
  obtain ⟨g,pre,rest,rfl,hbg,hlc,_⟩:=s.2.2;exact hlc.1
theorem Iz.take {h:Hp} {p:Option Addr} {l:Nat} {bs:Bt} (v:Iz h p l bs) {n:Nat} (hn:n≤l):Iz h p n (bs.take n):=by
 have hl:=v.len;refine ⟨by rw [List.length_take]; omega,fun i hi=>?_⟩;rw [List.length_take] at hi;obtain ⟨a,ha,hc⟩:=v.cells i (by omega);rw [List.getElem_take];exact ⟨a,ha,hc⟩
theorem qh {h:Hp} {a:Addr}:∀ (bs:Bt) (k:Nat),(∀ i,(hi:i<bs.length)→aH h (a.add ((k+i)*1)) 0 [.int .u8 (bs[i].toNat:Int)])→aH h a k (yo bs).flatten
 | [],_,_=>trivial
 | t::us,k,hc=>by
  have h0:=hc 0 (by simp);obtain ⟨h1,_⟩:=h0;rw [add_add] at h1;refine ⟨by simpa using h1,qh us (k+1) fun i hi=>?_⟩
  have:=hc (i+1) (by simpa using hi)
  rw [show k+(i+1)=k+1+i by omega] at this;exact this
theorem Iz.flat {h:Hp} {a:Addr} {l:Nat} {bs:Bt} (v:Iz h (some a) l bs):aH h a 0 (yo bs).flatten:=by
 refine qh bs 0 fun i hi=>?_
 obtain ⟨a',e,hc⟩:=v.cells i hi;cases e;rw [Nat.zero_add];exact hc
theorem eZ.zero (h:Hp):eZ h fV fV fV fV tS:=⟨⟨rfl,by decide,fun i hi=>by cases hi⟩,⟨rfl,by decide,fun i hi=>by cases hi⟩,⟨rfl,by decide,fun i hi=>by cases hi⟩,⟨rfl,by decide,fun i hi=>by cases hi⟩⟩
end Go.Sx.Ob
set_option linter.unusedVariables false
set_option maxRecDepth 100000
namespace Go.Sx.BB
open Go.Sx Go.Sx.Ob
open Go.Proofs
variable {h2 h1:Hp}
structure lC where
 p:Option Addr
 l:Nat
 c:Nat
 q:Option Addr
 d:Nat
 ts:Bt
def lC.one (e:lC):List Value:=[.slice e.p e.l e.c]
def lC.two (e:lC):List Value:=[.slice e.q e.l e.d]
def lC.qT (e:lC):List Nat:=az e.p++az e.q
theorem di (p:Option Addr) (k:Nat):az (p.map fun a=>a.add k)=az p:=by
 cases p with
 | none=>rfl
 | some a=>simp [az,ig]
theorem FP {h:Hp} {gb:Nat} {l:List Nat} (a:Ch (gb::l) h h1) (c:Ch [gb] h1 h2):Ch (gb::l) h h2:=a.trans c (fun i hi _=>by simp at hi; simp [hi])
def ct (b:Nat) (h h':Hp):Prop:=h.size≤h'.size∧∀ i,i<b→i<h.size→h'[i]?=h[i]?
theorem ct.of {ws:List Nat} {b:Nat} {h h':Hp} (k:Ch ws h h') (hw:∀ i,i∈ws→i<h.size→b≤i):ct b h h' :=
 ⟨k.size,fun i hi hl=>k.same i hl fun hm=>by have:=hw i hm hl; omega⟩
theorem ct.trans {b:Nat} {h:Hp} (a:ct b h h1) (c:ct b h1 h2):ct b h h2 :=
 ⟨Nat.le_trans a.1 c.1,fun i hi hl=>(c.2 i hi (Nat.lt_of_lt_of_le hl a.1)).trans (a.2 i hi hl)⟩
theorem ct.ext {h:Hp} (a:Ext h h1) (c:ct h.size h1 h2):Ext h h2 :=
 ⟨Nat.le_trans a.size c.1,fun i hi _=>(c.2 i hi (Nat.lt_of_lt_of_le hi a.size)).trans (a.same i hi (by simp))⟩
def K2 (i j:Int):Int:=IntKind.wrap .u8 (Int.fdiv (IntKind.wrap .i64 (i+(1:Int))) ((2:Int)^(min (IntKind.u64.wrap (IntKind.i64.wrap (8*j.tmod 3))).toNat IntKind.i64.bits)))
def K3 (k j:Nat):List Value:=[.int .u8 (K2 k j)]
def Room (h:Hp) (b:Nat) (p:Option Addr) (c k m:Nat):Prop :=
 match p with
 | none=>c=0
 | some a=>∃ g o cells,a=⟨g,o,none⟩∧b≤g∧c<9223372036854775808∧aM h g 5 cells∧o+c*1≤cells.length∧∀ j,j<m→(cells.drop (o+j*1)).take 1=K3 k j
theorem Room.Gj {h:Hp} {b:Nat} {p:Option Addr} {l c:Nat} {xs:List (List Value)} (s:SL h b 5 1 p l c xs) (k:Nat):Room h b p c k 0:=by
 cases p with
 | none=>exact s.2.2.1
 | some a =>
  obtain ⟨g,pre,rest,rfl,hbg,hlc,hbox,hr⟩:=s.2.2;have hx:=bF xs s.2.1
  have:=s.1
  refine ⟨g,pre.length,_,rfl,hbg,hlc.2,hbox,?_,fun j hj=>by omega⟩;rw [List.length_append,List.length_append,hx,hr,← this];omega
theorem Room.af {ws:List Nat} {h h':Hp} {b:Nat} {p:Option Addr} {c k m:Nat} (r:Room h b p c k m) (kk:Ch ws h h') (hw:∀ i,i∈az p→i∉ws):Room h' b p c k m:=by
 cases p with
 | none=>exact r
 | some a =>
  obtain ⟨g,o,cells,rfl,hbg,hc,hbox,hr,hm⟩:=r;exact ⟨g,o,cells,rfl,hbg,hc,hbox.af kk (hw g (by simp [az])),hr,hm⟩
theorem tw {cells vs:List Value} {o n:Nat} (hv:vs.length=n) (h:o+n≤cells.length):((eI cells o vs).drop o).take n=vs:=by
 rw [fE _ _ _ (by omega),List.append_assoc];rw [List.drop_append_of_le_length (by rw [List.length_take]; omega),List.drop_of_length_le (by rw [List.length_take]; omega),List.nil_append,List.take_append_of_le_length (by omega),List.take_of_length_le (by omega)]
theorem oC {cells vs:List Value} {o o' n:Nat} (h:o+vs.length≤cells.length) (h':o'+n≤o):((eI cells o vs).drop o').take n=(cells.drop o').take n:=by
 rw [fE _ _ _ (by omega),List.append_assoc];rw [List.drop_append_of_le_length (by rw [List.length_take]; omega),List.take_append_of_le_length (by rw [List.length_drop,List.length_take]; omega)];rw [List.drop_take,List.take_take,Nat.min_eq_left (by omega)]
end Go.Sx.BB
set_option linter.unusedVariables false
set_option linter.unusedSimpArgs false
set_option maxRecDepth 100000
namespace Go.Sx.Ob
open Go.Proofs
variable {h2 h1 hq:Hp} {lo:Nat} {ws:List Nat}
def wk (lo hi:Nat) (h h':Hp):Prop:=h.size≤h'.size∧∀ i,i<h.size→(i<lo∨hi≤i)→h'[i]?=h[i]?
theorem wk.refl (lo hi:Nat) (h:Hp):wk lo hi h h:=⟨Nat.le_refl _,fun _ _ _=>rfl⟩
theorem wk.step {hi:Nat} {h:Hp} (b:wk lo hi h h1) (k:Ch ws h1 h2) (hw:∀ i,i∈ws→i<h.size→lo≤i∧i<hi):wk lo hi h h2 :=
 ⟨Nat.le_trans b.1 k.size,fun i hi hb=>(k.same i (Nat.lt_of_lt_of_le hi b.1) (fun hm=>by have:=hw i hm hi; omega)).trans (b.2 i hi hb)⟩
theorem wk.box {hi:Nat} {h h':Hp} (b:wk lo hi h h') {g:Nat} {e:TypeId} {xs:List Value} (bx:aM h g e xs) (hg:g<lo∨hi≤g):aM h' g e xs:=(b.2 g bx.lt hg).trans bx
def Cj (hq h':Hp):Prop:=∀ g cells,aM hq g 109 cells→∃ cells',aM h' g 109 cells'∧cells'.length=cells.length
theorem Cj.af (s:Cj hq h1) (k:Ch ws h1 h2) (hw:∀ i,i∈ws→i<h1.size→∃ e ys,aM h1 i e ys∧e≠109):Cj hq h2:=by
 intro g cells b;obtain ⟨c',b',hl⟩:=s g cells b;refine ⟨c',b'.af k (fun hm=>?_),hl⟩;obtain ⟨e,ys,b2,he⟩:=hw g hm b'.lt;unfold aM at b' b2;rw [b'] at b2;simp only [Option.some.injEq,Obj.cells.injEq] at b2;exact he b2.2.1.symm
theorem Cj.store {g:Nat} {cells cells':List Value} (s:Cj hq h1) (b1:aM h1 g 109 cells) (b2:aM h2 g 109 cells') (hl:cells'.length=cells.length) (k:Ch [g] h1 h2):Cj hq h2:=by
 intro g' cs b;obtain ⟨c',b',hc⟩:=s g' cs b
 by_cases hg:g'=g
 ·subst hg;refine ⟨cells',b2,?_⟩;unfold aM at b1 b';rw [b1] at b';simp only [Option.some.injEq,Obj.cells.injEq] at b'
  have:=congrArg Array.size b'.1
  simp at this;omega
 ·exact ⟨c',b'.af k (by simpa using hg),hc⟩
theorem yH {L:Lp} {K:Value→Hp→Prop} {k:T} {h:Hp} {p:Option Addr} {l c:Nat} {ts:dw} (o:SL hq lo 109 2 p l c (ts.map cj)) (bt:wk lo hq.size h h1) (sh:Cj hq h1) {i:Nat} (hi:i<l) {a:Addr} (ha:p=some a)
  (hk:∀ h2,wk lo hq.size h h2→Cj hq h2→Ch (az p) h1 h2→(∀ j,j∈az p→∃ ys,aM h1 j 109 ys)→k L K h2):T.ao (a.add (i*2)) [.string ⟨#[115,112,111,105,108,116]⟩,.int .u32 (0:Int)] k L K h1:=by
 subst ha;obtain ⟨g,pre,rest,rfl,hbg,hlc,hbox,hr⟩:=o.2.2;obtain ⟨cells,b1,hl⟩:=sh g _ hbox;have hx:=bF _ o.2.1;have hlen:=o.1;rw [List.length_append,List.length_append,hx,hr,← hlen] at hl;have hcap:i*2+2≤l*2+(c-l)*2:=by
  have:(i+1)*2≤l*2:=Nat.mul_le_mul_right 2 hi
  omega
 rw [au];refine an b1 rfl (by rw [hl]; show pre.length+i*2+2≤_; omega) ?_;intro h2 b2 k2 z2;have hlt:=hbox.lt;exact hk h2 (bt.step k2 (fun j hj _=>by simp at hj; omega)) (sh.store b1 b2 (eK _ _ _) k2) (k2.mono (by simp [az])) (fun j hj=>by simp [az] at hj; subst hj; exact ⟨_,b1⟩)
def Ht:List Value:=[.int .i64 (-9:Int),.string ⟨#[]⟩,.int .i64 (0:Int),.int .i64 (0:Int),.int .i64 (0:Int),.int .i32 (0:Int),.int .i64 (0:Int),.slice none 0 0,.int .u32 (0:Int),.int .i64 (0:Int)]
def FX (p13:Option Addr) (l14:Nat) (k:T):T :=
 T.loop [(false,[.int .i64])] [.int .i64 (0:Int)] <| fun (n16:Int) =>
 cond (decide (n16<(l14:Int)))
  (T.loop [(false,[.int .i64])] [.int .i64 (0:Int)] <| fun (n17:Int) =>
  T.need (((0:Int)≤n16)∧(n16<(l14:Int))) <|
  T.aw p13 <| fun (a18:Addr) =>
  T.ae ((a18.add ((Int.toNat n16)*10)).add 7) [.slice 109] <| fun (p19:Option Addr) (l20:Nat) (l21:Nat) =>
  cond (decide (n17<(l20:Int)))
  (T.need (((0:Int)≤n16)∧(n16<(l14:Int))) <|
  T.aw p13 <| fun (a22:Addr) =>
  T.ae ((a22.add ((Int.toNat n16)*10)).add 7) [.slice 109] <| fun (p23:Option Addr) (l24:Nat) (l25:Nat) =>
  T.need (((0:Int)≤n17)∧(n17<(l24:Int))) <|
  T.aw p23 <| fun (a26:Addr) =>
  T.ao (a26.add ((Int.toNat n17)*2)) [.string ⟨#[115,112,111,105,108,116]⟩,.int .u32 (0:Int)] <|
  T.again 2 [.int .i64 (IntKind.wrap .i64 (n17+(1:Int)))])
  (T.need (((0:Int)≤n16)∧(n16<(l14:Int))) <|
  T.aw p13 <| fun (a22:Addr) =>
  T.ao (a22.add ((Int.toNat n16)*10)) Ht <|
  T.again 1 [.int .i64 (IntKind.wrap .i64 (n16+(1:Int)))]))
  k
theorem yP {j0:List Value→Hp→Prop} {K:Value→Hp→Prop} {k:T} {h:Hp} {p:Option Addr} {l c:Nat} {us:List (bE × bD)} (o:KS hq lo p l c us) (hn:us.length≤65535) (hlo:lo≤hq.size) (hqh:hq.size≤h.size)
  (Inv:Hp→Prop) (hInv:∀ a b ws,Inv a→Ch ws a b→(∀ i,i∈ws→(i∈az p∨∃ ys,aM a i 109 ys))→(∀ i,i∈ws→lo≤i∧i<hq.size)→Inv b)
  (bt:wk lo hq.size h h1) (sh:Cj hq h1) (s1:SL h1 lo 96 10 p l c (us.map fun u=>encI u.1.p u.1.l u.1.c u.2)) (i1:Inv h1)
  (hk:∀ h2 J,wk lo hq.size h h2→Cj hq h2→Inv h2→k [j0,J] K h2):FX p l k [j0] K h1:=by
 unfold FX;have hlen:=o.len;refine aY (cs:=[(false,[.int .i64])]) (fun y m h'=>∃ (i:Nat) (xs:List (List Value)),y.1=(i:Int)∧i≤l∧m=l-i∧wk lo hq.size h h'∧Cj hq h'∧Inv h'∧SL h' lo 96 10 p l c xs∧∀ j,i≤j→xs[j]?=(us.map fun u=>encI u.1.p u.1.l u.1.c u.2)[j]?) ((0:Int),()) l rfl
  ⟨0,_,rfl,by omega,by omega,bt,sh,i1,s1,fun _ _=>rfl⟩ ?_
 clear s1 i1 bt sh;rintro ⟨n16,⟨⟩⟩ m h2 ⟨i,xs,hi,hil,rfl,bt,sh,iv,s,hxs⟩;simp only at hi;subst hi;dsimp only [flat,aD,aj,nA,cA];refine ah (fun q=>?_) (fun q=>hk h2 _ bt sh iv);have q:=of_decide_eq_true q;have hlt:i<us.length:=by omega
 have hxl:=s.1;have hxi:=hxs i (Nat.le_refl _);rw [List.getElem?_map,List.getElem?_eq_getElem hlt,List.getElem?_eq_getElem (by omega)] at hxi;have hxi:=Option.some.inj hxi;have ot:=o.own us[i] (List.getElem_mem hlt);have hob:=fun j hj=>(Ob.SL.bR o.sl j hj)
 generalize us[i]=u at hxi ot;have otl:u.1.l=u.2.e.aC.length:=by rw [ot.1,List.length_map]
 have hmany:u.1.l≤9223372036854775807:=by
  cases hp:u.1.p with
  | none =>
   have h3:=ot.2.2;rw [hp] at h3;have h1:=ot.1;rw [h3.2] at h1;simp at h1;omega
  | some a =>
   have h3:=ot.2.2;rw [hp] at h3;obtain ⟨g,pre,rest,_,_,hlc,_⟩:=h3;omega
 refine aY (cs:=[(false,[.int .i64])]) (fun y m h'=>∃ (t:Nat),y.1=(t:Int)∧t≤u.1.l∧m=u.1.l-t∧wk lo hq.size h h'∧Cj hq h'∧Inv h'∧SL h' lo 96 10 p l c xs) ((0:Int),()) u.1.l rfl
  ⟨0,rfl,by omega,by omega,bt,sh,iv,s⟩ ?_
 clear bt sh iv s;rintro ⟨n17,⟨⟩⟩ m h3 ⟨t,ht,htl,rfl,bt,sh,iv,s⟩;simp only at ht;subst ht;dsimp only [flat,aD,aj,nA,cA];obtain ⟨a,ha,hc⟩:=Sx.SL.cells s (i:=i) (by omega);rw [hxi] at hc;have hc7:aH h3 ((a.add (i*10)).add 7) 0 [.slice u.1.p u.1.l u.1.c]:=⟨by rw [add_add]; exact hc.2.2.2.2.2.2.2.1,trivial⟩
 refine aA ⟨by omega,by omega⟩ (ai ha ?_);rw [show Int.toNat (i:Int)=i by omega];refine aE ((u.1.p,u.1.l,u.1.c),()) hc7 ?_;dsimp only [flat,aD,aj,nA,cA];refine ah (fun r=>?_) (fun r=>?_)
 ·have r:=of_decide_eq_true r;refine aA ⟨by omega,by omega⟩ (ai ha ?_);refine aE ((u.1.p,u.1.l,u.1.c),()) hc7 ?_;dsimp only [flat,aD,aj,nA,cA];have hp:∃ b,u.1.p=some b:=by
   cases hp:u.1.p with
   | none =>
    have h3:=ot.2.2;rw [hp] at h3;have h1:=ot.1;rw [h3.2] at h1;simp at h1;omega
   | some b=>exact ⟨b,rfl⟩
  obtain ⟨b,hb⟩:=hp;refine aA ⟨by omega,by omega⟩ (ai hb ?_);rw [show Int.toNat (t:Int)=t by omega];refine yH ot bt sh (by omega) hb ?_;intro h4 bt4 sh4 k4 hb4;rw [wrap_i64 (by omega) (by omega)];refine aK (cs:=[(false,[.int .i64])]) (((t+1:Nat):Int),()) (u.1.l-(t+1)) rfl (by omega) rfl ?_;exact ⟨t+1,rfl,by omega,rfl,bt4,sh4,hInv _ _ _ iv k4 (fun i hi=>.inr (hb4 i hi)) (fun i hi=>Ob.SL.bR ot i hi),SL.wu s k4 hb4 (by decide)⟩
 ·refine aA ⟨by omega,by omega⟩ (ai ha ?_);refine SL.store (P:=Tryz.prog) s (i:=i) (vs:=Ht) (by omega) rfl rfl ha ?_;intro h4 s4 k4 z4;rw [wrap_i64 (by omega) (by omega)];refine aK (cs:=[(false,[.int .i64])]) (((i+1:Nat):Int),()) (l-(i+1)) rfl (by omega) rfl ?_;refine ⟨i+1,xs.set i Ht,rfl,by omega,rfl,bt.step k4 (fun j hj _=>hob j hj),sh.af k4 (fun j hj _=>?_),hInv _ _ _ iv k4 (fun j hj=>.inl hj) (fun j hj=>hob j hj),s4,fun j hj=>?_⟩
  ·obtain ⟨ys,hy⟩:=Ob.SL.yq s j hj;exact ⟨96,ys,hy,by decide⟩
  ·rw [List.getElem?_set_ne (by omega)];exact hxs j (by omega)
theorem SL.AW {a b:Hp} {e:TypeId} {sz:Nat} {q:Option Addr} {l c:Nat} {xs:List (List Value)} {p:Option Addr} (s:SL a lo e sz q l c xs) (k:Ch ws a b) (hw:∀ i,i∈ws→(i∈az p∨∃ ys,aM a i 109 ys)) (hap:∀ i,i∈az p→i∉az q) (he:e≠109):SL b lo e sz q l c xs :=
 Sx.SL.aO s k (fun i hi hm=>by
  rcases hw i hm with h | ⟨ys,b2⟩
  ·exact hap i h hi
  ·obtain ⟨zs,b1⟩:=SL.yq s i hi;unfold aM at b1 b2;rw [b1] at b2;simp only [Option.some.injEq,Obj.cells.injEq] at b2;exact he b2.2.1)
theorem HS {h:Hp} {b b':Nat} {e e':TypeId} {sz sz':Nat} {p q:Option Addr} {l c l' c':Nat} {xs ys:List (List Value)} (s:SL h b e sz p l c xs) (t:SL h b' e' sz' q l' c' ys) (he:e≠e'):∀ i,i∈az p→i∉az q:=fun i h1 h2=>by
 obtain ⟨x1,b1⟩:=SL.yq s i h1;obtain ⟨x2,b2⟩:=SL.yq t i h2;unfold aM at b1 b2;rw [b1] at b2;simp only [Option.some.injEq,Obj.cells.injEq] at b2;exact he b2.2.1
def F6 (a1:Addr):T :=
 T.loop [(false,[.int .i64])] [.int .i64 (0:Int)] <| fun (n12:Int) =>
 T.ae (a1.add 2) [.slice 99] <| fun (p13:Option Addr) (l14:Nat) (l15:Nat) =>
 cond (decide (n12<(l14:Int)))
  (T.loop [(false,[.int .i64])] [.int .i64 (0:Int)] <| fun (n16:Int) =>
  T.ae (a1.add 2) [.slice 99] <| fun (p17:Option Addr) (l18:Nat) (l19:Nat) =>
  T.need (((0:Int)≤n12)∧(n12<(l18:Int))) <|
  T.aw p17 <| fun (a20:Addr) =>
  T.ae ((a20.add ((Int.toNat n12)*3)).add 1) [.slice 109] <| fun (p21:Option Addr) (l22:Nat) (l23:Nat) =>
  cond (decide (n16<(l22:Int)))
  (T.ae (a1.add 2) [.slice 99] <| fun (p24:Option Addr) (l25:Nat) (l26:Nat) =>
  T.need (((0:Int)≤n12)∧(n12<(l25:Int))) <|
  T.aw p24 <| fun (a27:Addr) =>
  T.ae ((a27.add ((Int.toNat n12)*3)).add 1) [.slice 109] <| fun (p28:Option Addr) (l29:Nat) (l30:Nat) =>
  T.need (((0:Int)≤n16)∧(n16<(l29:Int))) <|
  T.aw p28 <| fun (a31:Addr) =>
  T.ao (a31.add ((Int.toNat n16)*2)) [.string ⟨#[115,112,111,105,108,116]⟩,.int .u32 (0:Int)] <|
  T.again 2 [.int .i64 (IntKind.wrap .i64 (n16+(1:Int)))])
  (T.ae (a1.add 2) [.slice 99] <| fun (p24:Option Addr) (l25:Nat) (l26:Nat) =>
  T.need (((0:Int)≤n12)∧(n12<(l25:Int))) <|
  T.aw p24 <| fun (a27:Addr) =>
  T.ao (a27.add ((Int.toNat n12)*3)) [.string ⟨#[115,112,111,105,108,116]⟩,.slice none 0 0,.int .u32 (0:Int)] <|
  T.again 1 [.int .i64 (IntKind.wrap .i64 (n12+(1:Int)))]))
  (T.loop [(false,[.int .i64])] [.int .i64 (0:Int)] <| fun (n16:Int) =>
  T.ae (a1.add 3) [.slice 9] <| fun (p17:Option Addr) (l18:Nat) (l19:Nat) =>
  cond (decide (n16<(l18:Int)))
  (T.ae (a1.add 3) [.slice 9] <| fun (p20:Option Addr) (l21:Nat) (l22:Nat) =>
  T.need (((0:Int)≤n16)∧(n16<(l21:Int))) <|
  T.aw p20 <| fun (a23:Addr) =>
  T.ao (a23.add ((Int.toNat n16)*1)) [.string ⟨#[115,112,111,105,108,116]⟩] <|
  T.again 2 [.int .i64 (IntKind.wrap .i64 (n16+(1:Int)))])
  (T.ret (.tuple #[])))
def G0 (lo hi:Nat) (h:Hp) (w:Value) (h':Hp):Prop:=w=.tuple #[]∧wk lo hi h h'
theorem Ff {j0:List Value→Hp→Prop} {h:Hp} {a b c d:bE} {us:List (bE × kl)} {gs:List (bE × ByteArray)} (o:LC hq lo c.p c.l c.c us) (og:L4 hq lo d.p d.l d.c gs) (hn:us.length≤65535) (hg:gs.length≤65535) (hlo:lo≤hq.size) (hqh:hq.size≤h.size)
  (bt:wk lo hq.size h h1) (sh:Cj hq h1) (s1:SL h1 lo 99 3 c.p c.l c.c (us.map fun u=>rQ u.1.p u.1.l u.1.c u.2)) (g1:SL h1 lo 9 1 d.p d.l d.c (gs.map fun u=>[.string u.2])) (ba:aM h1 h.size 27 [a.v,b.v,c.v,d.v]) :
  F6 ⟨h.size,0,none⟩ [j0] (G0 lo hq.size h) h1:=by
 unfold F6;have hlen:=o.len;have hgl:=og.len;simp only [au];have hap:=HS o.sl og.sl (by decide);have hob:=fun j hj=>(Ob.SL.bR o.sl j hj)
 have hgb:=fun j hj=>(Ob.SL.bR og.sl j hj)
 refine aY (cs:=[(false,[.int .i64])]) (fun y m h'=>∃ (i:Nat) (xs:List (List Value)),y.1=(i:Int)∧i≤c.l∧m=c.l-i∧wk lo hq.size h h'∧Cj hq h'∧SL h' lo 9 1 d.p d.l d.c (gs.map fun u=>[.string u.2])∧aM h' h.size 27 [a.v,b.v,c.v,d.v]∧SL h' lo 99 3 c.p c.l c.c xs∧∀ j,i≤j→xs[j]?=(us.map fun u=>rQ u.1.p u.1.l u.1.c u.2)[j]?) ((0:Int),()) c.l rfl
  ⟨0,_,rfl,by omega,by omega,bt,sh,g1,ba,s1,fun _ _=>rfl⟩ ?_
 clear s1 g1 bt sh ba;rintro ⟨n12,⟨⟩⟩ m h2 ⟨i,xs,hi,hil,rfl,bt,sh,sg,ba,s,hxs⟩;simp only at hi;subst hi;dsimp only [flat,aD,aj,nA,cA];refine ad ba ((c.p,c.l,c.c),()) rfl ?_;dsimp only [flat,aD,aj,nA,cA];refine ah (fun q=>?_) (fun q=>?_)
 ·have q:=of_decide_eq_true q;have hlt:i<us.length:=by omega
  have hxl:=s.1;have hxi:=hxs i (Nat.le_refl _);rw [List.getElem?_map,List.getElem?_eq_getElem hlt,List.getElem?_eq_getElem (by omega)] at hxi;have hxi:=Option.some.inj hxi;have ot:=o.own us[i] (List.getElem_mem hlt);generalize us[i]=u at hxi ot;have hnone:u.1.p=none→u.1.l=0:=fun hp=>by
   have h3:=ot.2.2;rw [hp] at h3;have h1:=ot.1;rw [h3.2] at h1;exact h1
  have hmany:u.1.l≤9223372036854775807:=by
   cases hp:u.1.p with
   | none=>have:=hnone hp; omega
   | some a =>
    have h3:=ot.2.2;rw [hp] at h3;obtain ⟨g,pre,rest,_,_,hlc,_⟩:=h3;omega
  refine aY (cs:=[(false,[.int .i64])]) (fun y m h'=>∃ (t:Nat),y.1=(t:Int)∧t≤u.1.l∧m=u.1.l-t∧wk lo hq.size h h'∧Cj hq h'∧SL h' lo 9 1 d.p d.l d.c (gs.map fun u=>[.string u.2])∧aM h' h.size 27 [a.v,b.v,c.v,d.v]∧SL h' lo 99 3 c.p c.l c.c xs) ((0:Int),()) u.1.l rfl
   ⟨0,rfl,by omega,by omega,bt,sh,sg,ba,s⟩ ?_
  clear bt sh sg ba s;rintro ⟨n16,⟨⟩⟩ m h3 ⟨t,ht,htl,rfl,bt,sh,sg,ba,s⟩;simp only at ht;subst ht;dsimp only [flat,aD,aj,nA,cA];refine ad ba ((c.p,c.l,c.c),()) rfl ?_;dsimp only [flat,aD,aj,nA,cA];obtain ⟨aa,ha,hc⟩:=Sx.SL.cells s (i:=i) (by omega);rw [hxi] at hc;have hc1:aH h3 ((aa.add (i*3)).add 1) 0 [.slice u.1.p u.1.l u.1.c]:=⟨by rw [add_add]; exact hc.2.1,trivial⟩
  refine aA ⟨by omega,by omega⟩ (ai ha ?_);rw [show Int.toNat (i:Int)=i by omega];refine aE ((u.1.p,u.1.l,u.1.c),()) hc1 ?_;dsimp only [flat,aD,aj,nA,cA];refine ah (fun r=>?_) (fun r=>?_)
  ·have r:=of_decide_eq_true r;refine ad ba ((c.p,c.l,c.c),()) rfl ?_;dsimp only [flat,aD,aj,nA,cA];refine aA ⟨by omega,by omega⟩ (ai ha ?_);refine aE ((u.1.p,u.1.l,u.1.c),()) hc1 ?_;dsimp only [flat,aD,aj,nA,cA];have hp:∃ b,u.1.p=some b:=by
    cases hp:u.1.p with
    | none=>have:=hnone hp; omega
    | some b=>exact ⟨b,rfl⟩
   obtain ⟨b,hb⟩:=hp;refine aA ⟨by omega,by omega⟩ (ai hb ?_);rw [show Int.toNat (t:Int)=t by omega];refine yH ot bt sh (by omega) hb ?_;intro h4 bt4 sh4 k4 hb4;rw [wrap_i64 (by omega) (by omega)];refine aK (cs:=[(false,[.int .i64])]) (((t+1:Nat):Int),()) (u.1.l-(t+1)) rfl (by omega) rfl ?_;exact ⟨t+1,rfl,by omega,rfl,bt4,sh4,SL.wu sg k4 hb4 (by decide),ba.af k4 (fun hm=>by have:=(Ob.SL.bR ot _ hm).2; omega),SL.wu s k4 hb4 (by decide)⟩
  ·refine ad ba ((c.p,c.l,c.c),()) rfl ?_;dsimp only [flat,aD,aj,nA,cA];refine aA ⟨by omega,by omega⟩ (ai ha ?_);refine SL.store (P:=Tryz.prog) s (i:=i) (vs:=[.string ⟨#[115,112,111,105,108,116]⟩,.slice none 0 0,.int .u32 (0:Int)]) (by omega) rfl rfl ha ?_;intro h4 s4 k4 z4;rw [wrap_i64 (by omega) (by omega)];refine aK (cs:=[(false,[.int .i64])]) (((i+1:Nat):Int),()) (c.l-(i+1)) rfl (by omega) rfl ?_;refine ⟨i+1,_,rfl,by omega,rfl,bt.step k4 (fun j hj _=>hob j hj),sh.af k4 (fun j hj _=>?_),Sx.SL.aO sg k4 (fun j hj hm=>hap j hm hj),ba.af k4 (fun hm=>by have:=(hob _ hm).2; omega),s4,fun j hj=>?_⟩
   ·obtain ⟨ys,hy⟩:=Ob.SL.yq s j hj;exact ⟨99,ys,hy,by decide⟩
   ·rw [List.getElem?_set_ne (by omega)];exact hxs j (by omega)
 ·refine aY (cs:=[(false,[.int .i64])]) (fun y m h'=>∃ (i:Nat) (ys:List (List Value)),y.1=(i:Int)∧i≤d.l∧m=d.l-i∧wk lo hq.size h h'∧aM h' h.size 27 [a.v,b.v,c.v,d.v]∧SL h' lo 9 1 d.p d.l d.c ys) ((0:Int),()) d.l rfl
   ⟨0,_,rfl,by omega,by omega,bt,ba,sg⟩ ?_
  clear bt sh sg ba s;rintro ⟨n16,⟨⟩⟩ m h3 ⟨t,ys,ht,htl,rfl,bt,ba,s⟩;simp only at ht;subst ht;dsimp only [flat,aD,aj,nA,cA];refine ad ba ((d.p,d.l,d.c),()) rfl ?_;dsimp only [flat,aD,aj,nA,cA];refine ah (fun r=>?_) (fun r=>⟨rfl,bt⟩);have r:=of_decide_eq_true r;refine ad ba ((d.p,d.l,d.c),()) rfl ?_;dsimp only [flat,aD,aj,nA,cA];have hyl:=s.1;obtain ⟨aa,ha,hc⟩:=Sx.SL.cells s (i:=t) (by omega);refine aA ⟨by omega,by omega⟩ (ai ha ?_);rw [show Int.toNat (t:Int)=t by omega];refine SL.store (P:=Tryz.prog) s (i:=t) (vs:=[.string ⟨#[115,112,111,105,108,116]⟩]) (by omega) rfl rfl ha ?_;intro h4 s4 k4 z4;rw [wrap_i64 (by omega) (by omega)];refine aK (cs:=[(false,[.int .i64])]) (((t+1:Nat):Int),()) (d.l-(t+1)) rfl (by omega) rfl ?_;exact ⟨t+1,_,rfl,by omega,rfl,bt.step k4 (fun j hj _=>hgb j hj),ba.af k4 (fun hm=>by have:=(hgb _ hm).2; omega),s4⟩
theorem Gk {h:Hp} {a b c d:bE} {u:fU} (o:gY hq lo a b c d u) (ap:LG a b) (e:Ext hq h) (hlo:lo≤hq.size):HC Tryz.prog 26 #[jM a b c d] h (G0 lo hq.size h):=by
 refine aL (args:=[jM a b c d]) mixed Tryz.func26 (by kernel_rfl) (ln a.p a.l a.c b.p b.l b.c c.p c.l c.c d.p d.l d.c) ?_;unfold iF;obtain ⟨⟨uT,_,nT,oT⟩,⟨uD,_,nD,oD⟩,⟨uE,_,nE,oE⟩,⟨uG,_,nG,oG⟩⟩:=o;have hqh:=e.size;refine aW ?_;intro h1 b1 e1 z1;have b1:aM h1 h.size 27 [a.v,b.v,c.v,d.v]:=b1;rw [au];refine ad b1 ((a.p,a.l,a.c),()) rfl ?_;dsimp only [flat,aD,aj,nA,cA];refine ad b1 ((b.p,b.l,b.c),()) rfl ?_;dsimp only [flat,aD,aj,nA,cA];refine dY Ks Mj (by omega) (by omega) (Km a.p a.l a.c b.p b.l b.c) ?_;intro h2 b2 e2 z2;have b2:aM h2 h1.size 23 [a.v,b.v]:=b2;have b12:=b1.af e2 (by simp);have e02:=(e.trans e1).trans e2;have bt2:wk lo hq.size h h2:=(wk.refl _ _ _).step (e1.trans e2) (by simp);have sh2:Cj hq h2:=fun g cells bx=>⟨cells,bx.af e02 (by simp),rfl⟩
 have sT:=oT.sl.af e02 (by simp);have sD:=oD.sl.af e02 (by simp);have sE:=oE.sl.af e02 (by simp);have sG:=oG.sl.af e02 (by simp);have aTE:=HS oT.sl oE.sl (by decide);have aTG:=HS oT.sl oG.sl (by decide);have aDE:=HS oD.sl oE.sl (by decide);have aDG:=HS oD.sl oG.sl (by decide);have hz1:=e1.size
 refine aY (cs:=[(false,[.int .i64])]) (fun y m h'=>∃ k:Nat,y.1=(k:Int)∧k≤2∧m=2-k∧wk lo hq.size h h'∧Cj hq h'∧aM h' h.size 27 [a.v,b.v,c.v,d.v]∧aM h' h1.size 23 [a.v,b.v]∧(k=0→SL h' lo 96 10 a.p a.l a.c (uT.map fun u=>encI u.1.p u.1.l u.1.c u.2))∧(k≤1→SL h' lo 96 10 b.p b.l b.c (uD.map fun u=>encI u.1.p u.1.l u.1.c u.2)) ∧
   SL h' lo 99 3 c.p c.l c.c (uE.map fun u=>rQ u.1.p u.1.l u.1.c u.2)∧SL h' lo 9 1 d.p d.l d.c (uG.map fun u=>[.string u.2])) ((0:Int),()) 2 rfl
  ⟨0,rfl,by omega,by omega,bt2,sh2,b12,b2,fun _=>sT,fun _=>sD,sE,sG⟩ ?_
 clear bt2 sh2 b12 b2 sT sD sE sG;rintro ⟨n11,⟨⟩⟩ m h3 ⟨k,hk,hk2,rfl,bt,sh,ba,bb,sT,sD,sE,sG⟩;simp only at hk;subst hk;dsimp only [flat,aD,aj,nA,cA];refine ah (fun q=>?_) (fun q=>?_)
 ·have q:=of_decide_eq_true q;have hk:k=0∨k=1:=by omega
  rcases hk with rfl | rfl
  ·refine aA ⟨by omega,by omega⟩ (ai rfl ?_);rw [au];refine ad bb ((a.p,a.l,a.c),()) rfl ?_;refine yP (Inv:=fun h'=>aM h' h.size 27 [a.v,b.v,c.v,d.v]∧aM h' h1.size 23 [a.v,b.v]∧SL h' lo 96 10 b.p b.l b.c (uD.map fun u=>encI u.1.p u.1.l u.1.c u.2)∧SL h' lo 99 3 c.p c.l c.c (uE.map fun u=>rQ u.1.p u.1.l u.1.c u.2)∧SL h' lo 9 1 d.p d.l d.c (uG.map fun u=>[.string u.2]))
    oT nT hlo hqh ?_ bt sh (sT rfl) ⟨ba,bb,sD (by omega),sE,sG⟩ ?_
   ·rintro x y ws ⟨i1,i2,i3,i4,i5⟩ kk hw hr;exact ⟨i1.af kk (fun hm=>by have:=hr _ hm; omega),i2.af kk (fun hm=>by have:=hr _ hm; omega),SL.AW i3 kk hw ap (by decide),SL.AW i4 kk hw aTE (by decide),SL.AW i5 kk hw aTG (by decide)⟩
   ·rintro h4 J bt4 sh4 ⟨i1,i2,i3,i4,i5⟩;refine aK (cs:=[(false,[.int .i64])]) (((0+1:Nat):Int),()) (2-(0+1)) rfl (by omega) (by rw [wrap_i64 (by omega) (by omega)]; rfl) ?_;exact ⟨0+1,rfl,by omega,rfl,bt4,sh4,i1,i2,fun h=>by omega,fun _=>i3,i4,i5⟩
  ·refine aA ⟨by omega,by omega⟩ (ai rfl ?_);rw [au];refine ad bb ((b.p,b.l,b.c),()) rfl ?_;refine yP (Inv:=fun h'=>aM h' h.size 27 [a.v,b.v,c.v,d.v]∧aM h' h1.size 23 [a.v,b.v]∧SL h' lo 99 3 c.p c.l c.c (uE.map fun u=>rQ u.1.p u.1.l u.1.c u.2)∧SL h' lo 9 1 d.p d.l d.c (uG.map fun u=>[.string u.2]))
    oD nD hlo hqh ?_ bt sh (sD (by omega)) ⟨ba,bb,sE,sG⟩ ?_
   ·rintro x y ws ⟨i1,i2,i4,i5⟩ kk hw hr;exact ⟨i1.af kk (fun hm=>by have:=hr _ hm; omega),i2.af kk (fun hm=>by have:=hr _ hm; omega),SL.AW i4 kk hw aDE (by decide),SL.AW i5 kk hw aDG (by decide)⟩
   ·rintro h4 J bt4 sh4 ⟨i1,i2,i4,i5⟩;refine aK (cs:=[(false,[.int .i64])]) (((1+1:Nat):Int),()) (2-(1+1)) rfl (by omega) (by rw [wrap_i64 (by omega) (by omega)]; rfl) ?_;exact ⟨1+1,rfl,by omega,rfl,bt4,sh4,i1,i2,fun h=>by omega,fun h=>by omega,i4,i5⟩
 ·exact Ff oE oG nE nG hlo hqh bt sh sE sG ba
theorem F9 {L:Lp} {K:Value→Hp→Prop} {h:Hp} {a:Addr} {l c:Nat} {bs:List UInt8} {k:ByteArray→T} (hl:l=bs.length) (hc:aH h a 0 (bs.map fun b=>Value.int .u8 (b.toNat:Int))) (hk:k ⟨bs.toArray⟩ L K h) :
  T.aS Tryz.prog (convert 42 9 (.slice (some a) l c)) false [(false,[.string])] k L K h:=by
 subst hl;show aJ Tryz.prog (convert 42 9 (.slice (some a) bs.length c)) h _;unfold convert;rw [ak,ay C8,ak,ay Kn];show aJ Tryz.prog (do match ← underlying 5 with
  | .int .u8=>Conv.bytesToString (.slice (some a) bs.length c)
  | .int .i32=>Conv.runesToString (.slice (some a) bs.length c)
  | _ => stuck "Convert: a slice of what to string?") h _
 rw [ak,ay Kx];exact zE a bs c _ hc ⟨(⟨bs.toArray⟩,()),rfl,hk⟩
end Go.Sx.Ob
set_option linter.unusedVariables false
set_option maxRecDepth 100000
namespace Go.Sx.BS
open Go.Sx Go.Sx.Ob
open Go.Proofs
variable {h' h2 h1:Hp} {ws:List Nat}
theorem yv {h:Hp} {b b':Nat} {e e':TypeId} {p0 p1:Option Addr} {l0 c0 l1 c1:Nat} {ts:List ByteArray} (hlen:ts.length≤2^48) (s0:SL h b e 1 p0 l0 c0 (ts.map yM)) (s1:SL h b' e' 1 p1 l1 c1 (ts.map yM)) :
  uj Tryz.prog 15 [.slice p0 l0 c0,.slice p1 l1 c1] h (.bool true):=by
 refine dU mixed Tryz.func15 (by kernel_rfl) (dS p0 l0 c0 p1 l1 c1) ?_;have vl:l0=ts.length:=by rw [s0.1,List.length_map]
 have wl:l1=ts.length:=by rw [s1.1,List.length_map]
 refine bw (by rw [vl,wl]; simp) ?_;refine aY (cs:=[(false,[.bool]),(false,[.int .i64])]) (fun y m h'=>∃ i:Nat,y.2.1=(i:Int)∧m=ts.length-i∧i≤ts.length∧h'=h) (false,(0:Int),()) ts.length rfl ⟨0,rfl,rfl,by omega,rfl⟩ ?_;rintro ⟨b2,n3,⟨⟩⟩ m h1 ⟨i,hi,rfl,hile,rfl⟩;simp only at hi;subst hi;dsimp only [flat,aD,aj,nA,cA];refine ah (fun r=>?_) (fun r=>⟨rfl,rfl⟩);have r:=of_decide_eq_true r;have hil:i<ts.length:=by omega
 obtain ⟨a,ha,hc⟩:=Sx.SL.cells s0 (i:=i) (by rw [List.length_map]; exact hil);obtain ⟨b,hb,hd⟩:=Sx.SL.cells s1 (i:=i) (by rw [List.length_map]; exact hil);rw [List.getElem_map] at hc hd;refine aA ⟨by omega,by omega⟩ (ai ha ?_);refine aE (ts[i],()) hc ?_;dsimp only [flat,aD,aj,nA,cA];refine aA ⟨by omega,by omega⟩ (ai hb ?_);refine aE (ts[i],()) hd ?_;dsimp only [flat,aD,aj,nA,cA];refine bw (by simp) ?_;refine aK (cs:=[(false,[.bool]),(false,[.int .i64])]) (b2,((i+1:Nat):Int),()) (ts.length-(i+1)) rfl (by omega) (by rw [wrap_i64 (by omega) (by omega)]; rfl) ?_;exact ⟨i+1,rfl,rfl,by omega,rfl⟩
structure lC where
 p:Option Addr
 l:Nat
 c:Nat
 q:Option Addr
 d:Nat
 ts:List ByteArray
def lC.one (e:lC):List Value:=[.slice e.p e.l e.c]
def lC.two (e:lC):List Value:=[.slice e.q e.l e.d]
def lC.qT (e:lC):List Nat:=az e.p++az e.q
structure lF (h:Hp) (gb b:Nat) (pl:Option Addr) (cl:Nat) (pw:Option Addr) (cw:Nat) (es:List lC):Prop where
 box:∃ held:Int,aM h gb 55 [.slice pl es.length cl,.slice pw es.length cw,.int .i64 held,.bool false]
 ge:b≤gb
 one:SL h b 25 1 pl es.length cl (es.map lC.one)
 two:SL h b 25 1 pw es.length cw (es.map lC.two)
 Bh:∀ e,e∈es→SL h b 9 1 e.p e.l e.c (e.ts.map yM)∧SL h b 9 1 e.q e.l e.d (e.ts.map yM)∧e.ts.length≤2^40
 H0:gb∉az pl
 I3:gb∉az pw
 Lu:∀ i,i∈az pl→i∉az pw
 eg:∀ e,e∈es→∀ i,i∈e.qT→i≠gb∧i∉az pl∧i∉az pw
 pq:∀ e,e∈es→∀ i,i∈az e.p→i∉az e.q
 ee:es.Pairwise fun e f=>∀ i,i∈e.qT→i∉f.qT
theorem lF.lt {h:Hp} {gb b:Nat} {pl:Option Addr} {cl:Nat} {pw:Option Addr} {cw:Nat} {es:List lC} (B:lF h gb b pl cl pw cw es):gb<h.size∧(∀ i,i∈az pl→i<h.size)∧(∀ i,i∈az pw→i<h.size)∧∀ e,e∈es→∀ i,i∈e.qT→i<h.size:=by
 obtain ⟨held,hb⟩:=B.box;refine ⟨hb.lt,fun i hi=>(B.one.bR hi).2,fun i hi=>(B.two.bR hi).2,fun e he i hi=>?_⟩;rcases List.mem_append.1 hi with hi | hi
 ·exact ((B.Bh e he).1.bR hi).2
 ·exact ((B.Bh e he).2.1.bR hi).2
theorem lF.af {h:Hp} {gb b:Nat} {pl:Option Addr} {cl:Nat} {pw:Option Addr} {cw:Nat} {es:List lC} (B:lF h gb b pl cl pw cw es) (k:Ch ws h h')
  (h1:gb∉ws) (h2:∀ i,i∈az pl→i∉ws) (h3:∀ i,i∈az pw→i∉ws) (h4:∀ e,e∈es→∀ i,i∈e.qT→i∉ws):lF h' gb b pl cl pw cw es:=by
 obtain ⟨held,hb⟩:=B.box;exact ⟨⟨held,hb.af k h1⟩,B.ge,B.one.aO k h2,B.two.aO k h3,fun e he=>⟨(B.Bh e he).1.aO k fun i hi=>h4 e he i (List.mem_append_left _ hi),(B.Bh e he).2.1.aO k fun i hi=>h4 e he i (List.mem_append_right _ hi),(B.Bh e he).2.2⟩,
  B.H0,B.I3,B.Lu,B.eg,B.pq,B.ee⟩
theorem lF.Eb {h:Hp} {gb b : Nat} {pl : Option Addr} {cl : Nat} {pw : Option Addr} {cw : Nat} {es : List lC} (B : lF h gb b pl cl pw cw es) (k : Ch [gb] h h') {held : Int}
    (hb : aM h' gb 55 [.slice pl es.length cl, .slice pw es.length cw, .int .i64 held, .bool false]) : lF h' gb b pl cl pw cw es :=
  ⟨⟨held, hb⟩, B.ge, B.one.aO k fun i hi => by simp; exact fun e => B.H0 (e ▸ hi), B.two.aO k fun i hi => by simp; exact fun e => B.I3 (e ▸ hi),
    fun e he => ⟨(B.Bh e he).1.aO k fun i hi => by simp; exact (B.eg e he i (List.mem_append_left _ hi)).1, (B.Bh e he).2.1.aO k fun i hi => by simp; exact (B.eg e he i (List.mem_append_right _ hi)).1, (B.Bh e he).2.2⟩,
    B.H0, B.I3, B.Lu, B.eg, B.pq, B.ee⟩
theorem di (p:Option Addr) (k:Nat):az (p.map fun a=>a.add k)=az p:=by
 cases p with
 | none=>rfl
 | some a=>simp [az,ig]
theorem lF.tail {h:Hp} {gb b:Nat} {pl:Option Addr} {cl:Nat} {pw:Option Addr} {cw:Nat} {es:List lC} (B:lF h gb b pl cl pw cw es) (k:Ch [gb] h h') (h1:1≤es.length) {held:Int}
  (hb:aM h' gb 55 [.slice (pl.map fun a=>a.add 1) (es.length-1) (cl-1),.slice (pw.map fun a=>a.add 1) (es.length-1) (cw-1),.int .i64 held,.bool false]) :
  lF h' gb b (pl.map fun a=>a.add 1) (cl-1) (pw.map fun a=>a.add 1) (cw-1) (es.drop 1):=by
 have hl:(es.drop 1).length=es.length-1:=by rw [List.length_drop]
 have hm:∀ e,e∈es.drop 1→e∈es:=fun e he=>List.mem_of_mem_drop he
 have o1:=(B.one.drop (k:=1) h1).aO k (fun i hi=>by rw [di] at hi; simp; exact fun e=>B.H0 (e▸hi));have o2:=(B.two.drop (k:=1) h1).aO k (fun i hi=>by rw [di] at hi; simp; exact fun e=>B.I3 (e▸hi));rw [← List.map_drop] at o1 o2;refine ⟨⟨held,by rw [hl]; exact hb⟩,B.ge,by rw [hl]; exact o1,by rw [hl]; exact o2,
  fun e he=>⟨(B.Bh e (hm e he)).1.aO k fun i hi=>by simp; exact (B.eg e (hm e he) i (List.mem_append_left _ hi)).1,(B.Bh e (hm e he)).2.1.aO k fun i hi=>by simp; exact (B.eg e (hm e he) i (List.mem_append_right _ hi)).1,(B.Bh e (hm e he)).2.2⟩,
  by rw [di]; exact B.H0,by rw [di]; exact B.I3,by rw [di,di]; exact B.Lu,?_,fun e he=>B.pq e (hm e he),B.ee.sublist (List.drop_sublist 1 es)⟩
 intro e he i hi;rw [di,di];exact B.eg e (hm e he) i hi
def qJ (h:Hp) (gb b:Nat) (pl pw:Option Addr) (es:List lC) (p:Option Addr) (h':Hp) (es':List lC):Prop :=
 ∃ pl' cl' pw' cw',lF h' gb b pl' cl' pw' cw' es'∧Ch (gb::(az pl++az pw)) h h'∧(∀ i,i∈az pl'→i∈az pl∨h.size≤i)∧(∀ i,i∈az pw'→i∈az pw∨h.size≤i) ∧
  ∀ e,e∈es'→∀ i,i∈e.qT→i∈az p∨h.size≤i∨∃ f,f∈es∧i∈f.qT
theorem FP {h:Hp} {gb:Nat} {l:List Nat} (a:Ch (gb::l) h h1) (c:Ch [gb] h1 h2):Ch (gb::l) h h2:=a.trans c (fun i hi _=>by simp at hi; simp [hi])
theorem Ej {h:Hp} {gb b:Nat} {pl:Option Addr} {cl:Nat} {pw:Option Addr} {cw:Nat} {es:List lC} (B:lF h gb b pl cl pw cw es) (hlen:es.length≤4000) {p:Option Addr} {l c:Nat} {ts:List ByteArray}
  (s:SL h b 9 1 p l c (ts.map yM)) (hts:ts.length≤2^40) (hfresh:∀ i,i∈az p→i≠gb∧i∉az pl∧i∉az pw∧∀ e,e∈es→i∉e.qT) (hbs:b≤h.size) :
  HC Tryz.prog 27 #[.pointer (some ⟨gb,0,none⟩),.slice p l c] h fun v h'=>v=.tuple #[]∧∃ es',es'.length≤4000∧qJ h gb b pl pw es p h' es':=by
 refine aL (args:=[.pointer (some ⟨gb,0,none⟩),.slice p l c]) mixed Tryz.func27 (by kernel_rfl) (fb (some ⟨gb,0,none⟩) p l c) ?_;unfold dy;have hll:l=ts.length:=by rw [s.1,List.length_map]
 have hsz:=B.lt;obtain ⟨held0,hb⟩:=B.box;refine de (cs:=[]) (fun _ h2=>∃ p1 c1 h1,SL h1 b 25 1 p1 (es.length+1) c1 (es.map lC.one++[[.slice p l c]])∧Ch (az pl) h h1∧(p1=pl∨∃ a,p1=some a∧h.size≤a.block)∧Ch [gb] h1 h2 ∧
  aM h2 gb 55 [.slice p1 (es.length+1) c1,.slice pw es.length cw,.int .i64 held0,.bool false]) ?_ ?_
 ·refine ai rfl (ad hb ((pl,es.length,cl),()) rfl ?_);dsimp only [flat,aD,aj,nA,cA];refine pF (e:=25) (z:=.slice none 0 0) (sz:=1) (by':=24) (vs:=[.slice p l c]) (by kernel_rfl) (by kernel_rfl) rfl (by omega) (by omega) (by kernel_rfl) rfl rfl B.one hbs (by omega) (by omega) ?_;intro p1 c1 h1 o1 k1 hp1;have hb1:=hb.af k1 B.H0;refine ai rfl (an hb1 rfl (by simp) ?_);intro h2 hb2 k2 z2;exact bh (cs:=[]) () rfl rfl ⟨p1,c1,h1,o1,k1,hp1,k2,hb2⟩
 rintro ⟨⟩ h2 ⟨p1,c1,h1,o1,k1,hp1,k2,hb2⟩;refine de (cs:=[]) (fun _ h'=>∃ es',es'.length≤4001∧qJ h gb b pl pw es p h' es') ?_ ?_
 ·refine ai rfl ?_;rw [au];refine ad hb2 ((pw,es.length,cw),()) rfl ?_;dsimp only [flat,aD,aj,nA,cA];have s2:SL h2 b 9 1 p l c (ts.map yM):=(s.aO k1 fun i hi=>(hfresh i hi).2.1).aO k2 fun i hi=>by simp; exact (hfresh i hi).1
  have hpl:(ts.map yM).flatten.all dA=true:=by
   rw [List.all_eq_true];intro v hv;obtain ⟨x,hx,hv⟩:=List.mem_flatten.1 hv;obtain ⟨t,_,rfl⟩:=List.mem_map.1 hx;simp only [yM,List.mem_cons,List.not_mem_nil,or_false] at hv;subst hv; rfl
  have g1:=k1.size;have g2:=k2.size;refine JW (e:=9) (z:=.string ⟨#[]⟩) (sz:=1) (by':=16) (b':=b) (by kernel_rfl) (by kernel_rfl) rfl s2 hpl (by omega) (by omega) (by omega) ?_;intro q d h3 sq k3 hq;have hb3:=hb2.af k3 (by simp);refine ⟨⟨hb3.cells _ rfl,trivial⟩,?_⟩;have g3:=k3.size;have w3:SL h3 b 25 1 pw es.length cw (es.map lC.two):=((B.two.aO k1 fun i hi hh=>B.Lu i hh hi).aO k2 fun i hi=>by simp; exact fun e=>B.I3 (e▸hi)).aO k3 (by simp);refine sJ (e:=25) (z:=.slice none 0 0) (sz:=1) (by':=24) (vs:=[.slice q l d]) (by kernel_rfl) (by kernel_rfl) rfl (by omega) (by omega) (by kernel_rfl) rfl rfl w3 (by omega) (by omega) (by omega) (fun h' e=>⟨(hb3.af e (by simp)).cells _ rfl,trivial⟩) ?_;intro p2 c2 h4 o2 k4 hp2;have hb4:=hb3.af k4 B.I3;refine ai rfl ?_;rw [au];refine an hb4 rfl (by simp) ?_;intro h5 hb5 k5 z5;have hb5:aM h5 gb 55 [.slice p1 (es.length+1) c1,.slice p2 (es.length+1) c2,.int .i64 held0,.bool false]:=hb5;refine bh (cs:=[]) () rfl rfl ⟨es++[⟨p,l,c,q,d,ts⟩],by simp; omega,p1,c1,p2,c2,?_,?_,?_,?_,?_⟩
  ·
   have bp1:∀ i,i∈az p1→i∈az pl∨h.size≤i:=by
    intro i hi;rcases hp1 with rfl | ⟨a,rfl,ha⟩
    ·exact .inl hi
    ·simp [az] at hi; right; omega
   have bp2:∀ i,i∈az p2→i∈az pw∨h3.size≤i:=by
    intro i hi;rcases hp2 with rfl | ⟨a,rfl,ha⟩
    ·exact .inl hi
    ·simp [az] at hi; right; omega
   have bq:∀ i,i∈az q→h2.size≤i∧i<h3.size:=by
    intro i hi;refine ⟨?_,(sq.bR hi).2⟩;rcases hq with rfl | ⟨a,rfl,ha⟩
    ·simp [az] at hi
    ·simp [az] at hi; omega
   have lp1:∀ i,i∈az p1→i<h1.size:=fun i hi=>(o1.bR hi).2
   have lp:∀ i,i∈az p→i<h.size:=fun i hi=>(s.bR hi).2
   have o1':SL h5 b 25 1 p1 (es.length+1) c1 (es.map lC.one++[[.slice p l c]]):=by
    refine (((o1.aO k2 fun i hi=>?_).aO k3 (by simp)).aO k4 fun i hi hh=>?_).aO k5 fun i hi=>?_
    ·simp; intro e; subst e
     rcases bp1 i hi with hh | hh
     ·exact B.H0 hh
     ·have:=hsz.1; omega
    ·rcases bp1 i hi with h' | h'
     ·exact B.Lu i h' hh
     ·have:=hsz.2.2.1 i hh; omega
    ·simp; intro e; subst e
     rcases bp1 i hi with hh | hh
     ·exact B.H0 hh
     ·have:=hsz.1; omega
   have o2':SL h5 b 25 1 p2 (es.length+1) c2 (es.map lC.two++[[.slice q l d]]):=o2.aO k5 fun i hi=>by
    simp; intro e; subst e
    rcases bp2 i hi with hh | hh
    ·exact B.I3 hh
    ·have:=hsz.1; omega
   have kall:∀ {e':TypeId} {sz:Nat} {p':Option Addr} {l' c':Nat} {xs:List (List Value)},SL h b e' sz p' l' c' xs→(∀ i,i∈az p'→i≠gb∧i∉az pl∧i∉az pw)→SL h5 b e' sz p' l' c' xs:=by
    intro e' sz p' l' c' xs s' hd;exact ((((s'.aO k1 fun i hi=>(hd i hi).2.1).aO k2 fun i hi=>by simp; exact (hd i hi).1).aO k3 (by simp)).aO k4 fun i hi=>(hd i hi).2.2).aO k5 fun i hi=>by simp; exact (hd i hi).1
   have hsq:SL h5 b 9 1 q l d (ts.map yM):=(sq.aO k4 fun i hi hh=>by have:=(bq i hi).1; have:=hsz.2.2.1 i hh; omega).aO k5 fun i hi=>by
    simp; intro e; subst e; have:=(bq i hi).1; have:=hsz.1; omega
   have hlen1:(es++[(⟨p,l,c,q,d,ts⟩:lC)]).length=es.length+1:=by simp
   refine ⟨⟨held0,by rw [hlen1]; exact hb5⟩,B.ge,by rw [hlen1,List.map_append]; exact o1',by rw [hlen1,List.map_append]; exact o2',?_,?_,?_,?_,?_,?_,?_⟩
   ·intro e he;rcases List.mem_append.1 he with he | he
    ·have hd:=B.eg e he;exact ⟨kall (B.Bh e he).1 fun i hi=>hd i (List.mem_append_left _ hi),kall (B.Bh e he).2.1 fun i hi=>hd i (List.mem_append_right _ hi),(B.Bh e he).2.2⟩
    ·have he:e=⟨p,l,c,q,d,ts⟩:=by simpa using he
     subst he;exact ⟨kall s fun i hi=>⟨(hfresh i hi).1,(hfresh i hi).2.1,(hfresh i hi).2.2.1⟩,hsq,hts⟩
   ·intro hi;rcases bp1 gb hi with hh | hh
    ·exact B.H0 hh
    ·have:=hsz.1; omega
   ·intro hi;rcases bp2 gb hi with hh | hh
    ·exact B.I3 hh
    ·have:=hsz.1; omega
   ·intro i hi hi2;rcases bp1 i hi with hh | hh <;> rcases bp2 i hi2 with h' | h'
    ·exact B.Lu i hh h'
    ·have:=hsz.2.1 i hh; omega
    ·have:=hsz.2.2.1 i h'; omega
    ·have:=lp1 i hi; omega
   ·intro e he i hi;rcases List.mem_append.1 he with he | he
    ·have hd:=B.eg e he i hi;have hlt:=hsz.2.2.2 e he i hi;exact ⟨hd.1,fun hh=>(bp1 i hh).elim hd.2.1 (by omega),fun hh=>(bp2 i hh).elim hd.2.2 (by omega)⟩
    ·have he:e=⟨p,l,c,q,d,ts⟩:=by simpa using he
     subst he;rcases List.mem_append.1 hi with hi | hi
     ·have hd:=hfresh i hi;have hlt:=lp i hi;exact ⟨hd.1,fun hh=>(bp1 i hh).elim hd.2.1 (by omega),fun hh=>(bp2 i hh).elim hd.2.2.1 (by omega)⟩
     ·have:=bq i hi
      refine ⟨by have:=hsz.1; omega,fun hh=>?_,fun hh=>?_⟩
      ·have:=lp1 i hh; omega
      ·rcases bp2 i hh with hh | hh
       ·have:=hsz.2.2.1 i hh; omega
       ·omega
   ·intro e he i hi;rcases List.mem_append.1 he with he | he
    ·exact B.pq e he i hi
    ·have he:e=⟨p,l,c,q,d,ts⟩:=by simpa using he
     subst he;intro hh
     have:=(bq i hh).1
     have:=lp i hi
     omega
   ·refine List.pairwise_append.2 ⟨B.ee,by simp,?_⟩;intro e he f hf i hi hh;have hf:f=⟨p,l,c,q,d,ts⟩:=by simpa using hf
    subst hf;rcases List.mem_append.1 hh with hh | hh
    ·exact (hfresh i hh).2.2.2 e he hi
    ·have:=(bq i hh).1
     have:=hsz.2.2.2 e he i hi
     omega
  ·refine Ch.trans (Ch.trans (Ch.trans (Ch.trans (k1.mono fun i hi _=>by simp [hi]) k2 fun i hi _=>by simp at hi; simp [hi]) k3 (by simp)) k4 fun i hi _=>by simp [hi]) k5 fun i hi _=>by simp at hi; simp [hi]
  ·intro i hi;rcases hp1 with rfl | ⟨a,rfl,ha⟩
   ·exact .inl hi
   ·simp [az] at hi; right; omega
  ·intro i hi;rcases hp2 with rfl | ⟨a,rfl,ha⟩
   ·exact .inl hi
   ·simp [az] at hi; right; omega
  ·intro e he i hi;rcases List.mem_append.1 he with he | he
   ·exact .inr (.inr ⟨e,he,hi⟩)
   ·have he:e=⟨p,l,c,q,d,ts⟩:=by simpa using he
    subst he;rcases List.mem_append.1 hi with hi | hi
    ·exact .inl hi
    ·right; left
     rcases hq with rfl | ⟨a,rfl,ha⟩
     ·simp [az] at hi
     ·simp [az] at hi; omega
 ·rintro ⟨⟩ h1 ⟨es1,hl1,pl1,cl1,pw1,cw1,B1,k1,a1,a2,a3⟩;obtain ⟨held,hb⟩:=B1.box;refine ai rfl ?_;rw [au];refine ad hb (held,()) rfl ?_;dsimp only [flat,aD,aj,nA,cA];refine ai rfl ?_;rw [au];refine an hb rfl (by simp) ?_;intro h2 hb2 k2 z2;refine aY (cs:=[]) (fun _ n h'=>∃ es',es'.length≤4001∧n=es'.length∧qJ h gb b pl pw es p h' es') () es1.length rfl ⟨es1,hl1,rfl,pl1,cl1,pw1,cw1,B1.Eb k2 hb2,FP k1 k2,a1,a2,a3⟩ ?_;clear hb k2 hb2 z2 B1 k1 a1 a2 a3 hl1 es1;rintro ⟨⟩ m h3 ⟨es1,hl1,rfl,hB⟩;refine de (cs:=[]) (fun _ h'=>∃ es',es'.length=es1.length∧1<es'.length∧qJ h gb b pl pw es p h' es') ?_ ?_
  ·have hB0:=hB;obtain ⟨pl1,cl1,pw1,cw1,B1,k1,a1,a2,a3⟩:=hB;obtain ⟨held,hb⟩:=B1.box;refine ai rfl (ad hb ((pl1,es1.length,cl1),()) rfl ?_);dsimp only [flat,aD,aj,nA,cA];refine ah (fun g1=>?_) (fun g1=>?_)
   ·have g1:=of_decide_eq_true g1;refine ai rfl ?_;rw [au];refine ad hb (held,()) rfl ?_;dsimp only [flat,aD,aj,nA,cA];have mt:∀ L,(T.again 1 []) [L,fun vs h'=>∃ y:rB (flat []),vs=parts [] (fG _ y)∧∃ es',es'.length=es1.length∧1<es'.length∧qJ h gb b pl pw es p h' es'] (fun v h'=>v=.tuple #[]∧∃ es',es'.length≤4000∧qJ h gb b pl pw es p h' es') h3 :=
     fun L=>bh (cs:=[]) () rfl rfl ⟨es1,rfl,by omega,hB0⟩
    refine ah (fun g2=>mt _) (fun g2=>?_);refine ai rfl (ad hb ((pl1,es1.length,cl1),()) rfl ?_);dsimp only [flat,aD,aj,nA,cA];refine ah (fun g3=>mt _) (fun g3=>?_);have g3:=of_decide_eq_false g3;exact ⟨rfl,es1,by omega,hB0⟩
   ·have g1:=of_decide_eq_false g1;exact ⟨rfl,es1,by omega,hB0⟩
  ·rintro ⟨⟩ h4 ⟨es2,hl2,hg2,hB⟩;refine de (cs:=[]) (fun _ h'=>∃ es',es'.length=es1.length∧1<es'.length∧qJ h gb b pl pw es p h' es') ?_ ?_
   ·obtain ⟨pl1,cl1,pw1,cw1,B1,k1,a1,a2,a3⟩:=hB;obtain ⟨held,hb⟩:=B1.box;refine ai rfl ?_;rw [au];refine ad hb (false,()) rfl ?_;dsimp only [flat,aD,aj,nA,cA];refine bw rfl (ai rfl (ad hb ((pl1,es2.length,cl1),()) rfl ?_));dsimp only [flat,aD,aj,nA,cA];obtain ⟨q1,hq1,c1⟩:=B1.one.cells (i:=0) (by rw [List.length_map]; omega);obtain ⟨q2,hq2,c2⟩:=B1.two.cells (i:=0) (by rw [List.length_map]; omega);rw [List.getElem_map] at c1 c2;have hent:=B1.Bh es2[0] (List.getElem_mem (by omega));generalize es2[0]=e at c1 c2 hent;refine aA ⟨by omega,by omega⟩ (ai hq1 (aE ((e.p,e.l,e.c),()) c1 ?_));dsimp only [flat,aD,aj,nA,cA];refine ai rfl ?_;rw [au];refine ad hb ((pw1,es2.length,cw1),()) rfl ?_;dsimp only [flat,aD,aj,nA,cA];refine aA ⟨by omega,by omega⟩ (ai hq2 (aE ((e.q,e.l,e.d),()) c2 ?_));dsimp only [flat,aD,aj,nA,cA];refine aI (yv (by have:=hent.2.2; omega) hent.1 hent.2.1) ?_;refine ⟨⟨hb.cells _ rfl,hb.cells _ rfl,?_,trivial⟩,?_⟩
    ·exact hb.cells _ rfl
    refine ai rfl ?_;rw [au];refine an hb rfl (by simp) ?_;intro h5 hb5 k5 z5;exact bh (cs:=[]) () rfl rfl ⟨es2,hl2,hg2,pl1,cl1,pw1,cw1,B1.Eb k5 hb5,FP k1 k5,a1,a2,a3⟩
   ·clear hB hl2 hg2 es2;rintro ⟨⟩ h5 ⟨es2,hl2,hg2,pl1,cl1,pw1,cw1,B0,k0,a1,a2,a3⟩;obtain ⟨held5,hb5⟩:=B0.box;refine ai rfl ?_;rw [au];refine ad hb5 (held5,()) rfl ?_;dsimp only [flat,aD,aj,nA,cA];refine ai rfl (ad hb5 ((pl1,es2.length,cl1),()) rfl ?_);dsimp only [flat,aD,aj,nA,cA];obtain ⟨q1,hq1,c1⟩:=B0.one.cells (i:=0) (by rw [List.length_map]; omega);rw [List.getElem_map] at c1;generalize es2[0]=e at c1;refine aA ⟨by omega,by omega⟩ (ai hq1 (aE ((e.p,e.l,e.c),()) c1 ?_));dsimp only [flat,aD,aj,nA,cA];refine ai rfl ?_;rw [au];refine an hb5 rfl (by simp) ?_;intro h6 hb6 k6 z6;have B1:=B0.Eb k6 hb6;have k1:=FP k0 k6;obtain ⟨held,hb⟩:=B1.box;have hcap:∀ {p':Option Addr} {c':Nat} {xs:List (List Value)},SL h6 b 25 1 p' es2.length c' xs→es2.length≤c':=by
     intro p' c' xs s';cases p' with
     | none =>
      have h1:=s'.2.2.2;have h2:=s'.1;rw [h1,List.length_nil] at h2; omega
     | some a=>obtain ⟨_,_,_,_,_,hh,_⟩:=s'.2.2; exact hh.1
    have hc1:=hcap B1.one;have hc2:=hcap B1.two;refine ai rfl (ad hb ((pl1,es2.length,cl1),()) rfl ?_);dsimp only [flat,aD,aj,nA,cA];refine aA ⟨by omega,by omega,by omega⟩ (ai rfl ?_);rw [if_neg (by omega)];refine an hb rfl (by simp) ?_;intro h7 hb7 k7 z7;have hb7:aM h7 gb 55 [.slice (pl1.map fun a=>a.add 1) (es2.length-1) (cl1-1),.slice pw1 es2.length cw1,.int .i64 held,.bool false]:=hb7;refine ai rfl ?_;rw [au];refine ad hb7 ((pw1,es2.length,cw1),()) rfl ?_;dsimp only [flat,aD,aj,nA,cA];refine aA ⟨by omega,by omega,by omega⟩ (ai rfl ?_);rw [if_neg (by omega),au];refine an hb7 rfl (by simp) ?_;intro h8 hb8 k8 z8;have hb8:aM h8 gb 55 [.slice (pl1.map fun a=>a.add 1) (es2.length-1) (cl1-1),.slice (pw1.map fun a=>a.add 1) (es2.length-1) (cw1-1),.int .i64 held,.bool false]:=hb8;have k78:Ch [gb] h6 h8:=k7.trans k8 (fun i hi _=>hi);refine aK (cs:=[]) () (es2.length-1) rfl (by omega) rfl ⟨es2.drop 1,by simp; omega,by simp,_,_,_,_,B1.tail k78 (by omega) hb8,FP k1 k78,?_,?_,fun e he=>a3 e (List.mem_of_mem_drop he)⟩
    ·rw [di]; exact a1
    ·rw [di]; exact a2
def ct (b:Nat) (h h':Hp):Prop:=h.size≤h'.size∧∀ i,i<b→i<h.size→h'[i]?=h[i]?
theorem ct.of {b:Nat} {h:Hp} (k:Ch ws h h') (hw:∀ i,i∈ws→i<h.size→b≤i):ct b h h' :=
 ⟨k.size,fun i hi hl=>k.same i hl fun hm=>by have:=hw i hm hl; omega⟩
theorem ct.trans {b:Nat} {h:Hp} (a:ct b h h1) (c:ct b h1 h2):ct b h h2 :=
 ⟨Nat.le_trans a.1 c.1,fun i hi hl=>(c.2 i hi (Nat.lt_of_lt_of_le hl a.1)).trans (a.2 i hi hl)⟩
theorem ct.ext {h:Hp} (a:Ext h h1) (c:ct h.size h1 h2):Ext h h2 :=
 ⟨Nat.le_trans a.size c.1,fun i hi _=>(c.2 i hi (Nat.lt_of_lt_of_le hi a.size)).trans (a.same i hi (by simp))⟩
theorem H7 {h:Hp} {gb b:Nat} {pl:Option Addr} {cl:Nat} {pw:Option Addr} {cw:Nat} {es:List lC} (B:lF h gb b pl cl pw cw es) (hlen:es.length≤4000) :
  HC Tryz.prog 56 #[.pointer (some ⟨gb,0,none⟩)] h fun v h'=>v=.bool true∧lF h' gb b pl cl pw cw es∧Ch [gb] h h':=by
 refine aL (args:=[.pointer (some ⟨gb,0,none⟩)]) mixed Tryz.func56 (by kernel_rfl) (eX (some ⟨gb,0,none⟩)) ?_;unfold dr;refine aY (cs:=[(false,[.int .i64])]) (fun x n h'=>∃ i:Nat,x.1=(i:Int)∧i≤es.length∧n=es.length-i∧lF h' gb b pl cl pw cw es∧Ch [gb] h h') ((0:Int),()) es.length rfl ⟨0,rfl,by omega,by omega,B,Ch.refl _ _⟩ ?_;clear B;rintro ⟨n1,⟨⟩⟩ m h1 ⟨i,hi,hile,rfl,B,k1⟩;simp only at hi;subst hi;dsimp only [flat,aD,aj,nA,cA];obtain ⟨held,hb⟩:=B.box;refine ai rfl (ad hb ((pl,es.length,cl),()) rfl ?_);dsimp only [flat,aD,aj,nA,cA];refine ah (fun g1=>?_) (fun g1=>?_)
 ·have g1:=of_decide_eq_true g1;have hlt:i<es.length:=by omega
  refine ai rfl ?_;rw [au];refine ad hb (false,()) rfl ?_;dsimp only [flat,aD,aj,nA,cA];refine bw rfl (ai rfl (ad hb ((pl,es.length,cl),()) rfl ?_));dsimp only [flat,aD,aj,nA,cA];obtain ⟨q1,hq1,c1⟩:=B.one.cells (i:=i) (by rw [List.length_map]; omega);obtain ⟨q2,hq2,c2⟩:=B.two.cells (i:=i) (by rw [List.length_map]; omega);rw [List.getElem_map] at c1 c2;have hent:=B.Bh es[i] (List.getElem_mem hlt);generalize es[i]=e at c1 c2 hent;rw [show Int.toNat (i:Int)=i by omega];refine aA ⟨by omega,by omega⟩ (ai hq1 (aE ((e.p,e.l,e.c),()) c1 ?_));dsimp only [flat,aD,aj,nA,cA];refine ai rfl ?_;rw [au];refine ad hb ((pw,es.length,cw),()) rfl ?_;dsimp only [flat,aD,aj,nA,cA];refine aA ⟨by omega,by omega⟩ (ai hq2 (aE ((e.q,e.l,e.d),()) c2 ?_));refine aI (yv (by have:=hent.2.2; omega) hent.1 hent.2.1) ?_;refine ⟨⟨hb.cells _ rfl,hb.cells _ rfl,hb.cells _ rfl,trivial⟩,?_⟩;refine ai rfl ?_;rw [au];refine an hb rfl (by simp) ?_;intro h5 hb5 k5 z5;have hw:IntKind.wrap .i64 ((i:Int)+1)=((i+1:Nat):Int):=by rw [wrap_i64 (by omega) (by omega)]; omega
  exact aK (cs:=[(false,[.int .i64])]) (((i+1:Nat):Int),()) (es.length-(i+1)) rfl (by omega) (congrArg (fun z=>[Value.int .i64 z]) hw) ⟨i+1,rfl,by omega,rfl,B.Eb k5 hb5,k1.trans k5 (fun j hj _=>hj)⟩
 ·refine ai rfl ?_;rw [au];refine ad hb (false,()) rfl ?_;exact ⟨rfl,B,k1⟩
def b8 (x:Int):UInt8:=UInt8.ofNat (IntKind.wrap .u8 x).toNat
theorem Ma (x:Int):((b8 x).toNat:Int)=IntKind.wrap .u8 x:=by
 have h1:0≤IntKind.wrap .u8 x:=by simp only [IntKind.wrap,IntKind.bits,IntKind.signed]; exact Int.emod_nonneg _ (by decide)
 have h2:IntKind.wrap .u8 x<256:=by simp only [IntKind.wrap,IntKind.bits,IntKind.signed]; exact Int.emod_lt_of_pos _ (by decide)
 show ((UInt8.ofNat (IntKind.wrap .u8 x).toNat).toNat:Int)=_;rw [UInt8.toNat_ofNat',Nat.mod_eq_of_lt (by omega)];omega
def K2 (i:Int):ByteArray:=(⟨#[109,97,114,107,32]⟩:ByteArray)++(⟨[b8 i,b8 (Int.fdiv i 256),b8 (Int.fdiv i 65536)].toArray⟩:ByteArray)
theorem Le (x y z:Int):Instr.fill (fun j=>some (j*1,1)) ((Array.range (3*1)).map ((Value.int .u8 0).cells[· % (Value.int .u8 0).cells.size]!)) [(0,.int .u8 x),(1,.int .u8 y),(2,.int .u8 z)]=some ([.int .u8 x,.int .u8 y,.int .u8 z]:List Value).toArray:=by kernel_rfl
def K3 (k j:Nat):List Value:=[.string (K2 k)]
def Room (h:Hp) (b:Nat) (p:Option Addr) (c k m:Nat):Prop :=
 match p with
 | none=>c=0
 | some a=>∃ g o cells,a=⟨g,o,none⟩∧b≤g∧c<9223372036854775808∧aM h g 9 cells∧o+c*1≤cells.length∧∀ j,j<m→(cells.drop (o+j*1)).take 1=K3 k j
theorem Room.Gj {h:Hp} {b:Nat} {p:Option Addr} {l c:Nat} {xs:List (List Value)} (s:SL h b 9 1 p l c xs) (k:Nat):Room h b p c k 0:=by
 cases p with
 | none=>exact s.2.2.1
 | some a =>
  obtain ⟨g,pre,rest,rfl,hbg,hlc,hbox,hr⟩:=s.2.2;have hx:=bF xs s.2.1
  have:=s.1
  refine ⟨g,pre.length,_,rfl,hbg,hlc.2,hbox,?_,fun j hj=>by omega⟩;rw [List.length_append,List.length_append,hx,hr,← this];omega
theorem Room.af {h:Hp} {b:Nat} {p:Option Addr} {c k m:Nat} (r:Room h b p c k m) (kk:Ch ws h h') (hw:∀ i,i∈az p→i∉ws):Room h' b p c k m:=by
 cases p with
 | none=>exact r
 | some a =>
  obtain ⟨g,o,cells,rfl,hbg,hc,hbox,hr,hm⟩:=r;exact ⟨g,o,cells,rfl,hbg,hc,hbox.af kk (hw g (by simp [az])),hr,hm⟩
theorem tw {cells vs:List Value} {o n:Nat} (hv:vs.length=n) (h:o+n≤cells.length):((eI cells o vs).drop o).take n=vs:=by
 rw [fE _ _ _ (by omega),List.append_assoc];rw [List.drop_append_of_le_length (by rw [List.length_take]; omega),List.drop_of_length_le (by rw [List.length_take]; omega),List.nil_append,List.take_append_of_le_length (by omega),List.take_of_length_le (by omega)]
theorem oC {cells vs:List Value} {o o' n:Nat} (h:o+vs.length≤cells.length) (h':o'+n≤o):((eI cells o vs).drop o').take n=(cells.drop o').take n:=by
 rw [fE _ _ _ (by omega),List.append_assoc];rw [List.drop_append_of_le_length (by rw [List.length_take]; omega),List.take_append_of_le_length (by rw [List.length_drop,List.length_take]; omega)];rw [List.drop_take,List.take_take,Nat.min_eq_left (by omega)]
theorem Ef (i j:Int) (h:Hp):HC Tryz.prog 29 #[.int .i64 i,.int .i64 j] h fun v h'=>v=.string (K2 i)∧Ext h h':=by
 refine aL (args:=[.int .i64 i,.int .i64 j]) mixed Tryz.func29 (by kernel_rfl) (kj i j) ?_;unfold gu;refine aA (by decide) (aA (by decide) ?_);refine dY C8 Nl (by omega) (by omega) (Le _ _ _) ?_;intro h1 b1 e1 z1;refine F9 (bs:=[b8 i,b8 (Int.fdiv i 256),b8 (Int.fdiv i 65536)]) rfl ?_ ?_
 ·have h2:[b8 i,b8 (Int.fdiv i 256),b8 (Int.fdiv i 65536)].map (fun b=>Value.int .u8 (b.toNat:Int))=[.int .u8 (IntKind.wrap .u8 i),.int .u8 (IntKind.wrap .u8 (Int.fdiv i 256)),.int .u8 (IntKind.wrap .u8 (Int.fdiv i 65536))]:=by
   simp only [List.map_cons,List.map_nil,Ma]
  rw [h2];exact b1.cells _ rfl
 ·refine aA (by show ((5+3:Nat):Int)≤_; decide) ?_;exact ⟨rfl,e1⟩
structure kt (h:Hp) (gb b:Nat) (pl:Option Addr) (cl:Nat) (es:List lC) (i m:Nat):Prop where
 box:∃ (v w:Value),aM h gb 55 [.slice pl es.length cl,v,w,.bool false]
 one:SL h b 25 1 pl es.length cl (es.map lC.one)
 room:∀ k,(hk:k<es.length)→Room h b es[k].p es[k].c k (if k<i then es[k].c else if k=i then m else 0)
theorem kt.af {h:Hp} {gb b:Nat} {pl:Option Addr} {cl:Nat} {es:List lC} {i m:Nat} (M:kt h gb b pl cl es i m) (k:Ch ws h h') (h1:gb∉ws) (h2:∀ i,i∈az pl→i∉ws) (h3:∀ e,e∈es→∀ i,i∈e.qT→i∉ws) :
  kt h' gb b pl cl es i m:=by
 obtain ⟨v,w,hb⟩:=M.box;exact ⟨⟨v,w,hb.af k h1⟩,M.one.aO k h2,fun j hj=>(M.room j hj).af k fun x hx=>h3 es[j] (List.getElem_mem hj) x (List.mem_append_left _ hx)⟩
theorem FV {h:Hp} {gb b:Nat} {pl:Option Addr} {cl:Nat} {pw:Option Addr} {cw:Nat} {es:List lC} (B:lF h gb b pl cl pw cw es) (hlen:es.length≤4000) (hbs:b≤h.size) :
  HC Tryz.prog 28 #[.pointer (some ⟨gb,0,none⟩),.func (Fn.func 29) #[] #[]] h fun v h'=>v=.bool true∧ct b h h':=by
 refine aL (args:=[.pointer (some ⟨gb,0,none⟩),.func (Fn.func 29) #[] #[]]) mixed Tryz.func28 (by kernel_rfl) (ej (some ⟨gb,0,none⟩)) ?_;unfold cO;refine aF (H7 B hlen) ?_;rintro _ h0 ⟨rfl,B0,k0⟩;refine ⟨(true,()),rfl,?_⟩;dsimp only [flat,aD,aj,nA,cA];refine bw rfl ?_;have s0:ct b h h0:=ct.of k0 fun i hi _=>by simp at hi; subst hi; exact B.ge
 have M0:kt h0 gb b pl cl es 0 0:=by
  obtain ⟨held,hb⟩:=B0.box;refine ⟨⟨_,_,hb⟩,B0.one,fun k hk=>?_⟩
  have:=Room.Gj (B0.Bh es[k] (List.getElem_mem hk)).1 k
  rw [if_neg (by omega)]
  by_cases h:k=0
  ·rw [if_pos h]; exact this
  ·rw [if_neg h]; exact this
 have hsz:h.size≤h0.size:=k0.size;have H0:=B.H0;have eg:=B.eg;have hge:=B.ge;have hpw:∀ i j (hi:i<es.length) (hj:j<es.length),i≠j→∀ x,x∈es[i].qT→x∉es[j].qT:=by
  intro i j hi hj hij x hx;rcases Nat.lt_or_ge i j with h1 | h1
  ·exact (List.pairwise_iff_getElem.1 B.ee) i j hi hj h1 x hx
  ·intro hx2;exact (List.pairwise_iff_getElem.1 B.ee) j i hj hi (by omega) x hx2 hx
 have hlt:=B.lt;clear B B0;refine aY (cs:=[(false,[.int .i64])]) (fun x n h'=>∃ i:Nat,x.1=(i:Int)∧i≤es.length∧n=es.length-i∧kt h' gb b pl cl es i 0∧ct b h h'∧h.size≤h'.size) ((0:Int),()) es.length rfl ⟨0,rfl,by omega,by omega,M0,s0,hsz⟩ ?_;clear M0 s0 hsz k0 h0;rintro ⟨n1,⟨⟩⟩ m0 h1 ⟨i,hi,hile,rfl,M,s1,z1⟩;simp only at hi;subst hi;dsimp only [flat,aD,aj,nA,cA];obtain ⟨v,w,hb⟩:=M.box;refine ai rfl (ad hb ((pl,es.length,cl),()) rfl ?_);dsimp only [flat,aD,aj,nA,cA];refine ah (fun g1=>?_) (fun g1=>?_)
 ·have g1:=of_decide_eq_true g1;have hilt:i<es.length:=by omega
  obtain ⟨q1,hq1,c1⟩:=M.one.cells (i:=i) (by rw [List.length_map]; omega);rw [List.getElem_map] at c1;rw [show Int.toNat (i:Int)=i by omega];refine ai rfl (ad hb ((pl,es.length,cl),()) rfl ?_);dsimp only [flat,aD,aj,nA,cA];refine aA ⟨by omega,by omega⟩ (ai hq1 (aE ((es[i].p,es[i].l,es[i].c),()) c1 ?_));dsimp only [flat,aD,aj,nA,cA];refine ai rfl (ad hb ((pl,es.length,cl),()) rfl ?_);dsimp only [flat,aD,aj,nA,cA];refine aA ⟨by omega,by omega⟩ (ai hq1 (aE ((es[i].p,es[i].l,es[i].c),()) c1 ?_));dsimp only [flat,aD,aj,nA,cA];refine aA ⟨by omega,by omega,by omega⟩ ?_;clear hb c1 hq1 q1;refine aY (cs:=[(false,[.int .i64])]) (fun x n h'=>∃ j:Nat,x.1=(j:Int)∧j≤es[i].c∧n=es[i].c-j∧kt h' gb b pl cl es i j∧ct b h h'∧h.size≤h'.size) ((0:Int),()) es[i].c rfl ⟨0,rfl,by omega,by omega,M,s1,z1⟩ ?_;clear M s1 z1 v w;rintro ⟨n2,⟨⟩⟩ m1 h2 ⟨j,hj,hjle,rfl,M,s2,z2⟩;simp only at hj;subst hj;dsimp only [flat,aD,aj,nA,cA];refine ah (fun g2=>?_) (fun g2=>?_)
  ·have g2:=of_decide_eq_true g2;have hjlt:j<es[i].c:=by omega
   refine gC (cap:=[]) (by kernel_rfl) rfl (Ef i j h2) ?_;rintro _ h3 ⟨rfl,e3⟩;refine ⟨(K2 i,()),rfl,?_⟩;dsimp only [flat,aD,aj,nA,cA];have M3:=M.af e3 (by simp) (by simp) (by simp);refine aA ⟨by omega,by omega⟩ ?_;have hroom:=M3.room i hilt;rw [if_neg (by omega),if_pos rfl] at hroom;cases hp:es[i].p with
   | none =>
    rw [hp] at hroom
    have:es[i].c=0:=hroom
    omega
   | some a =>
    rw [hp] at hroom;obtain ⟨g,o,cells,rfl,hbg,hcm,hbox,hr,hm⟩:=hroom;have hgb:g∈es[i].qT:=by unfold lC.qT; rw [hp]; simp [az]
    rw [if_neg (by omega)];refine ai (a:=⟨g,o,none⟩) (by rw [Option.map_some,au,Nat.add_zero]) ?_;rw [au,show Int.toNat (j:Int)=j by omega];refine an hbox rfl (by simp; omega) ?_;intro h4 hb4 k4 z4;have hw:IntKind.wrap .i64 ((j:Int)+1)=((j+1:Nat):Int):=by rw [wrap_i64 (by omega) (by omega)]; omega
    have hcl:(eI cells (o+j*1) (K3 i j)).length=cells.length:=eK _ _ _;refine aK (cs:=[(false,[.int .i64])]) (((j+1:Nat):Int),()) (es[i].c-(j+1)) rfl (by omega) (congrArg (fun z=>[Value.int .i64 z]) hw) ⟨j+1,rfl,by omega,rfl,?_,?_,?_⟩
    ·obtain ⟨v,w,hb⟩:=M3.box;refine ⟨⟨v,w,hb.af k4 ?_⟩,M3.one.aO k4 fun x hx=>?_,fun k hk=>?_⟩
     ·simp; exact fun e=>(eg es[i] (List.getElem_mem hilt) g hgb).1 e.symm
     ·simp; intro e; subst e; exact (eg es[i] (List.getElem_mem hilt) x hgb).2.1 hx
     ·by_cases hki:k=i
      ·subst hki;rw [if_neg (by omega),if_pos rfl,hp];refine ⟨g,o,_,rfl,hbg,hcm,hb4,by rw [eK]; exact hr,fun j' hj'=>?_⟩
       by_cases hjj:j'=j
       ·subst hjj;exact tw rfl (by omega)
       ·rw [← hm j' (by omega)];exact oC (vs:=K3 k j) (by show _+1≤_; omega) (by omega)
      ·have:=M3.room k hk
       rw [if_neg hki] at this ⊢;refine this.af k4 fun x hx=>?_
       simp; intro e; subst e
       exact hpw k i hk hilt hki x (List.mem_append_left _ hx) hgb
    ·exact (s2.trans (ct.of e3 (by simp))).trans (ct.of k4 fun x hx _=>by simp at hx; subst hx; exact hbg)
    ·have:=e3.size; have:=k4.size; omega
  ·have g2:=of_decide_eq_false g2;have hj:j=es[i].c:=by omega
   subst hj;have hw:IntKind.wrap .i64 ((i:Int)+1)=((i+1:Nat):Int):=by rw [wrap_i64 (by omega) (by omega)]; omega
   refine aK (cs:=[(false,[.int .i64])]) (((i+1:Nat):Int),()) (es.length-(i+1)) rfl (by omega) (congrArg (fun z=>[Value.int .i64 z]) hw) ⟨i+1,rfl,by omega,rfl,⟨M.box,M.one,fun k hk=>?_⟩,s2,z2⟩
   have:=M.room k hk
   by_cases hki:k<i
   ·rw [if_pos hki] at this;rw [if_pos (by omega)]; exact this
   ·rw [if_neg hki] at this
    by_cases hke:k=i
    ·subst hke;rw [if_pos rfl] at this;rw [if_pos (by omega)]; exact this
    ·rw [if_neg hke] at this;rw [if_neg (by omega)]
     by_cases hk1:k=i+1
     ·rw [if_pos hk1]; exact this
     ·rw [if_neg hk1]; exact this
 ·have g1:=of_decide_eq_false g1;have hi:i=es.length:=by omega
  subst hi;clear hb;refine aY (cs:=[(false,[.bool]),(false,[.int .i64])]) (fun x n h'=>∃ i:Nat,x.2.1=(i:Int)∧i≤es.length∧n=es.length-i∧kt h' gb b pl cl es es.length 0∧ct b h h'∧h.size≤h'.size) (false,(0:Int),()) es.length rfl ⟨0,rfl,by omega,by omega,M,s1,z1⟩ ?_;clear M s1 z1 v w;rintro ⟨b7,n8,⟨⟩⟩ m0 h2 ⟨i,hi,hile',rfl,M,s1,z1⟩;simp only at hi;subst hi;dsimp only [flat,aD,aj,nA,cA];obtain ⟨v,w,hb⟩:=M.box;refine ai rfl (ad hb ((pl,es.length,cl),()) rfl ?_);dsimp only [flat,aD,aj,nA,cA];refine ah (fun g2=>?_) (fun g2=>?_)
  ·have g2:=of_decide_eq_true g2;have hilt:i<es.length:=by omega
   obtain ⟨q1,hq1,c1⟩:=M.one.cells (i:=i) (by rw [List.length_map]; omega);rw [List.getElem_map] at c1;rw [show Int.toNat (i:Int)=i by omega];refine ai rfl (ad hb ((pl,es.length,cl),()) rfl ?_);dsimp only [flat,aD,aj,nA,cA];refine aA ⟨by omega,by omega⟩ (ai hq1 (aE ((es[i].p,es[i].l,es[i].c),()) c1 ?_));dsimp only [flat,aD,aj,nA,cA];refine ai rfl (ad hb ((pl,es.length,cl),()) rfl ?_);dsimp only [flat,aD,aj,nA,cA];refine aA ⟨by omega,by omega⟩ (ai hq1 (aE ((es[i].p,es[i].l,es[i].c),()) c1 ?_));dsimp only [flat,aD,aj,nA,cA];refine aA ⟨by omega,by omega,by omega⟩ ?_;clear hb c1 hq1 q1;refine aY (cs:=[(false,[.bool]),(false,[.int .i64])]) (fun x n h'=>∃ j:Nat,x.2.1=(j:Int)∧j≤es[i].c∧n=es[i].c-j∧kt h' gb b pl cl es es.length 0∧ct b h h'∧h.size≤h'.size) (b7,(0:Int),()) es[i].c rfl ⟨0,rfl,by omega,by omega,M,s1,z1⟩ ?_;clear M s1 z1 v w;rintro ⟨b29,n30,⟨⟩⟩ m1 h3 ⟨j,hj,hjle,rfl,M,s2,z2⟩;simp only at hj;subst hj;dsimp only [flat,aD,aj,nA,cA];refine ah (fun g3=>?_) (fun g3=>?_)
   ·have g3:=of_decide_eq_true g3;have hjlt:j<es[i].c:=by omega
    refine aA ⟨by omega,by omega⟩ ?_;have hroom:=M.room i hilt;rw [if_pos hilt] at hroom;cases hp:es[i].p with
    | none =>
     rw [hp] at hroom
     have:es[i].c=0:=hroom
     omega
    | some a =>
     rw [hp] at hroom;obtain ⟨g,o,cells,rfl,hbg,hcm,hbox,hr,hm⟩:=hroom;rw [if_neg (by omega)];refine ai (a:=⟨g,o,none⟩) (by rw [Option.map_some,au,Nat.add_zero]) ?_;rw [au,show Int.toNat (j:Int)=j by omega];refine ad hbox (K2 i,()) (hm j hjlt) ?_;dsimp only [flat,aD,aj,nA,cA];refine gC (cap:=[]) (by kernel_rfl) rfl (Ef i j h3) ?_;rintro _ h4 ⟨rfl,e4⟩;refine ⟨(K2 i,()),rfl,?_⟩;dsimp only [flat,aD,aj,nA,cA];refine ⟨⟨(hbox.af e4 (by simp)).cells _ (hm j hjlt),trivial⟩,?_⟩;refine bw (by simp) ?_;have hw:IntKind.wrap .i64 ((j:Int)+1)=((j+1:Nat):Int):=by rw [wrap_i64 (by omega) (by omega)]; omega
     exact aK (cs:=[(false,[.bool]),(false,[.int .i64])]) (b29,((j+1:Nat):Int),()) (es[i].c-(j+1)) rfl (by omega) (congrArg (fun z=>[Value.bool b29,.int .i64 z]) hw)
      ⟨j+1,rfl,by omega,rfl,M.af e4 (by simp) (by simp) (by simp),s2.trans (ct.of e4 (by simp)),by have:=e4.size; omega⟩
   ·have hw:IntKind.wrap .i64 ((i:Int)+1)=((i+1:Nat):Int):=by rw [wrap_i64 (by omega) (by omega)]; omega
    exact aK (cs:=[(false,[.bool]),(false,[.int .i64])]) (b29,((i+1:Nat):Int),()) (es.length-(i+1)) rfl (by omega) (congrArg (fun z=>[Value.bool b29,.int .i64 z]) hw) ⟨i+1,rfl,by omega,rfl,M,s2,z2⟩
  ·refine ai rfl (an hb rfl (by simp) ?_);intro h3 hb3 k3 z3;refine ai rfl ?_;rw [au];refine an hb3 rfl (by simp [eI]) ?_;intro h4 hb4 k4 z4;refine ai rfl ?_;rw [au];refine an hb4 rfl (by simp [eI]) ?_;intro h5 hb5 k5 z5;have hs:∀ {a c:Hp},Ch [gb] a c→ct b a c:=fun k=>ct.of k fun x hx _=>by simp at hx; subst hx; exact hge
   exact ⟨rfl,((s1.trans (hs k3)).trans (hs k4)).trans (hs k5)⟩
end Go.Sx.BS
set_option linter.unusedVariables false
set_option linter.unusedSimpArgs false
set_option maxRecDepth 100000
namespace Go.Sx.Ob
open Go.Proofs Go.Sx.BB
variable {l0:Nat} {p0:Option Addr} {h':Hp}
theorem CF.at {h h0:Hp} {b:Nat} {p:Option Addr} {l c:Nat} {ws:List (bE × bD)} {us:List bD} (s:CF h b p l c ws) (hu:ws.map (·.2)=us) (v:AH h0 p0 l0 us):AH h p l us:=by
 subst hu;refine ⟨by rw [s.len,List.length_map],v.many,fun i hi=>?_⟩;obtain ⟨_,_,_,_,_,_,v0⟩:=v.cells i hi;rw [List.length_map] at hi;obtain ⟨a,ha,hc⟩:=SL.at_ s.sl (i:=i) (by rw [List.length_map]; exact hi);rw [List.getElem_map] at hc v0 ⊢;exact ⟨a,_,_,_,ha,hc,⟨⟨Sx.SL.G1 (s.own _ (List.getElem_mem hi)),v0.uU.many,v0.uU.names⟩,v0.name,v0.op⟩⟩
theorem Lq.at {h h0:Hp} {b:Nat} {p:Option Addr} {l c:Nat} {ws:List (bE × kl)} {us:List kl} (s:Lq h b p l c ws) (hu:ws.map (·.2)=us) (v:Iy h0 p0 l0 us):Iy h p l us:=by
 subst hu;refine ⟨by rw [s.len,List.length_map],v.many,fun i hi=>?_⟩;obtain ⟨_,_,_,_,_,_,v0,n0⟩:=v.cells i hi;rw [List.length_map] at hi;obtain ⟨a,ha,hc⟩:=SL.at_ s.sl (i:=i) (by rw [List.length_map]; exact hi);rw [List.getElem_map] at hc v0 n0 ⊢;exact ⟨a,_,_,_,ha,hc,⟨Sx.SL.G1 (s.own _ (List.getElem_mem hi)),v0.many,v0.names⟩,n0⟩
theorem SN.at {h h0:Hp} {b:Nat} {p:Option Addr} {l c:Nat} {us:List ByteArray} (s:SN h b p l c us) (v:FK h0 p0 l0 us):FK h p l us:=by
 refine ⟨SN.len s,v.many,fun i hi=>?_⟩;obtain ⟨_,_,_,n0⟩:=v.cells i hi;obtain ⟨a,ha,hc⟩:=SN.cell s hi;exact ⟨a,ha,hc,n0⟩
theorem ul.at {u:fU} {h:Hp} {w:Value} {a b c d:bE} (r:ul u h w h') (v:eZ h a b c d u):∃ a' b' c' d':bE,w=jM a' b' c' d'∧eZ h' a' b' c' d' u:=by
 obtain ⟨⟨a',b',c',d',wT,wD,wE,rfl,lT,lD,lE,lS,eT,eD,eE⟩,e⟩:=r;exact ⟨a',b',c',d',rfl,⟨CF.at lT eT v.text,CF.at lD eD v.data,Lq.at lE eE v.aQ,SN.at lS v.aG⟩⟩
theorem wk.ch {lo hi:Nat} {h:Hp} (b:wk lo hi h h'):Ch (List.range' lo (hi-lo)) h h' :=
 ⟨b.1,fun i hi hn=>b.2 i hi (by rw [List.mem_range'_1] at hn; omega)⟩
structure N7 (u:fU):Prop where
 text:∀ x,x∈u.text→x.e.aC.length≤2^40
 data:∀ x,x∈u.data→x.e.aC.length≤2^40
 aQ:∀ x,x∈u.aQ→x.2.aC.length≤2^40
 aG:u.aG.length≤2^40
 nT:u.text.length≤2^20
 nD:u.data.length≤2^20
 nE:u.aQ.length≤2^20
open Go.Proofs
set_option maxHeartbeats 1000000 in
theorem H5 (u:fU):(Bi u).length≤u.text.length+u.data.length+u.aQ.length:=by
 unfold Bi;have h1:=oQ u.text;have h2:=oQ u.data;rw [List.length_append,List.length_append,List.length_map];omega
open Go.Proofs Go.Sx.BS
theorem qn.sm {u:fU} (z:qn u):N7 u:=by
 have m1:=z.m1;have m2:=z.m2;have m3:=z.m3;exact ⟨fun x hx=>by have:=(z.text x hx).uU.many; omega,fun x hx=>by have:=(z.data x hx).uU.many; omega,fun x hx=>by have:=(z.aQ x hx).1.many; omega,by omega,by omega,by omega,by omega⟩
def NZ {α:Type} (e:Option α):Bool:=match e with | none=>true | some _=>false
theorem DU {L:Lp} {K:Value→Hp→Prop} {h h0:Hp} {ev:Value} {e:Option (Nat × Nat)} (E:oR h0 ev e) (o:Nat) {k:Bool→T} (hk:k (NZ e) L K h) :
  T.aS Tryz.prog (Sx.bU (BinOp.eql) 29 (Operand.tmp o) (Operand.const Value.nilIface) ev .nilIface) false [(false,[.bool])] k L K h:=by
 cases e with
 | none =>
  have E:ev=.nilIface:=E;subst E;refine bK (b:=true) (fun K' hk'=>?_) hk;rw [KI]; exact hk'
 | some q =>
  obtain ⟨a,rfl,_⟩:=E;refine bK (b:=false) (fun K' hk'=>?_) hk;rw [I7]; exact hk'
theorem Dr {L:Lp} {K:Value→Hp→Prop} {h:Hp} (f:Fx h) {s:ByteArray} (z:qn (xi (eA s)).1) {k:Option Addr→Nat→Nat→Option Addr→Nat→Nat→Option Addr→Nat→Nat→Option Addr→Nat→Nat→Value→Addr→T}
  (hk:∀ (a b c d:bE) (ev:Value) h' h'',Ext h h'→gY h' h.size a b c d (xi (eA s)).1→LG a b→eZ h' a b c d (xi (eA s)).1→oR h' ev (vh (eA s))→Ext h' h''→aM h'' h'.size 27 [a.v,b.v,c.v,d.v]→a.l≤a.c→b.l≤b.c →
   k a.p a.l a.c b.p b.l b.c c.p c.l c.c d.p d.l d.c ev ⟨h'.size,0,none⟩ L K h'') :
  T.call Tryz.prog 10 [.string s] true [(true, [.slice 96, .slice 96, .slice 99, .slice 9]), (false, [.interface #[("Error", 85)]])] (fun (p2 : Option Addr) (l3 : Nat) (l4 : Nat) (p5 : Option Addr) (l6 : Nat) (l7 : Nat) (p8 : Option Addr) (l9 : Nat) (l10 : Nat) (p11 : Option Addr) (l12 : Nat) (l13 : Nat) (v14 : Value) =>
   T.new [.slice none 0 0,.slice none 0 0,.slice none 0 0,.slice none 0 0] 27 <| fun (a15:Addr) =>
   T.ao a15 [.slice p2 l3 l4,.slice p5 l6 l7,.slice p8 l9 l10,.slice p11 l12 l13] (k p2 l3 l4 p5 l6 l7 p8 l9 l10 p11 l12 l13 v14 a15)) L K h:=by
 refine aF (f.Nq s) ?_;rintro _ h1 ⟨e1,a,b,c,d,ev,rfl,U,E⟩;refine ⟨((a.p,a.l,a.c),(b.p,b.l,b.c),(c.p,c.l,c.c),(d.p,d.l,d.c),ev,()),rfl,?_⟩;dsimp only [flat,aD,aj,nA,cA];refine aW ?_;intro h2 b2 e2 z2;refine an b2 rfl (by simp) ?_;intro h3 b3 k3 z3;have b3:aM h3 h1.size 27 [a.v,b.v,c.v,d.v]:=b3;have e13:Ext h1 h3:=Ch.trans e2 k3 (fun i hi hl=>by simp at hi; omega);refine hk a b c d ev h1 h3 e1 (U.own z).1 (U.own z).2 (U.at z) E e13 b3 ?_ ?_
 ·obtain ⟨ut,ud,ue,ow,C,S⟩:=U;exact SL.Mc C.t1
 ·obtain ⟨ut,ud,ue,ow,C,S⟩:=U;exact SL.Mc C.d1
theorem ul.N1 {u:fU} {h:Hp} {w:Value} {a b c d:bE} (r:ul u h w h') (v:eZ h a b c d u):∃ a' b' c' d':bE,w=jM a' b' c' d'∧∀ ws h'',Ch ws h' h''→(∀ i,i∈ws→i<h'.size→i<h.size)→eZ h'' a' b' c' d' u:=by
 obtain ⟨⟨a',b',c',d',wT,wD,wE,rfl,lT,lD,lE,lS,eT,eD,eE⟩,e⟩:=r;exact ⟨a',b',c',d',rfl,fun ws h'' k hw=>⟨CF.at (lT.af k hw) eT v.text,CF.at (lD.af k hw) eD v.data,Lq.at (lE.af k hw) eE v.aQ,SN.at (SL.lZ lS k hw) v.aG⟩⟩
theorem lF.empty {h:Hp} {gb:Nat} (b:aM h gb 55 [.slice none 0 0,.slice none 0 0,.int .i64 (0:Int),.bool false]):lF h gb gb none 0 none 0 [] :=
 ⟨⟨0,b⟩,Nat.le_refl _,SL.nil _ _ _ _,SL.nil _ _ _ _,by simp,by simp [az],by simp [az],by simp [az],by simp,by simp,List.Pairwise.nil⟩
theorem Du (u:fU):(zQ u).length≤2^20:=by
 unfold zQ;split
 ·rename_i h
  have:=xn h
  have h1:(qz (Bi u)).length=(Bi u).length:=by unfold qz; simp
  rw [h1]
  have:=H5 u
  omega
 ·simp
def Cf (a54 a105 a106:Addr):T :=
 T.ae a105 [.slice 96,.slice 96,.slice 99,.slice 9] <| fun (p139:Option Addr) (l140:Nat) (l141:Nat) (p142:Option Addr) (l143:Nat) (l144:Nat) (p145:Option Addr) (l146:Nat) (l147:Nat) (p148:Option Addr) (l149:Nat) (l150:Nat) =>
 T.ae a54 [.slice 96,.slice 96,.slice 99,.slice 9] <| fun (p151:Option Addr) (l152:Nat) (l153:Nat) (p154:Option Addr) (l155:Nat) (l156:Nat) (p157:Option Addr) (l158:Nat) (l159:Nat) (p160:Option Addr) (l161:Nat) (l162:Nat) =>
 T.call Tryz.prog 13 [.agg #[.slice p139 l140 l141,.slice p142 l143 l144,.slice p145 l146 l147,.slice p148 l149 l150],.agg #[.slice p151 l152 l153,.slice p154 l155 l156,.slice p157 l158 l159,.slice p160 l161 l162]] false [(false,[.bool])] <| fun (b163:Bool) =>
 cond b163
  (T.call Tryz.prog 28 [.pointer (some a106),.func (Fn.func 29) #[] #[]] false [(false,[.bool])] <| fun (b164:Bool) =>
  T.aB [(a54,[.slice p151 l152 l153,.slice p154 l155 l156,.slice p157 l158 l159,.slice p160 l161 l162]),(a105,[.slice p139 l140 l141,.slice p142 l143 l144,.slice p145 l146 l147,.slice p148 l149 l150])] <|
  cond b164
  (T.call Tryz.prog 14 [] false [(false,[.bool])] <| fun (b165:Bool) =>
  T.aB [(a54,[.slice p151 l152 l153,.slice p154 l155 l156,.slice p157 l158 l159,.slice p160 l161 l162]),(a105,[.slice p139 l140 l141,.slice p142 l143 l144,.slice p145 l146 l147,.slice p148 l149 l150])] <|
  T.ret (.bool b165))
  (T.ret (.bool false)))
  (T.ret (.bool false))
set_option maxHeartbeats 2000000 in
theorem IN (s0:ByteArray) (h:Hp) (f:Fx h):HC Tryz.prog 6 #[.string s0] h fun v h'=>v=.bool true∧Ext h h':=by
 refine aL (args:=[.string s0]) mixed Tryz.func6 (by kernel_rfl) (jY s0) ?_;unfold fN;refine aF (KE s0 1000 h) ?_;rintro _ h1 ⟨rfl,e1⟩;refine ⟨(Dl s0 1000,()),rfl,?_⟩;dsimp only [flat,aD,aj,nA,cA];have hs:=Fk s0 1000;generalize Dl s0 1000=s at hs;have hs:s.size≤60000:=by omega
 have f1:=f.af e1;have z:=Gc hs;refine Dr f1 z ?_;intro a b c d ev h2 h3 e2 _ _ xu Eu e3 bu hac _;have f3:=(f1.af e2).af e3;have xu:=xu.af e3;refine Dr f3 z ?_;intro av bv cv dv ev2 h4 h5 e4 ow ap _ _ e5 bv' _ _;have e35:=e4.trans e5;have q2:=bu.lt;have q4:=e4.size;have q5:=bv'.lt;have bu5:=bu.af e35 (by simp);have xu5:=xu.af e35;refine ad bu5 ((a.p,a.l,a.c),(b.p,b.l,b.c),(c.p,c.l,c.c),(d.p,d.l,d.c),()) rfl ?_;dsimp only [flat,aD,aj,nA,cA];have sm:=z.sm;refine aF (Cn xu5 sm.nT sm.nD sm.nE sm.aG sm.text sm.data sm.aQ) ?_;intro w h6 r6;have e6:=r6.2;obtain ⟨a',b',c',d',rfl,y6⟩:=ul.N1 r6 xu5;refine ⟨((a'.p,a'.l,a'.c),(b'.p,b'.l,b'.c),(c'.p,c'.l,c'.c),(d'.p,d'.l,d'.c),()),rfl,?_⟩;dsimp only [flat,aD,aj,nA,cA];refine aW ?_;intro h7 b7 e7 z7;refine an b7 rfl (by simp) ?_;intro h8 b8 k8 z8;have b8:aM h8 h6.size 27 [a'.v,b'.v,c'.v,d'.v]:=b8;have e68:Ext h6 h8:=Ch.trans e7 k8 (fun i hi hl=>by simp at hi; omega);have e58:=e6.trans e68;have q6:=e6.size;have q8:=b8.lt;have e48:=e5.trans e58;have e38:=e35.trans e58;refine ad (bv'.af e58 (by simp)) ((av.p,av.l,av.c),(bv.p,bv.l,bv.c),(cv.p,cv.l,cv.c),(dv.p,dv.l,dv.c),()) rfl ?_;dsimp only [flat,aD,aj,nA,cA];refine aF (Gk ow ap e48 q4) ?_;rintro _ h9 ⟨rfl,bt⟩;refine ⟨(),rfl,?_⟩;dsimp only [flat,aD,aj,nA,cA];have kb:=bt.ch;have hkb:∀ i,i∈List.range' h3.size (h4.size-h3.size)→h3.size≤i∧i<h4.size:=fun i hi=>by rw [List.mem_range'_1] at hi; omega
 have e39:Ext h3 h9:=Ch.trans e38 kb (fun i hi hl=>by have:=hkb i hi; omega);have q9:=kb.size;have bu9:=bu.af e39 (by simp);have b9:aM h9 h6.size 27 [a'.v,b'.v,c'.v,d'.v]:=b8.af kb (fun hm=>by have:=hkb _ hm; omega);have k69:Ch (List.range' h3.size (h4.size-h3.size)) h6 h9:=Ch.trans (e68.mono (by simp)) kb (fun i hi hl=>hi);have y9:=y6 _ _ k69 (fun i hi _=>by have:=hkb i hi; omega);refine ad bu9 ((a.p,a.l,a.c),(b.p,b.l,b.c),(c.p,c.l,c.c),(d.p,d.l,d.c),()) rfl ?_;dsimp only [flat,aD,aj,nA,cA];refine ad b9 ((a'.p,a'.l,a'.c),(b'.p,b'.l,b'.c),(c'.p,c'.l,c'.c),(d'.p,d'.l,d'.c),()) rfl ?_;dsimp only [flat,aD,aj,nA,cA];have xu9:=xu.af e39;refine aF (uu xu9 y9) ?_;rintro _ h10 ⟨bb,rfl,hb,e10⟩;have hb:=hb.2 rfl;subst hb;refine ⟨(true,()),rfl,?_⟩;dsimp only [flat,aD,aj,nA,cA];refine bw rfl ?_;have e310:=e39.trans e10;refine Dr (f3.af e310) z ?_;intro ax bx cx dx ev3 h11 h12 e11 _ _ xx Ex e12 bx' _ _;have e1012:=e11.trans e12;refine aW ?_;intro h13 b13 e13 z13;have e1013:=e1012.trans e13;have e313:=e310.trans e1013;have e913:=e10.trans e1013;have q10:=e10.size;have q11:=e11.size;have q12:=bx'.lt;have xu13:=xu.af e313;refine ad (bu.af e313 (by simp)) ((a.p,a.l,a.c),(b.p,b.l,b.c),(c.p,c.l,c.c),(d.p,d.l,d.c),()) rfl ?_;dsimp only [flat,aD,aj,nA,cA];have t13:=(f3.af e313).tb.MK;refine aF (Cu t13 xu13 hac) ?_;rintro _ h14 ⟨⟨p,l,cc,rfl,s14⟩,e14⟩;refine ⟨((p,l,cc),()),rfl,?_⟩;dsimp only [flat,aD,aj,nA,cA];have q14:=e14.size;have hnl:=Du (xi (eA s)).1;have bk:=lF.empty (b13.af e14 (by simp));have bl:=fun i hi=>Ob.SL.bR s14 i hi
 refine aF (Ej bk (by simp) (Sx.SL.mono s14 (by omega)) (by omega) (fun i hi=>⟨by have:=bl i hi; omega,by simp [az],by simp [az],by simp⟩) (by omega)) ?_;rintro _ h15 ⟨rfl,es,hes,pl,cl,pw,cw,B15,k15,f1',f2,f3'⟩;refine ⟨(),rfl,?_⟩;dsimp only [flat,aD,aj,nA,cA];have q15:=k15.size;have k15:Ch [h12.size] h14 h15:=k15.mono (by simp [az]);have e1215:Ext h12 h15:=Ch.trans (e13.trans e14) k15 (fun i hi hl=>by simp at hi; omega);have e315:=(e310.trans e1012).trans e1215;refine ad (bu.af e315 (by simp)) ((a.p,a.l,a.c),(b.p,b.l,b.c),(c.p,c.l,c.c),(d.p,d.l,d.c),()) rfl ?_;dsimp only [flat,aD,aj,nA,cA];refine aF (Cu (f3.af e315).tb.MK (xu.af e315) hac) ?_;rintro _ h16 ⟨⟨p',l',cc',rfl,Lx⟩,e16⟩;refine ⟨((p',l',cc'),()),rfl,?_⟩;dsimp only [flat,aD,aj,nA,cA];have q16:=e16.size;have B16:=B15.af e16 (by simp) (by simp) (by simp) (by simp);have bl':=fun i hi=>Ob.SL.bR Lx i hi
 have lt15:=B15.lt;refine aF (Ej B16 hes (Sx.SL.mono Lx (by omega)) (by omega) (fun i hi=>?_) (by omega)) ?_
 ·have h1:=bl' i hi;refine ⟨by omega,fun hm=>?_,fun hm=>?_,fun e he hm=>?_⟩
  ·have:=lt15.2.1 i hm; omega
  ·have:=lt15.2.2.1 i hm; omega
  ·have:=lt15.2.2.2 e he i hm; omega
 rintro _ h17 ⟨rfl,es',hes',pl',cl',pw',cw',B17,k17,g1,g2,g3⟩;refine ⟨(),rfl,?_⟩;dsimp only [flat,aD,aj,nA,cA];have q17:=k17.size;have e1217:Ext h12 h17:=by
  refine Ch.trans (e1215.trans e16) k17 (fun i hi hl=>?_);rcases List.mem_cons.1 hi with rfl | hi
  ·omega
  ·rcases List.mem_append.1 hi with hi | hi
   ·rcases f1' i hi with h | h
    ·simp [az] at h
    ·omega
   ·rcases f2 i hi with h | h
    ·simp [az] at h
    ·omega
 have e1017:=e1012.trans e1217;have e917:=e10.trans e1017;have e317:=e39.trans e917;have fin:Cf ⟨h6.size,0,none⟩ ⟨h11.size,0,none⟩ ⟨h12.size,0,none⟩ [] (fun v h'=>v=.bool true∧Ext h h') h17:=by
  unfold Cf;have bx17:=bx'.af e1217 (by simp);have b917:=b9.af e917 (by simp);refine ad bx17 ((ax.p,ax.l,ax.c),(bx.p,bx.l,bx.c),(cx.p,cx.l,cx.c),(dx.p,dx.l,dx.c),()) rfl ?_;dsimp only [flat,aD,aj,nA,cA];refine ad b917 ((a'.p,a'.l,a'.c),(b'.p,b'.l,b'.c),(c'.p,c'.l,c'.c),(d'.p,d'.l,d'.c),()) rfl ?_;dsimp only [flat,aD,aj,nA,cA];refine aF (uu ((xx.af e12).af e1217) (y9.af e917)) ?_;rintro _ h18 ⟨bb,rfl,hb,e18⟩;have hb:=hb.2 rfl;subst hb;refine ⟨(true,()),rfl,?_⟩;dsimp only [flat,aD,aj,nA,cA];refine bC rfl ?_;have B18:=B17.af e18 (by simp) (by simp) (by simp) (by simp);have q18:=e18.size;refine aF (FV B18 hes' (by omega)) ?_;rintro _ h19 ⟨rfl,s19⟩;refine ⟨(true,()),rfl,?_⟩;dsimp only [flat,aD,aj,nA,cA];have bx18:=bx17.af e18 (by simp);have b918:=b917.af e18 (by simp);have bx19:aM h19 h11.size 27 [ax.v,bx.v,cx.v,dx.v]:=(s19.2 _ (by omega) bx18.lt).trans bx18;have b919:aM h19 h6.size 27 [a'.v,b'.v,c'.v,d'.v]:=(s19.2 _ (by omega) b918.lt).trans b918;refine ⟨⟨b919.cells _ rfl,bx19.cells _ rfl,trivial⟩,?_⟩;refine bC rfl ?_;have e319:Ext h3 h19:=ct.ext (e317.trans e18) ⟨s19.1,fun i hi hl=>s19.2 i (by have:=e310.size; omega) hl⟩;refine aF (GQ h19 (f3.af e319)) ?_;rintro _ h20 ⟨rfl,e20⟩;refine ⟨(true,()),rfl,?_⟩;dsimp only [flat,aD,aj,nA,cA];refine ⟨⟨(b919.af e20 (by simp)).cells _ rfl,(bx19.af e20 (by simp)).cells _ rfl,trivial⟩,?_⟩;exact ⟨rfl,(((e1.trans e2).trans e3).trans e319).trans e20⟩
 refine ⟨?_,?_,trivial⟩
 ·refine DU Eu _ ?_;refine DU Ex _ ?_;refine bC (by simp) ?_;exact fin
 ·refine DU Ex _ ?_;refine DU Eu _ ?_;refine bC (by simp) ?_;exact fin
open Go.Proofs Go.Proofs.YtfkjiiapldkoeaaGreatDoor
open Go.ChangeShapes Go.WideShapes Go.ChangeAt Go.WideMaps Go.WideElems Go.RowKit
theorem M6:ownKnob Tryz.prog.godebug=none:=by kernel_rfl
theorem u9:Tryz.prog.underlying 9=some .string:=by kernel_rfl
theorem u4:Tryz.prog.underlying 4=some .bool:=by kernel_rfl
theorem u3:Tryz.prog.underlying 3=some (.int .i64):=by kernel_rfl
theorem u5:Tryz.prog.underlying 5=some (.int .u8):=by kernel_rfl
theorem Nh:Tryz.prog.underlying 215=some (.array 43 158):=by kernel_rfl
theorem Ms:Tryz.prog.cellsOf 158=3:=by kernel_rfl
theorem MW:Tryz.prog.cellsOf 215=129:=by kernel_rfl
theorem c9:Tryz.prog.cellsOf 9=1:=by kernel_rfl
theorem c5:Tryz.prog.cellsOf 5=1:=by kernel_rfl
theorem c3:Tryz.prog.cellsOf 3=1:=by kernel_rfl
theorem NA:Ct Tryz.prog 158=some [(9,0),(5,1),(3,2)]:=by kernel_rfl
def Aj:List (DataW Unit):=match (Rows.laid_spandrel_isa_table:DataW Unit) with | .agg l=>l | _=>[]
def HO:DataW Unit→Int
 | .agg [_,_,.lit (.int _ n)]=>n
 | _=>0
theorem J4:(Rows.laid_spandrel_isa_table:DataW Unit)=.agg Aj:=by kernel_rfl
theorem Hz:Aj.map HO=(List.range 43).map fun k=>((bX.getD k 0:Nat):Int):=by kernel_rfl
theorem Bu {α β:Type} (f:α→List β) (m:Nat) (hf:∀ x,(f x).length=m):∀ l:List α,(l.flatMap f).length=l.length*m
 | []=>by simp
 | x::l=>by rw [List.flatMap_cons,List.length_append,hf,Bu f m hf l,List.length_cons,Nat.succ_mul,Nat.add_comm]
theorem Aq (nm:Nat→ByteArray) (x9:Nat→Int):(mX nm x9).length=129:=by
 unfold mX;rw [Bu _ 3 (fun x=>rfl),List.length_range]
def KF:DataW Unit→List UInt8
 | .agg [.lit (.string s),_,_]=>s
 | _=>[]
def KV:DataW Unit→Int
 | .agg [_,.lit (.int _ n),_]=>n
 | _=>0
theorem JV:Aj.map KF=(List.range 43).map fun k=>FM k:=by kernel_rfl
theorem JU:Aj.map KV=(List.range 43).map fun k=>cF k:=by kernel_rfl
theorem ED {enc:TypeId × Value→Unit} {W:World} {base fuel:Nat} {sp:Nat→Bool} {held:Bool} {cs:List Value} {p:List MemPlace}
  (h:DataW.trod enc Tryz.prog W base sp held fuel 215 cs=some (Rows.laid_spandrel_isa_table,p)):cs=mX cC cF:=by
 obtain ⟨xs,m,_,hx,hl,hlen,hf⟩:=DataW.trod_array Nh h;rw [MW] at hl;have hxs:xs.map (·.1)=Aj:=by
  have:=congrArg Prod.fst hx
  rw [show (Rows.laid_spandrel_isa_table,p).1=DataW.agg Aj from J4] at this;simpa using this.symm
 have each:∀ i,i<43→(cs.drop (i*3)).take 3=[.string (cC i),.int .u8 (cF i),.int .i64 ((bX.getD i 0:Nat):Int)]:=by
  intro i hi;have h1:=hf i hi;rw [Ms] at h1;rw [List.getElem?_eq_getElem (by omega)] at h1;obtain ⟨ys,n,hy,hyl,hyn,hys⟩:=AR NA h1;obtain ⟨y0,g0,t0⟩:=hys 0 _ rfl;obtain ⟨y1,g1,t1⟩:=hys 1 _ rfl;obtain ⟨y2,g2,t2⟩:=hys 2 _ rfl;rw [Ms] at hyl;generalize hc:(cs.drop (i*3)).take 3=c at *
  match c,hyl with
  | [v0,v1,v2],_ =>
   rw [show Tryz.prog.cellsOf (9,0).1=1 from c9] at t0;rw [show Tryz.prog.cellsOf (5,1).1=1 from c5] at t1;rw [show Tryz.prog.cellsOf (3,2).1=1 from c3] at t2;obtain ⟨s,e0,r0,_⟩:=DataW.trod_string u9 t0;obtain ⟨b,e1,r1,_⟩:=DataW.trod_int u5 t1;obtain ⟨k,e2,r2,_⟩:=DataW.trod_int u3 t2;cases e0; cases e1; cases e2;have hys3:ys=[y0,y1,y2]:=by
    apply List.ext_getElem?;intro j
    match j with
    | 0=>exact g0
    | 1=>exact g1
    | 2=>exact g2
    | j+3=>rw [List.getElem?_eq_none (by rw [hyn]; simp),List.getElem?_eq_none (by simp)]
   have h2:(xs.map (·.1))[i]?=some (xs[i]'(by omega)).1:=by rw [List.getElem?_map,List.getElem?_eq_getElem (by omega)]; rfl
   rw [hxs] at h2;have hk:k=((bX.getD i 0:Nat):Int):=by
    have h3:(Aj.map HO)[i]?=some (HO (xs[i]'(by omega)).1):=by rw [List.getElem?_map,h2]; rfl
    rw [Hz,List.getElem?_map,List.getElem?_range hi] at h3;rw [hy,hys3,r0,r1,r2] at h3;exact (Option.some.inj h3).symm
   have hb:b=cF i:=by
    have h3:(Aj.map KV)[i]?=some (KV (xs[i]'(by omega)).1):=by rw [List.getElem?_map,h2]; rfl
    rw [JU,List.getElem?_map,List.getElem?_range hi] at h3;rw [hy,hys3,r0,r1,r2] at h3;exact (Option.some.inj h3).symm
   have hs:s=cC i:=by
    have h3:(Aj.map KF)[i]?=some (KF (xs[i]'(by omega)).1):=by rw [List.getElem?_map,h2]; rfl
    rw [JV,List.getElem?_map,List.getElem?_range hi] at h3;rw [hy,hys3,r0,r1,r2] at h3;exact mh (Option.some.inj h3).symm
   rw [hk,hb,hs]
 apply List.ext_getElem?;intro j
 by_cases hj:j<129
 ·obtain ⟨a,b,hab,hb⟩:∃ a b,j=a*3+b∧b<3:=⟨j / 3,j % 3,by omega,by omega⟩
  subst hab;unfold mX;rw [xL (fun k=>[Value.string (cC k),.int .u8 (cF k),.int .i64 (bX.getD k 0:Nat)]) 3 (fun x=>rfl) _ a b hb,List.getElem?_range (by omega)];show cs[a*3+b]?=[Value.string (cC a),.int .u8 (cF a),.int .i64 ((bX.getD a 0:Nat):Int)][b]?
  have:=each a (by omega)
  rw [← this,List.getElem?_take,if_pos hb,List.getElem?_drop]
 ·have hr:(mX cC cF).length=129:=Aq _ _;rw [List.getElem?_eq_none (by omega),List.getElem?_eq_none (by omega)]
theorem D4 {P:Program} {W:World} {name:String} {g:Nat} {cs:Array Value} (hg:P.globalNamed name=some g) (hv:W.var? P name=some cs):∃ e f,W.heap[g]?=some (.cells cs e f):=by
 unfold World.var? at hv;rw [hg] at hv;have hv:(match (W.heap[g]?:Option Obj) with | some (.cells cs _ _)=>some cs | _=>none)=some cs:=hv;split at hv
 ·rename_i cs' e f hh;cases hv;exact ⟨e,f,hh⟩
 ·cases hv
theorem Mh : Tryz.prog.underlying 29 = some (.interface #[("Error", 85)]) := by kernel_rfl
theorem Ji {W:World} (h:laidMetH Tryz.prog Rows.unitAssemblesRow.laid W):pO W.heap∧Laid W.heap∧qg W.heap:=by
 rw [MakeChecks.laidMetH_plain _ _ _ (by kernel_rfl)] at h;obtain ⟨ps,⟨g0,t0,cs0,f0,p0,q0,hg0,ht0,hv0,hd0,⟨g1,t1,cs1,f1,p1,q1,hg1,ht1,hv1,hd1,⟨g2,t2,cs2,f2,p2,q2,hg2,ht2,hv2,hd2,⟨g3,t3,cs3,f3,p3,q3,hg3,ht3,hv3,hd3,⟨g4,t4,cs4,f4,p4,q4,hg4,ht4,hv4,hd4,⟨g5,t5,cs5,f5,p5,q5,hg5,ht5,hv5,hd5,_,_⟩,_⟩,_⟩,_⟩,_⟩,_⟩,_,_⟩:=h;obtain rfl:=Option.some.inj ((show Tryz.prog.globalNamed _=some 3 by kernel_rfl).symm.trans hg2);obtain rfl:=Option.some.inj ((show Tryz.prog.globalNamed _=some 1 by kernel_rfl).symm.trans hg3);obtain rfl:=Option.some.inj ((show Tryz.prog.globalNamed _=some 5 by kernel_rfl).symm.trans hg4);obtain rfl:=Option.some.inj ((show Tryz.prog.globalNamed _=some 4 by kernel_rfl).symm.trans hg5);have h2:(Tryz.prog.globals[3]?).map (·.type)=some 295:=by kernel_rfl
 obtain rfl:=Option.some.inj (h2.symm.trans ht2);have h3:(Tryz.prog.globals[1]?).map (·.type)=some 215:=by kernel_rfl
 obtain rfl:=Option.some.inj (h3.symm.trans ht3);have h4:(Tryz.prog.globals[5]?).map (·.type)=some 29:=by kernel_rfl
 obtain rfl:=Option.some.inj (h4.symm.trans ht4);have h5:(Tryz.prog.globals[4]?).map (·.type)=some 29:=by kernel_rfl
 obtain rfl:=Option.some.inj (h5.symm.trans ht5);have hc:=Lib.cells_of_tab (n:=20) (e:=209) (k:=.u64) (zs:=Lib.pow10Tab) (by kernel_rfl) (by kernel_rfl) (by kernel_rfl) (by kernel_rfl) hd2;have hr:=ED hd3;obtain ⟨e2,ff2,ho2⟩:=D4 hg2 hv2;obtain ⟨e3,ff3,ho3⟩:=D4 hg3 hv3;obtain ⟨_,w4,v4,e4,_⟩:=iface_of_trod Mh hd4;obtain ⟨_,w5,v5,e5,_⟩:=iface_of_trod Mh hd5;have c4:=World.var?_cell hg4 hv4 0;have c5:=World.var?_cell hg5 hv5 0;rw [← Array.getElem?_toList,e4] at c4;rw [← Array.getElem?_toList,e5] at c5;refine ⟨⟨e3,ff3,?_⟩,⟨⟨_,c5,rfl⟩,⟨_,c4,rfl⟩⟩,⟨e2,ff2,?_⟩⟩
 ·rw [ho3,← hr]
 ·rw [ho2,← hc]
theorem HA (os:Os) (args:Array Value):laidMetH Tryz.prog Rows.unitAssemblesRow.laid ((World.doorLaid Tryz.prog 400 os).forCall (fun _ _=>0) ⟨#[],args,[]⟩).memory :=
 laidMetH_of_parts3 (fuel:=8) (laidMet_of_run' 8 (by kernel_rfl) (by kernel_rfl)) (by kernel_rfl) (by kernel_rfl)
theorem LX:Kids Tryz.prog (·<Tryz.prog.types.size):=kids_rows (by kernel_rfl) (by kernel_rfl)
theorem sliceB:((List.range Tryz.prog.types.size).all fun t=>match Tryz.prog.underlying t with | some (.slice e)=>decide (0<Tryz.prog.cellsOf e) | _=>true)=true:=by kernel_rfl
theorem KG {t e:TypeId} (ht:t<Tryz.prog.types.size) (hu:Tryz.prog.underlying t=some (.slice e)):0<Tryz.prog.cellsOf e:=by
 have:=List.all_eq_true.1 sliceB t (List.mem_range.2 ht)
 rw [hu] at this;exact of_decide_eq_true this
theorem qx {H:Type} {enc:TypeId × Value→H} {W W':World} {sp:Nat→Bool} (hB:Below W.heap.size W W'):∀ {ts:List TypeId} {vs:List Value} {ds:List (DataW H)} {ps:List MemPlace},(∀ t∈ts,t<Tryz.prog.types.size) →
  DataW.TrodAll enc Tryz.prog W 0 (fun _=>true) true ts vs ds ps→(∀ p∈ps,p.block<W.heap.size)→(∀ p∈ps,sp p.block=true)→DataW.TrodAll enc Tryz.prog W' 0 sp true ts vs ds ps
 | [],_,_,_,_,h,_,_=>by
  obtain ⟨rfl,rfl,rfl⟩:=trodAll_nil h;exact trodAll_mk0
 | t::ts,_,_,_,ht,h,hl,hs=>by
  obtain ⟨v,vs1,d,ds1,a,b,rfl,rfl,rfl,⟨n,h1⟩,h2⟩:=trodAll_cons h;exact ⟨a,b,⟨n,DataW.trod_stays LX (fun h hu=>KG h hu) (fun h=>by cases h) (ht t (List.mem_cons_self ..)) h1 (fun p hp=>Di hB (hl p (List.mem_append_left _ hp))) (fun p hp=>hs p (List.mem_append_left _ hp))⟩,
   qx hB (fun t h=>ht t (List.mem_cons_of_mem _ h)) h2 (fun p hp=>hl p (List.mem_append_right _ hp)) (fun p hp=>hs p (List.mem_append_right _ hp)),rfl⟩
theorem FZ {H:Type} {enc:TypeId × Value→H} {f:Func} {s:ChangeSpec} {apart fresh handsOn:Bool} {W W':World} {args:Array Value} {v:Value} {ds gs:List (DataW H)} {before:List MemPlace} (hv0:s.vars=[])
  (hW:DataW.Whole enc Tryz.prog f.params.toList s.vars apart W args.toList ds gs before)
  (hres:∀ (b:Nat) (sp:Nat→Bool) (hd:Bool),DataW.TrodAll enc Tryz.prog W' b sp hd f.resultTypes.toList (v.resultList f.resultTypes.size) (s.fn H (ds++gs)).results [])
  (hargs:(s.fn H (ds++gs)).args=ds) (fG:(s.fn H (ds++gs)).vars=[]) (hts:∀ t∈f.params.toList,t<Tryz.prog.types.size) (hB:Below W.heap.size W W') :
  s.post enc Tryz.prog f apart fresh handsOn false W args v W':=by
 have hlt:=hW.lt;have hW':=hW;obtain ⟨p,q,hA,hV,rfl,hz,hn⟩:=hW;rw [hv0] at hV;obtain ⟨rfl,rfl⟩:=trodVars_none hV;rw [List.append_nil] at hlt hW';refine ⟨ds,[],p,[],p,[],hW',hres _ _ _,?_,?_,hB.frame _,fun h=>by cases h⟩
 ·rw [hargs];exact qx hB hts hA hlt (fun p hp=>decide_eq_true (hlt p hp))
 ·rw [fG,hv0];rfl
theorem Oc:Ct Tryz.prog 94=some [(91,0),(92,1)]:=by kernel_rfl
theorem Oa:Ct Tryz.prog 96=some [(3,0),(9,1),(90,2),(94,7),(3,9)]:=by kernel_rfl
section
variable {H:Type} {enc:TypeId × Value→H} {W:World} {base n:Nat} {sp:Nat→Bool} {held:Bool} {cs:List Value} {y:DataW H × List MemPlace}
end
open Go.ChangeMaps
theorem AN {w:World} (h:w.ShapedOpen Tryz.prog):∃ m,w.cell? ⟨2,0,none⟩=some (.int .i64 m) :=
 cell_of_shapedOpen_int (g:=2) (t:=3) (zero:=#[.int .i64 0]) h (of_decide_eq_true (by kernel_rfl)) (by kernel_rfl) rfl (by kernel_rfl) (by kernel_rfl) (by kernel_rfl)
theorem Mf {W:World} (h:pO W.heap∧Laid W.heap∧qg W.heap) (hs:W.ShapedOpen Tryz.prog):Fx W.heap:=by
 obtain ⟨m,hm⟩:=AN hs;exact ⟨h.1,h.2.1,h.2.2,m,by rw [eU] at hm; exact hm,trivial⟩
theorem vV {H:Type} {enc:TypeId × Value→H} {a:Assume} {C:Checked} {os:Os} {f:FuncId} {fn:Func} {s:ChangeSpec} {conds:List PathCond} {apart fresh handsOn again:Bool} {X:World→Array Value→Prop}
  (hX:∀ (w w':World) (args:Array Value),w.heap=w'.heap→X w args→X w' args)
  (own:ownKnob C.prog.godebug=none) (started:os.Started) (noInit:C.prog.inits.idxOf? f=none) (hfn:C.prog.funcs[f]?=some fn)
  (witness:∃ (w:World) (tape:Tape) (i:Input),w.os=os∧(w.forCall tape i).Shaped C.prog∧i.vars=[]∧Input.okWide C.prog (w.forCall tape i) .any w.heap.size f i ∧
   ((s.pre enc C.prog fn conds apart (w.forCall tape i).memory i.args∧X (w.forCall tape i).memory i.args)∧sizedMet enc C.prog fn (OpenSpec.ofChange s) apart (w.forCall tape i).memory i.args)∧a.holds C.prog (lone (Frame.enter C.prog f i.args .normal) [] (w.forCall tape i)))
  (contract:∀ (W:World) (base:Nat) (args:Array Value) (ds gs:List (DataW H)) (before:List MemPlace),
   (∀ (j:Nat) t v,fn.params[j]?=some t→args[j]?=some v→Value.okWide C.prog W .any base t v) →
   DataW.Whole enc C.prog fn.params.toList s.vars apart W args.toList ds gs before→W.ShapedOpen C.prog→X W args →
   Calls C.prog f args W fun e W'=>∃ v,e=.returned v∧s.post enc C.prog fn apart fresh handsOn again W args v W') :
  ReturnsInHanded a C os f .any (fun w args=>(s.pre enc C.prog fn conds apart w args∧X w args)∧sizedMet enc C.prog fn (OpenSpec.ofChange s) apart w args) (s.post enc C.prog fn apart fresh handsOn again):=by
 refine returnsInHanded_of_calls own started noInit witness ?_;intro w tape i _ hsh _ hok hpre hholds;obtain ⟨_,_,_,fn',hfn',_,_,_,_,hval⟩:=hok;have e:fn'=fn:=Option.some.inj (hfn'.symm.trans hfn);subst e;obtain ⟨⟨⟨ds,gs,before,hw,hc⟩,hx⟩,hz⟩:=hpre;have hw':=DataW.Whole.of_heap (w':=w.forCall tape i) (by rfl) hw;refine (contract (w.forCall tape i) w.heap.size i.args ds gs before hval hw' hsh (hX _ _ _ (by rfl) hx)).mono fun e W' ⟨v,he,hp⟩=>?_
 subst he;exact ChangeSpec.post_blind hp
theorem xB:(Tryz.f6.params.toList.all fun t=>decide (t<Tryz.prog.types.size))=true:=by kernel_rfl
theorem wN:Tryz.prog.inPlace 6=Rows.unitKeptRow.inPlace:=by kernel_rfl
theorem x6:Tryz.prog.unfollowed 6=Rows.unitKeptRow.unfollowed:=by kernel_rfl
theorem wv:Tryz.prog.recurses 6=Rows.unitKeptRow.recurses:=by kernel_rfl
theorem vT:Tryz.prog.varsNamed 6=Rows.unitKeptRow.named:=by kernel_rfl
theorem wZ:joinedFacts Tryz.prog 6 Tryz.f6 Rows.unitKeptSpec Rows.unitKeptRow=true:=by
 unfold joinedFacts;rw [wN,x6,wv,vT]
 kernel_rfl
theorem uM (os:Os) (started:os.Started) (H:Type) (enc:TypeId × Value→H) :
  ReturnsInHanded {} Tryz.checked os 6 .any (fun w args=>(Rows.unitKeptSpec.pre enc Tryz.prog Tryz.f6 [] false w args∧laidMetH Tryz.prog Rows.unitKeptRow.laid w)∧sizedMet enc Tryz.prog Tryz.f6 (OpenSpec.ofChange Rows.unitKeptSpec) false w args)
   (Rows.unitKeptSpec.post enc Tryz.prog Tryz.f6 false true false false):=by
 refine vV (C:=Tryz.checked) (X:=fun w _=>laidMetH Tryz.prog Rows.unitKeptRow.laid w) (fun _ _ _ hh h=>h.of_heap hh) M6 started (by kernel_rfl) Tryz.func6
  (ChangeSpec.witness_shaped (enc:=enc) (C:=Tryz.checked) (os:=os) (X:=fun w _=>laidMetH Tryz.prog Rows.unitKeptRow.laid w) false (World.doorLaid Tryz.prog 400 os) #[.string ⟨#[]⟩] 8 rfl (World.shaped_of_RefB (by kernel_rfl) (by kernel_rfl)) (by kernel_rfl) (by kernel_rfl) (by kernel_rfl) (HA os _)) ?_
 intro W base args ds gs before hval0 hW hsh hL;have hval:∀ (j:Nat) t v,Tryz.f6.params[j]?=some t→args[j]?=some v→Value.okWide Tryz.prog W .any base t v:=hval0
 have hW':=hW;obtain ⟨p,q,hA0,hV,rfl,hfz,hnd⟩:=hW;have hA:DataW.TrodAll enc Tryz.prog W 0 (fun _=>true) true Tryz.f6.params.toList args.toList ds p:=hA0;have hpf:Tryz.f6.params=#[9]:=by kernel_rfl
 rw [hpf] at hA hval;clear hA0 hval0;obtain ⟨v0,vs0,d0,ds0,p0,q0,hv0,rfl,rfl,t0,hA1⟩:=trodAll_cons hA;obtain ⟨rfl,rfl,rfl⟩:=trodAll_nil hA1;obtain ⟨args⟩:=args;simp only at hv0;subst hv0;obtain ⟨rfl,rfl⟩:=trodVars_none hV;obtain ⟨x0,rfl,rfl,rfl,h0⟩:=open_string u9 (hval 0 9 v0 rfl rfl) t0;simp only [List.append_nil] at hW';refine (CC (IN x0 _ (Mf (Ji hL) hsh)) (fun _ _ h=>h.2)).mono fun e W' ⟨v,he,hB,hv,_⟩=>?_
 subst he hv;exact ⟨_,rfl,FZ rfl hW' (fun _ _ _=>trodAll_mk1 (shut_bool u4 _)) rfl rfl (fun t ht=>of_decide_eq_true (List.all_eq_true.1 xB t ht)) hB⟩
theorem wI:Rows.UnitKeptSaid :=
 OpenClaim.holds_of_wide 6 Tryz.f6 rfl rfl rfl rfl rfl rfl rfl ⟨rfl,rfl,rfl,rfl,rfl⟩ rfl rfl rfl rfl rfl (by kernel_rfl) Tryz.func6 wZ
  (of_decide_eq_true (by kernel_rfl)) (by unfold Func.isWrapper; first | (rw [if_pos (by decide +kernel)]; kernel_rfl) | (rw [if_neg (by decide +kernel)]; exact ⟨rfl,rfl⟩))
  (fun os started H enc _=>uM os started H enc)
end Go.Sx.Ob
