/- Contracts over heaps, part 6. Condition: as each statement says. -/
import Derived.Test.YtfkjiiapldkoeaaGreatDoorP5
set_option linter.all false
set_option maxRecDepth 100000
set_option maxHeartbeats 4000000
namespace Go.Sx.Ob
open Go.Proofs
structure oH (h:Hp) (b:Nat) (t:jM) (sl:cH) (us:List (cH × cd)) (se:cH) (ow:Nat->Nat):Prop where
 sf:SL h b 96 10 sl.p sl.l sl.c (us.map vi)
 own:∀ u,u∈us->SL h b 109 2 u.1.p u.1.l u.1.c (u.2.e.ay.map cB)
 eq:us.map (·.2)=t.items
 e:SL h b 109 2 se.p se.l se.c (t.e.ay.map cB)
 o9:∀ i,i∈aE sl.p->ow i=9
 ou:∀ u,u∈us->∀ i,i∈aE u.1.p->ow i=0
 oe:∀ i,i∈aE se.p->ow i=0
section
variable {h h':Hp} {b:Nat} {t:jM} {sl se:cH} {us:List (cH × cd)} {ow:Nat->Nat}
def oH.an {ws:List Nat} (o:oH h b t sl us se ow) (k:Ch ws h h') (hw:∀ i,i∈ws->i<h.size->b<=i->ow i≠0/\ow i≠9):oH h' b t sl us se ow :=
 ⟨SL.dp o.sf k o.o9 (fun i h1 h2 h3=>(hw i h1 h2 h3).2),fun u hu=>SL.dp (o.own u hu) k (o.ou u hu) (fun i h1 h2 h3=>(hw i h1 h2 h3).1),o.eq,SL.dp o.e k o.oe (fun i h1 h2 h3=>(hw i h1 h2 h3).1),o.o9,o.ou,o.oe⟩
def oH.relabel (o:oH h b t sl us se ow) {ow':Nat->Nat} (ho:∀ i,i<h.size->ow' i=ow i):oH h b t sl us se ow' :=
 ⟨o.sf,o.own,o.eq,o.e,fun i hi=>(ho i (Sx.SL.bH o.sf hi).2).trans (o.o9 i hi),fun u hu i hi=>(ho i (Sx.SL.bH (o.own u hu) hi).2).trans (o.ou u hu i hi),fun i hi=>(ho i (Sx.SL.bH o.e hi).2).trans (o.oe i hi)⟩
def oH.NA {ws:List Nat} (o:oH h b t sl us se ow) (k:Ch ws h h') (hw:∀ i,i∈ws->i<h.size->b<=i->ow i≠0/\ow i≠9) {ow':Nat->Nat} (ho:∀ i,i<h.size->ow' i=ow i):oH h' b t sl us se ow' :=
 (o.relabel ho).an k (fun i h1 h2 h3=>by rw [ho i h2]; exact hw i h1 h2 h3)
def SL.ty {e1 e2:TypeId} {s1 s2 b1 b2:Nat} {p q:Option XC} {l c m d:Nat} {xs ys:List (List XB)} (s:SL h b1 e1 s1 p l c xs) (r:SL h b2 e2 s2 q m d ys) (hne:e1≠e2):∀ i,i∈aE p->i∉aE q:=by
 intro i hi hj;cases p with
 | none=>simp [aE] at hi
 | some a =>
  cases q with
  | none=>simp [aE] at hj
  | some a' =>
   obtain ⟨g,pre,rest,rfl,hbg,hlc,hbox,hr⟩:=s.2.2;obtain ⟨g',pre',rest',rfl,hbg',hlc',hbox',hr'⟩:=r.2.2;simp [aE] at hi hj;subst hi;subst hj;unfold bf at hbox hbox';rw [hbox] at hbox';injection hbox' with hbox'
   injection hbox' with _ hbox' _
   exact hne hbox'
open Classical in
def oH.of {h0:Hp} {us:List (cH × cd)} (A:j5 h h0.size t sl us se) (hb:b<=h0.size) (ow:Nat->Nat):∃ ow',(∀ i,i<h0.size->ow' i=ow i)/\oH h b t sl us se ow':=by
 have ty:∀ {s:cH} {xs:List (List XB)},SL h h0.size 109 2 s.p s.l s.c xs->∀ i,i∈aE s.p->i∉aE sl.p:=fun r i hi hj=>SL.ty A.sf.out r bO i hj hi
 refine ⟨fun i=>if i<h0.size then ow i else if i∈aE sl.p then 9 else 0,fun i hi=>OH hi,Sx.SL.mono A.sf.out hb,fun u hu=>Sx.SL.mono (A.sf.own u hu) hb,A.eq,Sx.SL.mono A.e hb,?_,?_,?_⟩
 ·intro i hi
  have:=(Sx.SL.bH A.sf.out hi).1
  rw [OG ae,OH hi]
 ·intro u hu i hi
  have:=(Sx.SL.bH (A.sf.own u hu) hi).1
  rw [OG ae,OG (ty (A.sf.own u hu) i hi)]
 ·intro i hi
  have:=(Sx.SL.bH A.e hi).1
  rw [OG ae,OG (ty A.e i hi)]
end
def yG {s:XA} (h:bI s.data.toList=true):s≠ct:=by
 rintro rfl;revert h;decide
def u7 {s:XA} (h:bI s.data.toList=true):s.size<=32:=by
 unfold bI at h;simp only [Bool.and_eq_true,decide_eq_true_eq] at h
 have:=h.1.1.1.2
 simpa using this
def yq.Ow {w:eS} (W:yq w):fT w.names ct=false:=by
 cases h:fT w.names ct with
 | false=>rfl
 | true =>
  have h:=W.perm.mem_iff.1 (qR.1 h);exfalso;have key:∀ (l:List cd) (k:Nat),(∀ x,x∈l->dY x k=true/\Good x.e)->ct∉rm l:=by
   intro l k hl hm;unfold rm at hm;obtain ⟨x,hx,hn⟩:=Pa.1 hm;obtain ⟨hx,hk⟩:=List.mem_filter.1 hx
   have:=(hl x hx).1
   have hk:x.kind=1:=by simpa using hk
   unfold dY at this;rw [OH hk] at this;simp only [Bool.and_eq_true] at this
   have:bI x.name.data.toList=true:=by
    rcases this with ⟨⟨⟨h1,h2⟩,h3⟩,h4⟩
    first | exact h1 | exact h2 | exact h3 | exact h4
   exact yG this hn
  rcases OS.1 h with h | h
  ·rcases OS.1 h with h | h
   ·exact key _ 0 W.text h
   ·exact key _ 1 W.data h
  ·obtain ⟨x,hx,hn⟩:=Pa.1 h;exact yG (W.bU x hx).1 hn
def rG.congr {h:Hp} {g:Nat} {D D':List XA} (m:rG h g D) (e:∀ s,fT D s=fT D' s):rG h g D':=by
 obtain ⟨n,m⟩:=m;refine ⟨n,?_⟩
 have:(fun s=>if fT D' s then some true else none)=(fun s=>if fT D s then some true else none):=by funext s; rw [e]
 rw [this];exact m
def CO (D:List XA) (x s:XA):fT (x::D) s=fT (D++[x]) s:=by
 unfold fT;rw [List.any_cons,List.any_append,List.any_cons,List.any_nil,Bool.or_false,Bool.or_comm]
def Dj (p0 : Option XC) (n1 : Int) (a10 a30 : XC) (n29 : Int) : T :=
    cond (n29 != (0 : Int))
     (T.ret (.int .i64 n29))
     (T.join [(false, [.string])]
      (T.ah a30 [.int .i64] <| fun (n31 : Int) =>
      cond (n31 == (3 : Int))
       (T.ah (a30.add 2) [.string] <| fun (Bm : XA) =>
       T.again 0 [.string Bm])
       (T.again 0 [bh])) <| fun (s31 : XA) =>
     T.join [(false, [.bool])]
      (T.ah a10 [.string] <| fun (Bm : XA) =>
      cond (!((ByteArray.toList Bm) == []))
       (T.aA p0 <| fun (a33 : XC) =>
       T.ah (a33.add 6) [.map 9 4] <| fun (r34 : Option Nat) =>
       T.ah a10 [.string] <| fun (s35 : XA) =>
       dh (Instr.lookup 70 (.map r34) (.string s35) false) false [(false, [.bool])] <| fun (b36 : Bool) =>
       T.aT [(a10, [.string Bm])] <|
       cond b36
        (T.again 0 [.bool true])
        (T.ah a10 [.string] <| fun (s37 : XA) =>
        cond ((ByteArray.toList s37) == (ByteArray.toList s31))
         (T.again 0 [.bool true])
         (T.aA p0 <| fun (a38 : XC) =>
         T.ah (a38.add 6) [.map 9 4] <| fun (r39 : Option Nat) =>
         dh (Instr.lookup 70 (.map r39) (.string s31) false) false [(false, [.bool])] <| fun (b40 : Bool) =>
         T.aT [(a10, [.string s37]), (a10, [.string s35]), ((a33.add 6), [.map r34]), (a10, [.string Bm])] <|
         T.again 0 [.bool b40])))
       (T.aA p0 <| fun (a33 : XC) =>
       T.ah (a33.add 6) [.map 9 4] <| fun (r34 : Option Nat) =>
       dh (Instr.lookup 70 (.map r34) (.string s31) false) false [(false, [.bool])] <| fun (b35 : Bool) =>
       T.aT [(a10, [.string Bm])] <|
       T.again 0 [.bool b35])) <| fun (b32 : Bool) =>
     cond b32
      (T.ret (.int .i64 (22 : Int)))
      (T.ah (a30.add 1) [.slice 96] <| fun (p33 : Option XC) (l34 : Nat) (l35 : Nat) =>
      T.join [(false, [.int .i64])]
       (T.ah a10 [.string] <| fun (s36 : XA) =>
       cond (!((ByteArray.toList s36) == []))
        (T.again 0 [.int .i64 (aH ((l34 : Int) + (1 : Int)))])
        (T.again 0 [.int .i64 (l34 : Int)])) <| fun (n36 : Int) =>
      T.aA p0 <| fun (a37 : XC) =>
      T.ah (a37.add 5) [.int .i64] <| fun (n38 : Int) =>
      cond (decide ((aH (n38 + n36)) > (8192 : Int)))
       (T.ret (.int .i64 (4 : Int)))
       (T.join []
        (T.ah a10 [.string] <| fun (s39 : XA) =>
        cond (!((ByteArray.toList s39) == []))
         (T.aA p0 <| fun (a40 : XC) =>
         T.ah (a40.add 6) [.map 9 4] <| fun (r41 : Option Nat) =>
         T.ah a10 [.string] <| fun (s42 : XA) =>
         T.pB Tryz.prog (Instr.mapUpdate 70 (.map r41) (.string s42) (.bool true)) <|
         T.aA p0 <| fun (a43 : XC) =>
         T.ah (a43.add 4) [.int .i64] <| fun (n44 : Int) =>
         T.ah a10 [.string] <| fun (s45 : XA) =>
         dh (Instr.buildSlice 23 1 #[(0, .agg #[.int .i64 (1 : Int), .string s45, .int .i64 (0 : Int), .int .i64 (0 : Int), .int .i64 (0 : Int), .int .i32 (0 : Int), .int .i64 (0 : Int), aI, av (0 : Int), .int .i64 (0 : Int)])]) false [(false, [.slice 0])] <| fun (p46 : Option XC) (l47 : Nat) (l48 : Nat) =>
         T.aT [(a10, [.string s45]), ((a43.add 4), [.int .i64 n44])] <|
         aS 66 [.pointer p0, .int .i64 n44, .slice p46 l47 l48] true [] <| T.aT [(a10, [.string s45])] <|
         T.again 0 [])
         (T.again 0 [])) <| T.aA p0 <| fun (a39 : XC) =>
       T.ah (a39.add 4) [.int .i64] <| fun (n40 : Int) =>
       T.ah (a30.add 1) [.slice 96] <| fun (p41 : Option XC) (l42 : Nat) (l43 : Nat) =>
       aS 66 [.pointer p0, .int .i64 n40, .slice p41 l42 l43] true [] <| T.join []
        (T.ah a30 [.int .i64] <| fun (n44 : Int) =>
        cond (n44 == (3 : Int))
         (T.aA p0 <| fun (a45 : XC) =>
         T.ah (a45.add 6) [.map 9 4] <| fun (r46 : Option Nat) =>
         T.pB Tryz.prog (Instr.mapUpdate 70 (.map r46) (.string s31) (.bool true)) <|
         T.aA p0 <| fun (a47 : XC) =>
         T.ah (a47.add 2) [.slice 99] <| fun (p48 : Option XC) (l49 : Nat) (l50 : Nat) =>
         T.ah (a30.add 2) [.string] <| fun (s51 : XA) =>
         T.ah (a30.add 3) [.slice 109, .int .u32] <| fun (p52 : Option XC) (l53 : Nat) (l54 : Nat) (n55 : Int) =>
         dh (Instr.buildSlice 24 1 #[(0, .agg #[.string s51, .slice p52 l53 l54, av n55])]) false [(false, [.slice 0])] <| fun (p56 : Option XC) (l57 : Nat) (l58 : Nat) =>
         T.aT [((a30.add 3), [.slice p52 l53 l54, av n55]), ((a30.add 2), [.string s51]), ((a47.add 2), [.slice p48 l49 l50])] <|
         dh (Builtin.append_ #[24, 24] 24 #[.slice p48 l49 l50, .slice p56 l57 l58]) false [(false, [.slice 0])] <| fun (p59 : Option XC) (l60 : Nat) (l61 : Nat) =>
         T.aT [((a30.add 3), [.slice p52 l53 l54, av n55]), ((a30.add 2), [.string s51])] <|
         T.aA p0 <| fun (a62 : XC) =>
         T.ak (a62.add 2) [.slice p59 l60 l61] <|
         T.again 0 [])
         (cond (n44 == (4 : Int))
          (T.aA p0 <| fun (a45 : XC) =>
          T.ah (a45.add 7) [.slice 76] <| fun (p46 : Option XC) (l47 : Nat) (l48 : Nat) =>
          T.ah (a30.add 2) [.string] <| fun (s49 : XA) =>
          dh (Instr.buildSlice 71 1 #[(0, .agg #[.string s49, .int .i64 n1])]) false [(false, [.slice 0])] <| fun (p50 : Option XC) (l51 : Nat) (l52 : Nat) =>
          T.aT [((a30.add 2), [.string s49]), ((a45.add 7), [.slice p46 l47 l48])] <|
          dh (Builtin.append_ #[71, 71] 71 #[.slice p46 l47 l48, .slice p50 l51 l52]) false [(false, [.slice 0])] <| fun (p53 : Option XC) (l54 : Nat) (l55 : Nat) =>
          T.aT [((a30.add 2), [.string s49])] <|
          T.aA p0 <| fun (a56 : XC) =>
          T.ak (a56.add 7) [.slice p53 l54 l55] <|
          T.again 0 [])
          (cond (n44 == (5 : Int))
           (T.ah (a30.add 5) [.int .i64] <| fun (n45 : Int) =>
           T.aA p0 <| fun (a46 : XC) =>
           T.ak (a46.add 4) [.int .i64 n45] <|
           T.again 0 [])
           (T.again 0 [])))) <| T.ret (.int .i64 (0 : Int)))))
def KZ (b A g:Nat) (qq:Nat->Prop) (h:Hp) (r:Except Nat eS) (v:XB) (h':Hp):Prop :=
 match r with
 | .error e=>v=.int .i64 (e:Int)/\e≠0/\Ext h h'
 | .ok w'=>v=.int .i64 0/\∃ t d e q ut ud ue ow,ei h' b A g w' t d e q ut ud ue ow/\Ab b qq ow h h'
def jL (w:eS) (n:Nat) (cO:XA) (r:Except Nat jM):Except Nat eS :=
 match r with
 | .error e=>.error e
 | .ok t=>if zg w cO t then .error 22 else if 8192<w.text.length+w.data.length+(iz cO t).length then .error 4 else .ok (lE w n cO t)
def wJ (t:jM):XA:=if t.kind=3 then t.name else ct
def K2 {w:eS} {lb:XA} {t:jM} (h:lb≠ct) (hi:fT w.names lb=true):zg w lb t:=.inl ⟨h,hi⟩
def Ml {w:eS} {lb:XA} {t:jM} (h:lb≠ct) (hi:lb=wJ t):zg w lb t:=by
 unfold wJ at hi;split at hi
 ·rename_i k;exact .inr ⟨k,.inr hi.symm⟩
 ·exact absurd hi h
def K0 {w:eS} (W:yq w) {lb:XA} {t:jM} (ok:t.kind=3->bI t.name.data.toList=true) (h:¬ (lb≠ct/\(fT w.names lb=true\/lb=wJ t))):fT w.names (wJ t)=decide (zg w lb t):=by
 by_cases k:t.kind=3
 ·have he:wJ t=t.name:=OH k;rw [he] at h ⊢;cases hi:fT w.names t.name with
  | true=>exact (OK (.inr ⟨k,.inl hi⟩)).symm
  | false =>
   refine (OL ?_).symm;rintro (⟨h1,h2⟩ | ⟨_,h1 | h1⟩)
   ·exact h ⟨h1,.inl h2⟩
   ·rw [hi] at h1; cases h1
   ·exact h ⟨fun e=>yG (ok k) (h1.trans e),.inr h1.symm⟩
 ·have he:wJ t=ct:=OG k;rw [he] at h ⊢;rw [W.Ow];refine (OL ?_).symm;rintro (⟨h1,h2⟩ | ⟨h1,_⟩)
  ·exact h ⟨h1,.inl h2⟩
  ·exact k h1
def fS (w:eS) (lb:XA):eS:=if lb=ct then w else iY { w with names:=w.names++[lb] } [ul lb]
def HM (w:eS) (lb:XA):(fS w lb).sec=w.sec:=by unfold fS iY; split <;> rfl
def Fh (w:eS) (lb:XA):(fS w lb).bU=w.bU:=by unfold fS iY; split <;> rfl
def DG (w:eS) (lb:XA):(fS w lb).aP=w.aP:=by unfold fS iY; split <;> rfl
def H8 (w:eS) (lb:XA):(fS w lb).text.length+(fS w lb).data.length<=w.text.length+w.data.length+1:=by
 unfold fS;split
 ·omega
 ·rw [ye]; simp
def xa (w:eS) (n:Nat) (lb:XA) (t:jM):lE w n lb t={ text:=(iY (fS w lb) t.items).text,data:=(iY (fS w lb) t.items).data,bU:=if t.kind=3 then (fS w lb).bU++[(t.name,t.e)] else (fS w lb).bU,names:=if t.kind=3 then (fS w lb).names++[t.name] else (fS w lb).names,aP:=if t.kind=4 then (fS w lb).aP++[(t.name,n)] else (fS w lb).aP,sec:=if t.kind=5 then t.sec else (fS w lb).sec }:=by
 unfold lE fS iY iz
 by_cases h:lb=ct
 ·simp only [if_pos h,List.nil_append,List.append_nil]
 ·by_cases s:w.sec=0
  ·simp [if_neg h,s,List.append_assoc]
  ·simp [if_neg h,s,List.append_assoc]
def EH (lb:XA) (t:jM):(iz lb t).length=t.items.length+(if lb=ct then 0 else 1):=by
 unfold iz;rw [OX];split <;> simp <;> omega
structure Ns (qq:Nat->Prop) (h0 h:Hp) (b A gm x y:Nat) (w:eS) (lb opn:XA) (pA:Option XC) (lA cA:Nat) (tg:jM) (t d e q sl se:cH) (ut ud us:List (cH × cd)) (ue:List (cH × pP)) (ow:Nat->Nat):Prop where
 a:ei h b A gm w t d e q ut ud ue ow
 bx:bf h x 130 [.string lb,.string opn,.slice pA lA cA]
 by_:bf h y 134 (jm tg.kind sl.p sl.l sl.c tg.name se.p se.l se.c tg.e.num tg.sec)
 o:oH h b tg sl us se ow
 ox:ow x=9
 oy:ow y=9
 ab:Ab b qq ow h0 h
def Ns.size {qq:Nat->Prop} {h0 h:Hp} {b A gm x y:Nat} {w:eS} {lb opn:XA} {pA:Option XC} {lA cA:Nat} {tg:jM} {t d e q sl se:cH} {ut ud us:List (cH × cd)} {ue:List (cH × pP)} {ow:Nat->Nat} (s:Ns qq h0 h b A gm x y w lb opn pA lA cA tg t d e q sl se ut ud us ue ow) (hb:b<=h0.size):b<=h.size:=Pb hb s.ab.size
def fw {s:XA}:(!(ByteArray.toList s==[]))=true↔s≠ct:=by
 rw [ByteArray.toList_eq];constructor
 ·intro h e;subst e;simp [ct] at h
 ·intro h;simp only [Bool.not_eq_true',beq_eq_false_iff_ne,ne_eq];intro e;exact h (nL e)
def vg {s u:XA}:(ByteArray.toList s==ByteArray.toList u)=true↔s=u:=by
 rw [ByteArray.toList_eq,ByteArray.toList_eq,beq_iff_eq];exact ⟨fun h=>nL h,fun h=>by rw [h]⟩
def vW {qq:Nat->Prop} {h h1:Hp} {b A gm x y:Nat} {w:eS} {t d e q sl se:cH} {ut ud us:List (cH × cd)} {ue:List (cH × pP)} {ow:Nat->Nat} {n:Nat} {lb opn:XA} {pA:Option XC} {lA cA:Nat} {tg:jM}
  (hb:b<=h.size) (ext:Ext h h1) (W:yq w) (hE:w.bU.length<=2^20) (hG:w.aP.length<=2^20) (hn:n<=2^20)
  (s:Ns qq h h1 b A gm x y w lb opn pA lA cA tg t d e q sl se ut ud us ue ow) (hlab:lb≠ct->bI lb.data.toList=true) (ok:kt tg (decide (w.sec=1))) (sz:tg.items.length<=2^20) :
  Dj (some ⟨A,0,none⟩) n ⟨x,0,none⟩ ⟨y,0,none⟩ 0 [] (KZ b A gm qq h (jL w n lb (.ok tg))) h1:=by
 unfold Dj aS dh aH av aI bh;have hsec:=W.sec;have hmany:=W.many;have okn:tg.kind=3->bI tg.name.data.toList=true:=fun k=>ok.name (.inl k)
 have hul:us.length=tg.items.length:=lN s.o.eq;have hsl:sl.l=tg.items.length:=by rw [s.o.sf.1,OI,hul]
 refine aW rfl ?_;refine bG (cs:=[(false,[.string])]) (fun z h'=>h'=h1/\z.1=wJ tg) ?_ ?_
 ·refine af s.by_ ((tg.kind:Int),()) rfl (ao ?_);refine ai (fun r=>?_) (fun r=>?_)
  ·have r:tg.kind=3:=by have:=eq_of_beq r; omega
   rw [az];refine af s.by_ (tg.name,()) rfl (ao ?_);exact aO (cs:=[(false,[.string])]) (tg.name,()) rfl rfl ⟨rfl,(OH r).symm⟩
  ·have r:¬ tg.kind=3:=fun e=>by rw [e] at r; simp at r
   exact aO (cs:=[(false,[.string])]) (ct,()) rfl rfl ⟨rfl,(OG r).symm⟩
 rintro ⟨s31,⟨⟩⟩ h2 ⟨e2,hs31⟩;simp only at hs31;have e2:=e2.symm;subst e2;subst hs31;refine ao ?_;refine bG (cs:=[(false,[.bool])]) (fun z h'=>h'=h1/\z.1=decide (zg w lb tg)) ?_ ?_
 ·refine af s.bx (lb,()) rfl (ao ?_);refine ai (fun r=>?_) (fun r=>?_)
  ·have r:=fw.1 r;refine au rfl ?_;rw [az];refine af s.a.box (some gm,()) rfl (ao ?_);refine af s.bx (lb,()) rfl (ao ?_);refine yl s.a.names lb ?_;refine ⟨⟨s.bx.cells _ rfl,trivial⟩,?_⟩;refine ai (fun q1=>?_) (fun q1=>?_)
   ·exact aO (cs:=[(false,[.bool])]) (true,()) rfl rfl ⟨rfl,(OK (K2 r q1)).symm⟩
   refine af s.bx (lb,()) rfl (ao ?_);refine ai (fun q2=>?_) (fun q2=>?_)
   ·exact aO (cs:=[(false,[.bool])]) (true,()) rfl rfl ⟨rfl,(OK (Ml r (vg.1 q2))).symm⟩
   refine au rfl ?_;refine af s.a.box (some gm,()) rfl (ao ?_);refine yl s.a.names (wJ tg) ?_;refine ⟨⟨s.bx.cells _ rfl,s.bx.cells _ rfl,s.a.box.cells _ rfl,s.bx.cells _ rfl,trivial⟩,?_⟩;refine aO (cs:=[(false,[.bool])]) (fT w.names (wJ tg),()) rfl rfl ⟨rfl,K0 W okn ?_⟩;rintro ⟨_,k | k⟩
   ·rw [k] at q1; cases q1
   ·rw [vg.2 k] at q2; cases q2
  ·have r:lb=ct:=by
    by_cases e:lb=ct
    ·exact e
    ·rw [fw.2 e] at r; cases r
   refine au rfl ?_;rw [az];refine af s.a.box (some gm,()) rfl (ao ?_);refine yl s.a.names (wJ tg) ?_;refine ⟨⟨s.bx.cells _ rfl,trivial⟩,?_⟩;exact aO (cs:=[(false,[.bool])]) (fT w.names (wJ tg),()) rfl rfl ⟨rfl,K0 W okn fun k=>k.1 r⟩
 rintro ⟨b32,⟨⟩⟩ h2 ⟨e2,hb32⟩;simp only at hb32;have e2:=e2.symm;subst e2;subst hb32;refine ao ?_;refine ai (fun r=>?_) (fun r=>?_)
 ·have r:=OE r;unfold jL;simp only;rw [OH r];exact ⟨rfl,bO,ext⟩
 have nd:=OF r;rw [az];refine af s.by_ ((sl.p,sl.l,sl.c),()) rfl (ao ?_);have hil:=EH lb tg;refine bG (cs:=[(false,[.int .i64])]) (fun z h'=>h'=h1/\z.1=((iz lb tg).length:Int)) ?_ ?_
 ·refine af s.bx (lb,()) rfl (ao ?_);refine ai (fun r=>?_) (fun r=>?_)
  ·have r:=fw.1 r;rw [OG r] at hil;exact aO (cs:=[(false,[.int .i64])]) (((iz lb tg).length:Int),()) rfl (by rw [wrap_i64 ae ae,show ((sl.l:Int)+1)=((iz lb tg).length:Int) from ae]; rfl) ⟨rfl,rfl⟩
  ·have r:lb=ct:=by
    by_cases e:lb=ct
    ·exact e
    ·rw [fw.2 e] at r; cases r
   rw [OH r] at hil;exact aO (cs:=[(false,[.int .i64])]) (((iz lb tg).length:Int),()) rfl (by rw [show (sl.l:Int)=((iz lb tg).length:Int) from ae]; rfl) ⟨rfl,rfl⟩
 rintro ⟨n36,⟨⟩⟩ h2 ⟨e2,hn36⟩;simp only at hn36;have e2:=e2.symm;subst e2;subst hn36;refine ao ?_;refine au rfl ?_;rw [az];refine af s.a.box (((w.text.length+w.data.length:Nat):Int),()) rfl (ao ?_);have hi1:(iz lb tg).length<=2^20+1:=by rw [hil]; split <;> omega
 rw [wrap_i64 ae ae];refine ai (fun r=>?_) (fun r=>?_)
 ·have r:=OE r;unfold jL;simp only;rw [OG nd,OH ae];exact ⟨rfl,bO,ext⟩
 have nm:=OF r;have hres:jL w n lb (.ok tg)=.ok (lE w n lb tg):=by
  unfold jL;simp only;rw [OG nd,OG ae]
 rw [hres];refine bG (cs:=[]) (fun _ h'=>∃ t d ut ud ow,Ns qq h h' b A gm x y (fS w lb) lb opn pA lA cA tg t d e q sl se ut ud us ue ow) ?_ ?_
 ·refine af s.bx (lb,()) rfl (ao ?_);refine ai (fun r=>?_) (fun r=>?_)
  ·have r:=fw.1 r;have hlw:fS w lb=iY { w with names:=w.names++[lb] } [ul lb]:=OG r;refine au rfl ?_;rw [az];refine af s.a.box (some gm,()) rfl (ao ?_);refine af s.bx (lb,()) rfl (ao ?_);refine G1 s.a.names (by have:=u7 (hlab r); unfold maxLen; omega) ?_;intro h3 m3 k3 z3;have og:=s.a.og;have w3:∀ i,i∈[gm]->i<h1.size->b<=i->ow i=7:=fun i hi _ _=>by have hi:=OJ.1 hi; subst hi; exact og
   have nA:A∉[gm]:=fun hm=>by have hm:=OJ.1 hm; have:=s.a.oA; rw [hm] at this; omega
   have nx:x∉[gm]:=fun hm=>by have hm:=OJ.1 hm; have:=s.ox; rw [hm] at this; omega
   have ny:y∉[gm]:=fun hm=>by have hm:=OJ.1 hm; have:=s.oy; rw [hm] at this; omega
   have a3:ei h3 b A gm { w with names:=w.names++[lb] } t d e q ut ud ue ow :=
    ⟨s.a.core.an k3 (fun i h1 h2 h3=>by have:=w3 i h1 h2 h3; omega),s.a.box.an k3 nA,m3.congr (CO w.names lb),SL.dp s.a.aP k3 s.a.oq (fun i h1 h2 h3=>by have:=w3 i h1 h2 h3; omega),s.a.oA,s.a.og,s.a.oq,s.a.bA,s.a.bg⟩
   have bx3:=s.bx.an k3 nx;have by3:=s.by_.an k3 ny;have o3:=s.o.an k3 (fun i h1 h2 h3=>by have:=w3 i h1 h2 h3; omega);have ab3:Ab b qq ow h h3:=s.ab.step k3 (fun i hi _=>by have hi:=OJ.1 hi; subst hi; exact ⟨s.a.bg,ae⟩) (fun _ _=>rfl);refine au rfl ?_;rw [az];refine af a3.box ((w.sec:Int),()) rfl (ao ?_);refine af bx3 (lb,()) rfl (ao ?_);refine fW (p:=none) (l:=0) (c:=0) (x:=ul lb) ?_;intro h4 s4 e4 z4;have rl:∀ i,i<h3.size->cO h3.size 9 ow i=ow i:=fun i hi=>bT hi
   have a4:=(a3.relabel rl).an e4 aj;have bx4:=bx3.an e4 aj;have by4:=by3.an e4 aj;have o4:=(o3.relabel rl).an e4 aj;have ab4:=ab3.CY e4 rl;have ox4:=(rl x bx3.lt).trans s.ox;have oy4:=(rl y by3.lt).trans s.oy;have sz4:=e4.size;have zb3:=ab3.size;refine ⟨⟨bx4.cells _ rfl,a4.box.cells _ rfl,trivial⟩,?_⟩;refine aK (Hu a4 ae hsec (s:=⟨some ⟨h3.size,0,none⟩,1,1⟩) (us:=[(⟨none,0,0⟩,ul lb)]) s4 (fun u hu=>by have hu:=OJ.1 hu; subst hu; exact SL.nil _ _ _ _) (fun u hu i hi=>by have hu:=OJ.1 hu; subst hu; simp [aE] at hi) (by show w.text.length+w.data.length+1<=_; omega)) ?_;rintro _ h5 ⟨rfl,t',d',ut',ud',ow',a5,ho5,ws,k5,hw5⟩;refine ⟨(),rfl,ao ?_⟩;have nx5:x∉ws:=fun hm=>by have:=(hw5 x hm bx4.lt).2; omega
   have ny5:y∉ws:=fun hm=>by have:=(hw5 y hm by4.lt).2; omega
   have bx5:=bx4.an k5 nx5;refine ⟨⟨bx5.cells _ rfl,trivial⟩,?_⟩;refine aO (cs:=[]) () rfl rfl ⟨t',d',ut',ud',ow',?_,bx5,by4.an k5 ny5,o4.NA k5 (fun i h1 h2 _=>by have:=(hw5 i h1 h2).2; omega) ho5,(ho5 x bx4.lt).trans ox4,(ho5 y by4.lt).trans oy4,ab4.step k5 (fun i h1 h2=>⟨(hw5 i h1 h2).1,by have:=(hw5 i h1 h2).2; omega⟩) ho5⟩;rw [hlw];exact a5
  ·have r:lb=ct:=by
    by_cases e:lb=ct
    ·exact e
    ·rw [fw.2 e] at r; cases r
   have hlw:fS w lb=w:=OH r;exact aO (cs:=[]) () rfl rfl ⟨t,d,ut,ud,ow,by rw [hlw]; exact s⟩
 rintro ⟨⟩ h3 ⟨t,d,ut,ud,ow,s3⟩;refine ao ?_;have hb3:=s3.size hb;have hs3:=HM w lb;have hl3:=H8 w lb;have he3:=Fh w lb;have hg3:=DG w lb;refine au rfl ?_;rw [az];refine af s3.a.box (((fS w lb).sec:Int),()) rfl (ao ?_);refine af s3.by_ ((sl.p,sl.l,sl.c),()) rfl (ao ?_);refine aK (Hu s3.a hb3 ae s3.o.sf s3.o.own s3.o.ou ae) ?_;rintro _ h4 ⟨rfl,t',d',ut',ud',ow',a4,ho4,ws,k4,hw4⟩;refine ⟨(),rfl,ao ?_⟩;rw [s3.o.eq] at a4;have ny4:y∉ws:=fun hm=>by have:=(hw4 y hm s3.by_.lt).2; have:=s3.oy; omega
 have by4:=s3.by_.an k4 ny4;have oy4:ow' y=9:=(ho4 y s3.by_.lt).trans s3.oy;have E4:SL h4 b 109 2 se.p se.l se.c (tg.e.ay.map cB):=SL.dp s3.o.e k4 s3.o.oe (fun i h1 h2 _=>by have:=(hw4 i h1 h2).2; omega);have oe4:∀ i,i∈aE se.p->ow' i=0:=fun i hi=>(ho4 i (Sx.SL.bH s3.o.e hi).2).trans (s3.o.oe i hi)
 have ab4:=s3.ab.step k4 (fun i h1 h2=>⟨(hw4 i h1 h2).1,by have:=(hw4 i h1 h2).2; omega⟩) ho4;have hb4:b<=h4.size:=Pb hb ab4.size;have el4:=a4.el;have ql4:=a4.ql;have ee4:(iY (fS w lb) tg.items).bU=w.bU:=he3;have gg4:(iY (fS w lb) tg.items).aP=w.aP:=hg3;rw [ee4] at el4;rw [gg4] at ql4;clear s3 k4 hw4 ho4 s;refine bG (cs:=[]) (fun _ h'=>∃ t d e q ut ud ue ow,ei h' b A gm (lE w n lb tg) t d e q ut ud ue ow/\Ab b qq ow h h') ?_ ?_
 ·refine af by4 ((tg.kind:Int),()) rfl (ao ?_);refine ai (fun r=>?_) (fun r=>?_)
  ·have r:tg.kind=3:=by have:=eq_of_beq r; omega
   have heq:wJ tg=tg.name:=OH r;rw [heq];refine au rfl ?_;rw [az];refine af a4.box (some gm,()) rfl (ao ?_);refine G1 a4.names (by have:=u7 (okn r); unfold maxLen; omega) ?_;intro h5 m5 k5 z5;have og:=a4.og;have w5:∀ i,i∈[gm]->i<h4.size->b<=i->ow' i=7:=fun i hi _ _=>by have hi:=OJ.1 hi; subst hi; exact og
   have nA:A∉[gm]:=fun hm=>by have hm:=OJ.1 hm; have:=a4.oA; rw [hm] at this; omega
   have ny:y∉[gm]:=fun hm=>by have hm:=OJ.1 hm; rw [hm] at oy4; omega
   have C5:=a4.core.an k5 (fun i h1 h2 h3=>by have:=w5 i h1 h2 h3; omega);have B5:=a4.box.an k5 nA;have M5:rG h5 gm ((fS w lb).names++[tg.name]):=m5.congr (CO _ _);have G5:=SL.dp a4.aP k5 a4.oq (fun i h1 h2 h3=>by have:=w5 i h1 h2 h3; omega);have by5:=by4.an k5 ny;have E5:=SL.dp E4 k5 oe4 (fun i h1 h2 h3=>by have:=w5 i h1 h2 h3; omega);have ab5:Ab b qq ow' h h5:=ab4.step k5 (fun i hi _=>by have hi:=OJ.1 hi; subst hi; exact ⟨a4.bg,ae⟩) (fun _ _=>rfl);have hb5:b<=h5.size:=Pb hb ab5.size;refine au rfl ?_;rw [az];refine af B5 ((e.p,e.l,e.c),()) rfl (ao ?_);rw [az];refine af by5 (tg.name,()) rfl (ao ?_);rw [az];refine af by5 ((se.p,se.l,se.c),(tg.e.num:Int),()) rfl (ao ?_);refine C5.nZ (s:=se) (x:=(tg.name,tg.e)) hb5 E5 oe4 ae (fun h' x=>⟨(by5.an x aj).cells _ rfl,(by5.an x aj).cells _ rfl,(B5.an x aj).cells _ rfl,trivial⟩) ?_;intro e' h6 C6 k6 l6;have w6:∀ i,i∈aE e.p->ow' i=5:=C5.o5
   have nA6:A∉aE e.p:=fun hm=>by have:=w6 A hm; have:=a4.oA; omega
   have ny6:y∉aE e.p:=fun hm=>by have:=w6 y hm; omega
   have ng6:gm∉aE e.p:=fun hm=>by have:=w6 gm hm; omega
   have by6:=by5.an k6 ny6;have rl:∀ i,i<h5.size->cO h5.size 5 ow' i=ow' i:=fun i hi=>bT hi
   refine ⟨⟨by6.cells _ rfl,by6.cells _ rfl,trivial⟩,?_⟩;refine au rfl ?_;rw [az];refine ap (B5.an k6 nA6) rfl (by simp [nb]) ?_;intro h7 b7 k7 z7;have oA7:cO h5.size 5 ow' A=6:=(rl A B5.lt).trans a4.oA;have og7:cO h5.size 5 ow' gm=7:=(rl gm M5.lt).trans og;have oq7:∀ i,i∈aE q.p->cO h5.size 5 ow' i=8:=fun i hi=>(rl i (Sx.SL.bH G5 hi).2).trans (a4.oq i hi)
   have w7:∀ i,i∈[A]->cO h5.size 5 ow' i=6:=fun i hi=>by have hi:=OJ.1 hi; subst hi; exact oA7
   have ng7:gm∉[A]:=fun hm=>by have:=w7 gm hm; omega
   refine aO (cs:=[]) () rfl rfl ⟨t',d',e',q,ut',ud',ue++[(se,(tg.name,tg.e))],cO h5.size 5 ow',?_,(ab5.step k6 (fun i hi _=>⟨(Sx.SL.bH C5.e1 hi).1,by have:=w6 i hi; omega⟩) rl).step k7 (fun i hi _=>⟨by have hi:=OJ.1 hi; subst hi; exact a4.bA,by have:=w7 i hi; omega⟩) (fun _ _=>rfl)⟩;rw [xa,OH r,OH r,OG ae,OG ae];have b7:bf h7 A 73 (nb t' d' ⟨e'.p,e'.l,e'.c⟩ ((fS w lb).sec:Int) (((iY (fS w lb) tg.items).text.length+(iY (fS w lb) tg.items).data.length:Nat):Int) gm q):=b7;refine ⟨C6.an k7 (fun i hi _ _=>by have:=w7 i hi; omega),b7,(M5.an k6 ng6).an k7 ng7,?_,oA7,og7,oq7,a4.bA,a4.bg⟩;refine Sx.SL.bd (Sx.SL.bd G5 k6 (fun i hi hm=>?_)) k7 (fun i hi hm=>?_)
   ·have:=w6 i hm; have:=a4.oq i hi; omega
   ·have:=w7 i hm; have:=oq7 i hi; omega
  have r3:¬ tg.kind=3:=fun e=>by rw [e] at r; simp at r
  refine ai (fun r=>?_) (fun r=>?_)
  ·have r:tg.kind=4:=by have:=eq_of_beq r; omega
   refine au rfl ?_;rw [az];refine af a4.box ((q.p,q.l,q.c),()) rfl (ao ?_);rw [az];refine af by4 (tg.name,()) rfl (ao ?_);refine lL (z:=.agg #[.string ⟨#[]⟩,.int .i64 (0:Int)]) N0 NO rfl ae ae (Mh tg.name n) rfl rfl a4.aP hb4 ae ae (fun h' x=>⟨(by4.an x aj).cells _ rfl,(a4.box.an x aj).cells _ rfl,trivial⟩) ?_;intro p' c' h5 s5 k5 hp5;have w5:∀ i,i∈aE q.p->ow' i=8:=a4.oq
   have nA5:A∉aE q.p:=fun hm=>by have:=w5 A hm; have:=a4.oA; omega
   have ny5:y∉aE q.p:=fun hm=>by have:=w5 y hm; omega
   have ng5:gm∉aE q.p:=fun hm=>by have:=w5 gm hm; have:=a4.og; omega
   have by5:=by4.an k5 ny5;have rl:∀ i,i<h4.size->cO h4.size 8 ow' i=ow' i:=fun i hi=>bT hi
   refine ⟨⟨by5.cells _ rfl,trivial⟩,?_⟩;refine au rfl ?_;rw [az];refine ap (a4.box.an k5 nA5) rfl (by simp [nb]) ?_;intro h6 b6 k6 z6;have oA6:cO h4.size 8 ow' A=6:=(rl A a4.box.lt).trans a4.oA;have og6:cO h4.size 8 ow' gm=7:=(rl gm a4.names.lt).trans a4.og;have oq6:∀ i,i∈aE p'->cO h4.size 8 ow' i=8:=jf a4.oq (fun i hi=>(Sx.SL.bH a4.aP hi).2) hp5
   have w6:∀ i,i∈[A]->cO h4.size 8 ow' i=6:=fun i hi=>by have hi:=OJ.1 hi; subst hi; exact oA6
   have ng6:gm∉[A]:=fun hm=>by have:=w6 gm hm; omega
   have C5:=(a4.core.relabel rl).an k5 (fun i hi h1 _=>by rw [rl i h1]; have:=w5 i hi; omega);refine aO (cs:=[]) () rfl rfl ⟨t',d',e,⟨p',q.l+1,c'⟩,ut',ud',ue,cO h4.size 8 ow',?_,(ab4.step k5 (fun i hi _=>⟨(Sx.SL.bH a4.aP hi).1,by have:=w5 i hi; omega⟩) rl).step k6 (fun i hi _=>⟨by have hi:=OJ.1 hi; subst hi; exact a4.bA,by have:=w6 i hi; omega⟩) (fun _ _=>rfl)⟩;rw [xa,OG r3,OG r3,OH r,OG ae];have b6:bf h6 A 73 (nb t' d' e ((fS w lb).sec:Int) (((iY (fS w lb) tg.items).text.length+(iY (fS w lb) tg.items).data.length:Nat):Int) gm ⟨p',q.l+1,c'⟩):=b6;refine ⟨C5.an k6 (fun i hi _ _=>by have:=w6 i hi; omega),b6,(a4.names.an k5 ng5).an k6 ng6,?_,oA6,og6,oq6,a4.bA,a4.bg⟩;refine Sx.SL.bd (by rw [OU]; exact s5) k6 (fun i hi hm=>?_)
   have:=w6 i hm; have:=oq6 i hi; omega
  have r4:¬ tg.kind=4:=fun e=>by rw [e] at r; simp at r
  refine ai (fun r=>?_) (fun r=>?_)
  ·have r:tg.kind=5:=by have:=eq_of_beq r; omega
   rw [az];refine af by4 ((tg.sec:Int),()) rfl (ao ?_);refine au rfl ?_;rw [az];refine ap a4.box rfl (by simp [nb]) ?_;intro h5 b5 k5 z5;have w5:∀ i,i∈[A]->ow' i=6:=fun i hi=>by have hi:=OJ.1 hi; subst hi; exact a4.oA
   have ng5:gm∉[A]:=fun hm=>by have:=w5 gm hm; have:=a4.og; omega
   refine aO (cs:=[]) () rfl rfl ⟨t',d',e,q,ut',ud',ue,ow',?_,ab4.step k5 (fun i hi _=>⟨by have hi:=OJ.1 hi; subst hi; exact a4.bA,by have:=w5 i hi; omega⟩) (fun _ _=>rfl)⟩;rw [xa,OG r3,OG r3,OG r4,OH r];have b5:bf h5 A 73 (nb t' d' e (tg.sec:Int) (((iY (fS w lb) tg.items).text.length+(iY (fS w lb) tg.items).data.length:Nat):Int) gm q):=b5;exact ⟨a4.core.an k5 (fun i hi _ _=>by have:=w5 i hi; omega),b5,a4.names.an k5 ng5,SL.dp a4.aP k5 a4.oq (fun i hi _ _=>by have:=w5 i hi; omega),a4.oA,a4.og,a4.oq,a4.bA,a4.bg⟩
  have r5:¬ tg.kind=5:=fun e=>by rw [e] at r; simp at r
  refine aO (cs:=[]) () rfl rfl ⟨t',d',e,q,ut',ud',ue,ow',?_,ab4⟩;rw [xa,OG r3,OG r3,OG r4,OG r5];exact ⟨a4.core,a4.box,a4.names,a4.aP,a4.oA,a4.og,a4.oq,a4.bA,a4.bg⟩
 rintro ⟨⟩ h5 a5;exact ⟨rfl,a5⟩
def B4 (w:eS) (n:Nat) (s:XA):eJ w n s=if (bi s).2.2≠0 then .error (bi s).2.2 else if (bi s).1.label≠ct/\bI (bi s).1.label.data.toList=false then .error 21 else jL w n (bi s).1.label (eL (bi s).1 (decide (w.sec=1))):=by
 unfold eJ jL;split
 ·rfl
 split
 ·rfl
 all_goals (cases eL (bi s).1 (decide (w.sec=1)) <;> rfl)
theorem ux (n:Nat) (lb:XA):∀ (ts:List Tok),(bS n lb ts).1.label=lb\/(bS n lb ts).1.label=ct
 | []=>.inl rfl
 | t::ts=>by
  simp only [bS];split
  ·exact .inr rfl
  ·cases gj n ts with
   | error a=>exact .inr rfl
   | ok l=>exact .inl rfl
def yi (s:XA):(bi s).1.label.size<=s.size:=by
 have z:ct.size<=s.size:=P9 _;unfold bi;split
 ·exact z
 ·unfold ga;split
  ·rcases ux s.size (((eh s).1.head?.map (·.text)).getD ⟨#[]⟩) ((eh s).1.drop 2) with e | e
   ·rw [e];cases hq:(eh s).1 with
    | nil=>exact z
    | cons t r=>exact Ap s t (by rw [hq]; simp)
   ·rw [e]; exact z
  ·rcases ux s.size ⟨#[]⟩ (eh s).1 with e | e
   ·rw [e]; exact z
   ·rw [e]; exact z
def Ez (n:Nat):decide ((n:Int)=1)=decide (n=1):=by
 by_cases h:n=1
 ·subst h; rfl
 ·rw [OL h,OL ae]
def tr {h h':Hp} {e:Nat} {u:XB} (q:qk h (.error e) u h'):u=.tuple #[.agg zT.toArray,.int .i64 (e:Int)]/\e≠0:=q.2
def wY {h h':Hp} {t:jM} {u:XB} (q:qk h (.ok t) u h'):∃ sl us se,u=.tuple #[Lh t.kind sl t.name se t.e.num t.sec,.int .i64 0]/\j5 h' h.size t sl us se:=q.2
def JI {h:Hp} (tb:rE h) (ld:Laid h) {b A gm:Nat} {w:eS} {t d e q:cH} {ut ud:List (cH × cd)} {ue:List (cH × pP)} {ow:Nat->Nat} (a:ei h b A gm w t d e q ut ud ue ow) (hb:b<=h.size) (W:yq w) (hE:w.bU.length<=2^20) (hG:w.aP.length<=2^20) {n:Nat} (hn:n<=2^20) (s:XA) (hs:s.size<=2^18) {qq:Nat->Prop} (qs:∀ i,qq i->i<h.size) (qo:∀ i,qq i->ow i=9) :
  HC Tryz.prog 33 #[.pointer (some ⟨A,0,none⟩),.int .i64 (n:Int),.string s] h (KZ b A gm qq h (eJ w n s)):=by
 refine ba (args:=[.pointer (some ⟨A,0,none⟩),.int .i64 (n:Int),.string s]) mixed Tryz.func33 aB (lG (some ⟨A,0,none⟩) n s) ?_;unfold ic aN aS bR aR aH av aI bh aQ bZ;refine aK (Iv s h ae ld) ?_;rintro _ h1 ⟨e1,p,c,al,rfl,Ar,ha⟩;refine ⟨((bi s).1.label,(bi s).1.op,(p,al.length,c),((bi s).2.1:Int),((bi s).2.2:Int),()),rfl,ao ?_⟩;refine bm ?_;intro h2 b2 e2 z2;refine ap b2 rfl aj ?_;intro h3 b3 k3 z3;have b3:bf h3 h1.size 130 [.string (bi s).1.label,.string (bi s).1.op,.slice p al.length c]:=b3;have e13:Ext h1 h3:=Ch.trans e2 k3 (fun i hi hl=>by simp at hi; omega);have e03:=e1.trans e13;rw [B4];refine ai (fun r=>?_) (fun r=>?_)
 ·have r:(bi s).2.2≠0:=by simpa using r
  rw [OH r];exact ⟨rfl,r,e03⟩
 have r:¬ (bi s).2.2≠0:=by simpa using r
 rw [OG r];refine bG (cs:=[(false,[.bool])]) (fun z h'=>h'=h3/\z.1=decide ((bi s).1.label≠ct/\bI (bi s).1.label.data.toList=false)) ?_ ?_
 ·refine af b3 ((bi s).1.label,()) rfl (ao ?_);refine ai (fun q=>?_) (fun q=>?_)
  ·have q:=fw.1 q;refine af b3 ((bi s).1.label,()) rfl (ao ?_);have hl:(bi s).1.label.size<=9223372036854775807:=by
    have:=yi s
    omega
   refine aM (my _ _ hl) ?_;refine aO (cs:=[(false,[.bool])]) (_,()) rfl rfl ⟨rfl,?_⟩;cases hh:bI (bi s).1.label.data.toList with
   | true=>exact (OL aj).symm
   | false=>exact (OK ⟨q,rfl⟩).symm
  ·refine aO (cs:=[(false,[.bool])]) (false,()) rfl rfl ⟨rfl,(OL ?_).symm⟩;rintro ⟨q1,_⟩;rw [fw.2 q1] at q;cases q
 rintro ⟨b11,⟨⟩⟩ h9 ⟨e9,hb11⟩;simp only at hb11;have e9:=e9.symm;subst e9;subst hb11;refine ao ?_;refine ai (fun q=>?_) (fun q=>?_)
 ·rw [OH (OE q)];exact ⟨rfl,bO,e03⟩
 have q:=OF q;rw [OG q];have hlab:(bi s).1.label≠ct->bI (bi s).1.label.data.toList=true:=fun g=>by
  cases hh:bI (bi s).1.label.data.toList with
  | true=>rfl
  | false=>exact absurd ⟨g,hh⟩ q
 clear q;have z03:=e03.size;have z01:=e1.size;have a3:=(a.relabel (ow':=cO h.size 9 ow) (fun i hi=>bT hi)).an e03 aj;have ox3:cO h.size 9 ow h1.size=9:=oc z01;have Ar3:=(Ar.mono (OP _)).an e13 aj aj;obtain ⟨v,hal⟩:=AH.parse s ae Ar3 ha;have tb3:=tb.an e03 aj;have hln:(bi s).1=⟨(bi s).1.label,(bi s).1.op,al.map In.ts⟩:=by rw [ha]
 have facts:=fN s ae;have hok:∀ tg,eL (bi s).1 (decide (w.sec=1))=.ok tg->kt tg (decide (w.sec=1))/\tg.items.length<=2^20:=fun tg hr =>
  ⟨qc (fun a ha=>(facts a ha).1) hr,(yR (n:=2^20) ae (fun a ha=>⟨(facts a ha).1,by have:=(ep s).1 a ha; omega⟩) (by have:=(ep s).2; omega) hr).many⟩
 have hrd:eL ⟨(bi s).1.label,(bi s).1.op,al.map In.ts⟩ (decide ((w.sec:Int)=1))=eL (bi s).1 (decide (w.sec=1)):=by rw [Ez,<- hln]
 refine af b3 ((bi s).1.label,(bi s).1.op,(p,al.length,c),()) rfl (ao ?_);refine au rfl ?_;rw [az];refine af a3.box ((w.sec:Int),()) rfl (ao ?_);generalize hrr:eL (bi s).1 (decide (w.sec=1))=rr at *;have tail:∀ {h4 h6:Hp} {y:Nat} {u:XB},Ext h3 h4->h4.size=h4.size->True:=fun _ _=>trivial
 refine ⟨?_,?_,trivial⟩
 ·refine aK (E6 tb3 v hal (w.sec:Int)) ?_;rintro u h4 qq;rw [hrd] at qq;have e4:=qq.1;have e04:=e03.trans e4;cases rr with
  | error er =>
   obtain ⟨rfl,hne⟩:=tr qq;refine ⟨((0:Int),(none,0,0),ct,(none,0,0),(0:Int),(0:Int),(er:Int),()),rfl,ao ?_⟩;refine bm ?_;intro h5 b5 e5 z5;have e35:=e4.trans e5;refine ⟨⟨(a3.box.an e35 aj).cells _ rfl,(b3.an e35 aj).cells _ rfl,trivial⟩,?_⟩;refine ap b5 rfl aj ?_;intro h6 b6 k6 z6;refine aX (by simp; omega) ?_;exact ⟨rfl,hne,Ch.trans (e04.trans e5) k6 (fun i hi hl=>by have:=e04.size; simp at hi; omega)⟩
  | ok tg =>
   obtain ⟨sl,us,se,rfl,At⟩:=wY qq;obtain ⟨ok,sz⟩:=hok tg rfl;refine ⟨((tg.kind:Int),(sl.p,sl.l,sl.c),tg.name,(se.p,se.l,se.c),(tg.e.num:Int),(tg.sec:Int),(0:Int),()),rfl,ao ?_⟩;refine bm ?_;intro h5 b5 e5 z5;have e35:=e4.trans e5;refine ⟨⟨(a3.box.an e35 aj).cells _ rfl,(b3.an e35 aj).cells _ rfl,trivial⟩,?_⟩;refine ap b5 rfl aj ?_;intro h6 b6 k6 z6;have b6:bf h6 h4.size 134 (jm tg.kind sl.p sl.l sl.c tg.name se.p se.l se.c tg.e.num tg.sec):=b6;have z34:=e4.size;have e46:Ext h4 h6:=Ch.trans e5 k6 (fun i hi hl=>by simp at hi; omega);have e36:=e4.trans e46;have At6:=At.an e46 aj;obtain ⟨ow1,ho1,O⟩:=oH.of (b:=b) At6 ae (cO h.size 9 ow);have rl:∀ i,i<h3.size->cO h4.size 9 ow1 i=cO h.size 9 ow i:=fun i hi=>(bT ae).trans (ho1 i hi)
   have O6:oH h6 b tg sl us se (cO h4.size 9 ow1):=⟨O.sf,O.own,O.eq,O.e,fun i hi=>(bT (Sx.SL.bH At.sf.out hi).2).trans (O.o9 i hi),fun u hu i hi=>(bT (Sx.SL.bH (At.sf.own u hu) hi).2).trans (O.ou u hu i hi),fun i hi=>(bT (Sx.SL.bH At.e hi).2).trans (O.oe i hi)⟩
   exact vW hb (e03.trans e36) W hE hG hn ⟨(a3.relabel rl).an e36 aj,b3.an e36 aj,b6,O6,(rl h1.size b3.lt).trans ox3,oc (OP _),Ab.AM (e03.trans e36) qs (fun i hi=>(rl i (by have:=qs i hi; omega)).trans ((bT (qs i hi)).trans (qo i hi)))⟩ hlab ok sz
 ·refine bm ?_;intro h5 b5 e5 z5;have e05:=e03.trans e5;refine ⟨⟨(a3.box.an e5 aj).cells _ rfl,(b3.an e5 aj).cells _ rfl,trivial⟩,?_⟩;refine aK (E6 (tb3.an e5 aj) (v.an e5) hal (w.sec:Int)) ?_;rintro u h4 qq;rw [hrd] at qq;have e4:=qq.1;have e04:=e05.trans e4;have b54:=b5.an e4 aj;cases rr with
  | error er =>
   obtain ⟨rfl,hne⟩:=tr qq;refine ⟨((0:Int),(none,0,0),ct,(none,0,0),(0:Int),(0:Int),(er:Int),()),rfl,ao ?_⟩;refine ap b54 rfl aj ?_;intro h6 b6 k6 z6;refine aX (by simp; omega) ?_;exact ⟨rfl,hne,Ch.trans e04 k6 (fun i hi hl=>by simp at hi; omega)⟩
  | ok tg =>
   obtain ⟨sl,us,se,rfl,At⟩:=wY qq;obtain ⟨ok,sz⟩:=hok tg rfl;refine ⟨((tg.kind:Int),(sl.p,sl.l,sl.c),tg.name,(se.p,se.l,se.c),(tg.e.num:Int),(tg.sec:Int),(0:Int),()),rfl,ao ?_⟩;refine ap b54 rfl aj ?_;intro h6 b6 k6 z6;have b6:bf h6 h3.size 134 (jm tg.kind sl.p sl.l sl.c tg.name se.p se.l se.c tg.e.num tg.sec):=b6;have z54:=e4.size;have e36:Ext h3 h6:=Ch.trans (e5.trans e4) k6 (fun i hi hl=>by simp at hi; omega);have At6:=At.an k6 (fun i hi _=>by simp at hi; omega);obtain ⟨ow1,ho1,O6⟩:=oH.of (b:=b) At6 ae (cO h.size 9 ow);exact vW hb (e03.trans e36) W hE hG hn ⟨(a3.relabel (ow':=ow1) (fun i hi=>ho1 i ae)).an e36 aj,b3.an e36 aj,b6,O6,(ho1 h1.size (by have:=b3.lt; omega)).trans ox3,(ho1 h3.size ae).trans (oc ae),Ab.AM (e03.trans e36) qs (fun i hi=>(ho1 i (by have:=qs i hi; omega)).trans ((bT (qs i hi)).trans (qo i hi)))⟩ hlab ok sz
def oD (t d e:cH) (sec:Int) (N G Li:cH):List XB:=[t.v,d.v,e.v,.slice none 0 0,.int .i64 sec,N.v,G.v,Li.v]
def M3 (n:Nat):List XB:=[.int .i64 (n:Int)]
structure eK (h:Hp) (b B:Nat) (w:eS) (t d e N G Li:cH) (ut ud:List (cH × cd)) (ue:List (cH × pP)) (ow:Nat->Nat):Prop where
 core:Core h b w.text w.data w.bU t d e ut ud ue ow
 box:bf h B 142 (oD t d e (w.sec:Int) N G Li)
 names:SN h b N.p N.l N.c w.names
 aP:SN h b G.p G.l G.c (w.aP.map (·.1))
 lines:SL h b 3 1 Li.p Li.l Li.c ((w.aP.map (·.2)).map M3)
 oB:ow B=6
 oN:∀ i,i∈aE N.p->ow i=7
 oG:∀ i,i∈aE G.p->ow i=8
 oL:∀ i,i∈aE Li.p->ow i=12
 bB:b<=B
section
variable {h h':Hp} {b B:Nat} {w:eS} {t d e N G Li:cH} {ut ud:List (cH × cd)} {ue:List (cH × pP)} {ow:Nat->Nat}
def eK.an {ws:List Nat} (a:eK h b B w t d e N G Li ut ud ue ow) (k:Ch ws h h') (hw:∀ i,i∈ws->i<h.size->b<=i->ow i=9):eK h' b B w t d e N G Li ut ud ue ow:=by
 have n:∀ k0,k0≠9->∀ i,i∈ws->i<h.size->b<=i->ow i≠k0:=fun k0 hk i h1 h2 h3=>by have:=hw i h1 h2 h3; omega
 exact ⟨a.core.an k (fun i h1 h2 h3=>by have:=hw i h1 h2 h3; omega),a.box.an k (fun hm=>by have:=hw B hm a.box.lt a.bB; have:=a.oB; omega),SL.dp a.names k a.oN (n 7 ae),SL.dp a.aP k a.oG (n 8 ae),SL.dp a.lines k a.oL (n 12 ae),a.oB,a.oN,a.oG,a.oL,a.bB⟩
def eK.relabel (a:eK h b B w t d e N G Li ut ud ue ow) {ow':Nat->Nat} (ho:∀ i,i<h.size->ow' i=ow i):eK h b B w t d e N G Li ut ud ue ow' :=
 ⟨a.core.relabel ho,a.box,a.names,a.aP,a.lines,(ho B a.box.lt).trans a.oB,fun i hi=>(ho i (Sx.SL.bH a.names hi).2).trans (a.oN i hi),fun i hi=>(ho i (Sx.SL.bH a.aP hi).2).trans (a.oG i hi),fun i hi=>(ho i (Sx.SL.bH a.lines hi).2).trans (a.oL i hi),a.bB⟩
def eK.tl (a:eK h b B w t d e N G Li ut ud ue ow):t.l=w.text.length:=by rw [a.core.t1.1,OI,lN a.core.t3]
def eK.dl (a:eK h b B w t d e N G Li ut ud ue ow):d.l=w.data.length:=by rw [a.core.d1.1,OI,lN a.core.d3]
def eK.el (a:eK h b B w t d e N G Li ut ud ue ow):e.l=w.bU.length:=by rw [a.core.e1.1,OI,lN a.core.e3]
def eK.nl (a:eK h b B w t d e N G Li ut ud ue ow):N.l=w.names.length:=SN.len a.names
def eK.gl (a:eK h b B w t d e N G Li ut ud ue ow):G.l=w.aP.length:=by rw [SN.len a.aP,OI]
def eK.ll (a:eK h b B w t d e N G Li ut ud ue ow):Li.l=w.aP.length:=by rw [a.lines.1,OI,OI]
end
def Au (p0 : Option XC) (n1 : Int) (a10 a30 : XC) (n29 : Int) : T :=
    cond (n29 != (0 : Int))
     (T.ret (.int .i64 n29))
     (T.join [(false, [.bool])]
      (T.ah a10 [.string] <| fun (s31 : XA) =>
      cond (!((ByteArray.toList s31) == []))
       (T.aA p0 <| fun (a32 : XC) =>
       T.ah (a32.add 5) [.slice 9] <| fun (p33 : Option XC) (l34 : Nat) (l35 : Nat) =>
       T.ah a10 [.string] <| fun (s36 : XA) =>
       aS 50 [.slice p33 l34 l35, .string s36] false [(false, [.bool])] <| fun (b37 : Bool) =>
       T.aT [(a10, [.string s31])] <|
       cond b37
        (T.again 0 [.bool true])
        (T.ah a30 [.int .i64] <| fun (n38 : Int) =>
        cond (n38 == (3 : Int))
         (T.aA p0 <| fun (a39 : XC) =>
         T.ah (a39.add 5) [.slice 9] <| fun (p40 : Option XC) (l41 : Nat) (l42 : Nat) =>
         T.ah (a30.add 2) [.string] <| fun (s43 : XA) =>
         aS 50 [.slice p40 l41 l42, .string s43] false [(false, [.bool])] <| fun (b44 : Bool) =>
         T.aT [(a30, [.int .i64 n38]), (a10, [.string s36]), ((a32.add 5), [.slice p33 l34 l35]), (a10, [.string s31])] <|
         cond b44
          (T.again 0 [.bool true])
          (T.ah (a30.add 2) [.string] <| fun (s45 : XA) =>
          T.ah a10 [.string] <| fun (s46 : XA) =>
          T.again 0 [.bool ((ByteArray.toList s45) == (ByteArray.toList s46))]))
         (T.again 0 [.bool false])))
       (T.ah a30 [.int .i64] <| fun (n32 : Int) =>
       cond (n32 == (3 : Int))
        (T.aA p0 <| fun (a33 : XC) =>
        T.ah (a33.add 5) [.slice 9] <| fun (p34 : Option XC) (l35 : Nat) (l36 : Nat) =>
        T.ah (a30.add 2) [.string] <| fun (s37 : XA) =>
        aS 50 [.slice p34 l35 l36, .string s37] false [(false, [.bool])] <| fun (b38 : Bool) =>
        T.aT [(a30, [.int .i64 n32]), (a10, [.string s31])] <|
        cond b38
         (T.again 0 [.bool true])
         (T.ah (a30.add 2) [.string] <| fun (s39 : XA) =>
         T.ah a10 [.string] <| fun (s40 : XA) =>
         T.again 0 [.bool ((ByteArray.toList s39) == (ByteArray.toList s40))]))
        (T.again 0 [.bool false]))) <| fun (b31 : Bool) =>
     cond b31
      (T.ret (.int .i64 (22 : Int)))
      (dh (Instr.buildSlice 23 0 #[]) false [(false, [.slice 0])] <| fun (p32 : Option XC) (l33 : Nat) (l34 : Nat) =>
      T.ah (a30.add 1) [.slice 96] <| fun (p35 : Option XC) (l36 : Nat) (l37 : Nat) =>
      dh (Builtin.append_ #[23, 23] 23 #[.slice p32 l33 l34, .slice p35 l36 l37]) false [(false, [.slice 0])] <| fun (p38 : Option XC) (l39 : Nat) (l40 : Nat) =>
      T.join [(false, [.slice 0])]
       (T.ah a10 [.string] <| fun (s41 : XA) =>
       cond (!((ByteArray.toList s41) == []))
        (T.ah a10 [.string] <| fun (s42 : XA) =>
        dh (Instr.buildSlice 23 1 #[(0, .agg #[.int .i64 (1 : Int), .string s42, .int .i64 (0 : Int), .int .i64 (0 : Int), .int .i64 (0 : Int), .int .i32 (0 : Int), .int .i64 (0 : Int), aI, av (0 : Int), .int .i64 (0 : Int)])]) false [(false, [.slice 0])] <| fun (p43 : Option XC) (l44 : Nat) (l45 : Nat) =>
        dh (Builtin.append_ #[23, 23] 23 #[.slice p43 l44 l45, .slice p38 l39 l40]) false [(false, [.slice 0])] <| fun (p46 : Option XC) (l47 : Nat) (l48 : Nat) =>
        T.again 0 [.slice p46 l47 l48])
        (T.again 0 [.slice p38 l39 l40])) <| fun (p41 : Option XC) (l42 : Nat) (l43 : Nat) =>
      T.aA p0 <| fun (a44 : XC) =>
      T.ah a44 [.slice 96] <| fun (p45 : Option XC) (l46 : Nat) (l47 : Nat) =>
      T.aA p0 <| fun (a48 : XC) =>
      T.ah (a48.add 1) [.slice 96] <| fun (p49 : Option XC) (l50 : Nat) (l51 : Nat) =>
      cond (decide ((aH ((aH ((l46 : Int) + (l50 : Int))) + (l42 : Int))) > (8192 : Int)))
       (T.ret (.int .i64 (4 : Int)))
       (T.join []
        (T.aA p0 <| fun (a52 : XC) =>
        T.ah (a52.add 4) [.int .i64] <| fun (n53 : Int) =>
        cond (n53 == (0 : Int))
         (T.aA p0 <| fun (a54 : XC) =>
         T.ah a54 [.slice 96] <| fun (p55 : Option XC) (l56 : Nat) (l57 : Nat) =>
         dh (Builtin.append_ #[23, 23] 23 #[.slice p55 l56 l57, .slice p41 l42 l43]) false [(false, [.slice 0])] <| fun (p58 : Option XC) (l59 : Nat) (l60 : Nat) =>
         T.aA p0 <| fun (a61 : XC) =>
         T.ak a61 [.slice p58 l59 l60] <|
         T.again 0 [])
         (T.aA p0 <| fun (a54 : XC) =>
         T.ah (a54.add 1) [.slice 96] <| fun (p55 : Option XC) (l56 : Nat) (l57 : Nat) =>
         dh (Builtin.append_ #[23, 23] 23 #[.slice p55 l56 l57, .slice p41 l42 l43]) false [(false, [.slice 0])] <| fun (p58 : Option XC) (l59 : Nat) (l60 : Nat) =>
         T.aA p0 <| fun (a61 : XC) =>
         T.ak (a61.add 1) [.slice p58 l59 l60] <|
         T.again 0 [])) <| T.join []
        (T.ah a10 [.string] <| fun (s52 : XA) =>
        cond (!((ByteArray.toList s52) == []))
         (T.aA p0 <| fun (a53 : XC) =>
         T.ah (a53.add 5) [.slice 9] <| fun (p54 : Option XC) (l55 : Nat) (l56 : Nat) =>
         T.ah a10 [.string] <| fun (s57 : XA) =>
         dh (Instr.buildSlice 25 1 #[(0, .string s57)]) false [(false, [.slice 0])] <| fun (p58 : Option XC) (l59 : Nat) (l60 : Nat) =>
         T.aT [((a53.add 5), [.slice p54 l55 l56])] <|
         dh (Builtin.append_ #[25, 25] 25 #[.slice p54 l55 l56, .slice p58 l59 l60]) false [(false, [.slice 0])] <| fun (p61 : Option XC) (l62 : Nat) (l63 : Nat) =>
         T.aT [(a10, [.string s57])] <|
         T.aA p0 <| fun (a64 : XC) =>
         T.ak (a64.add 5) [.slice p61 l62 l63] <|
         T.again 0 [])
         (T.again 0 [])) <| T.join []
        (T.ah a30 [.int .i64] <| fun (n52 : Int) =>
        cond (n52 == (3 : Int))
         (T.aA p0 <| fun (a53 : XC) =>
         T.ah (a53.add 2) [.slice 99] <| fun (p54 : Option XC) (l55 : Nat) (l56 : Nat) =>
         T.ah (a30.add 2) [.string] <| fun (s57 : XA) =>
         T.ah (a30.add 3) [.slice 109, .int .u32] <| fun (p58 : Option XC) (l59 : Nat) (l60 : Nat) (n61 : Int) =>
         dh (Instr.buildSlice 24 1 #[(0, .agg #[.string s57, .slice p58 l59 l60, av n61])]) false [(false, [.slice 0])] <| fun (p62 : Option XC) (l63 : Nat) (l64 : Nat) =>
         T.aT [((a30.add 3), [.slice p58 l59 l60, av n61]), ((a30.add 2), [.string s57]), ((a53.add 2), [.slice p54 l55 l56])] <|
         dh (Builtin.append_ #[24, 24] 24 #[.slice p54 l55 l56, .slice p62 l63 l64]) false [(false, [.slice 0])] <| fun (p65 : Option XC) (l66 : Nat) (l67 : Nat) =>
         T.aT [((a30.add 3), [.slice p58 l59 l60, av n61]), ((a30.add 2), [.string s57])] <|
         T.aA p0 <| fun (a68 : XC) =>
         T.ak (a68.add 2) [.slice p65 l66 l67] <|
         T.aA p0 <| fun (a69 : XC) =>
         T.ah (a69.add 5) [.slice 9] <| fun (p70 : Option XC) (l71 : Nat) (l72 : Nat) =>
         T.ah (a30.add 2) [.string] <| fun (s73 : XA) =>
         dh (Instr.buildSlice 25 1 #[(0, .string s73)]) false [(false, [.slice 0])] <| fun (p74 : Option XC) (l75 : Nat) (l76 : Nat) =>
         T.aT [((a69.add 5), [.slice p70 l71 l72])] <|
         dh (Builtin.append_ #[25, 25] 25 #[.slice p70 l71 l72, .slice p74 l75 l76]) false [(false, [.slice 0])] <| fun (p77 : Option XC) (l78 : Nat) (l79 : Nat) =>
         T.aT [((a30.add 2), [.string s73])] <|
         T.aA p0 <| fun (a80 : XC) =>
         T.ak (a80.add 5) [.slice p77 l78 l79] <|
         T.again 0 [])
         (cond (n52 == (4 : Int))
          (T.aA p0 <| fun (a53 : XC) =>
          T.ah (a53.add 6) [.slice 9] <| fun (p54 : Option XC) (l55 : Nat) (l56 : Nat) =>
          T.ah (a30.add 2) [.string] <| fun (s57 : XA) =>
          dh (Instr.buildSlice 25 1 #[(0, .string s57)]) false [(false, [.slice 0])] <| fun (p58 : Option XC) (l59 : Nat) (l60 : Nat) =>
          T.aT [((a53.add 6), [.slice p54 l55 l56])] <|
          dh (Builtin.append_ #[25, 25] 25 #[.slice p54 l55 l56, .slice p58 l59 l60]) false [(false, [.slice 0])] <| fun (p61 : Option XC) (l62 : Nat) (l63 : Nat) =>
          T.aT [((a30.add 2), [.string s57])] <|
          T.aA p0 <| fun (a64 : XC) =>
          T.ak (a64.add 6) [.slice p61 l62 l63] <|
          T.aA p0 <| fun (a65 : XC) =>
          T.ah (a65.add 7) [.slice 3] <| fun (p66 : Option XC) (l67 : Nat) (l68 : Nat) =>
          dh (Instr.buildSlice 140 1 #[(0, .int .i64 n1)]) false [(false, [.slice 0])] <| fun (p69 : Option XC) (l70 : Nat) (l71 : Nat) =>
          dh (Builtin.append_ #[140, 140] 140 #[.slice p66 l67 l68, .slice p69 l70 l71]) false [(false, [.slice 0])] <| fun (p72 : Option XC) (l73 : Nat) (l74 : Nat) =>
          T.aA p0 <| fun (a75 : XC) =>
          T.ak (a75.add 7) [.slice p72 l73 l74] <|
          T.again 0 [])
          (cond (n52 == (5 : Int))
           (T.ah (a30.add 5) [.int .i64] <| fun (n53 : Int) =>
           T.aA p0 <| fun (a54 : XC) =>
           T.ak (a54.add 4) [.int .i64 n53] <|
           T.again 0 [])
           (T.again 0 [])))) <| T.ret (.int .i64 (0 : Int)))))
def Ib (b B:Nat) (qq:Nat->Prop) (h:Hp) (r:Except Nat eS) (v:XB) (h':Hp):Prop :=
 match r with
 | .error e=>v=.int .i64 (e:Int)/\e≠0/\Ext h h'
 | .ok w'=>v=.int .i64 0/\∃ t d e N G Li ut ud ue ow,eK h' b B w' t d e N G Li ut ud ue ow/\Ab b qq ow h h'
structure Nk (qq:Nat->Prop) (h0 h:Hp) (b B x y:Nat) (w:eS) (lb opn:XA) (pA:Option XC) (lA cA:Nat) (tg:jM) (t d e N G Li sl se:cH) (ut ud us:List (cH × cd)) (ue:List (cH × pP)) (ow:Nat->Nat):Prop where
 a:eK h b B w t d e N G Li ut ud ue ow
 bx:bf h x 191 [.string lb,.string opn,.slice pA lA cA]
 by_:bf h y 194 (jm tg.kind sl.p sl.l sl.c tg.name se.p se.l se.c tg.e.num tg.sec)
 o:oH h b tg sl us se ow
 ox:ow x=9
 oy:ow y=9
 ab:Ab b qq ow h0 h
def Nk.ext {qq:Nat->Prop} {h0 h h':Hp} {b B x y:Nat} {w:eS} {lb opn:XA} {pA:Option XC} {lA cA:Nat} {tg:jM} {t d e N G Li sl se:cH} {ut ud us:List (cH × cd)} {ue:List (cH × pP)} {ow:Nat->Nat} (s:Nk qq h0 h b B x y w lb opn pA lA cA tg t d e N G Li sl se ut ud us ue ow) (k:Ext h h') :
  Nk qq h0 h' b B x y w lb opn pA lA cA tg t d e N G Li sl se ut ud us ue ow :=
 ⟨s.a.an k aj,s.bx.an k aj,s.by_.an k aj,s.o.an k aj,s.ox,s.oy,s.ab.CY k (fun _ _=>rfl)⟩
def DD {s:XA} (h:(!(ByteArray.toList s==[]))=false):s=ct:=by
 by_cases e:s=ct
 ·exact e
 ·rw [fw.2 e] at h; cases h
def SN.It {L:Lp} {K:XB->Hp->Prop} {h:Hp} {b:Nat} {p:Option XC} {l c:Nat} {xs:List XA} (v:SN h b p l c xs) (x:XA) (hl:l<=2^40) (hb:b<=h.size) {st:List (XC × List XB)} (hst:∀ h',Ext h h'->T.Gg h' st) {k:Option XC->Nat->Nat->T}
  (hk:∀ p' c' h',SN h' b p' (l+1) c' (xs++[x])->Ch (aE p) h h'->(p'=p\/∃ a,p'=some a/\h.size<=a.block)->k p' (l+1) c' L K h') :
  T.fb Tryz.prog (Instr.buildSlice 25 1 #[(0,.string x)]) false [(false,[.slice 0])] (fun q m cc=>T.aT st (T.fb Tryz.prog (Builtin.append_ #[25,25] 25 #[.slice p l c,.slice q m cc]) false [(false,[.slice 0])] k)) L K h:=by
 refine lL (vs:=[.string x]) JN Od rfl ae ae aB rfl rfl v hb ae ae hst ?_;intro p' c' h' s' k' hp';exact hk p' c' h' (by unfold SN; rw [OU]; exact s') k' hp'
def qE (w:eS) (lb:XA) (t:jM):eS:={ iY w (iz lb t) with names:=w.names++(if lb=ct then [] else [lb]) }
def wP (w:eS) (n:Nat) (lb:XA) (t:jM):lE w n lb t={ text:=(qE w lb t).text,data:=(qE w lb t).data,bU:=if t.kind=3 then (qE w lb t).bU++[(t.name,t.e)] else (qE w lb t).bU,names:=if t.kind=3 then (qE w lb t).names++[t.name] else (qE w lb t).names,aP:=if t.kind=4 then (qE w lb t).aP++[(t.name,n)] else (qE w lb t).aP,sec:=if t.kind=5 then t.sec else (qE w lb t).sec }:=rfl
def um {qq:Nat->Prop} {h h1:Hp} {b B x y:Nat} {w:eS} {t d e N G Li sl se:cH} {ut ud us:List (cH × cd)} {ue:List (cH × pP)} {ow:Nat->Nat} {n:Nat} {lb opn:XA} {pA:Option XC} {lA cA:Nat} {tg:jM}
  (hb:b<=h.size) (ext:Ext h h1) (W:yq w) (hE:w.bU.length<=2^20) (hG:w.aP.length<=2^20) (hN:w.names.length<=2^20) (hn:n<=2^20)
  (s:Nk qq h h1 b B x y w lb opn pA lA cA tg t d e N G Li sl se ut ud us ue ow) (ok:kt tg (decide (w.sec=1))) (sz:tg.items.length<=2^20) :
  Au (some ⟨B,0,none⟩) n ⟨x,0,none⟩ ⟨y,0,none⟩ 0 [] (Ib b B qq h (jL w n lb (.ok tg))) h1:=by
 unfold Au aS dh aH av aI;have hsec:=W.sec;have hmany:=W.many;have hul:us.length=tg.items.length:=lN s.o.eq;have hsl:sl.l=tg.items.length:=by rw [s.o.sf.1,OI,hul]
 have hnl:=s.a.nl;refine aW rfl ?_;refine bG (cs:=[(false,[.bool])]) (fun z h'=>h'=h1/\z.1=decide (zg w lb tg)) ?_ ?_
 ·refine af s.bx (lb,()) rfl (ao ?_);refine ai (fun r=>?_) (fun r=>?_)
  ·have r:=fw.1 r;refine au rfl ?_;rw [az];refine af s.a.box ((N.p,N.l,N.c),()) rfl (ao ?_);refine af s.bx (lb,()) rfl (ao ?_);refine aM (xv s.a.names ae lb) ?_;refine ⟨⟨s.bx.cells _ rfl,trivial⟩,?_⟩;refine ai (fun q1=>?_) (fun q1=>?_)
   ·exact aO (cs:=[(false,[.bool])]) (true,()) rfl rfl ⟨rfl,(OK (K2 r q1)).symm⟩
   refine af s.by_ ((tg.kind:Int),()) rfl (ao ?_);refine ai (fun q2=>?_) (fun q2=>?_)
   ·have q2:tg.kind=3:=by have:=eq_of_beq q2; omega
    refine au rfl ?_;refine af s.a.box ((N.p,N.l,N.c),()) rfl (ao ?_);rw [az];refine af s.by_ (tg.name,()) rfl (ao ?_);refine aM (xv s.a.names ae tg.name) ?_;refine ⟨⟨s.by_.cells _ rfl,s.bx.cells _ rfl,s.a.box.cells _ rfl,s.bx.cells _ rfl,trivial⟩,?_⟩;refine ai (fun q3=>?_) (fun q3=>?_)
    ·exact aO (cs:=[(false,[.bool])]) (true,()) rfl rfl ⟨rfl,(OK (.inr ⟨q2,.inl q3⟩)).symm⟩
    refine af s.by_ (tg.name,()) rfl (ao ?_);refine af s.bx (lb,()) rfl (ao ?_);refine aO (cs:=[(false,[.bool])]) (_,()) rfl rfl ⟨rfl,?_⟩;cases hh:(ByteArray.toList tg.name==ByteArray.toList lb) with
    | true=>exact (OK (.inr ⟨q2,.inr (vg.1 hh)⟩)).symm
    | false =>
     refine (OL ?_).symm;rintro (⟨_,k⟩ | ⟨_,k | k⟩)
     ·rw [k] at q1; cases q1
     ·rw [k] at q3; cases q3
     ·rw [vg.2 k] at hh; cases hh
   ·have q2:¬ tg.kind=3:=fun e=>by rw [e] at q2; simp at q2
    refine aO (cs:=[(false,[.bool])]) (false,()) rfl rfl ⟨rfl,(OL ?_).symm⟩;rintro (⟨_,k⟩ | ⟨k,_⟩)
    ·rw [k] at q1; cases q1
    ·exact q2 k
  ·have r:=DD r;refine af s.by_ ((tg.kind:Int),()) rfl (ao ?_);refine ai (fun q2=>?_) (fun q2=>?_)
   ·have q2:tg.kind=3:=by have:=eq_of_beq q2; omega
    refine au rfl ?_;rw [az];refine af s.a.box ((N.p,N.l,N.c),()) rfl (ao ?_);rw [az];refine af s.by_ (tg.name,()) rfl (ao ?_);refine aM (xv s.a.names ae tg.name) ?_;refine ⟨⟨s.by_.cells _ rfl,s.bx.cells _ rfl,trivial⟩,?_⟩;refine ai (fun q3=>?_) (fun q3=>?_)
    ·exact aO (cs:=[(false,[.bool])]) (true,()) rfl rfl ⟨rfl,(OK (.inr ⟨q2,.inl q3⟩)).symm⟩
    refine af s.by_ (tg.name,()) rfl (ao ?_);refine af s.bx (lb,()) rfl (ao ?_);refine aO (cs:=[(false,[.bool])]) (_,()) rfl rfl ⟨rfl,?_⟩;cases hh:(ByteArray.toList tg.name==ByteArray.toList lb) with
    | true=>exact (OK (.inr ⟨q2,.inr (vg.1 hh)⟩)).symm
    | false =>
     refine (OL ?_).symm;rintro (⟨k,_⟩ | ⟨_,k | k⟩)
     ·exact k r
     ·rw [k] at q3; cases q3
     ·rw [vg.2 k] at hh; cases hh
   ·have q2:¬ tg.kind=3:=fun e=>by rw [e] at q2; simp at q2
    refine aO (cs:=[(false,[.bool])]) (false,()) rfl rfl ⟨rfl,(OL ?_).symm⟩;rintro (⟨k,_⟩ | ⟨k,_⟩)
    ·exact k r
    ·exact q2 k
 rintro ⟨b32,⟨⟩⟩ h2 ⟨e2,hb32⟩;simp only at hb32;have e2:=e2.symm;subst e2;subst hb32;refine ao ?_;refine ai (fun r=>?_) (fun r=>?_)
 ·have r:=OE r;unfold jL;simp only;rw [OH r];exact ⟨rfl,bO,ext⟩
 have nd:=OF r;have hil:=EH lb tg;have hbz:=Pb hb s.ab.size;refine JC B3 yN ?_;intro h2 s2 e2;have S2:=s.ext e2;rw [az];refine af S2.by_ ((sl.p,sl.l,sl.c),()) rfl (ao ?_);obtain ⟨ii,hi,hz,hi1,hi2⟩:=nI yN;refine dE ?_;rw [<- hi1] at s2;refine qL (ys:=us.map vi) B3 hi hz (by rw [hi1]; rfl) s2 (by rw [hi1]; exact S2.o.sf) (oo _ nS _) (by rw [hi2]; omega) ae e2.size ?_;intro p3 c3 h3 s3 k3 hp3;rw [hi1,PW,PQ] at s3;rw [PQ];refine ⟨p3,sl.l,c3,rfl,?_⟩;have e13:Ext h1 h3:=Ch.trans e2 k3 (fun i hi hl=>by simp [aE] at hi; omega);refine bG (cs:=[(false,[.slice 0])]) (fun z h'=>∃ us':List (cH × cd),SL h' h1.size 96 10 z.1.1 z.1.2.1 z.1.2.2 (us'.map vi)/\us'.map (·.2)=iz lb tg/\(∀ u,u∈us'->u∈us\/u=(⟨none,0,0⟩,ul lb))/\Ext h1 h') ?_ ?_
 ·have S3:=s.ext e13;refine af S3.bx (lb,()) rfl (ao ?_);refine ai (fun r=>?_) (fun r=>?_)
  ·have r:=fw.1 r;refine af S3.bx (lb,()) rfl (ao ?_);refine fW (p:=none) (l:=0) (c:=0) (x:=ul lb) ?_;intro h4 s4 e4 z4;refine dE ?_;rw [<- hi1] at s4;refine qL (ys:=us.map vi) B3 hi hz (by rw [hi1]; rfl) s4 (by rw [hi1]; exact Sx.SL.bd s3 e4 aj) (oo _ nS _) (by rw [hi2]; omega) ae e4.size ?_;intro p5 c5 h5 s5 k5 hp5;rw [hi1] at s5;have e35:Ext h3 h5:=Ch.trans e4 k5 (fun i hi hl=>by simp [aE] at hi; omega);refine ⟨p5,1+sl.l,c5,rfl,?_⟩;refine aO (cs:=[(false,[.slice 0])]) ((p5,1+sl.l,c5),()) rfl rfl ⟨(⟨none,0,0⟩,ul lb)::us,Sx.SL.mono s5 (by have:=e13.size; omega),?_,?_,e13.trans e35⟩
   ·unfold iz;rw [OG r,P6,s.o.eq] <;> rfl
   ·intro u hu;rcases OZ.1 hu with hu | hu
    ·exact .inr hu
    ·exact .inl hu
  ·have r:=DD r;refine aO (cs:=[(false,[.slice 0])]) ((p3,sl.l,c3),()) rfl rfl ⟨us,s3,?_,fun u hu=>.inl hu,e13⟩;unfold iz;rw [OH r,s.o.eq] <;> rfl
 rintro ⟨⟨p4,l4,c4⟩,⟨⟩⟩ h4 ⟨us',s4,hus,hmem,e14⟩;simp only at s4;refine ao ?_;have S4:=s.ext e14;have hl4:l4=(iz lb tg).length:=by rw [s4.1,OI,<- hus,OI]
 have htl:=s.a.tl;have hdl:=s.a.dl;refine au rfl ?_;refine af S4.a.box ((t.p,t.l,t.c),()) rfl (ao ?_);refine au rfl ?_;rw [az];refine af S4.a.box ((d.p,d.l,d.c),()) rfl (ao ?_);have hi1':(iz lb tg).length<=2^20+1:=by rw [hil]; split <;> omega
 rw [wrap_i64 (x:=(t.l:Int)+(d.l:Int)) ae ae,wrap_i64 ae ae];refine ai (fun r=>?_) (fun r=>?_)
 ·have r:=OE r;unfold jL;simp only;rw [OG nd,OH ae];exact ⟨rfl,bO,ext.trans e14⟩
 have nm:=OF r;have hres:jL w n lb (.ok tg)=.ok (lE w n lb tg):=by
  unfold jL;simp only;rw [OG nd,OG ae]
 rw [hres];have hu':∀ u,u∈us'->SL h4 b 109 2 u.1.p u.1.l u.1.c (u.2.e.ay.map cB):=fun u hu=>by
  rcases hmem u hu with hu | rfl
  ·exact S4.o.own u hu
  ·exact SL.nil _ _ _ _
 have ho':∀ u,u∈us'->∀ i,i∈aE u.1.p->ow i=0:=fun u hu=>by
  rcases hmem u hu with hu | rfl
  ·exact S4.o.ou u hu
  ·intro i hi; simp [aE] at hi
 have hb4:b<=h4.size:=Pb hb S4.ab.size;refine bG (cs:=[]) (fun _ h'=>∃ t d ut ud ow',eK h' b B (iY w (iz lb tg)) t d e N G Li ut ud ue ow'/\bf h' x 191 [.string lb,.string opn,.slice pA lA cA]/\bf h' y 194 (jm tg.kind sl.p sl.l sl.c tg.name se.p se.l se.c tg.e.num tg.sec)/\SL h' b 109 2 se.p se.l se.c (tg.e.ay.map cB)/\(∀ i,i∈aE se.p->ow' i=0)/\ow' x=9/\ow' y=9/\Ab b qq ow' h h') ?_ ?_
 ·refine au rfl ?_;rw [az];refine af S4.a.box ((w.sec:Int),()) rfl (ao ?_);refine ai (fun r=>?_) (fun r=>?_)
  ·have r:w.sec=0:=by have:=eq_of_beq r; omega
   refine au rfl ?_;refine af S4.a.box ((t.p,t.l,t.c),()) rfl (ao ?_);refine S4.a.core.Mf hb4 (s:=⟨p4,l4,c4⟩) s4 hu' ho' (by simp only; omega) ?_;intro t' h5 C5 k5 l5;have w5:∀ i,i∈aE t.p->ow i=3:=S4.a.core.o3
   have rl:∀ i,i<h4.size->cO h4.size 3 ow i=ow i:=fun i hi=>bT hi
   have nB:B∉aE t.p:=fun hm=>by have:=w5 B hm; have:=S4.a.oB; omega
   have nx:x∉aE t.p:=fun hm=>by have:=w5 x hm; have:=S4.ox; omega
   have ny:y∉aE t.p:=fun hm=>by have:=w5 y hm; have:=S4.oy; omega
   refine au rfl ?_;refine ap (S4.a.box.an k5 nB) rfl (by simp [oD]) ?_;intro h6 b6 k6 z6;have oB6:cO h4.size 3 ow B=6:=(rl B S4.a.box.lt).trans S4.a.oB;have w6:∀ i,i∈[B]->cO h4.size 3 ow i=6:=fun i hi=>by have hi:=OJ.1 hi; subst hi; exact oB6
   have keep2:∀ {e':TypeId} {sz:Nat} {p:Option XC} {l c:Nat} {xs:List (List XB)} {k0:Nat},SL h4 b e' sz p l c xs->(∀ i,i∈aE p->ow i=k0)->k0≠3->k0≠6->SL h6 b e' sz p l c xs:=fun v ho h1 h2 =>
    Sx.SL.bd (Sx.SL.bd v k5 (fun i hi hm=>by have:=w5 i hm; have:=ho i hi; omega)) k6 (fun i hi hm=>by have:=w6 i hm; rw [rl i (Sx.SL.bH v hi).2] at this; have:=ho i hi; omega)
   have nx6:x∉[B]:=fun hm=>by have:=w6 x hm; rw [rl x S4.bx.lt] at this; have:=S4.ox; omega
   have ny6:y∉[B]:=fun hm=>by have:=w6 y hm; rw [rl y S4.by_.lt] at this; have:=S4.oy; omega
   have b6:bf h6 B 142 (oD t' d e (w.sec:Int) N G Li):=b6;have C6:=C5.an k6 (fun i hi _ _=>by have:=w6 i hi; omega);rw [hus] at C6;refine aO (cs:=[]) () rfl rfl ⟨t',d,ut++us',ud,cO h4.size 3 ow,⟨?_,b6,keep2 S4.a.names S4.a.oN ae ae,keep2 S4.a.aP S4.a.oG ae ae,keep2 S4.a.lines S4.a.oL ae ae,oB6,fun i hi=>(rl i (Sx.SL.bH S4.a.names hi).2).trans (S4.a.oN i hi),fun i hi=>(rl i (Sx.SL.bH S4.a.aP hi).2).trans (S4.a.oG i hi),fun i hi=>(rl i (Sx.SL.bH S4.a.lines hi).2).trans (S4.a.oL i hi),S4.a.bB⟩,(S4.bx.an k5 nx).an k6 nx6,(S4.by_.an k5 ny).an k6 ny6,keep2 S4.o.e S4.o.oe ae ae,fun i hi=>(rl i (Sx.SL.bH S4.o.e hi).2).trans (S4.o.oe i hi),(rl x S4.bx.lt).trans S4.ox,(rl y S4.by_.lt).trans S4.oy,(S4.ab.step k5 (fun i hi _=>⟨(Sx.SL.bH S4.a.core.t1 hi).1,by have:=w5 i hi; omega⟩) rl).step k6 (fun i hi _=>⟨by have hi:=OJ.1 hi; subst hi; exact S4.a.bB,by have:=w6 i hi; omega⟩) (fun _ _=>rfl)⟩;unfold iY;simp only;rw [OH r,OH r];exact C6
  ·have r:¬ w.sec=0:=fun e=>by rw [e] at r; simp at r
   refine au rfl ?_;refine af S4.a.box ((d.p,d.l,d.c),()) rfl (ao ?_);refine S4.a.core.MZ hb4 (s:=⟨p4,l4,c4⟩) s4 hu' ho' (by simp only; omega) ?_;intro d' h5 C5 k5 l5;have w5:∀ i,i∈aE d.p->ow i=4:=S4.a.core.o4
   have rl:∀ i,i<h4.size->cO h4.size 4 ow i=ow i:=fun i hi=>bT hi
   have nB:B∉aE d.p:=fun hm=>by have:=w5 B hm; have:=S4.a.oB; omega
   have nx:x∉aE d.p:=fun hm=>by have:=w5 x hm; have:=S4.ox; omega
   have ny:y∉aE d.p:=fun hm=>by have:=w5 y hm; have:=S4.oy; omega
   refine au rfl ?_;refine ap (S4.a.box.an k5 nB) rfl (by simp [oD]) ?_;intro h6 b6 k6 z6;have oB6:cO h4.size 4 ow B=6:=(rl B S4.a.box.lt).trans S4.a.oB;have w6:∀ i,i∈[B]->cO h4.size 4 ow i=6:=fun i hi=>by have hi:=OJ.1 hi; subst hi; exact oB6
   have keep2:∀ {e':TypeId} {sz:Nat} {p:Option XC} {l c:Nat} {xs:List (List XB)} {k0:Nat},SL h4 b e' sz p l c xs->(∀ i,i∈aE p->ow i=k0)->k0≠4->k0≠6->SL h6 b e' sz p l c xs:=fun v ho h1 h2 =>
    Sx.SL.bd (Sx.SL.bd v k5 (fun i hi hm=>by have:=w5 i hm; have:=ho i hi; omega)) k6 (fun i hi hm=>by have:=w6 i hm; rw [rl i (Sx.SL.bH v hi).2] at this; have:=ho i hi; omega)
   have nx6:x∉[B]:=fun hm=>by have:=w6 x hm; rw [rl x S4.bx.lt] at this; have:=S4.ox; omega
   have ny6:y∉[B]:=fun hm=>by have:=w6 y hm; rw [rl y S4.by_.lt] at this; have:=S4.oy; omega
   have b6:bf h6 B 142 (oD t d' e (w.sec:Int) N G Li):=b6;have C6:=C5.an k6 (fun i hi _ _=>by have:=w6 i hi; omega);rw [hus] at C6;refine aO (cs:=[]) () rfl rfl ⟨t,d',ut,ud++us',cO h4.size 4 ow,⟨?_,b6,keep2 S4.a.names S4.a.oN ae ae,keep2 S4.a.aP S4.a.oG ae ae,keep2 S4.a.lines S4.a.oL ae ae,oB6,fun i hi=>(rl i (Sx.SL.bH S4.a.names hi).2).trans (S4.a.oN i hi),fun i hi=>(rl i (Sx.SL.bH S4.a.aP hi).2).trans (S4.a.oG i hi),fun i hi=>(rl i (Sx.SL.bH S4.a.lines hi).2).trans (S4.a.oL i hi),S4.a.bB⟩,(S4.bx.an k5 nx).an k6 nx6,(S4.by_.an k5 ny).an k6 ny6,keep2 S4.o.e S4.o.oe ae ae,fun i hi=>(rl i (Sx.SL.bH S4.o.e hi).2).trans (S4.o.oe i hi),(rl x S4.bx.lt).trans S4.ox,(rl y S4.by_.lt).trans S4.oy,(S4.ab.step k5 (fun i hi _=>⟨(Sx.SL.bH S4.a.core.d1 hi).1,by have:=w5 i hi; omega⟩) rl).step k6 (fun i hi _=>⟨by have hi:=OJ.1 hi; subst hi; exact S4.a.bB,by have:=w6 i hi; omega⟩) (fun _ _=>rfl)⟩;unfold iY;simp only;rw [OG r,OG r];exact C6
 clear S4 s4 s3 s2 S2 s hu' ho' hmem;rintro ⟨⟩ h5 ⟨t,d,ut,ud,ow,a5,bx5,by5,E5,oe5,ox5,oy5,ab5⟩;refine ao ?_;have hb5:=Pb hb ab5.size;have nl5:=a5.nl;have nn5:(iY w (iz lb tg)).names=w.names:=rfl;rw [nn5] at nl5;refine bG (cs:=[]) (fun _ h'=>∃ N ow',eK h' b B (qE w lb tg) t d e N G Li ut ud ue ow'/\bf h' y 194 (jm tg.kind sl.p sl.l sl.c tg.name se.p se.l se.c tg.e.num tg.sec)/\SL h' b 109 2 se.p se.l se.c (tg.e.ay.map cB)/\(∀ i,i∈aE se.p->ow' i=0)/\ow' y=9/\Ab b qq ow' h h') ?_ ?_
 ·refine af bx5 (lb,()) rfl (ao ?_);refine ai (fun r=>?_) (fun r=>?_)
  ·have r:=fw.1 r;refine au rfl ?_;rw [az];refine af a5.box ((N.p,N.l,N.c),()) rfl (ao ?_);refine af bx5 (lb,()) rfl (ao ?_);refine SN.It (st:=[(⟨B,0+5,none⟩,[.slice N.p N.l N.c])]) a5.names lb ae hb5 (fun h' x=>⟨(a5.box.an x aj).cells _ rfl,trivial⟩) ?_;intro p' c' h6 s6 k6 hp6;have w6:∀ i,i∈aE N.p->ow i=7:=a5.oN
   have rl:∀ i,i<h5.size->cO h5.size 7 ow i=ow i:=fun i hi=>bT hi
   have nB:B∉aE N.p:=fun hm=>by have:=w6 B hm; have:=a5.oB; omega
   have nx:x∉aE N.p:=fun hm=>by have:=w6 x hm; omega
   have ny:y∉aE N.p:=fun hm=>by have:=w6 y hm; omega
   refine ⟨⟨(bx5.an k6 nx).cells _ rfl,trivial⟩,?_⟩;refine au rfl ?_;rw [az];refine ap (a5.box.an k6 nB) rfl (by simp [oD]) ?_;intro h7 b7 k7 z7;have b7:bf h7 B 142 (oD t d e (w.sec:Int) ⟨p',N.l+1,c'⟩ G Li):=b7;have oB7:cO h5.size 7 ow B=6:=(rl B a5.box.lt).trans a5.oB;have w7:∀ i,i∈[B]->cO h5.size 7 ow i=6:=fun i hi=>by have hi:=OJ.1 hi; subst hi; exact oB7
   have oN7:∀ i,i∈aE p'->cO h5.size 7 ow i=7:=jf a5.oN (fun i hi=>(Sx.SL.bH a5.names hi).2) hp6
   have keep2:∀ {e':TypeId} {sz:Nat} {p:Option XC} {l c:Nat} {xs:List (List XB)} {k0:Nat},SL h5 b e' sz p l c xs->(∀ i,i∈aE p->ow i=k0)->k0≠7->k0≠6->SL h7 b e' sz p l c xs:=fun v ho h1 h2 =>
    Sx.SL.bd (Sx.SL.bd v k6 (fun i hi hm=>by have:=w6 i hm; have:=ho i hi; omega)) k7 (fun i hi hm=>by have:=w7 i hm; rw [rl i (Sx.SL.bH v hi).2] at this; have:=ho i hi; omega)
   have ny7:y∉[B]:=fun hm=>by have:=w7 y hm; rw [rl y by5.lt] at this; omega
   have C7:=((a5.core.relabel rl).an k6 (fun i hi hl _=>by have:=w6 i hi; rw [rl i hl]; omega)).an k7 (fun i hi _ _=>by have:=w7 i hi; omega);refine aO (cs:=[]) () rfl rfl ⟨⟨p',N.l+1,c'⟩,cO h5.size 7 ow,⟨C7,b7,?_,keep2 a5.aP a5.oG ae ae,keep2 a5.lines a5.oL ae ae,oB7,oN7,fun i hi=>(rl i (Sx.SL.bH a5.aP hi).2).trans (a5.oG i hi),fun i hi=>(rl i (Sx.SL.bH a5.lines hi).2).trans (a5.oL i hi),a5.bB⟩,(by5.an k6 ny).an k7 ny7,keep2 E5 oe5 ae ae,fun i hi=>(rl i (Sx.SL.bH E5 hi).2).trans (oe5 i hi),(rl y by5.lt).trans oy5,(ab5.step k6 (fun i hi _=>⟨(Sx.SL.bH a5.names hi).1,by have:=w6 i hi; omega⟩) rl).step k7 (fun i hi _=>⟨by have hi:=OJ.1 hi; subst hi; exact a5.bB,by have:=w7 i hi; omega⟩) (fun _ _=>rfl)⟩;unfold qE;simp only;rw [OG r];exact Sx.SL.bd s6 k7 (fun i hi hm=>by have:=w7 i hm; have:=oN7 i hi; omega)
  ·have r:=DD r;refine aO (cs:=[]) () rfl rfl ⟨N,ow,⟨a5.core,a5.box,?_,a5.aP,a5.lines,a5.oB,a5.oN,a5.oG,a5.oL,a5.bB⟩,by5,E5,oe5,oy5,ab5⟩;unfold qE;simp only;rw [OH r,Pr];exact a5.names
 clear a5 bx5 by5 E5 oe5 ox5 oy5 ab5 hb5 nl5 nn5 hnl;rintro ⟨⟩ h5 ⟨N,ow,a5,by5,E5,oe5,oy5,ab5⟩;refine ao ?_;have hb5:=Pb hb ab5.size;have nl5:N.l<=2^20+1:=by
  have:=a5.nl
  unfold qE at this;simp only [List.length_append] at this
  have:(if lb=ct then ([]:List XA) else [lb]).length<=1:=by split <;> simp
  omega
 have gl5:G.l=w.aP.length:=a5.gl;have ll5:Li.l=w.aP.length:=a5.ll;have el5:e.l=w.bU.length:=a5.el;refine bG (cs:=[]) (fun _ h'=>∃ t d e N G Li ut ud ue ow,eK h' b B (lE w n lb tg) t d e N G Li ut ud ue ow/\Ab b qq ow h h') ?_ ?_
 ·refine af by5 ((tg.kind:Int),()) rfl (ao ?_);refine ai (fun r=>?_) (fun r=>?_)
  ·have r:tg.kind=3:=by have:=eq_of_beq r; omega
   refine au rfl ?_;rw [az];refine af a5.box ((e.p,e.l,e.c),()) rfl (ao ?_);rw [az];refine af by5 (tg.name,()) rfl (ao ?_);rw [az];refine af by5 ((se.p,se.l,se.c),(tg.e.num:Int),()) rfl (ao ?_);refine a5.core.nZ (s:=se) (x:=(tg.name,tg.e)) hb5 E5 oe5 ae (fun h' x=>⟨(by5.an x aj).cells _ rfl,(by5.an x aj).cells _ rfl,(a5.box.an x aj).cells _ rfl,trivial⟩) ?_;intro e' h6 C6 k6 l6;have w6:∀ i,i∈aE e.p->ow i=5:=a5.core.o5
   have nB6:B∉aE e.p:=fun hm=>by have:=w6 B hm; have:=a5.oB; omega
   have ny6:y∉aE e.p:=fun hm=>by have:=w6 y hm; omega
   have by6:=by5.an k6 ny6;have rl:∀ i,i<h5.size->cO h5.size 5 ow i=ow i:=fun i hi=>bT hi
   refine ⟨⟨by6.cells _ rfl,by6.cells _ rfl,trivial⟩,?_⟩;refine au rfl ?_;rw [az];refine ap (a5.box.an k6 nB6) rfl (by simp [oD]) ?_;intro h7 b7 k7 z7;have b7:bf h7 B 142 (oD t d e' ((qE w lb tg).sec:Int) N G Li):=b7;have oB7:cO h5.size 5 ow B=6:=(rl B a5.box.lt).trans a5.oB;have oy7:cO h5.size 5 ow y=9:=(rl y by5.lt).trans oy5;have w7:∀ i,i∈[B]->cO h5.size 5 ow i=6:=fun i hi=>by have hi:=OJ.1 hi; subst hi; exact oB7
   have keep2:∀ {e':TypeId} {sz:Nat} {p:Option XC} {l c:Nat} {xs:List (List XB)} {k0:Nat},SL h5 b e' sz p l c xs->(∀ i,i∈aE p->ow i=k0)->k0≠5->k0≠6->SL h7 b e' sz p l c xs:=fun v ho h1 h2 =>
    Sx.SL.bd (Sx.SL.bd v k6 (fun i hi hm=>by have:=w6 i hm; have:=ho i hi; omega)) k7 (fun i hi hm=>by have:=w7 i hm; rw [rl i (Sx.SL.bH v hi).2] at this; have:=ho i hi; omega)
   have ny7:y∉[B]:=fun hm=>by have:=w7 y hm; omega
   have by7:=by6.an k7 ny7;have C7:=C6.an k7 (fun i hi _ _=>by have:=w7 i hi; omega);have N7:=keep2 a5.names a5.oN ae ae;have oN7:∀ i,i∈aE N.p->cO h5.size 5 ow i=7:=fun i hi=>(rl i (Sx.SL.bH a5.names hi).2).trans (a5.oN i hi)
   have G7:=keep2 a5.aP a5.oG ae ae;have oG7:∀ i,i∈aE G.p->cO h5.size 5 ow i=8:=fun i hi=>(rl i (Sx.SL.bH a5.aP hi).2).trans (a5.oG i hi)
   have L7:=keep2 a5.lines a5.oL ae ae;have oL7:∀ i,i∈aE Li.p->cO h5.size 5 ow i=12:=fun i hi=>(rl i (Sx.SL.bH a5.lines hi).2).trans (a5.oL i hi)
   have ab7:Ab b qq (cO h5.size 5 ow) h h7:=(ab5.step k6 (fun i hi _=>⟨(Sx.SL.bH a5.core.e1 hi).1,by have:=w6 i hi; omega⟩) rl).step k7 (fun i hi _=>⟨by have hi:=OJ.1 hi; subst hi; exact a5.bB,by have:=w7 i hi; omega⟩) (fun _ _=>rfl);have hb7:=Pb hb ab7.size;have bB:=a5.bB;clear keep2 C6;generalize cO h5.size 5 ow=ow1 at *;refine au rfl ?_;rw [az];refine af b7 ((N.p,N.l,N.c),()) rfl (ao ?_);refine af by7 (tg.name,()) rfl (ao ?_);refine SN.It (st:=[(⟨B,0+5,none⟩,[.slice N.p N.l N.c])]) N7 tg.name ae hb7 (fun h' x=>⟨(b7.an x aj).cells _ rfl,trivial⟩) ?_;intro p' c' h8 s8 k8 hp8;have rl8:∀ i,i<h7.size->cO h7.size 7 ow1 i=ow1 i:=fun i hi=>bT hi
   have nB8:B∉aE N.p:=fun hm=>by have:=oN7 B hm; omega
   have ny8:y∉aE N.p:=fun hm=>by have:=oN7 y hm; omega
   refine ⟨⟨(by7.an k8 ny8).cells _ rfl,trivial⟩,?_⟩;refine au rfl ?_;rw [az];refine ap (b7.an k8 nB8) rfl (by simp [oD]) ?_;intro h9 b9 k9 z9;have b9:bf h9 B 142 (oD t d e' ((qE w lb tg).sec:Int) ⟨p',N.l+1,c'⟩ G Li):=b9;have oB9:cO h7.size 7 ow1 B=6:=(rl8 B b7.lt).trans oB7;have w9:∀ i,i∈[B]->cO h7.size 7 ow1 i=6:=fun i hi=>by have hi:=OJ.1 hi; subst hi; exact oB9
   have oN9:∀ i,i∈aE p'->cO h7.size 7 ow1 i=7:=jf oN7 (fun i hi=>(Sx.SL.bH N7 hi).2) hp8
   have keep9:∀ {e':TypeId} {sz:Nat} {p:Option XC} {l c:Nat} {xs:List (List XB)} {k0:Nat},SL h7 b e' sz p l c xs->(∀ i,i∈aE p->ow1 i=k0)->k0≠7->k0≠6->SL h9 b e' sz p l c xs:=fun v ho h1 h2 =>
    Sx.SL.bd (Sx.SL.bd v k8 (fun i hi hm=>by have:=oN7 i hm; have:=ho i hi; omega)) k9 (fun i hi hm=>by have:=w9 i hm; rw [rl8 i (Sx.SL.bH v hi).2] at this; have:=ho i hi; omega)
   have C9:=((C7.relabel rl8).an k8 (fun i hi hl _=>by have:=oN7 i hi; rw [rl8 i hl]; omega)).an k9 (fun i hi _ _=>by have:=w9 i hi; omega);refine aO (cs:=[]) () rfl rfl ⟨t,d,e',⟨p',N.l+1,c'⟩,G,Li,ut,ud,ue++[(se,(tg.name,tg.e))],cO h7.size 7 ow1,?_,(ab7.step k8 (fun i hi _=>⟨(Sx.SL.bH N7 hi).1,by have:=oN7 i hi; omega⟩) rl8).step k9 (fun i hi _=>⟨by have hi:=OJ.1 hi; subst hi; exact bB,by have:=w9 i hi; omega⟩) (fun _ _=>rfl)⟩;rw [wP,OH r,OH r,OG ae,OG ae];exact ⟨C9,b9,Sx.SL.bd s8 k9 (fun i hi hm=>by have:=w9 i hm; have:=oN9 i hi; omega),keep9 G7 oG7 ae ae,keep9 L7 oL7 ae ae,oB9,oN9,fun i hi=>(rl8 i (Sx.SL.bH G7 hi).2).trans (oG7 i hi),fun i hi=>(rl8 i (Sx.SL.bH L7 hi).2).trans (oL7 i hi),bB⟩
  have r3:¬ tg.kind=3:=fun e=>by rw [e] at r; simp at r
  refine ai (fun r=>?_) (fun r=>?_)
  ·have r:tg.kind=4:=by have:=eq_of_beq r; omega
   refine au rfl ?_;rw [az];refine af a5.box ((G.p,G.l,G.c),()) rfl (ao ?_);rw [az];refine af by5 (tg.name,()) rfl (ao ?_);refine SN.It (st:=[(⟨B,0+6,none⟩,[.slice G.p G.l G.c])]) a5.aP tg.name ae hb5 (fun h' x=>⟨(a5.box.an x aj).cells _ rfl,trivial⟩) ?_;intro p' c' h6 s6 k6 hp6;have w6:∀ i,i∈aE G.p->ow i=8:=a5.oG
   have rl:∀ i,i<h5.size->cO h5.size 8 ow i=ow i:=fun i hi=>bT hi
   have nB:B∉aE G.p:=fun hm=>by have:=w6 B hm; have:=a5.oB; omega
   have ny:y∉aE G.p:=fun hm=>by have:=w6 y hm; omega
   have by6:=by5.an k6 ny;refine ⟨⟨by6.cells _ rfl,trivial⟩,?_⟩;refine au rfl ?_;rw [az];refine ap (a5.box.an k6 nB) rfl (by simp [oD]) ?_;intro h7 b7 k7 z7;have b7:bf h7 B 142 (oD t d e ((qE w lb tg).sec:Int) N ⟨p',G.l+1,c'⟩ Li):=b7;have oB7:cO h5.size 8 ow B=6:=(rl B a5.box.lt).trans a5.oB;have w7:∀ i,i∈[B]->cO h5.size 8 ow i=6:=fun i hi=>by have hi:=OJ.1 hi; subst hi; exact oB7
   have oG7:∀ i,i∈aE p'->cO h5.size 8 ow i=8:=jf a5.oG (fun i hi=>(Sx.SL.bH a5.aP hi).2) hp6
   have G7:=Sx.SL.bd s6 k7 (fun i hi hm=>by have:=w7 i hm; have:=oG7 i hi; omega);have keep2:∀ {e':TypeId} {sz:Nat} {p:Option XC} {l c:Nat} {xs:List (List XB)} {k0:Nat},SL h5 b e' sz p l c xs->(∀ i,i∈aE p->ow i=k0)->k0≠8->k0≠6->SL h7 b e' sz p l c xs:=fun v ho h1 h2 =>
    Sx.SL.bd (Sx.SL.bd v k6 (fun i hi hm=>by have:=w6 i hm; have:=ho i hi; omega)) k7 (fun i hi hm=>by have:=w7 i hm; rw [rl i (Sx.SL.bH v hi).2] at this; have:=ho i hi; omega)
   have C7:=((a5.core.relabel rl).an k6 (fun i hi hl _=>by have:=w6 i hi; rw [rl i hl]; omega)).an k7 (fun i hi _ _=>by have:=w7 i hi; omega);have N7:=keep2 a5.names a5.oN ae ae;have oN7:∀ i,i∈aE N.p->cO h5.size 8 ow i=7:=fun i hi=>(rl i (Sx.SL.bH a5.names hi).2).trans (a5.oN i hi)
   have L7:=keep2 a5.lines a5.oL ae ae;have oL7:∀ i,i∈aE Li.p->cO h5.size 8 ow i=12:=fun i hi=>(rl i (Sx.SL.bH a5.lines hi).2).trans (a5.oL i hi)
   have ab7:Ab b qq (cO h5.size 8 ow) h h7:=(ab5.step k6 (fun i hi _=>⟨(Sx.SL.bH a5.aP hi).1,by have:=w6 i hi; omega⟩) rl).step k7 (fun i hi _=>⟨by have hi:=OJ.1 hi; subst hi; exact a5.bB,by have:=w7 i hi; omega⟩) (fun _ _=>rfl);have hb7:=Pb hb ab7.size;have bB:=a5.bB;clear keep2;generalize cO h5.size 8 ow=ow1 at *;refine au rfl ?_;rw [az];refine af b7 ((Li.p,Li.l,Li.c),()) rfl (ao ?_);refine fp (vs:=[.int .i64 (n:Int)]) Nw N5 rfl ae ae aB rfl rfl L7 hb7 ae ae ?_;intro p8 c8 h8 s8 k8 hp8;have rl8:∀ i,i<h7.size->cO h7.size 12 ow1 i=ow1 i:=fun i hi=>bT hi
   have nB8:B∉aE Li.p:=fun hm=>by have:=oL7 B hm; omega
   refine au rfl ?_;rw [az];refine ap (b7.an k8 nB8) rfl (by simp [oD]) ?_;intro h9 b9 k9 z9;have b9:bf h9 B 142 (oD t d e ((qE w lb tg).sec:Int) N ⟨p',G.l+1,c'⟩ ⟨p8,Li.l+1,c8⟩):=b9;have oB9:cO h7.size 12 ow1 B=6:=(rl8 B b7.lt).trans oB7;have w9:∀ i,i∈[B]->cO h7.size 12 ow1 i=6:=fun i hi=>by have hi:=OJ.1 hi; subst hi; exact oB9
   have oL9:∀ i,i∈aE p8->cO h7.size 12 ow1 i=12:=jf oL7 (fun i hi=>(Sx.SL.bH L7 hi).2) hp8
   have keep9:∀ {e':TypeId} {sz:Nat} {p:Option XC} {l c:Nat} {xs:List (List XB)} {k0:Nat},SL h7 b e' sz p l c xs->(∀ i,i∈aE p->ow1 i=k0)->k0≠12->k0≠6->SL h9 b e' sz p l c xs:=fun v ho h1 h2 =>
    Sx.SL.bd (Sx.SL.bd v k8 (fun i hi hm=>by have:=oL7 i hm; have:=ho i hi; omega)) k9 (fun i hi hm=>by have:=w9 i hm; rw [rl8 i (Sx.SL.bH v hi).2] at this; have:=ho i hi; omega)
   have C9:=((C7.relabel rl8).an k8 (fun i hi hl _=>by have:=oL7 i hi; rw [rl8 i hl]; omega)).an k9 (fun i hi _ _=>by have:=w9 i hi; omega);refine aO (cs:=[]) () rfl rfl ⟨t,d,e,N,⟨p',G.l+1,c'⟩,⟨p8,Li.l+1,c8⟩,ut,ud,ue,cO h7.size 12 ow1,?_,(ab7.step k8 (fun i hi _=>⟨(Sx.SL.bH L7 hi).1,by have:=oL7 i hi; omega⟩) rl8).step k9 (fun i hi _=>⟨by have hi:=OJ.1 hi; subst hi; exact bB,by have:=w9 i hi; omega⟩) (fun _ _=>rfl)⟩;rw [wP,OG r3,OG r3,OH r,OG ae];refine ⟨C9,b9,keep9 N7 oN7 ae ae,?_,?_,oB9,fun i hi=>(rl8 i (Sx.SL.bH N7 hi).2).trans (oN7 i hi),fun i hi=>(rl8 i (Sx.SL.bH G7 hi).2).trans (oG7 i hi),oL9,bB⟩
   ·simp only;rw [OU];exact keep9 G7 oG7 ae ae
   ·simp only;rw [OU,OU];exact Sx.SL.bd s8 k9 (fun i hi hm=>by have:=w9 i hm; have:=oL9 i hi; omega)
  have r4:¬ tg.kind=4:=fun e=>by rw [e] at r; simp at r
  refine ai (fun r=>?_) (fun r=>?_)
  ·have r:tg.kind=5:=by have:=eq_of_beq r; omega
   rw [az];refine af by5 ((tg.sec:Int),()) rfl (ao ?_);refine au rfl ?_;rw [az];refine ap a5.box rfl (by simp [oD]) ?_;intro h6 b6 k6 z6;have w6:∀ i,i∈[B]->ow i=6:=fun i hi=>by have hi:=OJ.1 hi; subst hi; exact a5.oB
   have b6:bf h6 B 142 (oD t d e (tg.sec:Int) N G Li):=b6;refine aO (cs:=[]) () rfl rfl ⟨t,d,e,N,G,Li,ut,ud,ue,ow,?_,ab5.step k6 (fun i hi _=>⟨by have hi:=OJ.1 hi; subst hi; exact a5.bB,by have:=w6 i hi; omega⟩) (fun _ _=>rfl)⟩;rw [wP,OG r3,OG r3,OG r4,OH r];exact ⟨a5.core.an k6 (fun i hi _ _=>by have:=w6 i hi; omega),b6,SL.dp a5.names k6 a5.oN (fun i hi _ _=>by have:=w6 i hi; omega),SL.dp a5.aP k6 a5.oG (fun i hi _ _=>by have:=w6 i hi; omega),SL.dp a5.lines k6 a5.oL (fun i hi _ _=>by have:=w6 i hi; omega),a5.oB,a5.oN,a5.oG,a5.oL,a5.bB⟩
  have r5:¬ tg.kind=5:=fun e=>by rw [e] at r; simp at r
  refine aO (cs:=[]) () rfl rfl ⟨t,d,e,N,G,Li,ut,ud,ue,ow,?_,ab5⟩;rw [wP,OG r3,OG r3,OG r4,OG r5];exact ⟨a5.core,a5.box,a5.names,a5.aP,a5.lines,a5.oB,a5.oN,a5.oG,a5.oL,a5.bB⟩
 rintro ⟨⟩ h6 a6;exact ⟨rfl,a6⟩
def GO {h:Hp} {b B:Nat} {w:eS} {t d e N G Li:cH} {ut ud:List (cH × cd)} {ue:List (cH × pP)} {ow:Nat->Nat} (a:eK h b B w t d e N G Li ut ud ue ow) (hb:b<=h.size) (W:yq w) (hE:w.bU.length<=2^20) (hG:w.aP.length<=2^20) (hN:w.names.length<=2^20) {n:Nat} (hn:n<=2^20) (s:XA) (hs:s.size<=2^18) {qq:Nat->Prop} (qs:∀ i,qq i->i<h.size) (qo:∀ i,qq i->ow i=9) :
  HC Tryz.prog 70 #[.pointer (some ⟨B,0,none⟩),.int .i64 (n:Int),.string s] h (Ib b B qq h (eJ w n s)):=by
 refine ba (args:=[.pointer (some ⟨B,0,none⟩),.int .i64 (n:Int),.string s]) mixed Tryz.func70 aB (ju (some ⟨B,0,none⟩) n s) ?_;unfold fD aN aS aR aH av aI bh aQ bZ gK;refine aK (F3 s h ae) ?_;rintro _ h1 ⟨e1,p,c,al,rfl,Ar,ha⟩;refine ⟨((bi s).1.label,(bi s).1.op,(p,al.length,c),((bi s).2.1:Int),((bi s).2.2:Int),()),rfl,ao ?_⟩;refine bm ?_;intro h2 b2 e2 z2;refine ap b2 rfl aj ?_;intro h3 b3 k3 z3;have b3:bf h3 h1.size 191 [.string (bi s).1.label,.string (bi s).1.op,.slice p al.length c]:=b3;have e13:Ext h1 h3:=Ch.trans e2 k3 (fun i hi hl=>by simp at hi; omega);have e03:=e1.trans e13;rw [B4];refine ai (fun r=>?_) (fun r=>?_)
 ·have r:(bi s).2.2≠0:=by simpa using r
  rw [OH r];exact ⟨rfl,r,e03⟩
 have r:¬ (bi s).2.2≠0:=by simpa using r
 rw [OG r];refine bG (cs:=[(false,[.bool])]) (fun z h'=>h'=h3/\z.1=decide ((bi s).1.label≠ct/\bI (bi s).1.label.data.toList=false)) ?_ ?_
 ·refine af b3 ((bi s).1.label,()) rfl (ao ?_);refine ai (fun q=>?_) (fun q=>?_)
  ·have q:=fw.1 q;refine af b3 ((bi s).1.label,()) rfl (ao ?_);have hl:(bi s).1.label.size<=9223372036854775807:=by
    have:=yi s
    omega
   refine aM (ve _ _ hl) ?_;refine aO (cs:=[(false,[.bool])]) (_,()) rfl rfl ⟨rfl,?_⟩;cases hh:bI (bi s).1.label.data.toList with
   | true=>exact (OL aj).symm
   | false=>exact (OK ⟨q,rfl⟩).symm
  ·refine aO (cs:=[(false,[.bool])]) (false,()) rfl rfl ⟨rfl,(OL ?_).symm⟩;rintro ⟨q1,_⟩;rw [fw.2 q1] at q;cases q
 rintro ⟨b11,⟨⟩⟩ h9 ⟨e9,hb11⟩;simp only at hb11;have e9:=e9.symm;subst e9;subst hb11;refine ao ?_;refine ai (fun q=>?_) (fun q=>?_)
 ·rw [OH (OE q)];exact ⟨rfl,bO,e03⟩
 have q:=OF q;rw [OG q];have z03:=e03.size;have z01:=e1.size;have a3:=(a.relabel (ow':=cO h.size 9 ow) (fun i hi=>bT hi)).an e03 aj;have ox3:cO h.size 9 ow h1.size=9:=oc z01;have Ar3:=(Ar.mono (OP _)).an e13 aj aj;obtain ⟨v,hal⟩:=AH.parse s ae Ar3 ha;have hln:(bi s).1=⟨(bi s).1.label,(bi s).1.op,al.map In.ts⟩:=by rw [ha]
 have facts:=fN s ae;have hok:∀ tg,eL (bi s).1 (decide (w.sec=1))=.ok tg->kt tg (decide (w.sec=1))/\tg.items.length<=2^20:=fun tg hr =>
  ⟨qc (fun a ha=>(facts a ha).1) hr,(yR (n:=2^20) ae (fun a ha=>⟨(facts a ha).1,by have:=(ep s).1 a ha; omega⟩) (by have:=(ep s).2; omega) hr).many⟩
 have hrd:eL ⟨(bi s).1.label,(bi s).1.op,al.map In.ts⟩ (decide ((w.sec:Int)=1))=eL (bi s).1 (decide (w.sec=1)):=by rw [Ez,<- hln]
 refine af b3 ((bi s).1.label,(bi s).1.op,(p,al.length,c),()) rfl (ao ?_);refine au rfl ?_;rw [az];refine af a3.box ((w.sec:Int),()) rfl (ao ?_);generalize hrr:eL (bi s).1 (decide (w.sec=1))=rr at *;have tail:∀ {h4 h6:Hp} {y:Nat} {u:XB},Ext h3 h4->h4.size=h4.size->True:=fun _ _=>trivial
 refine ⟨?_,?_,trivial⟩
 ·refine aK (Ct v hal (w.sec:Int)) ?_;rintro u h4 qq;rw [hrd] at qq;have e4:=qq.1;have e04:=e03.trans e4;cases rr with
  | error er =>
   obtain ⟨rfl,hne⟩:=tr qq;refine ⟨((0:Int),(none,0,0),ct,(none,0,0),(0:Int),(0:Int),(er:Int),()),rfl,ao ?_⟩;refine bm ?_;intro h5 b5 e5 z5;have e35:=e4.trans e5;refine ⟨⟨(a3.box.an e35 aj).cells _ rfl,(b3.an e35 aj).cells _ rfl,trivial⟩,?_⟩;refine ap b5 rfl aj ?_;intro h6 b6 k6 z6;refine aX (by simp; omega) ?_;exact ⟨rfl,hne,Ch.trans (e04.trans e5) k6 (fun i hi hl=>by have:=e04.size; simp at hi; omega)⟩
  | ok tg =>
   obtain ⟨sl,us,se,rfl,At⟩:=wY qq;obtain ⟨ok,sz⟩:=hok tg rfl;refine ⟨((tg.kind:Int),(sl.p,sl.l,sl.c),tg.name,(se.p,se.l,se.c),(tg.e.num:Int),(tg.sec:Int),(0:Int),()),rfl,ao ?_⟩;refine bm ?_;intro h5 b5 e5 z5;have e35:=e4.trans e5;refine ⟨⟨(a3.box.an e35 aj).cells _ rfl,(b3.an e35 aj).cells _ rfl,trivial⟩,?_⟩;refine ap b5 rfl aj ?_;intro h6 b6 k6 z6;have b6:bf h6 h4.size 194 (jm tg.kind sl.p sl.l sl.c tg.name se.p se.l se.c tg.e.num tg.sec):=b6;have z34:=e4.size;have e46:Ext h4 h6:=Ch.trans e5 k6 (fun i hi hl=>by simp at hi; omega);have e36:=e4.trans e46;have At6:=At.an e46 aj;obtain ⟨ow1,ho1,O⟩:=oH.of (b:=b) At6 ae (cO h.size 9 ow);have rl:∀ i,i<h3.size->cO h4.size 9 ow1 i=cO h.size 9 ow i:=fun i hi=>(bT ae).trans (ho1 i hi)
   have O6:oH h6 b tg sl us se (cO h4.size 9 ow1):=⟨O.sf,O.own,O.eq,O.e,fun i hi=>(bT (Sx.SL.bH At.sf.out hi).2).trans (O.o9 i hi),fun u hu i hi=>(bT (Sx.SL.bH (At.sf.own u hu) hi).2).trans (O.ou u hu i hi),fun i hi=>(bT (Sx.SL.bH At.e hi).2).trans (O.oe i hi)⟩
   exact um hb (e03.trans e36) W hE hG hN hn ⟨(a3.relabel rl).an e36 aj,b3.an e36 aj,b6,O6,(rl h1.size b3.lt).trans ox3,oc (OP _),Ab.AM (e03.trans e36) qs (fun i hi=>(rl i (by have:=qs i hi; omega)).trans ((bT (qs i hi)).trans (qo i hi)))⟩ ok sz
 ·refine bm ?_;intro h5 b5 e5 z5;have e05:=e03.trans e5;refine ⟨⟨(a3.box.an e5 aj).cells _ rfl,(b3.an e5 aj).cells _ rfl,trivial⟩,?_⟩;refine aK (Ct (v.an e5) hal (w.sec:Int)) ?_;rintro u h4 qq;rw [hrd] at qq;have e4:=qq.1;have e04:=e05.trans e4;have b54:=b5.an e4 aj;cases rr with
  | error er =>
   obtain ⟨rfl,hne⟩:=tr qq;refine ⟨((0:Int),(none,0,0),ct,(none,0,0),(0:Int),(0:Int),(er:Int),()),rfl,ao ?_⟩;refine ap b54 rfl aj ?_;intro h6 b6 k6 z6;refine aX (by simp; omega) ?_;exact ⟨rfl,hne,Ch.trans e04 k6 (fun i hi hl=>by simp at hi; omega)⟩
  | ok tg =>
   obtain ⟨sl,us,se,rfl,At⟩:=wY qq;obtain ⟨ok,sz⟩:=hok tg rfl;refine ⟨((tg.kind:Int),(sl.p,sl.l,sl.c),tg.name,(se.p,se.l,se.c),(tg.e.num:Int),(tg.sec:Int),(0:Int),()),rfl,ao ?_⟩;refine ap b54 rfl aj ?_;intro h6 b6 k6 z6;have b6:bf h6 h3.size 194 (jm tg.kind sl.p sl.l sl.c tg.name se.p se.l se.c tg.e.num tg.sec):=b6;have z54:=e4.size;have e36:Ext h3 h6:=Ch.trans (e5.trans e4) k6 (fun i hi hl=>by simp at hi; omega);have At6:=At.an k6 (fun i hi _=>by simp at hi; omega);obtain ⟨ow1,ho1,O6⟩:=oH.of (b:=b) At6 ae (cO h.size 9 ow);exact um hb (e03.trans e36) W hE hG hN hn ⟨(a3.relabel (ow':=ow1) (fun i hi=>ho1 i ae)).an e36 aj,b3.an e36 aj,b6,O6,(ho1 h1.size (by have:=b3.lt; omega)).trans ox3,(ho1 h3.size ae).trans (oc ae),Ab.AM (e03.trans e36) qs (fun i hi=>(ho1 i (by have:=qs i hi; omega)).trans ((bT (qs i hi)).trans (qo i hi)))⟩ ok sz
def xK (l:List XA) (x:XA):cQ (l++[x])=jJ x (cQ l):=by
 unfold cQ;rw [PJ] <;> rfl
theorem Af (x:XA):∀ (l:List XA),l.Pairwise fQ->x∈l->jJ x l=l
 | [],_,h=>by simp at h
 | t::l,p,h=>by
  obtain ⟨h1,h2⟩:=Pu.1 p;unfold jJ;rcases OZ.1 h with rfl | h
  ·rw [OG (ta _),OH rfl]
  ·have:=h1 x h
   rw [OG (qS this),OG (fun e=>sU this e.symm),Af x l h2 h]
theorem Ep (x:XA):∀ (l:List XA) (j:Nat),l.Pairwise fQ->(∀ y,y∈l.take j->fQ y x)->(∀ y,y∈l.drop j->fQ x y)->jJ x l=l.take j++x::l.drop j
 | [],j,_,_,_=>by simp [jJ]
 | t::l,0,_,_,h=>by
  unfold jJ;rw [OH (h t aj)] <;> rfl
 | t::l,j+1,p,h1,h2=>by
  obtain ⟨_,p2⟩:=Pu.1 p
  have:=h1 t aj
  unfold jJ;rw [OG (qS this),OG (fun e=>sU this e.symm),Ep x l j p2 (fun y hy=>h1 y (by simp [hy])) (fun y hy=>h2 y (by simpa using hy))] <;> rfl
def Dt {h : Hp} {b : Nat} {p : Option XC} {l c : Nat} {xs : List XA} (v : SN h b p l c xs) (hm : xs.length <= 2 ^ 30) :
    HC Tryz.prog 22 #[.slice p l c] h fun w h' => ∃ p' l' c', w = .slice p' l' c' /\ SN h' h.size p' l' c' (cQ xs) /\ Ext h h' := by
  refine ba (args := [.slice p l c]) mixed Tryz.func22 aB (mc p l c) ?_;unfold iO cv bN dH bW aN aR aH aI aQ gK;have n := SN.len v
  refine bJ (cs := [(false, [.slice 0]), (false, [.int .i64])]) (fun y m h' => ∃ (i : Nat) (ys : List XA), y.2.1 = (i : Int) /\ m = xs.length - i /\ i <= xs.length /\ Ext h h' /\ SN h' h.size y.1.1 y.1.2.1 y.1.2.2 ys /\ ys.length <= i /\ (∀ s, fT ys s = fT (xs.take i) s) /\ ys = cQ (xs.take i)) ((none, 0, 0), (0 : Int), ()) xs.length rfl
    ⟨0, [], rfl, rfl, ae, Ch.refl _ _, SL.nil _ _ _ _, aj, fun s => rfl, rfl⟩ ?_
  rintro ⟨⟨p1, l2, l3⟩, n4, ⟨⟩⟩ m h1 ⟨i, ys, hi, rfl, hle, e1, s, hyl, hin, hys⟩;simp only at hi s;subst hi;refine ao ?_;have hz := e1.size;have ny := SN.len s;refine ai (fun q => ?_) (fun q => ?_)
  · have q := OE q
    have hil : i < xs.length :=ae
    have hx : ∀ {g}, Ext h g -> ∃ a, p = some a /\ bk g (a.add (i * 1)) 0 [.string xs[i]] := by
      intro g e;obtain ⟨a, ha, hc⟩ := SN.cell v hil;exact ⟨a, ha, bF e aj _ _ hc⟩
    have hrise : ys.Pairwise fQ := by rw [hys]; exact sO _
    have htk : xs.take (i + 1) = xs.take i ++ [xs[i]] := OT hil;generalize hxv : xs[i] = x at hx htk;obtain ⟨a, ha, hc⟩ := hx e1;refine aC ⟨ae, ae⟩ (au ha ?_);rw [show Int.toNat (i : Int) = i from ae];refine aG (x, ()) hc (ao ?_);refine aM (xv s ae x) ?_;rw [hin];have hinx : fT (xs.take i) x = true ↔ x ∈ xs.take i := qR;refine ai (fun r => ?_) (fun r => ?_)
    · have r2 := hinx.1 r
      refine aY (cs := [(false, [.slice 0]), (false, [.int .i64])]) ((p1, l2, l3), ((i + 1 : Nat) : Int), ()) (xs.length - (i + 1)) rfl ae (by rw [wrap_i64 ae ae]; rfl) ?_;refine ⟨i + 1, ys, rfl, rfl, ae, e1, s, ae, fun t => ?_, ?_⟩
      · rw [hin, htk]
        by_cases e : x = t
        · subst e
          rw [r];exact (qR.2 (OS.2 (.inl r2))).symm
        · unfold fT
          rw [List.any_append];simp [e]
      · rw [htk, xK, <- hys]
        exact (Af x ys hrise (by rw [hys, nk]; exact r2)).symm
    · have r2 : x ∉ xs.take i := fun k => by rw [hinx.2 k] at r; cases r
      refine aC ⟨ae, ae⟩ (au ha ?_);refine aG (x, ()) hc (ao ?_);refine SN.push s x ae hz ?_;intro p' c' h2 s2 k2;have e2 := SN.ext e1 s (OP _) k2
      refine bJ (cs := [(false, [.int .i64])]) (fun y m h' => ∃ (j : Nat) (zs : List XA), y.1 = (j : Int) /\ m = j /\ j <= ys.length /\ zs.length = ys.length + 1 /\ zs.eraseIdx j = ys /\ Ext h h' /\ SN h' h.size p' (l2 + 1) c' zs /\ (∀ y, y ∈ ys.drop j -> fQ x y)) ((l2 : Int), ()) ys.length rfl
        ⟨ys.length, ys ++ [x], by rw [ny], rfl, ae, aj, by rw [List.eraseIdx_append_of_length_le ae]; simp, e2, s2, aj⟩ ?_
      rintro ⟨n16, ⟨⟩⟩ m h3 ⟨j, zs, hj, rfl, hjl, hzl, hze, e3, s3, hbig⟩;simp only at hj;subst hj;refine ao ?_
      have hpl : ∃ a2, p' = some a2 := by
        obtain ⟨a2, h2, _⟩ := SN.cell s3 (i := 0) ae;exact ⟨a2, h2⟩
      obtain ⟨a2, ha2⟩ := hpl;have hxn : x ∉ ys := fun k => r2 (by rw [hys, nk] at k; exact k)
      have last : (∀ y, y ∈ ys.take m -> fQ y x) -> (T.need (((0 : Int) <= (i : Int)) /\ ((i : Int) < (l : Int))) <|
         T.aA p fun (a21 : XC) =>
         T.ah (a21.add ((Int.toNat (i : Int)) * 1)) [.string] <| fun (s22 : XA) =>
         T.need (((0 : Int) <= (m : Int)) /\ ((m : Int) < ((l2 + 1 : Nat) : Int))) <|
         T.aA p' fun (a23 : XC) =>
         T.ak (a23.add ((Int.toNat (m : Int)) * 1)) [.string s22] <|
         T.again 0 [.slice p' (l2 + 1) c', .int .i64 (IntKind.wrap .i64 ((i : Int) + (1 : Int)))])
         ([] ++ [Jl (cs := [(false, [.slice 0]), (false, [.int .i64])]) (fun y m h' => ∃ (i : Nat) (ys : List XA), y.2.1 = (i : Int) /\ m = xs.length - i /\ i <= xs.length /\ Ext h h' /\ SN h' h.size y.1.1 y.1.2.1 y.1.2.2 ys /\ ys.length <= i /\ (∀ s, fT ys s = fT (xs.take i) s) /\ ys = cQ (xs.take i)) (xs.length - i)] ++
          [Jl (cs := [(false, [.int .i64])]) (fun y m h' => ∃ (j : Nat) (zs : List XA), y.1 = (j : Int) /\ m = j /\ j <= ys.length /\ zs.length = ys.length + 1 /\ zs.eraseIdx j = ys /\ Ext h h' /\ SN h' h.size p' (l2 + 1) c' zs /\ (∀ y, y ∈ ys.drop j -> fQ x y)) m])
         (fun w h' => ∃ p' l' c', w = .slice p' l' c' /\ SN h' h.size p' l' c' (cQ xs) /\ Ext h h') h3 := by
        intro hsm;obtain ⟨a, ha, hc⟩ := hx e3;refine aC ⟨ae, ae⟩ (au ha ?_);rw [show Int.toNat (i : Int) = i from ae];refine aG (x, ()) hc (ao ?_);refine aC ⟨ae, ae⟩ (au ha2 ?_);rw [show Int.toNat (m : Int) = m from ae];refine SN.put s3 ae x ha2 ?_;intro h4 s4 k4 z4;refine aY (cs := [(false, [.slice 0]), (false, [.int .i64])]) ((p', l2 + 1, c'), ((i + 1 : Nat) : Int), ()) (xs.length - (i + 1)) rfl ae (by rw [wrap_i64 ae ae]; rfl) ?_;refine ⟨i + 1, zs.set m x, rfl, rfl, ae, SN.ext e3 s3 (OP _) k4, s4, by rw [P8]; omega, fun t => ?_, ?_⟩
        · rw [Ke zs m ae, hze, hin, htk]
          unfold fT;rw [List.any_append]
          simp
        · rw [htk, xK, <- hys, Ep x ys m hrise hsm hbig, List.set_eq_take_append_cons_drop, OH ae, <- hze, List.eraseIdx_eq_take_drop_succ]
          have hl : (zs.take m).length = m := by rw [O0]; omega
          rw [List.take_left' hl, List.drop_left' hl]
      refine ai (fun q2 => ?_) (fun q2 => last (by have q2 := OF q2; have : m = 0 :=ae
                                                   subst this; simp))
      have q2 := OE q2;rw [wrap_i64 ae ae];obtain ⟨a3, ha3, hc3⟩ := SN.cell s3 (i := m - 1) ae;refine aC ⟨ae, ae⟩ (au ha3 ?_);rw [show Int.toNat ((m : Int) - 1) = m - 1 from ae];refine aG (zs[m - 1]'ae, ()) hc3 (ao ?_);obtain ⟨a, ha, hc⟩ := hx e3;refine aC ⟨ae, ae⟩ (au ha ?_);refine aG (x, ()) hc (ao ?_)
      have hyz : zs[m - 1]'ae = ys[m - 1]'ae := by
        have : ys[m - 1]? = zs[m - 1]? := by rw [<- hze, List.getElem?_eraseIdx, OH ae]
        rw [OO ae, OO ae] at this;exact (O1 this).symm
      rw [leB, Bool.not_not];refine ai (fun q3 => ?_) (fun q3 => ?_)
      · have q3 := OE q3
        refine aC ⟨ae, ae⟩ (au ha3 ?_);refine aG (zs[m - 1]'ae, ()) hc3 (ao ?_);refine aC ⟨ae, ae⟩ (au ha2 ?_);rw [show Int.toNat (m : Int) = m from ae];refine SN.put s3 ae _ ha2 ?_;intro h4 s4 k4 z4;refine aY (cs := [(false, [.int .i64])]) (((m - 1 : Nat) : Int), ()) (m - 1) rfl ae (by rw [show (m : Int) - 1 = ((m - 1 : Nat) : Int) from ae]; rfl) ?_
        exact ⟨m - 1, _, rfl, rfl, ae, by rw [P8]; exact hzl, by rw [C2 zs m ae ae]; exact hze, SN.ext e3 s3 (OP _) k4, s4, fun y hy => by
          rw [OM ae, show m - 1 + 1 = m from ae] at hy;rcases OZ.1 hy with rfl | hy
          · rw [<- hyz]; exact q3
          · exact hbig y hy⟩
      · have q3 := OF q3
        have := last (fun y hy => by
          have hlt : fQ (ys[m - 1]'ae) x := by
            rw [hyz] at q3
            by_cases g : fQ (ys[m - 1]'ae) x
            · exact g
            · exact absurd (rf _ _ g q3 ▸ O2 _) hxn
          obtain ⟨k, hk, rfl⟩ := PA hy;rw [O0] at hk;rw [List.getElem_take]
          by_cases g : k = m - 1
          · subst g; exact hlt
          · exact iW (List.pairwise_iff_getElem.1 hrise k (m - 1) ae ae ae) hlt)
        rw [show Int.toNat (i : Int) = i from ae] at this;exact this
  · have q := OF q
    have : i = xs.length :=ae
    subst this;rw [O8] at hys;subst hys;exact ⟨p1, l2, l3, rfl, s, e1⟩
theorem xy:∀ (l dJ r:List UInt8),(∀ c,c∈l->nl c=true)->ee dJ (l++10::r)=(dJ++l)::ee [] r
 | [],dJ,r,_=>by simp [jF]
 | c::l,dJ,r,h=>by
  have hc:¬ c=10:=by simpa [nl] using h c aj
  rw [List.cons_append,jF,OG hc,xy l (dJ++[c]) r (fun x hx=>h x (by simp [hx]))]
  simp
theorem vR:∀ (l dJ:List UInt8),(∀ c,c∈l->nl c=true)->ee dJ l=if dJ++l=[] then [] else [dJ++l]
 | [],dJ,_=>by simp [yP]
 | c::l,dJ,h=>by
  have hc:¬ c=10:=by simpa [nl] using h c aj
  rw [jF,OG hc,vR l (dJ++[c]) (fun x hx=>h x (by simp [hx]))]
  simp
theorem Cs:∀ (f:Nat) (s:List UInt8),s.length<f->bK f s=ee [] s
 | 0,s,h=>ae
 | f+1,s,h=>by
  by_cases s0:s=[]
  ·subst s0; rfl
  rcases EB s with hn | ⟨l,r,rfl,hl⟩
  ·rw [B6 f s hn s0,vR s [] hn,PW,OG s0]
  ·simp only [List.length_append,List.length_cons] at h;rw [Bq f l r hl,xy l [] r hl,Cs f r ae] <;> rfl
def uL (s:XA):DE s=cK s:=by
 refine (DC ?_).symm;unfold cK;rw [Ph,Cs _ _ aj]
 have:∀ l:List (List UInt8),l.map ((fun x:XA=>x.data.toList) ∘ fun l=>(⟨l.toArray⟩:XA))=l:=fun l=>by
  induction l with
  | nil=>rfl
  | cons x l ih=>rw [P6,ih]; simp
 exact this _
theorem xQ:∀ (a b:List XA) (w:eS) (n:Nat),dw w n (a++b)=((dw (dw w n a).1 (n+a.length) b).1,(dw w n a).2++(dw (dw w n a).1 (n+a.length) b).2)
 | [],b,w,n=>by simp [dw]
 | s::a,b,w,n=>by
  simp only [List.cons_append,dw];cases eJ w n s with
  | error e =>
   simp only;rw [xQ a b w (n+1),Pg,show n+1+a.length=n+(a.length+1) from ae] <;> rfl
  | ok w1 =>
   simp only;rw [xQ a b w1 (n+1),Pg,show n+1+a.length=n+(a.length+1) from ae]
def I5 (w:eS) (n:Nat) (s:XA):dw w n [s]=match eJ w n s with
  | .error e=>(w,[(n,e)])
  | .ok w'=>(w',[]):=by
 simp only [dw]
 all_goals (cases eJ w n s <;> rfl)
theorem yc:∀ (l:List XA) (w:eS) (n:Nat),(∀ s,s∈l->s.size<=2^20)->yq w->yq (dw w n l).1
 | [],w,n,_,W=>W
 | s::l,w,n,hs,W=>by
  simp only [dw];split
  ·exact yc l w (n+1) (fun x hx=>hs x (by simp [hx])) W
  ·rename_i w1 h1;exact yc l w1 (n+1) (fun x hx=>hs x (by simp [hx])) (yh (hs s aj) W h1)
def tn {w w':eS} {n:Nat} {s:XA} (h:eJ w n s=.ok w'):w'.bU.length<=w.bU.length+1/\w'.aP.length<=w.aP.length+1:=by
 unfold eJ at h;split at h
 ·cases h
 split at h
 ·cases h
 split at h
 ·cases h
 split at h
 ·cases h
 split at h
 ·cases h
 injection h with h
 subst h;unfold lE;simp only;constructor
 ·split
  ·simp
  ·omega
 ·split
  ·simp
  ·omega
theorem vD:∀ (l:List XA) (w:eS) (n:Nat),(dw w n l).1.bU.length<=w.bU.length+l.length/\(dw w n l).1.aP.length<=w.aP.length+l.length
 | [],w,n=>by simp [dw]
 | s::l,w,n=>by
  simp only [dw];split
  ·have:=vD l w (n+1)
   simp only [List.length_cons]; omega
  ·rename_i w1 h1
   have:=vD l w1 (n+1)
   have:=tn h1
   simp only [List.length_cons]; omega
def yq.Fi {w:eS} (W:yq w):w.names.length<=8192+w.bU.length:=by
 have h:=W.perm.length_eq;have hm:=W.many;have key:∀ l:List cd,(rm l).length<=l.length:=fun l=>by
  unfold rm;rw [OI];exact PY _ _
 have h1:=key w.text;have h2:=key w.data;rw [OX,OX,OI] at h;omega
structure Nq (n:Nat) (w:eS):Prop where
 text:∀ x,x∈w.text->Bd n x
 data:∀ x,x∈w.data->Bd n x
 bU:∀ x,x∈w.bU->x.2.ay.length<=n
def Hh {w w':eS} {n k:Nat} {s:XA} (hs:s.size+1<=n) (hb:s.size<=2^20) (S:Nq n w) (h:eJ w k s=.ok w'):Nq n w':=by
 unfold eJ at h;split at h
 ·cases h
 split at h
 ·cases h
 split at h
 ·cases h
 rename_i t ht;split at h
 ·cases h
 split at h
 ·cases h
 injection h with h
 have f:=fN s hb;have z:=yR (n:=n) ae (fun a ha=>⟨(f a ha).1,by have:=(ep s).1 a ha; omega⟩) (by have:=(ep s).2; omega) ht;generalize (bi s).1.label=lb at *;have hits:∀ x,x∈iz lb t->Bd n x:=by
  intro x hx;unfold iz at hx;rcases OS.1 hx with hx | hx
  ·split at hx
   ·simp at hx
   ·have:=OJ.1 hx
    subst this;simp [Bd,ul,dA,fB]
  ·exact z.item x hx
 subst h;refine ⟨?_,?_,?_⟩
 ·intro x hx;unfold lE at hx;simp only at hx;split at hx
  ·rcases OS.1 hx with hx | hx
   ·exact S.text x hx
   ·exact hits x hx
  ·exact S.text x hx
 ·intro x hx;unfold lE at hx;simp only at hx;split at hx
  ·exact S.data x hx
  ·rcases OS.1 hx with hx | hx
   ·exact S.data x hx
   ·exact hits x hx
 ·intro x hx;unfold lE at hx;simp only at hx;split at hx
  ·rcases OS.1 hx with hx | hx
   ·exact S.bU x hx
   ·have:=OJ.1 hx
    subst this;exact z.e
  ·exact S.bU x hx
theorem EN {n:Nat}:∀ (l:List XA) (w w':eS) (k:Nat),(∀ s,s∈l->s.size+1<=n/\s.size<=2^20)->Nq n w->fV w k l=.ok w'->Nq n w'
 | [],w,w',k,_,S,h=>by
  simp only [fV] at h;injection h with h
  subst h;exact S
 | s::l,w,w',k,hs,S,h=>by
  simp only [fV] at h;split at h
  ·cases h
  ·rename_i w1 h1;exact EN l w1 w' (k+1) (fun x hx=>hs x (by simp [hx])) (Hh (hs s aj).1 (hs s aj).2 S h1) h
def MV:Tryz.prog.underlying 81=some (.slice 33):=aB
def Mw:(Tryz.prog.info? 33).map (fun i=>(i.zero,i.size,i.bytes))=some (some (.agg #[.int .i64 (0:Int),.int .i64 (0:Int)]),2,16):=aB
def K6 (a b:Int):Instr.fill (fun j=>some (j*2,2)) ((Array.range (1*2)).map ((Value.agg #[.int .i64 (0:Int),.int .i64 (0:Int)]).cells[· % (Value.agg #[.int .i64 (0:Int),.int .i64 (0:Int)]).cells.size]!)) [(0,.agg #[.int .i64 a,.int .i64 b])]=some #[.int .i64 a,.int .i64 b]:=aB
def AK (q:Nat × Nat):List XB:=[.int .i64 (q.1:Int),.int .i64 (q.2:Int)]
def ke (h:Hp) (b:Nat) (a b' c d:cH) (u:pN):Prop:=∃ ut ud ue ow,Core h b u.text u.data u.bU a b' c ut ud ue ow/\SN h b d.p d.l d.c u.aP
def ke.zero (h:Hp) (b:Nat):ke h b fA fA fA fA vz:=⟨[],[],[],fun _=>0,Core.nil _ _ _,SL.nil _ _ _ _⟩
def EV (s:XA) (h:Hp) (v:XB) (h':Hp):Prop:=Ext h h'/\∃ a b c d F:cH,v=.tuple #[tC a b c d,.slice F.p F.l F.c]/\SL h' h.size 33 2 F.p F.l F.c ((uU s).2.map AK)/\ke h' h.size a b c d (uU s).1
def zK {L:Lp} {K:XB->Hp->Prop} {h:Hp} {b:Nat} {p:Option XC} {l c:Nat} {fs:List (Nat × Nat)} (s:SL h b 33 2 p l c (fs.map AK)) (hb:b<=h.size) (hl:l<=2^30) (q:Nat × Nat) {k:Option XC->Nat->Nat->T}
  (hk:∀ p' c' h',SL h' b 33 2 p' (l+1) c' ((fs++[q]).map AK)->Ch (aE p) h h'->(p'=p\/∃ a,p'=some a/\h.size<=a.block)->k p' (l+1) c' L K h') :
  T.fb Tryz.prog (Instr.buildSlice 81 1 #[(0,.agg #[.int .i64 (q.1:Int),.int .i64 (q.2:Int)])]) false [(false,[.slice 0])] (fun p0 m cc=>T.fb Tryz.prog (Builtin.append_ #[81,81] 81 #[.slice p l c,.slice p0 m cc]) false [(false,[.slice 0])] k) L K h:=by
 refine fp (z:=.agg #[.int .i64 (0:Int),.int .i64 (0:Int)]) MV Mw rfl ae ae (K6 q.1 q.2) rfl rfl s hb ae ae ?_;intro p' c' h' s' k' hp';exact hk p' c' h' (by rw [OU]; exact s') k' hp'
def zN:List fX:=[(false,[.slice 0]),(false,[.int .i64])]
def FX (s:XA) (h:Hp):HC Tryz.prog 36 #[.string s] h (EV s h):=by
 refine ba (args:=[.string s]) mixed Tryz.func36 aB (lZ s) ?_;unfold iE cv bN dH bW aN cU aS aR aw aI aQ gK;refine bm ?_;intro h1 b1 e1 z1
 have one:∀ (hh:Hp) (q:Nat × Nat),bf hh h.size 27 zU->Ext h hh->uU s=(vz,[q])->∀ {L:Lp},(T.fb Tryz.prog (Instr.buildSlice 81 1 #[(0,.agg #[.int .i64 (q.1:Int),.int .i64 (q.2:Int)])]) false [(false,[.slice 0])] <| fun (p2:Option XC) (l3:Nat) (l4:Nat) =>
   T.ak ⟨h.size,0,none⟩ [.slice none 0 0,.slice none 0 0,.slice none 0 0,.slice none 0 0] <|
   T.ah ⟨h.size,0,none⟩ [.slice 96,.slice 96,.slice 99,.slice 9] <| fun (p5:Option XC) (l6:Nat) (l7:Nat) (p8:Option XC) (l9:Nat) (l10:Nat) (p11:Option XC) (l12:Nat) (l13:Nat) (p14:Option XC) (l15:Nat) (l16:Nat) =>
   T.ret (.tuple #[.agg #[.slice p5 l6 l7,.slice p8 l9 l10,.slice p11 l12 l13,.slice p14 l15 l16],.slice p2 l3 l4])) L (EV s h) hh:=by
  intro hh q bx ex hq L;refine eM MV Mw ae ae (K6 q.1 q.2) ?_;intro h2 b2 e2 z2;have zx:=ex.size;refine ap (bx.an e2 aj) rfl (by simp [zU]) ?_;intro h3 b3 k3 z3;have b3:bf h3 h.size 27 zU:=b3;refine af b3 ((none,0,0),(none,0,0),(none,0,0),(none,0,0),()) rfl ?_;refine ⟨Ch.trans (ex.trans e2) k3 (fun i hi hl=>by simp at hi; omega),fA,fA,fA,fA,⟨some ⟨hh.size,0,none⟩,1,1⟩,rfl,?_,by rw [hq]; exact ke.zero _ _⟩;rw [hq];have b23:=b2.an k3 (by simp; have:=bx.lt; omega);exact ⟨rfl,by simp [AK],hh.size,[],[],rfl,zx,⟨OP _,by show 1<9223372036854775808; omega⟩,by simpa [AK] using b23,aj⟩
 have b1:bf h1 h.size 27 zU:=b1;refine ai (fun r=>?_) (fun r=>?_)
 ·have r:=OE r;exact one h1 (0,3) b1 e1 (by unfold uU; rw [OH ae])
 have r:=OF r;have nr:¬ 65536<s.size:=ae
 refine aK (II s h1 ae) ?_;rintro _ h2 ⟨⟨p2,c2,rfl,sl⟩,e2⟩;refine ⟨((p2,(DE s).length,c2),()),rfl,ao ?_⟩;rw [uL] at sl ⊢;have b2:=b1.an e2 aj;have e02:=e1.trans e2;refine ai (fun r2=>?_) (fun r2=>?_)
 ·have r2:=OE r2;exact one h2 (4097,4) b2 e02 (by unfold uU; rw [OG nr,OH ae])
 have r2:=OF r2;have nl:(cK s).length<=4096:=ae
 have hsrc:uU s=(⟨(dw cZ 1 (cK s)).1.text,(dw cZ 1 (cK s)).1.data,(dw cZ 1 (cK s)).1.bU,cQ ((dw cZ 1 (cK s)).1.aP.map (·.1))⟩,(dw cZ 1 (cK s)).2++wz (dw cZ 1 (cK s)).1 (dw cZ 1 (cK s)).1.aP):=by
  unfold uU;rw [OG nr,OG ae]
 have hsz:∀ x,x∈cK s->x.size<=2^18:=fun x hx=>by have:=gO s x hx; omega
 generalize hlin:cK s=jd at *;have zz:h.size+1<=h2.size:=by have:=e2.size; omega
 refine bm ?_;intro h3 b3 e3 z3;have b3:bf h3 h2.size 142 (oD fA fA fA 0 fA fA fA):=b3
 refine bJ (cs:=zN) (fun y m h'=>∃ (i:Nat) (t d e N G Li:cH) (ut ud:List (cH × cd)) (ue:List (cH × pP)) (ow:Nat->Nat),y.2.1=(i:Int)/\m=jd.length-i/\i<=jd.length/\Ext h2 h' /\
   eK h' h2.size h2.size (dw cZ 1 (jd.take i)).1 t d e N G Li ut ud ue ow/\SL h' h2.size 33 2 y.1.1 y.1.2.1 y.1.2.2 ((dw cZ 1 (jd.take i)).2.map AK)/\(∀ j,j∈aE y.1.1->ow j=9))
  ((none,0,0),(0:Int),()) jd.length rfl ⟨0,fA,fA,fA,fA,fA,fA,[],[],[],fun i=>if i=h2.size then 6 else 9,rfl,rfl,ae,e3,⟨Core.nil _ _ _,b3,SL.nil _ _ _ _,SL.nil _ _ _ _,SL.nil _ _ _ _,OH rfl,by simp [fA,aE],by simp [fA,aE],by simp [fA,aE],OP _⟩,SL.nil _ _ _ _,by simp [aE]⟩ ?_
 rintro ⟨⟨p6,l7,l8⟩,n9,⟨⟩⟩ m h4 ⟨i,t,d,e,N,G,Li,ut,ud,ue,ow,hi,rfl,hil,e24,a,sF,oF⟩;simp only at hi sF oF;subst hi;dsimp only [zN,flat,lW,ix,nA,cA];have hrl:=x7 (jd.take i) cZ 1;have htl:(jd.take i).length=i:=by rw [O0]; omega
 have hsz4:=e24.size;have hF:l7=(dw cZ 1 (jd.take i)).2.length:=by rw [sF.1,OI]
 have W:yq (dw cZ 1 (jd.take i)).1:=yc _ _ _ (fun x hx=>by have:=hsz x (List.mem_of_mem_take hx); omega) yq.z;have lens:=vD (jd.take i) cZ 1;have z0:cZ.bU.length=0/\cZ.aP.length=0:=⟨rfl,rfl⟩
 have nlen:=W.Fi;refine ai (fun q=>?_) (fun q=>?_)
 ·have q:=OE q;have hi':i<jd.length:=ae
  have htk:jd.take (i+1)=jd.take i++[jd[i]]:=OT hi'
  have hrun:dw cZ 1 (jd.take (i+1))=match eJ (dw cZ 1 (jd.take i)).1 (i+1) jd[i] with
    | .error e=>((dw cZ 1 (jd.take i)).1,(dw cZ 1 (jd.take i)).2++[(i+1,e)])
    | .ok w'=>(w',(dw cZ 1 (jd.take i)).2):=by
   rw [htk,xQ,htl,I5,show 1+i=i+1 from ae];cases eJ (dw cZ 1 (jd.take i)).1 (i+1) jd[i] with
   | error e=>rfl
   | ok w'=>simp
  have hx:∃ a2,p2=some a2/\bk h4 (a2.add (i*1)) 0 [.string jd[i]]:=by
   obtain ⟨a2,ha2,hc⟩:=SL.cells sl (i:=i) (by rw [OI]; exact hi');rw [O4] at hc;exact ⟨a2,ha2,bF e24 aj _ _ hc⟩
  have hxs:=hsz jd[i] (O2 hi');generalize jd[i]=x at *;generalize (dw cZ 1 (jd.take i)).1=w at *;generalize (dw cZ 1 (jd.take i)).2=fs at *
  refine bG (cs:=[(false,[.slice 0])]) (fun z h'=>∃ (t d e N G Li:cH) (ut ud:List (cH × cd)) (ue:List (cH × pP)) (ow:Nat->Nat),Ext h2 h' /\
    eK h' h2.size h2.size (dw cZ 1 (jd.take (i+1))).1 t d e N G Li ut ud ue ow/\SL h' h2.size 33 2 z.1.1 z.1.2.1 z.1.2.2 ((dw cZ 1 (jd.take (i+1))).2.map AK)/\(∀ j,j∈aE z.1.1->ow j=9)) ?_ ?_
  ·obtain ⟨a2,ha2,hc⟩:=hx;refine aC ⟨ae,ae⟩ (au ha2 ?_);rw [show Int.toNat (i:Int)=i from ae];refine aG (x,()) hc (ao ?_);rw [wrap_i64 ae ae,show (i:Int)+1=((i+1:Nat):Int) from ae];refine aK (GO a hsz4 W ae ae ae (n:=i+1) ae x hxs (qq:=fun j=>j∈aE p6) (fun j hj=>(Sx.SL.bH sF hj).2) oF) ?_;intro u h5 hu;cases hr:eJ w (i+1) x with
   | error er =>
    rw [hr] at hu hrun;obtain ⟨rfl,hne,e5⟩:=hu;refine ⟨((er:Int),()),rfl,ao ?_⟩;refine aX (by simp; omega) ?_;have sF5:=Sx.SL.bd sF e5 aj;refine zK sF5 (by have:=e5.size; omega) ae (i+1,er) ?_;intro p' c' h6 s6 k6 hp6;have rl:∀ j,j<h5.size->cO h5.size 9 ow j=ow j:=fun j hj=>bT hj
    refine aO (cs:=[(false,[.slice 0])]) ((p',l7+1,c'),()) rfl rfl ⟨t,d,e,N,G,Li,ut,ud,ue,cO h5.size 9 ow,Ch.trans (e24.trans e5) k6 (fun j hj hl=>by have:=(Sx.SL.bH sF hj).1; omega),?_,?_,jf oF (fun j hj=>(Sx.SL.bH sF5 hj).2) hp6⟩
    ·rw [hrun];exact ((a.an e5 aj).relabel rl).an k6 (fun j hj hl _=>(rl j hl).trans (oF j hj))
    ·rw [hrun];exact s6
   | ok w' =>
    rw [hr] at hu hrun;obtain ⟨rfl,t',d',e',N',G',Li',ut',ud',ue',ow',a5,ab⟩:=hu;refine ⟨((0:Int),()),rfl,ao ?_⟩;refine aW rfl ?_;have e25:Ext h2 h5:=⟨Pb e24.size ab.size,fun j hj _=>(ab.same j ae (.inl hj)).trans (e24.same j hj aj)⟩
    refine aO (cs:=[(false,[.slice 0])]) ((p6,l7,l8),()) rfl rfl ⟨t',d',e',N',G',Li',ut',ud',ue',ow',e25,?_,?_,fun j hj=>ab.qo j hj⟩
    ·rw [hrun]; exact a5
    ·rw [hrun];refine ⟨sF.1,sF.2.1,?_⟩;have h3:=sF.2.2;cases p6 with
     | none=>exact h3
     | some ad =>
      obtain ⟨gg,pre,rest,rfl,hbg,hlc,hbox,hrr⟩:=h3;exact ⟨gg,pre,rest,rfl,hbg,hlc,(ab.same gg hbox.lt (.inr (by simp [aE]))).trans hbox,hrr⟩
  rintro ⟨⟨p',l',c'⟩,⟨⟩⟩ h5 ⟨t',d',e',N',G',Li',ut',ud',ue',ow',e25,a5,s5,o5⟩;simp only at s5 o5;refine ao ?_;refine aY (cs:=zN) ((p',l',c'),((i+1:Nat):Int),()) (jd.length-(i+1)) rfl ae (by rw [wrap_i64 ae ae]; rfl) ?_;exact ⟨i+1,t',d',e',N',G',Li',ut',ud',ue',ow',rfl,rfl,ae,e25,a5,s5,o5⟩
 have q:=OF q;have hie:i=jd.length:=ae
 subst hie;rw [O8] at *;generalize (dw cZ 1 jd).1=w at *;generalize (dw cZ 1 jd).2=fs at *;have gl:=a.gl;have ll:=a.ll;have nn:=a.nl;have hgl:w.aP.length<=4096:=ae
 refine bJ (cs:=zN) (fun y m h'=>∃ (i:Nat) (ow:Nat->Nat),y.2.1=(i:Int)/\m=w.aP.length-i/\i<=w.aP.length/\Ext h2 h' /\
   eK h' h2.size h2.size w t d e N G Li ut ud ue ow/\SL h' h2.size 33 2 y.1.1 y.1.2.1 y.1.2.2 ((fs++wz w (w.aP.take i)).map AK)/\(∀ j,j∈aE y.1.1->ow j=9))
  ((p6,l7,l8),(0:Int),()) w.aP.length rfl ⟨0,ow,rfl,rfl,ae,e24,a,by simpa [wz] using sF,oF⟩ ?_
 clear a sF oF hsz4;rintro ⟨⟨p10,l11,l12⟩,n13,⟨⟩⟩ m h5 ⟨i,ow,hi,rfl,hil,e25,a,sF,oF⟩;simp only at hi sF oF;subst hi;dsimp only [zN,flat,lW,ix,nA,cA];have hsz5:=e25.size;rw [az];refine af a.box ((G.p,G.l,G.c),()) rfl (ao ?_);refine ai (fun q=>?_) (fun q=>?_)
 ·have q:=OE q;have hi':i<w.aP.length:=ae
  have htk:w.aP.take (i+1)=w.aP.take i++[w.aP[i]]:=OT hi';have hund:wz w (w.aP.take (i+1))=wz w (w.aP.take i)++(if fT w.names w.aP[i].1 then [] else [(w.aP[i].2,23)]):=by
   unfold wz;rw [htk,List.filter_append,OU]
   congr 1
   by_cases g:fT w.names w.aP[i].1=true
   ·simp [g]
   ·simp [g]
  have hul:(wz w (w.aP.take i)).length<=4096:=by
   unfold wz;rw [OI]
   have:=PY (fun g:XA × Nat=>!fT w.names g.1) (w.aP.take i)
   rw [O0] at this;omega
  have hl11:l11=fs.length+(wz w (w.aP.take i)).length:=by rw [sF.1,OI,OX]
  refine bG (cs:=[(false,[.slice 0])]) (fun z h'=>∃ (ow:Nat->Nat),Ext h2 h'/\eK h' h2.size h2.size w t d e N G Li ut ud ue ow/\SL h' h2.size 33 2 z.1.1 z.1.2.1 z.1.2.2 ((fs++wz w (w.aP.take (i+1))).map AK)/\(∀ j,j∈aE z.1.1->ow j=9)) ?_ ?_
  ·rw [az];refine af a.box ((N.p,N.l,N.c),()) rfl (ao ?_);refine af a.box ((G.p,G.l,G.c),()) rfl (ao ?_);obtain ⟨a3,ha3,hc3⟩:=SN.cell a.aP (i:=i) (by rw [OI]; exact hi');rw [O4] at hc3;refine aC ⟨ae,ae⟩ (au ha3 ?_);rw [show Int.toNat (i:Int)=i from ae];refine aG (w.aP[i].1,()) hc3 (ao ?_);refine aM (xv a.names ae w.aP[i].1) ?_;refine ⟨⟨a.box.cells _ rfl,trivial⟩,?_⟩;refine ai (fun q2=>?_) (fun q2=>?_)
   ·have q2:fT w.names w.aP[i].1=false:=by simpa using q2
    rw [q2] at hund;rw [az];refine af a.box ((Li.p,Li.l,Li.c),()) rfl (ao ?_);obtain ⟨a4,ha4,hc4⟩:=SL.cells a.lines (i:=i) (by rw [OI,OI]; exact hi');rw [O4,O4] at hc4;refine aC ⟨ae,ae⟩ (au ha4 ?_);refine aG ((w.aP[i].2:Int),()) hc4 (ao ?_);refine zK sF hsz5 ae (w.aP[i].2,23) ?_;intro p' c' h6 s6 k6 hp6;have rl:∀ j,j<h5.size->cO h5.size 9 ow j=ow j:=fun j hj=>bT hj
    refine aO (cs:=[(false,[.slice 0])]) ((p',l11+1,c'),()) rfl rfl ⟨cO h5.size 9 ow,Ch.trans e25 k6 (fun j hj hl=>by have:=(Sx.SL.bH sF hj).1; omega),(a.relabel rl).an k6 (fun j hj hl _=>(rl j hl).trans (oF j hj)),?_,jf oF (fun j hj=>(Sx.SL.bH sF hj).2) hp6⟩;rw [hund,<- Px];exact s6
   ·have q2:fT w.names w.aP[i].1=true:=by simpa using q2
    rw [q2] at hund;refine aO (cs:=[(false,[.slice 0])]) ((p10,l11,l12),()) rfl rfl ⟨ow,e25,a,?_,oF⟩;rw [hund,OH rfl,Pr];exact sF
  rintro ⟨⟨p',l',c'⟩,⟨⟩⟩ h6 ⟨ow',e26,a6,s6,o6⟩;simp only at s6 o6;refine ao ?_;refine aY (cs:=zN) ((p',l',c'),((i+1:Nat):Int),()) (w.aP.length-(i+1)) rfl ae (by rw [wrap_i64 ae ae]; rfl) ?_;exact ⟨i+1,ow',rfl,rfl,ae,e26,a6,s6,o6⟩
 have q:=OF q;have hie:i=w.aP.length:=ae
 subst hie;rw [O8] at sF;refine af a.box ((G.p,G.l,G.c),()) rfl (ao ?_);refine aK (Dt a.aP (by rw [OI]; omega)) ?_;rintro _ h6 ⟨ps,ls,cs,rfl,sS,e6⟩;refine ⟨((ps,ls,cs),()),rfl,ao ?_⟩;have a6:=a.an e6 aj;rw [az];refine ap a6.box rfl (by simp [oD]) ?_;intro h7 b7 k7 z7;have b7:bf h7 h2.size 142 [t.v,d.v,e.v,.slice ps ls cs,.int .i64 (w.sec:Int),N.v,G.v,Li.v]:=b7;have e27:Ext h2 h7:=Ch.trans (e25.trans e6) k7 (fun j hj hl=>by simp at hj; omega);have C7:=a6.core.an k7 (fun j hj _ _=>by have hj:=OJ.1 hj; subst hj; have:=a6.oB; omega);have S7:=Sx.SL.bd sS k7 (fun j hj hm=>by have:=(Sx.SL.bH sS hj).1; have hm:=OJ.1 hm; have:=a.box.lt; omega);have F6:=Sx.SL.bd sF e6 aj;have F7:=Sx.SL.bd F6 k7 (fun j hj hm=>by have hm:=OJ.1 hm; have:=oF j hj; rw [hm] at this; have:=a.oB; omega);refine af b7 ((t.p,t.l,t.c),(d.p,d.l,d.c),(e.p,e.l,e.c),(ps,ls,cs),()) rfl (ao ?_);have b27:bf h7 h.size 27 zU:=b2.an e27 aj;refine ap b27 rfl (by simp [zU]) ?_;intro h8 b8 k8 z8;have b8:bf h8 h.size 27 [t.v,d.v,e.v,.slice ps ls cs]:=b8;have kz:∀ {e':TypeId} {sz:Nat} {p:Option XC} {l c:Nat} {xs:List (List XB)},SL h7 h2.size e' sz p l c xs->SL h8 h.size e' sz p l c xs:=fun v =>
  Sx.SL.mono (SL.AE v k8 (fun j hj _=>by simp at hj; omega)) ae
 refine af b8 ((t.p,t.l,t.c),(d.p,d.l,d.c),(e.p,e.l,e.c),(ps,ls,cs),()) rfl ?_;refine ⟨Ch.trans (e02.trans e27) k8 (fun j hj hl=>by simp at hj; omega),t,d,e,⟨ps,ls,cs⟩,⟨p10,l11,l12⟩,rfl,?_,?_⟩
 ·rw [hsrc];exact kz F7
 ·rw [hsrc];exact ⟨ut,ud,ue,ow,⟨kz C7.t1,fun u hu=>kz (C7.t2 u hu),C7.t3,kz C7.d1,fun u hu=>kz (C7.d2 u hu),C7.d3,kz C7.e1,fun u hu=>kz (C7.e2 u hu),C7.e3,C7.o3,C7.o4,C7.o5,C7.ot,C7.od,C7.oe⟩,kz (Sx.SL.mono S7 ae)⟩
def gZ:Except (Nat × Nat) pN->pN × (Nat × Nat)
 | .error q=>(vz,q)
 | .ok u=>(u,(0,0))
def ke.an {h h':Hp} {b:Nat} {a b' c d:cH} {u:pN} {ws:List Nat} (U:ke h b a b' c d u) (k:Ch ws h h') (hw:∀ i,i∈ws->i<h.size->i<b):ke h' b a b' c d u:=by
 obtain ⟨ut,ud,ue,ow,C,S⟩:=U;exact ⟨ut,ud,ue,ow,C.an k (fun i h1 h2 h3=>by have:=hw i h1 h2; omega),SL.AE S k hw⟩
def ke.mono {h:Hp} {b b1:Nat} {a b' c d:cH} {u:pN} (U:ke h b a b' c d u) (hb:b1<=b):ke h b1 a b' c d u:=by
 obtain ⟨ut,ud,ue,ow,C,S⟩:=U;exact ⟨ut,ud,ue,ow,⟨Sx.SL.mono C.t1 hb,fun u hu=>Sx.SL.mono (C.t2 u hu) hb,C.t3,Sx.SL.mono C.d1 hb,fun u hu=>Sx.SL.mono (C.d2 u hu) hb,C.d3,Sx.SL.mono C.e1 hb,fun u hu=>Sx.SL.mono (C.e2 u hu) hb,C.e3,C.o3,C.o4,C.o5,C.ot,C.od,C.oe⟩,Sx.SL.mono S hb⟩
def Mt (s:XA) (h:Hp) (v:XB) (h':Hp):Prop:=Ext h h'/\∃ a b c d:cH,v=.tuple #[tC a b c d,.agg #[.int .i64 ((gZ (dW s)).2.1:Int),.int .i64 ((gZ (dW s)).2.2:Int)]]/\ke h' h.size a b c d (gZ (dW s)).1
def KF (s:XA) (h:Hp):HC Tryz.prog 11 #[.string s] h (Mt s h):=by
 refine ba (args:=[.string s]) mixed Tryz.func11 aB (kv s) ?_;unfold gQ aS aZ aw aI;refine bm ?_;intro h1 b1 e1 z1;refine bm ?_;intro h2 b2 e2 z2;have b1:bf h2 h.size 27 zU:=b1.an e2 aj;have e02:=e1.trans e2;refine aK (FX s h2) ?_;rintro _ h3 ⟨e3,a,b,c,d,F,rfl,sF,U⟩;refine ⟨((a.p,a.l,a.c),(b.p,b.l,b.c),(c.p,c.l,c.c),(d.p,d.l,d.c),(F.p,F.l,F.c),()),rfl,ao ?_⟩;have b13:=b1.an e3 aj;have b23:=b2.an e3 aj;have e03:=e02.trans e3;have z23:=e3.size;refine bm ?_;intro h4 b4 e4 z4;refine ap b4 rfl aj ?_;intro h5 b5 k5 z5;have b5:bf h5 h3.size 27 [a.v,b.v,c.v,d.v]:=b5;have e35:Ext h3 h5:=Ch.trans e4 k5 (fun i hi hl=>by simp at hi; omega);have b15:bf h5 h.size 27 zU:=b13.an e35 aj;have b25:=b23.an e35 aj;have e05:=e03.trans e35;have U5:=U.an e35 aj;have hlen:F.l=(uU s).2.length:=by rw [sF.1,OI]
 have hfst:=Ee s;refine ai (fun r=>?_) (fun r=>?_)
 ·have r:=OE r;cases hq:(uU s).2 with
  | nil=>rw [hq] at hlen; simp at hlen; omega
  | cons q fs =>
   have has:dW s=.error q:=by rw [<- hfst]; unfold xw; rw [hq]
   obtain ⟨aF,haF,hcF⟩:=SL.cells sF (i:=0) (by rw [OI,hq]; simp);simp only [hq,List.map_cons,List.getElem_cons_zero,Nat.zero_mul] at hcF;have hc5:=bF e35 aj _ _ hcF;have hz:aF.add 0=aF:=by unfold Addr.add; simp
   rw [hz] at hc5;refine aC ⟨ae,ae⟩ (au haF ?_);refine aG ((q.1:Int),(q.2:Int),()) hc5 (ao ?_);refine ap b15 rfl (by simp [zU]) ?_;intro h6 b6 k6 z6;have b6:bf h6 h.size 27 zU:=b6;have nF:aF.block∉[h.size]:=by
    intro hm
    have:=(Sx.SL.bH sF (i:=aF.block) (by rw [haF]; simp [aE])).1
    have hm:=OJ.1 hm;omega
   refine ⟨⟨bF k6 nF _ _ hc5,trivial⟩,?_⟩;refine ap (b25.an k6 (by simp; omega)) rfl aj ?_;intro h7 b7 k7 z7;have b7:bf h7 h1.size 33 [.int .i64 (q.1:Int),.int .i64 (q.2:Int)]:=b7;have b67:bf h7 h.size 27 zU:=b6.an k7 (by simp; omega);refine af b67 ((none,0,0),(none,0,0),(none,0,0),(none,0,0),()) rfl (ao ?_);refine af b7 ((q.1:Int),(q.2:Int),()) rfl ?_;refine ⟨Ch.trans (Ch.trans e05 k6 (fun i hi hl=>by simp at hi; omega)) k7 (fun i hi hl=>by simp at hi; omega),fA,fA,fA,fA,?_,?_⟩
   ·rw [has]; rfl
   ·rw [has]; exact ke.zero _ _
 ·have r:=OF r;have hq:(uU s).2=[]:=OQ ae;have has:dW s=.ok (uU s).1:=by rw [<- hfst]; unfold xw; rw [hq]
  refine af b5 ((a.p,a.l,a.c),(b.p,b.l,b.c),(c.p,c.l,c.c),(d.p,d.l,d.c),()) rfl (ao ?_);refine ap b15 rfl (by simp [zU]) ?_;intro h6 b6 k6 z6;have b6:bf h6 h.size 27 [a.v,b.v,c.v,d.v]:=b6;refine ap (b25.an k6 (by simp; omega)) rfl aj ?_;intro h7 b7 k7 z7;have b7:bf h7 h1.size 33 [.int .i64 (0:Int),.int .i64 (0:Int)]:=b7;have b67:bf h7 h.size 27 [a.v,b.v,c.v,d.v]:=b6.an k7 (by simp; omega);refine af b67 ((a.p,a.l,a.c),(b.p,b.l,b.c),(c.p,c.l,c.c),(d.p,d.l,d.c),()) rfl (ao ?_);refine af b7 ((0:Int),(0:Int),()) rfl ?_;refine ⟨Ch.trans (Ch.trans e05 k6 (fun i hi hl=>by simp at hi; omega)) k7 (fun i hi hl=>by simp at hi; omega),a,b,c,d,?_,?_⟩
  ·rw [has]; rfl
  ·rw [has];exact ((U5.an k6 (fun i hi _=>by simp at hi; omega)).an k7 (fun i hi _=>by simp at hi; omega)).mono ae
end Go.Sx.Ob
