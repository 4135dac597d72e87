/- Contracts over heaps, part 5. Condition: as each statement says. -/
import Derived.Test.YtfkjiiapldkoeaaGreatDoorP4
import Derived.Test.YtfkjiiapldkoeaaGreatDoorBtI
import Derived.Test.YtfkjiiapldkoeaaGreatDoorBtJ
import Derived.Test.YtfkjiiapldkoeaaGreatDoorBtK
set_option linter.all false
set_option maxRecDepth 100000
set_option maxHeartbeats 4000000
namespace Go.Sx.Ob
open Go.Proofs
section
variable {L:Lp} {K:XB->Hp->Prop} {h:Hp}
def jm (k:Int) (p:Option XC) (l c:Nat) (nm:XA) (p':Option XC) (l' c':Nat) (n sec:Int):List XB:=[.int .i64 k,.slice p l c,.string nm,.slice p' l' c',.int .u32 n,.int .i64 sec]
def mg {g:Nat} {e:TypeId} {xs:List XB} {k:Int} {p:Option XC} {l c:Nat} {nm:XA} {p':Option XC} {l' c':Nat} {n sec:Int} {cont:Int->Option XC->Nat->Nat->XA->Option XC->Nat->Nat->Int->Int->T}
  (bx:bf h g e xs) (hx:xs.length=6) (hk:∀ h',bf h' g e (jm k p l c nm p' l' c' n sec)->Ch [g] h h'->h'.size=h.size->cont k p l c nm p' l' c' n sec L K h') :
  (T.ak ⟨g,0,none⟩ [.int .i64 k,.slice p l c,.string nm,.slice p' l' c',.int .u32 n,.int .i64 sec] <| T.ah ⟨g,0,none⟩ [.int .i64,.slice 96,.string,.slice 109,.int .u32,.int .i64] cont) L K h:=by
 refine ap bx rfl (by rw [hx]; simp) ?_;intro h' b k1 z;rw [qZ _ _ _ (by rw [hx]; simp)] at b;have hd:xs.drop 6=[]:=Pp ae;have b:bf h' g e (jm k p l c nm p' l' c' n sec):=by simpa [jm,hx,hd] using b
 exact af b (k,(p,l,c),nm,(p',l',c'),n,sec,()) rfl (hk h' b k1 z)
end
def Jt (w:Nat):Int:=if w=2 then -1 else (w:Int)
def LC (h:Hp) (r:Except Nat (jM × Nat)) (u:XB) (h':Hp):Prop:=Ext h h'/\match r with
 | .error e=>∃ k p l c nm p' l' c' n sec w,u=.tuple #[.agg (jm k p l c nm p' l' c' n sec).toArray,.int .i64 w,.int .i64 (e:Int)]/\e≠0
 | .ok (t,w)=>∃ sl us se,u=.tuple #[Lh t.kind sl t.name se t.e.num t.sec,.int .i64 (Jt w),.int .i64 0]/\j5 h' h.size t sl us se
def ej {h:Hp} {p:Option XC} {l:Nat} {al:List In} (v:AH h p l al) {k:Nat} (hk:k<al.length):∃ a,p=some a/\bk h (a.add (k*1)) 0 [.slice al[k].p al[k].l al[k].c]:=v.cells k hk
def wF (a:XC):a.add (0*1)=a:=by simp [Addr.add]
def Ak {h : Hp} {b : Nat} {p : Option XC} {x : cd} (s : SL h b 96 10 p 1 1 [encI none 0 0 x]) (he : x.e.ay = []) : j5 h b (eP x) ⟨p, 1, 1⟩ [(⟨none, 0, 0⟩, x)] ⟨none, 0, 0⟩ :=
  ⟨⟨s, by intro u hu; have : u = (⟨none, 0, 0⟩, x) := by simpa using hu
          subst this;rw [he]
          exact SL.nil _ _ _ _, by intro u hu; have : u = (⟨none, 0, 0⟩, x) := by simpa using hu
                                   subst this;simp [aE], aj⟩, rfl, SL.nil _ _ _ _, .inr rfl⟩
def mw {ts:List Tok} {e:Nat} (h:jt ts=.error e):e=20:=by
 unfold jt at h;split at h
 ·split at h
  ·cases h
  ·injection h with h
   exact h.symm
 ·injection h with h
  exact h.symm
def AI {h:Hp} {p:Option XC} {l c:Nat} {al:List In} (v:AH h p l al) (hal:al.length<=2^32) (s:XA) :
  HC Tryz.prog 100 #[.string s,.slice p l c] h (LC h (dI s (al.map In.ts))):=by
 refine ba (args:=[.string s,.slice p l c]) mixed Tryz.func100 aB (rk s p l c) ?_;unfold nh aN aS aR aZ av aw aJ aI bh aQ bZ;have hl:=v.len;refine bm ?_;intro g1 b1 e1 z1;refine eZ (Fs s g1) ((if bX s=-2 then (0:Int) else bX s:Int),decide (bX s≠-2),()) rfl (ao ?_)
 have bad:∀ {gg:Hp} {k:Int} {nm:XA} {sec w:Int} {e:Nat} {p1 p2:Option XC} {l1 c1 l2 c2:Nat} {n1:Int} {L:Lp},Ext h gg->(∃ xs,bf gg h.size 134 xs/\xs.length=6)->dI s (al.map In.ts)=.error e->e≠0 ->
   (T.ak ⟨h.size,0,none⟩ [.int .i64 k,.slice p1 l1 c1,.string nm,.slice p2 l2 c2,.int .u32 n1,.int .i64 sec] <|
   T.ah ⟨h.size,0,none⟩ [.int .i64,.slice 96,.string,.slice 109,.int .u32,.int .i64] <| fun (n5:Int) (p6:Option XC) (l7:Nat) (l8:Nat) (s9:XA) (p10:Option XC) (l11:Nat) (l12:Nat) (n13:Int) (n14:Int) =>
   T.ret (.tuple #[.agg #[.int .i64 n5,.slice p6 l7 l8,.string s9,.slice p10 l11 l12,.int .u32 n13,.int .i64 n14],.int .i64 w,.int .i64 (e:Int)])) L (LC h (dI s (al.map In.ts))) gg:=by
  rintro gg k nm sec w e p1 p2 l1 c1 l2 c2 n1 L eg ⟨xs,bx,hx⟩ hA he;refine mg bx hx ?_;intro h' b' k' z';refine ⟨Ch.trans eg k' (fun i hi hl=>by simp at hi; omega),?_⟩;rw [hA];exact ⟨k,p1,l1,c1,nm,p2,l2,c2,n1,sec,w,rfl,he⟩
 have good:∀ {gg:Hp} {t:jM} {w:Nat} {wi:Int} {sl se:cH} {us:List (cH × cd)} {L:Lp},Ext h gg->(∃ xs,bf gg h.size 134 xs/\xs.length=6)->dI s (al.map In.ts)=.ok (t,w)->wi=Jt w->j5 gg (h.size+1) t sl us se ->
   (T.ak ⟨h.size,0,none⟩ [.int .i64 (t.kind:Int),.slice sl.p sl.l sl.c,.string t.name,.slice se.p se.l se.c,.int .u32 (t.e.num:Int),.int .i64 (t.sec:Int)] <|
   T.ah ⟨h.size,0,none⟩ [.int .i64,.slice 96,.string,.slice 109,.int .u32,.int .i64] <| fun (n5:Int) (p6:Option XC) (l7:Nat) (l8:Nat) (s9:XA) (p10:Option XC) (l11:Nat) (l12:Nat) (n13:Int) (n14:Int) =>
   T.ret (.tuple #[.agg #[.int .i64 n5,.slice p6 l7 l8,.string s9,.slice p10 l11 l12,.int .u32 n13,.int .i64 n14],.int .i64 wi,.int .i64 (0:Int)])) L (LC h (dI s (al.map In.ts))) gg:=by
  rintro gg t w wi sl se us L eg ⟨xs,bx,hx⟩ hA rfl A;refine mg bx hx ?_;intro h' b' k' z';refine ⟨Ch.trans eg k' (fun i hi hl=>by simp at hi; omega),?_⟩;rw [hA];exact ⟨sl,us,se,rfl,(A.an k' (fun i hi hl=>by simp at hi; omega)).mono ae⟩
 have bz:∀ {gg:Hp},Ext g1 gg->∃ xs,bf gg h.size 134 xs/\xs.length=6:=fun e=>⟨_,b1.an e aj,rfl⟩
 have hbad:bX s=-2\/(0<=bX s/\(al.length:Int)≠bX s)->dI s (al.map In.ts)=.error 20:=by
  intro hh;unfold dI;simp only;rw [OH (by rw [OI]; exact hh)]
 refine bG (cs:=[(false,[.int .i64]),(false,[.int .i64])]) (fun y h'=>h'=g1/\¬ (bX s=-2\/(0<=bX s/\((al.map In.ts).length:Int)≠bX s))) ?_ ?_
 ·refine ai (fun q=>?_) (fun q=>?_)
  ·have q:bX s=-2:=by simpa using q
   exact bad (e:=20) e1 (bz (Ch.refl _ _)) (hbad (.inl q)) bO
  have q:¬ bX s=-2:=by simpa using q
  rw [OG q];refine ai (fun r=>?_) (fun r=>?_)
  ·have r:=OE r;refine ai (fun u=>?_) (fun u=>?_)
   ·have u:¬ (l:Int)=bX s:=by simpa using u
    exact bad (e:=20) e1 (bz (Ch.refl _ _)) (hbad (.inr ⟨r,ae⟩)) bO
   ·have u:(l:Int)=bX s:=by simpa using u
    exact aO (cs:=[(false,[.int .i64]),(false,[.int .i64])]) ((0:Int),(0:Int),()) rfl rfl ⟨rfl,by rintro (x | x); exact q x; rw [OI] at x; omega⟩
  ·have r:=OF r;exact aO (cs:=[(false,[.int .i64]),(false,[.int .i64])]) ((0:Int),(0:Int),()) rfl rfl ⟨rfl,by rintro (x | x); exact q x; omega⟩
 rintro ⟨n5,n6,⟨⟩⟩ h9 ⟨e9,hcnt⟩;have e9:=e9.symm;subst e9;refine ao ?_;clear hbad;have hD:dI s (al.map In.ts)=(if s.data.toList=[112,111,111,108] then .ok (eP (dA 4),0)
 else if s.data.toList=[97,108,105,103,110] then match fa 1 256 (ag (al.map In.ts) 0) with
  | .error e=>.error e
  | .ok n=>if mv n then .ok (eP { dA 3 with n:=n },2) else .error 21
 else if s.data.toList=[115,112,97,99,101] then match fa 0 1048576 (ag (al.map In.ts) 0) with
  | .error e=>.error e
  | .ok n=>.ok (eP { dA 7 with n:=n },1)
 else if s.data.toList=[98,121,116,101] then match y9 5 (al.map In.ts) with
  | .error e=>.error e
  | .ok l=>.ok ({ cg with kind:=2,items:=l },1)
 else if s.data.toList=[119,111,114,100] then match y9 6 (al.map In.ts) with
  | .error e=>.error e
  | .ok l=>.ok ({ cg with kind:=2,items:=l },1)
 else if s.data.toList=[101,113,117] then match jt (ag (al.map In.ts) 0) with
  | .error e=>.error e
  | .ok s=>match bL (ag (al.map In.ts) 1) with
   | .error e=>.error e
   | .ok x=>.ok ({ cg with kind:=3,name:=s,e:=x },2)
 else if s.data.toList=[103,108,111,98,97,108] then match jt (ag (al.map In.ts) 0) with
  | .error e=>.error e
  | .ok s=>.ok ({ cg with kind:=4,name:=s },2)
 else match ag (al.map In.ts) 0 with
  | [t]=>if t.kind=1/\t.text.data.toList=[116,101,120,116] then .ok ({ cg with kind:=5 },2) else if t.kind=1/\t.text.data.toList=[100,97,116,97] then .ok ({ cg with kind:=5,sec:=1 },2) else .error 20
  | _=>.error 20):=by
  unfold dI y9;simp only;rw [OG hcnt]
  by_cases hz:al.map In.ts=[]
  ·simp only [hz,if_true] <;> rfl
  ·simp only [hz,if_false] <;> rfl
 have v1:=v.an e1;have hh1:g1.size=h.size+1:=z1;have arg:∀ i,(hi:i<al.length)->ag (al.map In.ts) i=al[i].ts:=by
  intro i hi;unfold ag;rw [OV,OO (by rw [OI]; exact hi),Option.getD_some,O4]
 have mem:∀ i,(hi:i<al.length)->al[i]∈al:=fun i hi=>O2 hi
 refine ai (fun q=>?_) (fun q=>?_)
 ·have q:s.data.toList=[112,111,111,108]:=(ByteArray.toList_eq s).symm.trans (eq_of_beq q);refine fW (p:=none) (l:=0) (c:=0) (x:=dA 4) ?_;intro h2 s2 e2 z2;exact good (t:=eP (dA 4)) (w:=0) (sl:=⟨some ⟨g1.size,0,none⟩,1,1⟩) (se:=⟨none,0,0⟩) (e1.trans e2) (bz e2) (hD.trans (OH q)) rfl (Ak (Sx.SL.mono s2 ae) rfl)
 have q1:¬ s.data.toList=[112,111,111,108]:=fun e=>ON q ((ByteArray.toList_eq s).trans e)
 rw [OG q1] at hD;refine ai (fun q=>?_) (fun q=>?_)
 ·have q:s.data.toList=[97,108,105,103,110]:=(ByteArray.toList_eq s).symm.trans (eq_of_beq q);rw [OH q] at hD;have hc:bX s=1:=by unfold bX; simp [q]
  rw [OI] at hcnt;have h1:0<al.length:=ae
  obtain ⟨a0,ha0,hc0⟩:=ej v1 h1;rw [wF] at hc0;refine aC ⟨ae,ae⟩ (au ha0 (aG ((al[0].p,al[0].l,al[0].c),()) hc0 (ao ?_)));refine aK (qQ (v1.lK _ (mem 0 h1)) (v1.bH _ (mem 0 h1)) (v.wf _ (mem 0 h1)) (v.many _ (mem 0 h1)) 1 256) ?_;rintro _ h2 ⟨rfl,e2⟩;rw [arg 0 h1] at hD;cases hn:fa 1 256 al[0].ts with
  | error e =>
   have he:=ff (v.wf _ (mem 0 h1)) hn;rw [hn] at hD;refine ⟨((0:Int),(e:Int),()),rfl,ao ?_⟩;refine aW (by simp; omega) ?_;refine fW (p:=none) (l:=0) (c:=0) (x:={ dA 3 with n:=0 }) ?_;intro h3 s3 e3 z3;exact bad (e:=e) (e1.trans (e2.trans e3)) (bz (e2.trans e3)) hD ae
  | ok n =>
   rw [hn] at hD;refine ⟨(n,(0:Int),()),rfl,ao ?_⟩;refine aX rfl (aM (xW h2 n) ?_);refine ai (fun r=>?_) (fun r=>?_)
   ·have r:mv n=false:=by simpa using r
    refine fW (p:=none) (l:=0) (c:=0) (x:={ dA 3 with n:=n }) ?_;intro h3 s3 e3 z3;exact bad (e:=21) (e1.trans (e2.trans e3)) (bz (e2.trans e3)) (hD.trans (OG (by rw [r]; simp))) bO
   ·have r:mv n=true:=by simpa using r
    refine fW (p:=none) (l:=0) (c:=0) (x:={ dA 3 with n:=n }) ?_;intro h3 s3 e3 z3;have hz2:=e2.size;exact good (t:=eP { dA 3 with n:=n }) (w:=2) (sl:=⟨some ⟨h2.size,0,none⟩,1,1⟩) (se:=⟨none,0,0⟩) (e1.trans (e2.trans e3)) (bz (e2.trans e3)) (hD.trans (OH r)) rfl (Ak (Sx.SL.mono s3 ae) rfl)
 have q2:¬ s.data.toList=[97,108,105,103,110]:=fun e=>ON q ((ByteArray.toList_eq s).trans e)
 rw [OG q2] at hD;refine ai (fun q=>?_) (fun q=>?_)
 ·have q:s.data.toList=[115,112,97,99,101]:=(ByteArray.toList_eq s).symm.trans (eq_of_beq q);rw [OH q] at hD;have hc:bX s=1:=by unfold bX; simp [q]
  rw [OI] at hcnt;have h1:0<al.length:=ae
  obtain ⟨a0,ha0,hc0⟩:=ej v1 h1;rw [wF] at hc0;refine aC ⟨ae,ae⟩ (au ha0 (aG ((al[0].p,al[0].l,al[0].c),()) hc0 (ao ?_)));refine aK (qQ (v1.lK _ (mem 0 h1)) (v1.bH _ (mem 0 h1)) (v.wf _ (mem 0 h1)) (v.many _ (mem 0 h1)) 0 1048576) ?_;rintro _ h2 ⟨rfl,e2⟩;rw [arg 0 h1] at hD;cases hn:fa 0 1048576 al[0].ts with
  | error e =>
   have he:=ff (v.wf _ (mem 0 h1)) hn;rw [hn] at hD;refine ⟨((0:Int),(e:Int),()),rfl,ao ?_⟩;refine fW (p:=none) (l:=0) (c:=0) (x:={ dA 7 with n:=0 }) ?_;intro h3 s3 e3 z3;exact bad (e:=e) (e1.trans (e2.trans e3)) (bz (e2.trans e3)) hD ae
  | ok n =>
   rw [hn] at hD;refine ⟨(n,(0:Int),()),rfl,ao ?_⟩;refine fW (p:=none) (l:=0) (c:=0) (x:={ dA 7 with n:=n }) ?_;intro h3 s3 e3 z3;have hz2:=e2.size;exact good (t:=eP { dA 7 with n:=n }) (w:=1) (sl:=⟨some ⟨h2.size,0,none⟩,1,1⟩) (se:=⟨none,0,0⟩) (e1.trans (e2.trans e3)) (bz (e2.trans e3)) hD rfl (Ak (Sx.SL.mono s3 ae) rfl)
 have q3:¬ s.data.toList=[115,112,97,99,101]:=fun e=>ON q ((ByteArray.toList_eq s).trans e)
 rw [OG q3] at hD;refine ai (fun q=>?_) (fun q=>?_)
 ·have q:s.data.toList=[98,121,116,101]:=(ByteArray.toList_eq s).symm.trans (eq_of_beq q);rw [OH q] at hD;refine aK (BO (k:=5) ae v1 hal) ?_;rintro u h2 ⟨e2,hu⟩;cases hn:y9 5 (al.map In.ts) with
  | error e =>
   rw [hn] at hD hu;obtain ⟨rfl,he⟩:=hu;refine ⟨((none,0,0),(e:Int),()),rfl,ao ?_⟩;exact bad (e:=e) (e1.trans e2) (bz e2) hD ae
  | ok li =>
   rw [hn] at hD hu;obtain ⟨p5,l5,c5,us,rfl,A,hus⟩:=hu;refine ⟨((p5,l5,c5),(0:Int),()),rfl,ao ?_⟩;exact good (t:={ cg with kind:=2,items:=li }) (w:=1) (sl:=⟨p5,l5,c5⟩) (se:=⟨none,0,0⟩) (us:=us) (e1.trans e2) (bz e2) hD rfl ⟨A.mono ae,hus,SL.nil _ _ _ _,.inr rfl⟩
 have q4:¬ s.data.toList=[98,121,116,101]:=fun e=>ON q ((ByteArray.toList_eq s).trans e)
 rw [OG q4] at hD;refine ai (fun q=>?_) (fun q=>?_)
 ·have q:s.data.toList=[119,111,114,100]:=(ByteArray.toList_eq s).symm.trans (eq_of_beq q);rw [OH q] at hD;refine aK (BO (k:=6) ae v1 hal) ?_;rintro u h2 ⟨e2,hu⟩;cases hn:y9 6 (al.map In.ts) with
  | error e =>
   rw [hn] at hD hu;obtain ⟨rfl,he⟩:=hu;refine ⟨((none,0,0),(e:Int),()),rfl,ao ?_⟩;exact bad (e:=e) (e1.trans e2) (bz e2) hD ae
  | ok li =>
   rw [hn] at hD hu;obtain ⟨p5,l5,c5,us,rfl,A,hus⟩:=hu;refine ⟨((p5,l5,c5),(0:Int),()),rfl,ao ?_⟩;exact good (t:={ cg with kind:=2,items:=li }) (w:=1) (sl:=⟨p5,l5,c5⟩) (se:=⟨none,0,0⟩) (us:=us) (e1.trans e2) (bz e2) hD rfl ⟨A.mono ae,hus,SL.nil _ _ _ _,.inr rfl⟩
 have q5:¬ s.data.toList=[119,111,114,100]:=fun e=>ON q ((ByteArray.toList_eq s).trans e)
 rw [OG q5] at hD;refine ai (fun q=>?_) (fun q=>?_)
 ·have q:s.data.toList=[101,113,117]:=(ByteArray.toList_eq s).symm.trans (eq_of_beq q);rw [OH q] at hD;have hc:bX s=2:=by unfold bX; simp [q]
  rw [OI] at hcnt;have h1:0<al.length:=ae
  have h2:1<al.length:=ae
  obtain ⟨a0,ha0,hc0⟩:=ej v1 h1;rw [wF] at hc0;refine aC ⟨ae,ae⟩ (au ha0 (aG ((al[0].p,al[0].l,al[0].c),()) hc0 (ao ?_)));rw [arg 0 h1,arg 1 h2] at hD;cases hn:jt al[0].ts with
  | error e =>
   have he:=mw hn;rw [hn] at hD;refine eZ (w8 (v1.lK _ (mem 0 h1)) (v.text _ (mem 0 h1))) ((⟨#[]⟩:XA),(e:Int),()) (by rw [hn]; rfl) ?_;refine ao ?_;refine aX (by simp; omega) ?_;exact bad (e:=e) e1 (bz (Ch.refl _ _)) hD ae
  | ok nm =>
   rw [hn] at hD;refine eZ (w8 (v1.lK _ (mem 0 h1)) (v.text _ (mem 0 h1))) (nm,(0:Int),()) (by rw [hn]; rfl) ?_;refine ao ?_;refine aW rfl ?_;obtain ⟨a1,ha1,hc1⟩:=ej v1 h2;rw [ha0] at ha1;obtain rfl:=O1 ha1;refine aC ⟨ae,ae⟩ (au ha0 (aG ((al[1].p,al[1].l,al[1].c),()) hc1 (ao ?_)));refine aK (kG (v1.lK _ (mem 1 h2)) (v1.bH _ (mem 1 h2)) (v.wf _ (mem 1 h2)) (v.many _ (mem 1 h2))) ?_;rintro u h3 ⟨e3,hu⟩;cases hx:bL al[1].ts with
   | error e =>
    rw [hx] at hu hD;have he:=dC (v.wf _ (mem 1 h2)) hx;have hu:u=.tuple #[.agg #[.slice none 0 0,.int .u32 0],.int .i64 (e:Int)]:=hu;subst hu;refine ⟨((none,0,0),(0:Int),(e:Int),()),rfl,ao ?_⟩;refine bm ?_;intro h4 b4 e4 z4;refine ap b4 rfl aj ?_;intro h5 b5 k5 z5;have b5:bf h5 h3.size 94 [.slice none 0 0,.int .u32 (0:Int)]:=b5;refine af b5 ((none,0,0),(0:Int),()) rfl (ao ?_);have e35:Ext h3 h5:=Ch.trans e4 k5 (fun i hi hl=>by simp at hi; omega);exact bad (e:=e) (e1.trans (e3.trans e35)) (bz (e3.trans e35)) hD ae
   | ok x =>
    rw [hx] at hu hD;obtain ⟨p5,l5,c5,rfl,sl,gd⟩:=hu;refine ⟨((p5,l5,c5),(x.num:Int),(0:Int),()),rfl,ao ?_⟩;refine bm ?_;intro h4 b4 e4 z4;refine ap b4 rfl aj ?_;intro h5 b5 k5 z5;have b5:bf h5 h3.size 94 [.slice p5 l5 c5,.int .u32 (x.num:Int)]:=b5;refine af b5 ((p5,l5,c5),(x.num:Int),()) rfl (ao ?_);have e35:Ext h3 h5:=Ch.trans e4 k5 (fun i hi hl=>by simp at hi; omega);exact good (t:={ cg with kind:=3,name:=nm,e:=x }) (w:=2) (sl:=⟨none,0,0⟩) (se:=⟨p5,l5,c5⟩) (us:=[]) (e1.trans (e3.trans e35)) (bz (e3.trans e35)) hD rfl ⟨dO.nil _ _,rfl,(Sx.SL.mono sl ae).bd e35 aj,.inl rfl⟩
 have q6:¬ s.data.toList=[101,113,117]:=fun e=>ON q ((ByteArray.toList_eq s).trans e)
 rw [OG q6] at hD;refine ai (fun q=>?_) (fun q=>?_)
 ·have q:s.data.toList=[103,108,111,98,97,108]:=(ByteArray.toList_eq s).symm.trans (eq_of_beq q);rw [OH q] at hD;have hc:bX s=1:=by unfold bX; simp [q]
  rw [OI] at hcnt;have h1:0<al.length:=ae
  obtain ⟨a0,ha0,hc0⟩:=ej v1 h1;rw [wF] at hc0;refine aC ⟨ae,ae⟩ (au ha0 (aG ((al[0].p,al[0].l,al[0].c),()) hc0 (ao ?_)));rw [arg 0 h1] at hD;cases hn:jt al[0].ts with
  | error e =>
   have he:=mw hn;rw [hn] at hD;refine eZ (w8 (v1.lK _ (mem 0 h1)) (v.text _ (mem 0 h1))) ((⟨#[]⟩:XA),(e:Int),()) (by rw [hn]; rfl) ?_;refine ao ?_;exact bad (e:=e) e1 (bz (Ch.refl _ _)) hD ae
  | ok nm =>
   rw [hn] at hD;refine eZ (w8 (v1.lK _ (mem 0 h1)) (v.text _ (mem 0 h1))) (nm,(0:Int),()) (by rw [hn]; rfl) ?_;refine ao ?_;exact good (t:={ cg with kind:=4,name:=nm }) (w:=2) (sl:=⟨none,0,0⟩) (se:=⟨none,0,0⟩) (us:=[]) e1 (bz (Ch.refl _ _)) hD rfl ⟨dO.nil _ _,rfl,SL.nil _ _ _ _,.inl rfl⟩
 have q7:¬ s.data.toList=[103,108,111,98,97,108]:=fun e=>ON q ((ByteArray.toList_eq s).trans e)
 rw [OG q7] at hD;have hcn:bX s=1:=by
  unfold bX at hcnt ⊢;simp only [if_neg q1,if_neg q6] at hcnt ⊢
  by_cases hs:s.data.toList=[115,101,99,116,105,111,110]
  ·simp [hs]
  ·exfalso;apply hcnt
   left
   simp [q2,q3,q7,hs,q4,q5]
 rw [OI] at hcnt;have h1:0<al.length:=ae
 obtain ⟨a0,ha0,hc0⟩:=ej v1 h1;rw [wF] at hc0;have va:=v1.lK _ (mem 0 h1);have hag:=arg 0 h1;rw [hag] at hD;refine aC ⟨ae,ae⟩ (au ha0 (aG ((al[0].p,al[0].l,al[0].c),()) hc0 (ao ?_)));generalize al[0]=a at *;have hla:=va.len;refine ai (fun r=>?_) (fun r=>?_)
 ·have r:a.l=1:=fe r;obtain ⟨t,ht⟩:=vk (show a.ts.length=1 from ae);rw [ht] at va hD;obtain ⟨aa,haa,c0⟩:=va.cells 0 aj;have c0:bk g1 (aa.add (0*4)) 0 (enc t):=c0;obtain ⟨u1,u2,_⟩:=fj c0;simp only at hD;refine aC ⟨ae,ae⟩ (au ha0 (aG ((a.p,a.l,a.c),()) hc0 (ao ?_)));refine aC ⟨ae,ae⟩ (au haa (aG ((t.kind:Int),()) u1 (ao ?_)));refine ai (fun g=>?_) (fun g=>?_)
  ·have g:t.kind=1:=fe g;refine aC ⟨ae,ae⟩ (au ha0 (aG ((a.p,a.l,a.c),()) hc0 (ao ?_)));refine aC ⟨ae,ae⟩ (au haa (aG (t.text,()) u2 (ao ?_)));refine ai (fun w=>?_) (fun w=>?_)
   ·have w:t.text.data.toList=[116,101,120,116]:=(ByteArray.toList_eq _).symm.trans (eq_of_beq w);rw [OH ⟨g,w⟩] at hD;exact good (t:={ cg with kind:=5 }) (w:=2) (sl:=⟨none,0,0⟩) (se:=⟨none,0,0⟩) (us:=[]) e1 (bz (Ch.refl _ _)) hD rfl ⟨dO.nil _ _,rfl,SL.nil _ _ _ _,.inl rfl⟩
   have w:¬ t.text.data.toList=[116,101,120,116]:=fun e=>ON w ((ByteArray.toList_eq _).trans e)
   rw [OG (fun hh=>w hh.2)] at hD;refine ai (fun x=>?_) (fun x=>?_)
   ·have x:t.text.data.toList=[100,97,116,97]:=(ByteArray.toList_eq _).symm.trans (eq_of_beq x);rw [OH ⟨g,x⟩] at hD;exact good (t:={ cg with kind:=5,sec:=1 }) (w:=2) (sl:=⟨none,0,0⟩) (se:=⟨none,0,0⟩) (us:=[]) e1 (bz (Ch.refl _ _)) hD rfl ⟨dO.nil _ _,rfl,SL.nil _ _ _ _,.inl rfl⟩
   have x:¬ t.text.data.toList=[100,97,116,97]:=fun e=>ON x ((ByteArray.toList_eq _).trans e)
   rw [OG (fun hh=>x hh.2)] at hD;exact bad (e:=20) e1 (bz (Ch.refl _ _)) hD bO
  ·have g:¬ t.kind=1:=fy g;rw [OG (fun hh=>g hh.1),OG (fun hh=>g hh.1)] at hD;exact bad (e:=20) e1 (bz (Ch.refl _ _)) hD bO
 ·have r:¬ a.l=1:=fy r;have hD:dI s (al.map In.ts)=.error 20:=by
   rw [hD];cases hts:a.ts with
   | nil=>rfl
   | cons t r =>
    cases r with
    | nil=>rw [hts] at hla; simp at hla; omega
    | cons _ _=>rfl
  exact bad (e:=20) e1 (bz (Ch.refl _ _)) hD bO
def sN {α:Type}:Except Nat α->Int
 | .error e=>(e:Int)
 | .ok _=>0
def Dg:Except Nat Int->Int
 | .error _=>0
 | .ok n=>n
section
variable {L:Lp} {K:XB->Hp->Prop} {hh:Hp}
def K8 {a5 o:Nat} {e5:TypeId} {xs:List XB} {q:Option XC} {m d:Nat} {ts:List Tok} (vA:Vw hh q m d ts) (z:Bool) (b:bf hh a5 e5 xs) (ho:o<xs.length) {cont:Int->T}
  (hk:∀ h',Ch [a5] hh h'->bf h' a5 e5 (xs.set o (.int .i64 (Dg (dU z ts))))->cont (sN (dU z ts)) L K h') :
  (T.call Tryz.prog 162 [.slice q m d,.bool z] true [(false,[.int .i64]),(false,[.int .i64])] <| fun (n10:Int) (n11:Int)=>T.ak ⟨a5,o,none⟩ [.int .i64 n10] <| cont n11) L K hh:=by
 refine eZ (Eu vA z) (Dg (dU z ts),sN (dU z ts),()) (by cases dU z ts <;> rfl) ?_;refine ao ?_;refine ap b rfl (by simp; omega) ?_;intro h' b' k' z';exact hk h' k' b'
def Fe {q:Option XC} {m d:Nat} {ts:List Tok} (vA:Vw hh q m d ts) (hp:∀ i,i∈aE q->i<hh.size) (w:Wf ts) (hts:ts.length<=2^40) (hz:∀ t,t∈ts->t.text.size<=9223372036854775807) {lo hi:Int} {cont:Int->Int->T}
  (hk:∀ h',Ext hh h'->cont (Dg (fa lo hi ts)) (sN (fa lo hi ts)) L K h') :
  (T.call Tryz.prog 163 [.slice q m d,.int .i64 lo,.int .i64 hi] true [(false,[.int .i64]),(false,[.int .i64])] cont) L K hh:=by
 refine aK (Kz vA hp w hts hz lo hi) ?_;rintro _ h' ⟨rfl,e⟩;exact ⟨(Dg (fa lo hi ts),sN (fa lo hi ts),()),by cases fa lo hi ts <;> rfl,hk h' e⟩
def KO {a5:Nat} {x:cd} {p:Option XC} {l c:Nat} {q:Option XC} {m d:Nat} {ts:List Tok} (vA:Vw hh q m d ts) (hp:∀ i,i∈aE q->i<hh.size) (w:Wf ts) (hts:ts.length<=2^40) (hz:∀ t,t∈ts->t.text.size<=9223372036854775807)
  (b:bf hh a5 96 (encI p l c x)) (ha5:a5<hh.size) {cont:Int->T}
  (hk:∀ h',Ch [a5] hh h'->(match bL ts with | .error _=>∃ xs,bf h' a5 96 xs/\xs.length=10 | .ok y=>∃ p' l' c',bf h' a5 96 (encI p' l' c' (nZ x y))/\SL h' hh.size 109 2 p' l' c' (y.ay.map cB))->cont (sN (bL ts)) L K h') :
  (T.call Tryz.prog 164 [.slice q m d] true [(true,[.slice 109,.int .u32]),(false,[.int .i64])] <| fun (p24:Option XC) (l25:Nat) (l26:Nat) (n27:Int) (n28:Int)=>T.ak ⟨a5,7,none⟩ [.slice p24 l25 l26,.int .u32 n27] <| cont n28) L K hh:=by
 refine aK (sV vA hp w hts hz) ?_;rintro u h1 ⟨e1,hu⟩;cases hx:bL ts with
 | error e =>
  rw [hx] at hu hk;have hu:u=.tuple #[.agg #[.slice none 0 0,.int .u32 0],.int .i64 (e:Int)]:=hu;subst hu;refine ⟨((none,0,0),(0:Int),(e:Int),()),rfl,ao ?_⟩;refine ap (b.an e1 aj) rfl (by simp [encI]) ?_;intro h2 b2 k2 z2;exact hk h2 (Ch.trans (e1.mono aj) k2 (fun i hi _=>hi)) ⟨_,b2,by rw [jD]; rfl⟩
 | ok y =>
  rw [hx] at hu hk;obtain ⟨p5,l5,c5,rfl,sl,gd⟩:=hu;refine ⟨((p5,l5,c5),(y.num:Int),(0:Int),()),rfl,ao ?_⟩;refine ap (b.an e1 aj) rfl (by simp [encI]) ?_;intro h2 b2 k2 z2;exact hk h2 (Ch.trans (e1.mono aj) k2 (fun i hi _=>hi)) ⟨p5,l5,c5,b2,Sx.SL.bd sl k2 (fun i hi hm=>by have:=(Sx.SL.bH sl hi).1; simp at hm; omega)⟩
end
def zA (s:Nat):Option Bool:=if s=2\/s=4\/s=6\/s=8\/s=10\/s=11\/s=13 then some false else if s=3\/s=5\/s=7 then some true else none
def Ir (op:Int) (s:Nat) (args:List (List Tok)):Except Nat cd :=
 match zA s with
 | some z=>cS (ef op) (.rP z false false) (ag args 0)
 | none=>.ok (ef op)
def kA (s:Nat):Int:=if (zA s).isSome then 1 else 0
def Nz (s:Nat):List F1:=if (zA s).isSome then (dq s).drop 1 else dq s
def NR (s:Nat) (args:List (List Tok)):List (List Tok):=if (zA s).isSome then args.drop 1 else args
def Gn {op : Int} {s : Nat} (h1 : 1 <= s) (h2 : s <= 13) {args : List (List Tok)} (hl : (dq s).length = args.length) : dK (ef op) (dq s) args = match Ir op s args with
    | .error e => .error e
    | .ok x => dK x (Nz s) (NR s args) := by
  have : s = 1 \/ s = 2 \/ s = 3 \/ s = 4 \/ s = 5 \/ s = 6 \/ s = 7 \/ s = 8 \/ s = 9 \/ s = 10 \/ s = 11 \/ s = 12 \/ s = 13 :=ae
  rcases this with rfl | rfl | rfl | rfl | rfl | rfl | rfl | rfl | rfl | rfl | rfl | rfl | rfl
  all_goals first
    | rfl
    | (cases args with
       | nil => simp [dq] at hl
       | cons a args => rfl)
def LA (B:Nat) (e:Int):T :=
 T.ak ⟨B,0,none⟩ zI <|
 T.ah ⟨B,0,none⟩ [.int .i64,.string,.int .i64,.int .i64,.int .i64,.int .i32,.int .i64,.slice 109,.int .u32,.int .i64] <| fun (n12:Int) (s13:XA) (n14:Int) (n15:Int) (n16:Int) (n17:Int) (n18:Int) (p19:Option XC) (l20:Nat) (l21:Nat) (n22:Int) (n23:Int) =>
 aw #[.agg #[.int .i64 n12,.string s13,.int .i64 n14,.int .i64 n15,.int .i64 n16,.int .i32 n17,.int .i64 n18,.slice p19 l20 l21,av n22,.int .i64 n23],.int .i64 e]
def wT {L:Lp} {h gg:Hp} {e:Nat} {r:Except Nat cd} (eg:Ext h gg) (bx:bf gg h.size 96 zI) (hA:r=.error e):LA h.size (e:Int) L (HR h r) gg:=by
 unfold LA av aw;refine ap bx rfl (by simp [zI]) ?_;intro g' b' k' z';have b':bf g' h.size 96 zI:=b';refine af b' ((0:Int),(⟨#[]⟩:XA),(0:Int),(0:Int),(0:Int),(0:Int),(0:Int),(none,0,0),(0:Int),(0:Int),()) rfl ?_;refine ⟨Ch.trans eg k' (fun i hi hl=>by simp at hi; omega),?_⟩;rw [hA] <;> rfl
def lc {x:cd} {z s t:Bool} {ts:List Tok} {n:Int} (h:dU z ts=.ok n):cS x (.rP z s t) ts=.ok (if t then dy x n else if s then gk x n else pG x n):=by unfold cS; simp only [h]
def iT {x:cd} {z s t:Bool} {ts:List Tok} {e:Nat} (h:dU z ts=.error e):cS x (.rP z s t) ts=.error e:=by unfold cS; simp only [h]
def Hi {x:cd} {lo hi:Int} {ts:List Tok} {n:Int} (h:fa lo hi ts=.ok n):cS x (.BQ lo hi) ts=.ok (dy x n):=by unfold cS; simp only [h]
def FT {x:cd} {lo hi:Int} {ts:List Tok} {e:Nat} (h:fa lo hi ts=.error e):cS x (.BQ lo hi) ts=.error e:=by unfold cS; simp only [h]
def J1 (g7:Hp) (a5:Nat) (r1:Except Nat cd) (k:Int) (n6 n7:Int) (h':Hp):Prop:=Ch [a5] g7 h'/\match r1 with
 | .error e=>n6=(e:Int)/\(e=20\/e=21)
 | .ok x=>n6=0/\n7=k/\bf h' a5 96 (encI none 0 0 x)
def J2 (g7:Hp) (a5:Nat) (r:Except Nat cd) (n9 n10:Int) (h':Hp):Prop:=Ch [a5] g7 h'/\match r with
 | .error e=>n9=(e:Int)/\(e=20\/e=21)
 | .ok x=>n9=0/\n10=x.inst.n/\(-2147483648<=x.inst.n/\x.inst.n<2147483648)/\∃ p l c,bf h' a5 96 (encI p l c (dy x 0))/\SL h' (a5+1) 109 2 p l c (x.e.ay.map cB)
def H5 {h:Hp} {op:Nat} (h1:1<=op) (h2:op<=43) {p:Option XC} {l c:Nat} {al:List In} (v:AH h p l al) (hal:al.length<=2^40) :
  HC Tryz.prog 134 #[.int .i64 (op:Int),.slice p l c] h (HR h (eV (op:Int) (al.map In.ts))):=by
 refine ba (args:=[.int .i64 (op:Int),.slice p l c]) mixed Tryz.func134 aB (oJ op p l c) ?_;unfold jS cv bW cU aS aZ av aw aJ aI bh aQ;refine bm ?_;intro g1 b1 e1 z1;refine aK (Hv g1 (op:Int) ⟨ae,ae⟩) ?_;rintro _ g2 ⟨rfl,e2⟩;refine ⟨((dB (op:Int):Int),()),rfl,ao ?_⟩;have hs':∀ k:Fin 44,1<=k.1->1<=dB (k.1:Int)/\dB (k.1:Int)<=13:=bO
 have hs:=hs' ⟨op,ae⟩ h1;simp only at hs;clear hs';obtain ⟨r,hr⟩:∃ r,eV (op:Int) (al.map In.ts)=r:=⟨_,rfl⟩
 rw [hr];unfold eV at hr;generalize dB (op:Int)=s at hs hr ⊢;refine eZ (I6 s hs.1 hs.2 g2) (((dq s).length:Int),()) rfl (ao ?_);have b1:bf g2 h.size 96 zI:=b1.an e2 aj;have e02:=e1.trans e2;have hl:=v.len;refine ai (fun q=>?_) (fun q=>?_)
 ·have q:¬ l=(dq s).length:=by
   have:¬ (l:Int)=((dq s).length:Int):=by simpa using q
   omega
  exact wT e02 b1 (by rw [<- hr,OH (by rw [OI]; omega)])
 have q:(dq s).length=al.length:=by
  have:(l:Int)=((dq s).length:Int):=by simpa using q
  omega
 rw [OG (by rw [OI]; omega),Gn hs.1 hs.2 (by rw [OI]; exact q)] at hr;refine bm ?_;intro g6 b6 e6 z6;refine ap b6 rfl aj ?_;intro g7 b7 k7 z7;have b7:bf g7 g2.size 96 (encI none 0 0 (ef (op:Int))):=b7;have e27:Ext g2 g7:=Ch.trans e6 k7 (fun i hi hl=>by simp at hi; omega);have e07:=e02.trans e27;have b17:=b1.an e27 aj;have hlt1:=b1.lt;have hz7:g7.size=g2.size+1:=by rw [z7,z6]
 have v7:=v.an e07;have mem:∀ i,(hi:i<al.length)->al[i]∈al:=fun i hi=>O2 hi
 have arg:∀ i,(hi:i<al.length)->ag (al.map In.ts) i=al[i].ts:=by
  intro i hi;unfold ag;rw [OV,OO (by rw [OI]; exact hi),Option.getD_some,O4]
 have eX:∀ {hh:Hp},Ch [g2.size] g7 hh->Ext h hh:=fun k=>Ch.trans e07 k (fun i hi hl=>by have:=e02.size; simp at hi; omega)
 obtain ⟨r1,hr1⟩:∃ r1,Ir (op:Int) s (al.map In.ts)=r1:=⟨_,rfl⟩
 rw [hr1] at hr;refine bG (cs:=[(false,[.int .i64]),(false,[.int .i64])]) (fun y h'=>J1 g7 g2.size r1 (kA s) y.1 y.2.1 h') ?_ ?_
 ·have arm:∀ {z:Bool} {L:Lp} {K:XB->Hp->Prop} (h0:0<al.length),Ir (op:Int) s (al.map In.ts)=cS (ef (op:Int)) (.rP z false false) (ag (al.map In.ts) 0)->(∀ n h',J1 g7 g2.size r1 1 n 1 h'->(T.again 0 [.int .i64 n,.int .i64 (1:Int)]) L K h') ->
    (T.need (((0:Int)<=(0:Int))/\((0:Int)<(l:Int))) <|
    T.aA p <| fun (a6:XC) =>
    T.ah a6 [.slice 236] <| fun (p7:Option XC) (l8:Nat) (l9:Nat) =>
    T.call Tryz.prog 162 [.slice p7 l8 l9,.bool z] true [(false,[.int .i64]),(false,[.int .i64])] <| fun (n10:Int) (n11:Int) =>
    T.ak (((⟨g2.size,0,none⟩:XC).add 2).add 1) [.int .i64 n10] <|
    T.again 0 [.int .i64 n11,.int .i64 (1:Int)]) L K g7:=by
   intro z L K h0 hA hk;obtain ⟨a0,ha0,hc0⟩:=ej v7 h0;rw [wF] at hc0;rw [arg 0 h0,hr1] at hA;refine aC ⟨ae,ae⟩ (au ha0 (aG ((al[0].p,al[0].l,al[0].c),()) hc0 (ao ?_)));rw [az,az];refine K8 (v7.lK _ (mem 0 h0)) z b7 (by simp [encI]) (cont:=fun n11=>T.again 0 [.int .i64 n11,.int .i64 (1:Int)]) ?_;intro h' k' b';refine hk _ _ ⟨k',?_⟩;cases hg:dU z al[0].ts with
   | error e =>
    rw [iT hg] at hA;rw [hA];exact ⟨rfl,.inl (jI hg)⟩
   | ok n =>
    rw [lc hg] at hA;rw [hg] at b';rw [hA];exact ⟨rfl,rfl,b'⟩
  have non:∀ {L:Lp} {K:XB->Hp->Prop},Ir (op:Int) s (al.map In.ts)=.ok (ef (op:Int))->(∀ h',J1 g7 g2.size r1 0 0 0 h'->(T.again 0 [.int .i64 (0:Int),.int .i64 (0:Int)]) L K h')->(T.again 0 [.int .i64 (0:Int),.int .i64 (0:Int)]) L K g7:=by
   intro L K hA hk;rw [hr1] at hA;exact hk g7 ⟨Ch.refl _ _,by rw [hA]; exact ⟨rfl,rfl,b7⟩⟩
  have:s=1\/s=9\/s=12\/s=2\/s=3\/s=4\/s=5\/s=6\/s=7\/s=8\/s=10\/s=11\/s=13:=ae
  rcases this with rfl | rfl | rfl | this
  iterate 3
   ·repeat (first | refine aX rfl ?_ | refine aW rfl ?_)
    exact non rfl (fun h' j=>aO (cs:=[(false,[.int .i64]),(false,[.int .i64])]) ((0:Int),(0:Int),()) rfl rfl j)
  rcases this with rfl | rfl | rfl | rfl | rfl | rfl | rfl | rfl | rfl | rfl
  all_goals
   repeat (first | refine aX rfl ?_ | refine aW rfl ?_)
   exact arm (by rw [<- q]; decide) rfl (fun n h' j=>aO (cs:=[(false,[.int .i64]),(false,[.int .i64])]) (n,(1:Int),()) rfl rfl j)
 rintro ⟨n6,n7,⟨⟩⟩ g8 ⟨k8,hJ⟩;simp only at hJ;refine ao ?_;have e08:=eX k8;have b18:=b17.an k8 (by simp; omega);cases r1 with
 | error e =>
  obtain ⟨rfl,he⟩:=hJ;refine aX (by simp; omega) ?_;exact wT e08 b18 hr.symm
 | ok x =>
 obtain ⟨rfl,rfl,b8⟩:=hJ;refine aW rfl ?_;simp only at hr;have v8:=v.an e08;have hz8:=k8.size;have hx0:x.inst.n=0/\x.e=fB:=by
  unfold Ir at hr1;cases hz:zA s with
  | none=>rw [hz] at hr1; injection hr1 with hr1; subst hr1; exact ⟨rfl,rfl⟩
  | some z =>
   rw [hz] at hr1;simp only at hr1;cases hg:dU z (ag (al.map In.ts) 0) with
   | error e=>rw [iT hg] at hr1; cases hr1
   | ok n=>rw [lc hg] at hr1; injection hr1 with hr1; subst hr1; exact ⟨rfl,rfl⟩
 have hput:dy x 0=x:=by
  obtain ⟨k1,k2,⟨i1,i2,i3,i4,i5⟩,k4,k5⟩:=x
  have:i4=0:=hx0.1
  subst this;rfl
 have cC:∀ {hh:Hp},Ch [g2.size] g8 hh->Ch [g2.size] g7 hh:=fun k=>Ch.trans k8 k (fun i hi _=>hi)
 have atA:∀ {i:Nat} (hi:i<al.length) {L:Lp} {K:XB->Hp->Prop} {cont:Option XC->Nat->Nat->T} {hh:Hp},Ch [g2.size] g8 hh->cont al[i].p al[i].l al[i].c L K hh->∃ a,p=some a/\T.ah (a.add (i*1)) [.slice 236] cont L K hh:=by
  intro i hi L K cont hh k hc;obtain ⟨a,ha,hca⟩:=ej (v.an (eX (cC k))) hi;exact ⟨a,ha,aG ((al[i].p,al[i].l,al[i].c),()) hca hc⟩
 refine bG (cs:=[(false,[.int .i64]),(false,[.int .i64]),(false,[.int .i64])]) (fun y h'=>J2 g7 g2.size r y.2.1 y.2.2.1 h') ?_ ?_
 ·
  have non:r=.ok x->∀ {L:Lp} {K:XB->Hp->Prop},(∀ h',J2 g7 g2.size r 0 0 h'->(T.again 0 [.int .i64 (0:Int),.int .i64 (0:Int),.int .i64 (0:Int)]) L K h')->(T.again 0 [.int .i64 (0:Int),.int .i64 (0:Int),.int .i64 (0:Int)]) L K g8:=by
   intro hA L K hk;refine hk g8 ⟨k8,?_⟩;rw [hA];refine ⟨rfl,hx0.1.symm,by rw [hx0.1]; omega,none,0,0,by rw [hput]; exact b8,?_⟩;rw [hx0.2];exact SL.nil _ _ _ _
  have two:∀ {z:Bool} (hi:1<al.length) {L:Lp} {K:XB->Hp->Prop} {cont:Int->T},(∀ h',Ch [g2.size] g8 h'->(∀ n,dU z al[1].ts=.ok n->bf h' g2.size 96 (encI none 0 0 (gk x n)))->cont (sN (dU z al[1].ts)) L K h') ->
    (T.need (((0:Int)<=(1:Int))/\((1:Int)<(l:Int))) <|
    T.aA p <| fun (a8:XC) =>
    T.ah (a8.add 1) [.slice 236] <| fun (p9:Option XC) (l10:Nat) (l11:Nat) =>
    T.call Tryz.prog 162 [.slice p9 l10 l11,.bool z] true [(false,[.int .i64]),(false,[.int .i64])] <| fun (n12:Int) (n13:Int) =>
    T.ak (((⟨g2.size,0,none⟩:XC).add 2).add 2) [.int .i64 n12] <| cont n13) L K g8:=by
   intro z hi L K cont hk;obtain ⟨a,ha,hca⟩:=ej v8 hi;refine aC ⟨ae,ae⟩ (au ha (aG ((al[1].p,al[1].l,al[1].c),()) hca (ao ?_)));rw [az,az];refine K8 (v8.lK _ (mem 1 hi)) z b8 (by simp [encI]) (cont:=cont) ?_;intro h' k' b';refine hk h' k' (fun n hn=>?_);rw [hn] at b';exact b'
  have num:∀ {i:Nat} {lo hi:Int} (hi':i<al.length) {L:Lp} {K:XB->Hp->Prop},r=cS x (.BQ lo hi) al[i].ts->(∀ n9 n10 h',J2 g7 g2.size r n9 n10 h'->(T.again 0 [.int .i64 (0:Int),.int .i64 n9,.int .i64 n10]) L K h') ->
    (T.call Tryz.prog 163 [.slice al[i].p al[i].l al[i].c,.int .i64 lo,.int .i64 hi] true [(false,[.int .i64]),(false,[.int .i64])] <| fun (n12:Int) (n13:Int)=>T.again 0 [.int .i64 (0:Int),.int .i64 n13,.int .i64 n12]) L K g8:=by
   intro i lo hi hi' L K hA hk;have hm:=mem i hi';refine Fe (v8.lK _ hm) (v8.bH _ hm) (v.wf _ hm) (v.many _ hm) (v.text _ hm) (cont:=fun n12 n13=>T.again 0 [.int .i64 (0:Int),.int .i64 n13,.int .i64 n12]) ?_;intro h' e';refine hk _ _ _ ⟨cC (e'.mono aj),?_⟩;cases hn:fa lo hi al[i].ts with
   | error e =>
    rw [hA,FT hn];exact ⟨rfl,ff (v.wf _ hm) hn⟩
   | ok n =>
    rw [hA,Hi hn];refine ⟨rfl,rfl,E7 (v.wf _ hm) hn,none,0,0,?_,?_⟩
    ·have:dy (dy x n) 0=x:=hput
     rw [this];exact b8.an e' aj
    ·show SL h' _ 109 2 none 0 0 (x.e.ay.map cB);rw [hx0.2];exact SL.nil _ _ _ _
  have valP:∀ {q:Option XC} {m d:Nat} {ts:List Tok} {L:Lp} {K:XB->Hp->Prop},Vw g8 q m d ts->(∀ i,i∈aE q->i<g8.size)->Wf ts->ts.length<=2^40->(∀ t,t∈ts->t.text.size<=9223372036854775807)->r=(match bL ts with | .error e=>.error e | .ok y=>.ok (nZ x y))->(∀ n9 h',J2 g7 g2.size r n9 0 h'->(T.again 0 [.int .i64 (0:Int),.int .i64 n9,.int .i64 (0:Int)]) L K h') ->
    (T.call Tryz.prog 164 [.slice q m d] true [(true,[.slice 109,.int .u32]),(false,[.int .i64])] <| fun (p24:Option XC) (l25:Nat) (l26:Nat) (n27:Int) (n28:Int) =>
    T.ak ((⟨g2.size,0,none⟩:XC).add 7) [.slice p24 l25 l26,.int .u32 n27] <|
    T.again 0 [.int .i64 (0:Int),.int .i64 n28,.int .i64 (0:Int)]) L K g8:=by
   intro q m d ts L K vq hq w hts hzs hA hk;rw [az];refine KO vq hq w hts hzs b8 b8.lt (cont:=fun n28=>T.again 0 [.int .i64 (0:Int),.int .i64 n28,.int .i64 (0:Int)]) ?_;intro h' k' hm;refine hk _ _ ⟨cC k',?_⟩;cases hx:bL ts with
   | error e =>
    rw [hx] at hA;have hA:r=.error e:=hA;subst hA;exact ⟨rfl,dC w hx⟩
   | ok y =>
    rw [hx] at hA hm;have hA:r=.ok (nZ x y):=hA;subst hA;obtain ⟨p',l',c',b',s'⟩:=hm;refine ⟨rfl,hx0.1.symm,by show -2147483648<=x.inst.n/\x.inst.n<2147483648; rw [hx0.1]; omega,p',l',c',?_,Sx.SL.mono s' ae⟩
    have:dy (nZ x y) 0=nZ (dy x 0) y:=rfl
    rw [this,hput];exact b'
  have:s=1\/s=2\/s=3\/s=4\/s=5\/s=6\/s=7\/s=8\/s=9\/s=10\/s=11\/s=12\/s=13:=ae
  clear hs;rcases this with rfl | rfl | rfl | rfl | rfl | rfl | rfl | rfl | rfl | rfl | rfl | rfl | rfl
  ·
   obtain rfl:=LR q
   repeat (first | refine aX rfl ?_ | refine aW rfl ?_)
   exact non hr.symm (fun h' j=>aO (cs:=[(false,[.int .i64]),(false,[.int .i64]),(false,[.int .i64])]) ((0:Int),(0:Int),(0:Int),()) rfl rfl j)
  ·
   obtain ⟨a,rfl⟩:=FP q
   repeat (first | refine aX rfl ?_ | refine aW rfl ?_)
   exact non hr.symm (fun h' j=>aO (cs:=[(false,[.int .i64]),(false,[.int .i64]),(false,[.int .i64])]) ((0:Int),(0:Int),(0:Int),()) rfl rfl j)
  ·
   obtain ⟨a,rfl⟩:=FP q
   repeat (first | refine aX rfl ?_ | refine aW rfl ?_)
   exact non hr.symm (fun h' j=>aO (cs:=[(false,[.int .i64]),(false,[.int .i64]),(false,[.int .i64])]) ((0:Int),(0:Int),(0:Int),()) rfl rfl j)
  ·
   obtain ⟨a,b,rfl⟩:=CL q
   repeat (first | refine aX rfl ?_ | refine aW rfl ?_)
   refine two (z:=false) aj (cont:=fun n13=>T.again 0 [.int .i64 (0:Int),.int .i64 n13,.int .i64 (0:Int)]) ?_;intro h' k' hb;have hr:(match cS x (.rP false true false) b.ts with | .error e=>.error e | .ok y=>dK y [] [])=r:=hr;refine aO (cs:=[(false,[.int .i64]),(false,[.int .i64]),(false,[.int .i64])]) ((0:Int),sN (dU false b.ts),(0:Int),()) rfl rfl ⟨cC k',?_⟩;cases hg:dU false b.ts with
   | error e =>
    rw [iT hg] at hr;subst hr;exact ⟨rfl,.inl (jI hg)⟩
   | ok n =>
    rw [lc hg] at hr;subst hr;refine ⟨rfl,hx0.1.symm,by show -2147483648<=x.inst.n/\x.inst.n<2147483648; rw [hx0.1]; omega,none,0,0,?_,?_⟩
    ·have:dy (gk x n) 0=gk (dy x 0) n:=rfl
     show bf _ _ _ (encI none 0 0 (dy (gk x n) 0));rw [this,hput];exact hb n hg
    ·show SL h' _ 109 2 none 0 0 (x.e.ay.map cB);rw [hx0.2];exact SL.nil _ _ _ _
  ·
   obtain ⟨a,b,rfl⟩:=CL q
   repeat (first | refine aX rfl ?_ | refine aW rfl ?_)
   refine two (z:=true) aj (cont:=fun n13=>T.again 0 [.int .i64 (0:Int),.int .i64 n13,.int .i64 (0:Int)]) ?_;intro h' k' hb;have hr:(match cS x (.rP true true false) b.ts with | .error e=>.error e | .ok y=>dK y [] [])=r:=hr;refine aO (cs:=[(false,[.int .i64]),(false,[.int .i64]),(false,[.int .i64])]) ((0:Int),sN (dU true b.ts),(0:Int),()) rfl rfl ⟨cC k',?_⟩;cases hg:dU true b.ts with
   | error e =>
    rw [iT hg] at hr;subst hr;exact ⟨rfl,.inl (jI hg)⟩
   | ok n =>
    rw [lc hg] at hr;subst hr;refine ⟨rfl,hx0.1.symm,by show -2147483648<=x.inst.n/\x.inst.n<2147483648; rw [hx0.1]; omega,none,0,0,?_,?_⟩
    ·have:dy (gk x n) 0=gk (dy x 0) n:=rfl
     show bf _ _ _ (encI none 0 0 (dy (gk x n) 0));rw [this,hput];exact hb n hg
    ·show SL h' _ 109 2 none 0 0 (x.e.ay.map cB);rw [hx0.2];exact SL.nil _ _ _ _
  ·
   obtain ⟨a,b,rfl⟩:=CL q
   repeat (first | refine aX rfl ?_ | refine aW rfl ?_)
   refine two (z:=true) aj (cont:=fun n13=>T.again 0 [.int .i64 (0:Int),.int .i64 n13,.int .i64 (0:Int)]) ?_;intro h' k' hb;have hr:(match cS x (.rP true true false) b.ts with | .error e=>.error e | .ok y=>dK y [] [])=r:=hr;refine aO (cs:=[(false,[.int .i64]),(false,[.int .i64]),(false,[.int .i64])]) ((0:Int),sN (dU true b.ts),(0:Int),()) rfl rfl ⟨cC k',?_⟩;cases hg:dU true b.ts with
   | error e =>
    rw [iT hg] at hr;subst hr;exact ⟨rfl,.inl (jI hg)⟩
   | ok n =>
    rw [lc hg] at hr;subst hr;refine ⟨rfl,hx0.1.symm,by show -2147483648<=x.inst.n/\x.inst.n<2147483648; rw [hx0.1]; omega,none,0,0,?_,?_⟩
    ·have:dy (gk x n) 0=gk (dy x 0) n:=rfl
     show bf _ _ _ (encI none 0 0 (dy (gk x n) 0));rw [this,hput];exact hb n hg
    ·show SL h' _ 109 2 none 0 0 (x.e.ay.map cB);rw [hx0.2];exact SL.nil _ _ _ _
  ·
   obtain ⟨a,b,d,rfl⟩:=Nc q
   repeat (first | refine aX rfl ?_ | refine aW rfl ?_)
   refine two (z:=false) aj ?_;intro h' k' hb;have hr:(match cS x (.rP false true false) b.ts with | .error e=>.error e | .ok y=>match cS y (.rP false false true) d.ts with | .error e=>.error e | .ok y=>dK y [] [])=r:=hr;cases hg:dU false b.ts with
   | error e =>
    rw [iT hg] at hr;subst hr;have he:=jI hg;have hw:sN (dU false b.ts)=(e:Int):=by rw [hg]; rfl
    refine aW (b:=(sN (dU false b.ts)==(0:Int))) (by rw [hw]; simp; omega) ?_;exact aO (cs:=[(false,[.int .i64]),(false,[.int .i64]),(false,[.int .i64])]) ((0:Int),sN (dU false b.ts),(0:Int),()) rfl rfl ⟨cC k',hw,.inl he⟩
   | ok n =>
    rw [lc hg] at hr;have hb:=hb n hg;refine aX (b:=(sN (dU false b.ts)==(0:Int))) (by rw [hg]; rfl) ?_;obtain ⟨a3,ha3,hc3⟩:=ej (v.an (eX (cC k'))) (k:=2) aj;refine aC ⟨ae,by simp at hl; omega⟩ (au ha3 (aG ((d.p,d.l,d.c),()) hc3 ?_));refine ao ?_;have v9:=(v.an (eX (cC k'))).lK d aj;refine eZ (Eu v9 false) (Dg (dU false d.ts),sN (dU false d.ts),()) (by cases dU false d.ts <;> rfl) ?_;refine ao ?_;refine aO (cs:=[(false,[.int .i64]),(false,[.int .i64]),(false,[.int .i64])]) ((0:Int),sN (dU false d.ts),Dg (dU false d.ts),()) rfl rfl ⟨cC k',?_⟩;have hr:(match cS (gk x n) (.rP false false true) d.ts with | .error e=>.error e | .ok y=>dK y [] [])=r:=hr;cases hf:dU false d.ts with
    | error e =>
     rw [iT hf] at hr;subst hr;exact ⟨rfl,.inl (jI hf)⟩
    | ok k =>
     rw [lc hf] at hr;subst hr;have hk:=lM hf;simp only [Bool.false_eq_true,if_false] at hk;refine ⟨rfl,rfl,by show -2147483648<=k/\k<2147483648; omega,none,0,0,?_,?_⟩
     ·have:dy (dy (gk x n) k) 0=gk (dy x 0) n:=rfl
      show bf _ _ _ (encI none 0 0 (dy (dy (gk x n) k) 0));rw [this,hput];exact hb
     ·show SL h' _ 109 2 none 0 0 (x.e.ay.map cB);rw [hx0.2];exact SL.nil _ _ _ _
  ·
   obtain ⟨a,b,rfl⟩:=CL q
   repeat (first | refine aX rfl ?_ | refine aW rfl ?_)
   have hr:(match cS x (.BQ (-128) 127) b.ts with | .error e=>.error e | .ok y=>dK y [] [])=r:=hr;have hr:r=cS x (.BQ (-128) 127) b.ts:=by
    rw [<- hr]
    all_goals (cases cS x (.BQ (-128) 127) b.ts <;> rfl)
   obtain ⟨a3,ha3,hc3⟩:=ej v8 (k:=1) aj;refine aC ⟨ae,by simp at hl; omega⟩ (au ha3 (aG ((b.p,b.l,b.c),()) hc3 ?_));refine ao ?_;exact num (i:=1) aj hr (fun n9 n10 h' j=>aO (cs:=[(false,[.int .i64]),(false,[.int .i64]),(false,[.int .i64])]) ((0:Int),n9,n10,()) rfl rfl j)
  ·
   obtain ⟨a,rfl⟩:=FP q
   repeat (first | refine aX rfl ?_ | refine aW rfl ?_)
   have hr:(match cS x (.BQ 0 255) a.ts with | .error e=>.error e | .ok y=>dK y [] [])=r:=hr;have hr:r=cS x (.BQ 0 255) a.ts:=by
    rw [<- hr]
    all_goals (cases cS x (.BQ 0 255) a.ts <;> rfl)
   obtain ⟨a3,ha3,hc3⟩:=ej v8 (k:=0) aj;rw [wF] at hc3;refine aC ⟨ae,by simp at hl; omega⟩ (au ha3 (aG ((a.p,a.l,a.c),()) hc3 ?_));refine ao ?_;exact num (i:=0) aj hr (fun n9 n10 h' j=>aO (cs:=[(false,[.int .i64]),(false,[.int .i64]),(false,[.int .i64])]) ((0:Int),n9,n10,()) rfl rfl j)
  ·
   obtain ⟨a,b,rfl⟩:=CL q
   repeat (first | refine aX rfl ?_ | refine aW rfl ?_)
   have hr:(match cS x (.val false) b.ts with | .error e=>.error e | .ok y=>dK y [] [])=r:=hr;have hr:r=(match bL b.ts with | .error e=>.error e | .ok y=>.ok (nZ x y)):=by
    rw [<- hr];unfold cS rp
    all_goals (cases bL b.ts <;> rfl)
   have hm:b∈_:=mem 1 aj;obtain ⟨a3,ha3,hc3⟩:=ej v8 (k:=1) aj;refine aC ⟨bO,by simp at hl; simp [kA,zA]; omega⟩ (au ha3 (aG ((b.p,b.l,b.c),()) hc3 ?_));refine ao ?_;exact valP (v8.lK _ hm) (v8.bH _ hm) (v.wf _ hm) (v.many _ hm) (v.text _ hm) hr (fun n9 h' j=>aO (cs:=[(false,[.int .i64]),(false,[.int .i64]),(false,[.int .i64])]) ((0:Int),n9,(0:Int),()) rfl rfl j)
  ·
   obtain ⟨a,b,rfl⟩:=CL q
   repeat (first | refine aX rfl ?_ | refine aW rfl ?_)
   have hr2:(match cS x (.val true) b.ts with | .error e=>.error e | .ok y=>dK y [] [])=r:=hr;have hm:b∈_:=mem 1 aj;obtain ⟨a3,ha3,hc3⟩:=ej v8 (k:=1) aj;refine aC ⟨ae,by simp at hl; omega⟩ (au ha3 (aG ((b.p,b.l,b.c),()) hc3 ?_));refine ao ?_;have vb:=v8.lK b hm;have hlb:=vb.len;obtain ⟨bp,bl,bc,bts⟩:=b;simp only at vb hlb hr2;cases bts with
   | nil=>exact absurd rfl (v.ne _ hm)
   | cons t ts =>
    obtain ⟨aa,haa,c0⟩:=vb.cells 0 aj;subst haa;have c0:bk g8 (aa.add (0*4)) 0 (enc t):=c0;obtain ⟨u1,u2,_⟩:=fj c0;simp only [List.length_cons] at hlb;have wt:=v.wf _ hm;have refu:¬ eE t 61=true->∀ {L:Lp},LA h.size 20 L (HR h r) g8:=by
     intro hn L;refine wT (e:=20) e08 b18 ?_;rw [<- hr2];unfold cS rp;simp [hn]
    have hbl:(0:Int)<(bl:Int):=ae
    refine aC ⟨ae,hbl⟩ (au rfl (aG ((t.kind:Int),()) u1 (ao ?_)));refine ai (fun g=>?_) (fun g=>?_)
    ·have g:¬ t.kind=3:=by
      have:¬ (t.kind:Int)=3:=by simpa using g
      omega
     exact refu (fun hh=>by unfold eE at hh; simp at hh; exact g hh.1)
    have g:t.kind=3:=by
     have:(t.kind:Int)=3:=by simpa using g
     omega
    refine aC ⟨ae,by simp at hl; omega⟩ (au ha3 (aG ((some aa,bl,bc),()) hc3 ?_));refine ao ?_;refine aC ⟨ae,hbl⟩ (au rfl (aG (t.text,()) u2 (ao ?_)));have hs2:(ByteArray.toList t.text==[({ toBitVec:=61#8 }:UInt8)])=eE t 61:=by
     unfold eE;rw [g,ByteArray.toList_eq] <;> rfl
    rw [hs2];refine ai (fun g4=>?_) (fun g4=>?_)
    ·have g4:eE t 61=false:=by simpa using g4
     exact refu (by rw [g4]; simp)
    have g4:eE t 61=true:=by simpa using g4
    refine aC ⟨ae,by simp at hl; omega⟩ (au ha3 (aG ((some aa,bl,bc),()) hc3 ?_));refine ao ?_;have hcap:=vb.cap;refine aC ⟨ae,ae,ae⟩ ?_;have vd:=vb.drop (k:=1) ae;have hr:r=(match bL ts with | .error e=>.error e | .ok y=>.ok (nZ x y)):=by
     rw [<- hr2];unfold cS rp;simp only [g4,if_true]
     all_goals (cases bL ts <;> rfl)
    refine valP (q:=if bc=1 then some aa else Option.map (fun a=>Addr.add a 4) (some aa)) (m:=bl-1) (d:=bc-1) (ts:=ts) vd ?_ wt.tail (by have:=v.many _ hm; simp at this; omega) (fun u hu=>v.text _ hm u (by simp [hu])) hr (fun n9 h' j=>aO (cs:=[(false,[.int .i64]),(false,[.int .i64]),(false,[.int .i64])]) ((0:Int),n9,(0:Int),()) rfl rfl j);intro i hi;rw [show aE (if bc=1 then some aa else Option.map (fun a=>Addr.add a 4) (some aa))=aE (some aa) from kD _ _ _ _] at hi;exact v8.bH _ hm i hi
  ·
   obtain ⟨a,rfl⟩:=FP q
   repeat (first | refine aX rfl ?_ | refine aW rfl ?_)
   have hr:(match cS x (.val false) a.ts with | .error e=>.error e | .ok y=>dK y [] [])=r:=hr;have hr:r=(match bL a.ts with | .error e=>.error e | .ok y=>.ok (nZ x y)):=by
    rw [<- hr];unfold cS rp
    all_goals (cases bL a.ts <;> rfl)
   have hm:a∈_:=mem 0 aj;obtain ⟨a3,ha3,hc3⟩:=ej v8 (k:=0) aj;refine aC ⟨bO,by simp at hl; simp [kA,zA]; omega⟩ (au ha3 (aG ((a.p,a.l,a.c),()) hc3 ?_));refine ao ?_;exact valP (v8.lK _ hm) (v8.bH _ hm) (v.wf _ hm) (v.many _ hm) (v.text _ hm) hr (fun n9 h' j=>aO (cs:=[(false,[.int .i64]),(false,[.int .i64]),(false,[.int .i64])]) ((0:Int),n9,(0:Int),()) rfl rfl j)
  ·
   obtain ⟨a,b,rfl⟩:=CL q
   repeat (first | refine aX rfl ?_ | refine aW rfl ?_)
   have hr:(match cS x (.val false) b.ts with | .error e=>.error e | .ok y=>dK y [] [])=r:=hr;have hr:r=(match bL b.ts with | .error e=>.error e | .ok y=>.ok (nZ x y)):=by
    rw [<- hr];unfold cS rp
    all_goals (cases bL b.ts <;> rfl)
   have hm:b∈_:=mem 1 aj;obtain ⟨a3,ha3,hc3⟩:=ej v8 (k:=1) aj;refine aC ⟨bO,by simp at hl; simp [kA,zA]; omega⟩ (au ha3 (aG ((b.p,b.l,b.c),()) hc3 ?_));refine ao ?_;exact valP (v8.lK _ hm) (v8.bH _ hm) (v.wf _ hm) (v.many _ hm) (v.text _ hm) hr (fun n9 h' j=>aO (cs:=[(false,[.int .i64]),(false,[.int .i64]),(false,[.int .i64])]) ((0:Int),n9,(0:Int),()) rfl rfl j)
 rintro ⟨n8,n9,n10,⟨⟩⟩ g9 ⟨k9,hJ⟩;simp only at hJ;refine ao ?_;have e09:=eX k9;have b19:=b17.an k9 (by simp; omega);cases r with
 | error e =>
  obtain ⟨rfl,he⟩:=hJ;refine aX (by simp; omega) ?_;exact wT e09 b19 rfl
 | ok y =>
  obtain ⟨rfl,rfl,hw,p',l',c',b9,s9⟩:=hJ;refine aW rfl ?_;rw [az,az,wrap_i32 hw.1 hw.2];refine ap b9 rfl (by simp [encI]) ?_;intro g10 b10 k10 z10;have b10:bf g10 g2.size 96 (encI p' l' c' y):=b10;refine af b10 (y.kind,y.name,y.inst.op,y.inst.a,y.inst.b,y.inst.n,y.inst.form,(p',l',c'),(y.e.num:Int),y.n,()) rfl (ao ?_);have k710:Ch [g2.size] g7 g10:=Ch.trans k9 k10 (fun i hi _=>hi);refine ap (b17.an k710 (by simp; omega)) rfl (by simp [zI]) ?_;intro g11 b11 k11 z11;have b11:bf g11 h.size 96 (encI p' l' c' y):=b11;refine af b11 (y.kind,y.name,y.inst.op,y.inst.a,y.inst.b,y.inst.n,y.inst.form,(p',l',c'),(y.e.num:Int),y.n,()) rfl ?_;have h02:=e02.size;refine ⟨Ch.trans (eX k710) k11 (fun i hi hl=>by simp at hi; omega),p',l',c',rfl,Sx.SL.bd (Sx.SL.bd (Sx.SL.mono s9 ae) k10 (fun i hi hm=>by have:=(Sx.SL.bH s9 hi).1; simp at hm; omega)) k11 (fun i hi hm=>by have:=(Sx.SL.bH s9 hi).1; simp at hm; omega)⟩
def zT:List XB:=jm 0 none 0 0 ct none 0 0 0 0
def qk (h:Hp) (r:Except Nat jM) (u:XB) (h':Hp):Prop:=Ext h h'/\match r with
 | .error e=>u=.tuple #[.agg zT.toArray,.int .i64 (e:Int)]/\e≠0
 | .ok t=>∃ sl us se,u=.tuple #[Lh t.kind sl t.name se t.e.num t.sec,.int .i64 0]/\j5 h' h.size t sl us se
def KP (op:XA) (args:List (List Tok)):Except Nat (jM × Nat) :=
 if iM op≠0 then match eV (iM op) args with
  | .error e=>.error e
  | .ok x=>.ok (eP x,0)
 else dI op args
def BJ {l:Ln} {data:Bool} (h:¬ l.op=ct):eL l data=match KP l.op l.args with
  | .error e=>.error e
  | .ok (t,w)=>if w=2\/w=(if data then 1 else 0) then .ok t else .error 21:=by
 unfold eL KP;rw [OG h]
 by_cases hf:iM l.op≠0
 ·rw [OH hf,OH hf];cases eV (iM l.op) l.args with
  | error e=>rfl
  | ok x=>cases data <;> simp
 ·rw [OG hf,OG hf]
  all_goals
   cases dI l.op l.args with
   | error e=>rfl
   | ok q=>rfl
def vF {op:Int} {args:List (List Tok)} {e:Nat} (hw:∀ a,a∈args->Wf a) (h:eV op args=.error e):e=20\/e=21:=by
 unfold eV at h;split at h
 ·injection h with h
  exact .inl h.symm
 have key:∀ (rs:List F1) (args:List (List Tok)) (x:cd),(∀ a,a∈args->Wf a)->dK x rs args=.error e->e=20\/e=21:=by
  intro rs
  induction rs with
  | nil=>intro args x _ h; cases args <;> simp [dK] at h
  | cons r rs ih =>
   intro args x hw h;cases args with
   | nil=>simp [dK] at h
   | cons a args =>
    simp only [dK] at h;cases ha:cS x r a with
    | error e' =>
     rw [ha] at h;injection h with h
     subst h;exact GZ (hw a aj) ha
    | ok y =>
     rw [ha] at h;exact ih args y (fun b hb=>hw b (by simp [hb])) h
 exact key _ _ _ hw h
def LW {op:XA} {args:List (List Tok)} {t:jM} {w:Nat} (hd:dI op args=.ok (t,w)):w<=2:=by
 unfold dI at hd;simp only at hd
 repeat' split at hd
 all_goals first | (cases hd; done) | (injection hd with hd; injection hd with h1 h2; omega)
def E6 {h:Hp} (tb:rE h) {cO op:XA} {p:Option XC} {l c:Nat} {al:List In} (v:AH h p l al) (hal:al.length<=2^32) (sec:Int) :
  HC Tryz.prog 65 #[.agg #[.string cO,.string op,.slice p l c],.int .i64 sec] h (qk h (eL ⟨cO,op,al.map In.ts⟩ (decide (sec=1)))):=by
 refine ba (args:=[.agg #[.string cO,.string op,.slice p l c],.int .i64 sec]) mixed Tryz.func65 aB (xU cO op p l c sec) ?_;unfold wh aS aR av aw aI bh aQ bZ;refine bm ?_;intro g1 b1 e1 z1;refine bm ?_;intro g2 b2 e2 z2;have b1:=b1.an e2 aj;have e02:=e1.trans e2;have b2:bf g2 g1.size 134 zT:=b2;obtain ⟨s4,hs4⟩:∃ s4:Int,s4=if sec=1 then 1 else 0:=⟨_,rfl⟩
 refine bG (cs:=[(false,[.int .i64])]) (fun y h'=>g2=h'/\s4=y.1) ?_ ?_
 ·refine ai (fun q=>?_) (fun q=>?_)
  ·have q:¬ sec=1:=by simpa using q
   exact aO (cs:=[(false,[.int .i64])]) ((0:Int),()) rfl rfl ⟨rfl,by rw [hs4,OG q]⟩
  ·have q:sec=1:=by simpa using q
   exact aO (cs:=[(false,[.int .i64])]) (sec,()) rfl rfl ⟨rfl,by rw [hs4,OH q,q]⟩
 rintro ⟨n4,⟨⟩⟩ g9 ⟨h9,h4⟩;simp only at h4;subst h9;rw [<- h4];clear h4;refine ao ?_;rw [az];refine af b1 (op,()) rfl (ao ?_);obtain ⟨r,hr⟩:∃ r,r=eL ⟨cO,op,al.map In.ts⟩ (decide (sec=1)):=⟨_,rfl⟩
 rw [<- hr]
 have bad:∀ {gg:Hp} {xs:List XB} {e:Nat} {L:Lp},Ext h gg->bf gg g1.size 134 xs->xs.length=6->r=.error e->e≠0 ->
   (T.ak ⟨g1.size,0,none⟩ [.int .i64 (0:Int),.slice none 0 0,.string ⟨#[]⟩,.slice none 0 0,.int .u32 (0:Int),.int .i64 (0:Int)] <|
   T.ah ⟨g1.size,0,none⟩ [.int .i64,.slice 96,.string,.slice 109,.int .u32,.int .i64] <| fun (n6:Int) (p7:Option XC) (l8:Nat) (l9:Nat) (s10:XA) (p11:Option XC) (l12:Nat) (l13:Nat) (n14:Int) (n15:Int) =>
   T.ret (.tuple #[.agg #[.int .i64 n6,.slice p7 l8 l9,.string s10,.slice p11 l12 l13,.int .u32 n14,.int .i64 n15],.int .i64 (e:Int)])) L (qk h r) gg:=by
  intro gg xs e L eg bx hx hA he;refine mg bx hx ?_;intro h' b' k' z';refine ⟨Ch.trans eg k' (fun i hi hl=>by simp at hi; omega),?_⟩;rw [hA];exact ⟨rfl,he⟩
 have good:∀ {gg:Hp} {xs:List XB} {t:jM} {sl se:cH} {us:List (cH × cd)} {L:Lp},Ext h gg->bf gg g1.size 134 xs->xs.length=6->r=.ok t->j5 gg (g1.size+1) t sl us se ->
   (T.ak ⟨g1.size,0,none⟩ [.int .i64 (t.kind:Int),.slice sl.p sl.l sl.c,.string t.name,.slice se.p se.l se.c,.int .u32 (t.e.num:Int),.int .i64 (t.sec:Int)] <|
   T.ah ⟨g1.size,0,none⟩ [.int .i64,.slice 96,.string,.slice 109,.int .u32,.int .i64] <| fun (n6:Int) (p7:Option XC) (l8:Nat) (l9:Nat) (s10:XA) (p11:Option XC) (l12:Nat) (l13:Nat) (n14:Int) (n15:Int) =>
   T.ret (.tuple #[.agg #[.int .i64 n6,.slice p7 l8 l9,.string s10,.slice p11 l12 l13,.int .u32 n14,.int .i64 n15],.int .i64 (0:Int)])) L (qk h r) gg:=by
  intro gg xs t sl se us L eg bx hx hA A;refine mg bx hx ?_;intro h' b' k' z';refine ⟨Ch.trans eg k' (fun i hi hl=>by simp at hi; omega),?_⟩;rw [hA];exact ⟨sl,us,se,rfl,(A.an k' (fun i hi hl=>by simp at hi; omega)).mono ae⟩
 refine ai (fun q=>?_) (fun q=>?_)
 ·have q:op=ct:=by
   have q:op.data.toList=[]:=(ByteArray.toList_eq op).symm.trans (eq_of_beq q);exact nL q
  have hA:r=.ok cg:=by rw [hr]; unfold eL; rw [OH q]
  exact good (t:=cg) (sl:=⟨none,0,0⟩) (se:=⟨none,0,0⟩) (us:=[]) e02 b2 rfl hA ⟨dO.nil _ _,rfl,SL.nil _ _ _ _,.inl rfl⟩
 have q:¬ op=ct:=fun e=>by
  subst e;rw [ByteArray.toList_eq] at q;simp [ct] at q
 have hop:=BJ (l:=⟨cO,op,al.map In.ts⟩) (data:=decide (sec=1)) q;rw [<- hr] at hop;simp only at hop;obtain ⟨ro,hro⟩:∃ ro,KP op (al.map In.ts)=ro:=⟨_,rfl⟩
 rw [hro] at hop;refine bm ?_;intro g3 b3 e3 z3;have b3:bf g3 g2.size 134 zT:=b3;have b1:=b1.an e3 aj;have b2:=b2.an e3 aj;have e03:=e02.trans e3;have hlt2:=b2.lt;have v3:=v.an e03;refine bG (cs:=[(false,[.int .i64]),(false,[.int .i64])]) (fun y h'=>Ext h h'/\bf h' g1.size 134 zT/\match ro with
  | .error e=>y.2.1=(e:Int)/\e≠0
  | .ok (t,w)=>y.1=Jt w/\y.2.1=(0:Int)/\w<=2/\∃ sl us se,bf h' g2.size 134 (jm t.kind sl.p sl.l sl.c t.name se.p se.l se.c t.e.num t.sec)/\j5 h' (g1.size+1) t sl us se) ?_ ?_
 ·rw [az];refine af b1 (op,()) rfl (ao ?_);refine aK (Jh (tb.an e03 aj) op) ?_;obtain ⟨fo,hfo⟩:∃ fo,iM op=fo:=⟨_,rfl⟩
  have hle:fo<=43:=hfo▸ur _ _ _;rintro u0 g4 ⟨hu0,e4⟩;rw [hfo] at hu0;subst hu0;refine ⟨((fo:Int),decide (fo≠0),()),rfl,ao ?_⟩;have b14:=b1.an e4 aj;have b24:=b2.an e4 aj;have b34:=b3.an e4 aj;have e04:=e03.trans e4;refine ai (fun f=>?_) (fun f=>?_)
  ·have f:fo≠0:=OE f;refine bm ?_;intro g5 b5 e5 z5;have b15:=b14.an e5 aj
   try rw [az]
   refine af b15 ((p,l,c),()) rfl (ao ?_);have e05:=e04.trans e5;refine aK (Kf ((tb.an e05 aj).NJ) (op:=fo) ae hle (v.an e05) ae) ?_;rintro u g6 ⟨e6,hu⟩;have e06:=e05.trans e6
   have hopA:ro=match eV (fo:Int) (al.map In.ts) with
     | .error e=>.error e
     | .ok x=>.ok (eP x,0):=by
    rw [<- hro];unfold KP;rw [hfo,OH f]
   have fin:∀ {x:cd} {p':Option XC} {l' c':Nat} {why:Int} {L:Lp} {K:XB->Hp->Prop},SL g6 g5.size 109 2 p' l' c' (x.e.ay.map cB)->(∀ h',Ext g6 h'\/True->Ch [g2.size] g6 h'\/True->Ext h h'->bf h' g1.size 134 zT->bf h' g2.size 134 (jm 1 (some ⟨g6.size,0,none⟩) 1 1 ct none 0 0 0 0)->dO h' (g1.size+1) (some ⟨g6.size,0,none⟩) 1 1 [(⟨p',l',c'⟩,x)]->T.again 0 [.int .i64 (0:Int),.int .i64 why] L K h') ->
     (T.ak ⟨g4.size,0,none⟩ [.int .i64 x.kind,.string x.name,.int .i64 x.inst.op,.int .i64 x.inst.a,.int .i64 x.inst.b,.int .i32 x.inst.n,.int .i64 x.inst.form,.slice p' l' c',.int .u32 (x.e.num:Int),.int .i64 x.n] <|
     T.ah ⟨g4.size,0,none⟩ [.int .i64,.string,.int .i64,.int .i64,.int .i64,.int .i32,.int .i64,.slice 109,.int .u32,.int .i64] <| fun (n27:Int) (s28:XA) (n29:Int) (n30:Int) (n31:Int) (n32:Int) (n33:Int) (p34:Option XC) (l35:Nat) (l36:Nat) (n37:Int) (n38:Int) =>
     T.fb Tryz.prog (Instr.buildSlice 23 1 #[(0,.agg #[.int .i64 n27,.string s28,.int .i64 n29,.int .i64 n30,.int .i64 n31,.int .i32 n32,.int .i64 n33,.slice p34 l35 l36,.int .u32 n37,.int .i64 n38])]) false [(false,[.slice 0])] <| fun (p39:Option XC) (l40:Nat) (l41:Nat) =>
     T.ak ⟨g2.size,0,none⟩ [.int .i64 (1:Int),.slice p39 l40 l41,.string ⟨#[]⟩,.slice none 0 0,.int .u32 (0:Int),.int .i64 (0:Int)] <|
     T.again 0 [.int .i64 (0:Int),.int .i64 why]) L K g6:=by
    intro x p' l' c' why L K sx hk;refine ap (b5.an e6 aj) rfl aj ?_;intro g7 b7 k7 z7;have b7:bf g7 g4.size 96 (encI p' l' c' x):=b7;refine af b7 (x.kind,x.name,x.inst.op,x.inst.a,x.inst.b,x.inst.n,x.inst.form,(p',l',c'),(x.e.num:Int),x.n,()) rfl (ao ?_);refine fW (p:=p') (l:=l') (c:=c') (x:=x) ?_;intro g8 s8 e8 z8;have hz4:=e4.size;have hz5:g5.size=g4.size+1:=z5;have hz6:=e6.size;have e07:Ext h g7:=Ch.trans e06 k7 (fun i hi hl=>by have:=e04.size; simp at hi; omega);have b38:bf g8 g2.size 134 zT:=(((b34.an e5 aj).an e6 aj).an k7 (by have:=b34.lt; simp; omega)).an e8 aj;refine ap b38 rfl (by simp [zT,jm]) ?_;intro g9 b9 k9 z9;have b28:bf g8 g1.size 134 zT:=(((b24.an e5 aj).an e6 aj).an k7 (by have:=b24.lt; simp; omega)).an e8 aj;have e09:Ext h g9:=Ch.trans (e07.trans e8) k9 (fun i hi hl=>by have:=e02.size; simp at hi; omega);have s8':=SL.AE (Sx.SL.mono s8 (show g1.size+1<=g7.size from ae)) (Ch.refl [] g8) aj;refine hk g9 (.inr trivial) (.inr trivial) e09 (b28.an k9 (by simp; omega)) (by rw [z7] at b9; exact b9) ?_;refine ⟨?_,?_,?_,aj⟩
    ·rw [z7] at s8;exact Sx.SL.bd (Sx.SL.mono s8 ae) k9 (fun i hi hm=>by simp [aE] at hi hm; omega)
    ·intro w hw;have hw:w=(⟨p',l',c'⟩,x):=by simpa using hw
     subst hw;refine Sx.SL.bd (Sx.SL.bd (Sx.SL.bd (Sx.SL.mono sx ae) k7 (fun i hi hm=>by have:=(Sx.SL.bH sx hi).1; simp at hm; omega)) e8 aj) k9 (fun i hi hm=>by have:=(Sx.SL.bH sx hi).1; simp at hm; omega)
    ·intro w hw i hi hm;have hw:w=(⟨p',l',c'⟩,x):=by simpa using hw
     subst hw
     have:=(Sx.SL.bH sx hi).2
     simp [aE] at hm;omega
   cases hcd:eV (fo:Int) (al.map In.ts) with
   | error e =>
    rw [hcd] at hu hopA;have he:=vF (fun a ha=>by obtain ⟨b,hb,rfl⟩:=Pa.1 ha; exact v.wf b hb) hcd;have hu:u=.tuple #[sT none 0 0 (dA 0),.int .i64 (e:Int)]:=hu;subst hu;refine ⟨((0:Int),(⟨#[]⟩:XA),(0:Int),(0:Int),(0:Int),(0:Int),(0:Int),(none,0,0),(0:Int),(0:Int),(e:Int),()),rfl,ao ?_⟩;refine fin (x:=dA 0) (p':=none) (l':=0) (c':=0) (SL.nil _ _ _ _) ?_;intro g9 _ _ e09 b29 b39 _;refine aO (cs:=[(false,[.int .i64]),(false,[.int .i64])]) ((0:Int),(e:Int),()) rfl rfl ⟨e09,b29,?_⟩;have hopA:ro=.error e:=hopA;subst hopA;exact ⟨rfl,ae⟩
   | ok x =>
    rw [hcd] at hu hopA;obtain ⟨p',l',c',rfl,sx⟩:=hu;refine ⟨(x.kind,x.name,x.inst.op,x.inst.a,x.inst.b,x.inst.n,x.inst.form,(p',l',c'),(x.e.num:Int),x.n,(0:Int),()),rfl,ao ?_⟩;refine fin (x:=x) sx ?_;intro g9 _ _ e09 b29 b39 A9;refine aO (cs:=[(false,[.int .i64]),(false,[.int .i64])]) ((0:Int),(0:Int),()) rfl rfl ⟨e09,b29,?_⟩;have hopA:ro=.ok (eP x,0):=hopA;subst hopA;exact ⟨rfl,rfl,ae,⟨_,1,1⟩,_,⟨none,0,0⟩,b39,A9,rfl,SL.nil _ _ _ _,.inr rfl⟩
  ·have f:¬ fo≠0:=OF f;have hopA:ro=dI op (al.map In.ts):=by
    rw [<- hro];unfold KP;rw [hfo,OG f]
   try rw [az]
   refine af b14 (op,()) rfl (ao ?_)
   try rw [az]
   refine af b14 ((p,l,c),()) rfl (ao ?_);refine aK (AI (v.an e04) hal op) ?_;rintro u g5 ⟨e5,hu⟩;have e05:=e04.trans e5;have hz2:=e2.size;have hlt3:=b34.lt;cases hd:dI op (al.map In.ts) with
   | error e =>
    rw [hd] at hu;obtain ⟨k,p1,l1,c1,nm,p2,l2,c2,n,sc,w,rfl,he⟩:=hu;refine ⟨(k,(p1,l1,c1),nm,(p2,l2,c2),n,sc,w,(e:Int),()),rfl,ao ?_⟩;refine ap (b34.an e5 aj) rfl (by simp [zT,jm]) ?_;intro g6 b6 k6 z6;refine aO (cs:=[(false,[.int .i64]),(false,[.int .i64])]) (w,(e:Int),()) rfl rfl ⟨Ch.trans e05 k6 (fun i hi hl=>by have:=e02.size; simp at hi; omega),(b24.an e5 aj).an k6 (by simp; omega),?_⟩;have hopA:ro=.error e:=hopA.trans hd;subst hopA;exact ⟨rfl,he⟩
   | ok q =>
    obtain ⟨t,w⟩:=q;rw [hd] at hu;obtain ⟨sl,us,se,rfl,A⟩:=hu;refine ⟨(((t.kind:Nat):Int),(sl.p,sl.l,sl.c),t.name,(se.p,se.l,se.c),(t.e.num:Int),((t.sec:Nat):Int),Jt w,(0:Int),()),rfl,ao ?_⟩;refine ap (b34.an e5 aj) rfl (by simp [zT,jm]) ?_;intro g6 b6 k6 z6;have hw2:w<=2:=LW hd;refine aO (cs:=[(false,[.int .i64]),(false,[.int .i64])]) (Jt w,(0:Int),()) rfl rfl ⟨Ch.trans e05 k6 (fun i hi hl=>by have:=e02.size; simp at hi; omega),(b24.an e5 aj).an k6 (by simp; omega),?_⟩;have hopA:ro=.ok (t,w):=hopA.trans hd;subst hopA;exact ⟨rfl,rfl,hw2,sl,us,se,b6,(A.an k6 (fun i hi hl=>by simp at hi; omega)).mono (by have:=e4.size; omega)⟩
 rintro ⟨n7,n8,⟨⟩⟩ g4 ⟨e04,b24,hJ⟩;simp only at hJ;refine ao ?_;cases ho:ro with
 | error e =>
  subst ho;obtain ⟨rfl,he⟩:=hJ;refine aX (by simp; omega) ?_;exact bad (e:=e) e04 b24 rfl hop he
 | ok q =>
  obtain ⟨t,w⟩:=q;subst ho;obtain ⟨rfl,rfl,hw,sl,us,se,b34,A⟩:=hJ;simp only at hop;refine aW rfl ?_
  have done_:w=2\/w=(if decide (sec=1)=true then 1 else 0)->∀ {L:Lp},(T.ah ⟨g2.size,0,none⟩ [.int .i64,.slice 96,.string,.slice 109,.int .u32,.int .i64] <| fun (n9:Int) (p10:Option XC) (l11:Nat) (l12:Nat) (s13:XA) (p14:Option XC) (l15:Nat) (l16:Nat) (n17:Int) (n18:Int) =>
    T.ak ⟨g1.size,0,none⟩ [.int .i64 n9,.slice p10 l11 l12,.string s13,.slice p14 l15 l16,.int .u32 n17,.int .i64 n18] <|
    T.ah ⟨g1.size,0,none⟩ [.int .i64,.slice 96,.string,.slice 109,.int .u32,.int .i64] <| fun (n19:Int) (p20:Option XC) (l21:Nat) (l22:Nat) (s23:XA) (p24:Option XC) (l25:Nat) (l26:Nat) (n27:Int) (n28:Int) =>
    T.ret (.tuple #[.agg #[.int .i64 n19,.slice p20 l21 l22,.string s23,.slice p24 l25 l26,.int .u32 n27,.int .i64 n28],.int .i64 (0:Int)])) L (qk h r) g4:=by
   intro hh L;refine af b34 (((t.kind:Nat):Int),(sl.p,sl.l,sl.c),t.name,(se.p,se.l,se.c),(t.e.num:Int),((t.sec:Nat):Int),()) rfl (ao ?_);exact good e04 b24 rfl (hop.trans (OH hh)) A
  refine ai (fun g=>?_) (fun g=>?_)
  ·have g:=OE g;have hw2:¬ w=2:=fun e=>by rw [e] at g; simp [Jt] at g
   have hwi:Jt w=(w:Int):=by unfold Jt; rw [OG hw2]
   rw [hwi,hs4];refine ai (fun f=>?_) (fun f=>?_)
   ·have f:¬ (w:Int)=if sec=1 then 1 else 0:=by simpa using f
    refine bad (e:=21) e04 b24 rfl (hop.trans (OG ?_)) bO;rintro (x | x)
    ·exact hw2 x
    ·apply f;rw [x]
     by_cases hs:sec=1 <;> simp [hs]
   ·have f:(w:Int)=if sec=1 then 1 else 0:=by simpa using f
    refine done_ (.inr ?_)
    by_cases hs:sec=1
    ·simp [hs] at f ⊢; omega
    ·simp [hs] at f ⊢; omega
  ·have g:=OF g;have hw2:w=2:=by
    by_cases e:w=2
    ·exact e
    ·exfalso;apply g;unfold Jt;rw [OG e];omega
   exact done_ (.inl hw2)
def Js (k:Nat) (args:List (List Tok)):Except Nat jM :=
 match cL k args with
 | .error e=>.error e
 | .ok l=>.ok { cg with kind:=2,items:=l }
def xz {h:Hp} {k:Nat} (hk56:k=5\/k=6) {s:XA} (hs:(s.data.toList=[98,121,116,101])=(k=5)) {p:Option XC} {l c:Nat} {al:List In} (v:AH h p l al) (hal:al.length<=2^32) :
  HC Tryz.prog 165 #[.string s,.slice p l c] h (qk h (Js k (al.map In.ts))):=by
 refine ba (args:=[.string s,.slice p l c]) mixed Tryz.func165 aB (lF s p l c) ?_;unfold iv cv bN dH bW aS aR av aw aJ aI bh aQ;have hl:=v.len;obtain ⟨r,hr⟩:∃ r,Js k (al.map In.ts)=r:=⟨_,rfl⟩
 rw [hr];unfold Js at hr;refine bm ?_;intro g1 b1 e1 z1;refine bm ?_;intro g2 b2 e2 z2;refine ap b2 rfl aj ?_;intro g3 b3 k3 z3;have b3:bf g3 g1.size 194 (jm 2 none 0 0 ct none 0 0 0 0):=b3;have e23:Ext g1 g3:=Ch.trans e2 k3 (fun i hi hl=>by simp at hi; omega);have e03:=e1.trans e23;have b1:bf g3 h.size 194 zT:=b1.an e23 aj;have hz3:g3.size=h.size+2:=ae
 have hg1:g1.size=h.size+1:=z1
 refine bJ (cs:=[(false,[.int .i64]),(false,[.int .i64])]) (fun x n h'=>∃ (i:Nat) (us:List (cH × cd)) (p':Option XC) (l' c':Nat),x.2.1=(i:Int)/\i<=l/\n=l-i/\Ext h h'/\bf h' h.size 194 zT/\bf h' g1.size 194 (jm 2 p' l' c' ct none 0 0 0 0)/\dO h' (h.size+2) p' l' c' us/\us.length=i/\h.size+2<=h'.size /\
   cL k (al.map In.ts)=(match cL k ((al.map In.ts).drop i) with | .error e=>.error e | .ok r=>.ok (us.map (·.2)++r))) ((0:Int),(0:Int),()) l rfl
  ⟨0,[],none,0,0,rfl,ae,ae,e03,b1,b3,dO.nil _ _,rfl,ae,by rw [Qb]; cases cL k (al.map In.ts) <;> rfl⟩ ?_
 clear b1 b3 e23 e03 k3 b2 e2 e1;rintro ⟨n4,n5,⟨⟩⟩ n h1 ⟨i,us,p6,l7,l8,hi,hil,rfl,e1,b1,b3,A,hus,hbs,hit⟩;simp only at hi;subst hi;refine ao ?_;refine ai (fun q=>?_) (fun q=>?_)
 ·have q:=OE q;have hia:i<al.length:=ae
  have hmem:al[i]∈al:=O2 hia;have hda:(al.map In.ts).drop i=al[i].ts::(al.map In.ts).drop (i+1):=by
   rw [OM (by rw [OI]; exact hia),O4]
  rw [hda] at hit;simp only [cL] at hit;refine bm ?_;intro h2 b4 e2 z2;refine ap b4 rfl aj ?_;intro h3 b4 k3 z3;have b4:bf h3 h1.size 96 (encI none 0 0 (dA 5)):=b4;have e13:Ext h1 h3:=Ch.trans e2 k3 (fun j hj hl=>by simp at hj; omega);have e03:=e1.trans e13;have A3:=A.an e13 aj;have b13:=b1.an e13 aj;have b33:=b3.an e13 aj;have hlt3:=b4.lt;have hw:IntKind.wrap .i64 ((i:Int)+1)=((i+1:Nat):Int):=by rw [wrap_i64 ae ae]; omega
  have bad:∀ {hh:Hp} {e:Nat} {L:Lp},Ch [h1.size] h3 hh->r=.error e->e≠0 ->
    (T.ak ⟨h.size,0,none⟩ [.int .i64 (0:Int),.slice none 0 0,.string ⟨#[]⟩,.slice none 0 0,.int .u32 (0:Int),.int .i64 (0:Int)] <|
    T.ah ⟨h.size,0,none⟩ [.int .i64,.slice 96,.string,.slice 109,.int .u32,.int .i64] <| fun (n13:Int) (p14:Option XC) (l15:Nat) (l16:Nat) (s17:XA) (p18:Option XC) (l19:Nat) (l20:Nat) (n21:Int) (n22:Int) =>
    T.ret (.tuple #[.agg #[.int .i64 n13,.slice p14 l15 l16,.string s17,.slice p18 l19 l20,.int .u32 n21,.int .i64 n22],.int .i64 (e:Int)])) L (qk h r) hh:=by
   intro hh e L kh hA he;refine mg (b13.an kh (by simp; omega)) rfl ?_;intro h' b' k' z';have e0h:Ext h hh:=Ch.trans e03 kh (fun j hj hl=>by simp at hj; omega);refine ⟨Ch.trans e0h k' (fun j hj hl=>by simp at hj; omega),?_⟩;rw [hA];exact ⟨rfl,he⟩
  have push:∀ {L:Lp} {hh:Hp} {sp:cH} {y:cd},Ch [h1.size] h3 hh->SL hh (h1.size+1) 109 2 sp.p sp.l sp.c (y.e.ay.map cB)->bf hh h1.size 96 (encI sp.p sp.l sp.c y) ->
    (∀ p' c' h',Ext h h'->bf h' h.size 194 zT->bf h' g1.size 194 (jm 2 p' (l7+1) c' ct none 0 0 0 0)->dO h' (h.size+2) p' (l7+1) c' (us++[(sp,y)])->h.size+2<=h'.size->(T.again 0 [.int .i64 n4,.int .i64 (IntKind.wrap .i64 ((i:Int)+(1:Int)))]) L (qk h r) h') ->
    (T.ah ((⟨g1.size,0,none⟩:XC).add 1) [.slice 96] <| fun (p13:Option XC) (l14:Nat) (l15:Nat) =>
    T.ah ⟨h1.size,0,none⟩ [.int .i64,.string,.int .i64,.int .i64,.int .i64,.int .i32,.int .i64,.slice 109,.int .u32,.int .i64] <| fun (n16:Int) (s17:XA) (n18:Int) (n19:Int) (n20:Int) (n21:Int) (n22:Int) (p23:Option XC) (l24:Nat) (l25:Nat) (n26:Int) (n27:Int) =>
    T.fb Tryz.prog (Instr.buildSlice 23 1 #[(0,.agg #[.int .i64 n16,.string s17,.int .i64 n18,.int .i64 n19,.int .i64 n20,.int .i32 n21,.int .i64 n22,.slice p23 l24 l25,.int .u32 n26,.int .i64 n27])]) false [(false,[.slice 0])] <| fun (p28:Option XC) (l29:Nat) (l30:Nat) =>
    T.fb Tryz.prog (Builtin.append_ #[23,23] 23 #[.slice p13 l14 l15,.slice p28 l29 l30]) false [(false,[.slice 0])] <| fun (p31:Option XC) (l32:Nat) (l33:Nat) =>
    T.ak ((⟨g1.size,0,none⟩:XC).add 1) [.slice p31 l32 l33] <|
    T.again 0 [.int .i64 n4,.int .i64 (IntKind.wrap .i64 ((i:Int)+(1:Int)))]) L (qk h r) hh:=by
   intro L hh sp y kc sy by_ hk;have hzh:=kc.size;have e0h:Ext h hh:=Ch.trans e03 kc (fun j hj hl=>by simp at hj; omega);have Ah:dO hh (h.size+2) p6 l7 l8 us:=by
    refine ⟨Sx.SL.bd A3.out kc (fun j hj hm=>?_),fun u hu=>Sx.SL.bd (A3.own u hu) kc (fun j hj hm=>?_),A3.po,A3.pp⟩
    ·have:=(Sx.SL.bH A.out hj).2; simp at hm; omega
    ·have:=(Sx.SL.bH (A.own u hu) hj).2; simp at hm; omega
   have b3h:=b33.an kc (by simp; omega);have b1h:=b13.an kc (by simp; omega);rw [az];refine af b3h ((p6,l7,l8),()) rfl (ao ?_);refine af by_ (y.kind,y.name,y.inst.op,y.inst.a,y.inst.b,y.inst.n,y.inst.form,(sp.p,sp.l,sp.c),(y.e.num:Int),y.n,()) rfl (ao ?_);refine fp (e:=96) (z:=.agg zI.toArray) (sz:=10) (by':=104) (vs:=encI sp.p sp.l sp.c y) B3 yN rfl ae ae (GP _ _ _ _) rfl rfl Ah.out ae (by have:=A.len; omega) (by have:=A.len; omega) ?_;intro p' c' h' o k' hp'
   have A':=Ah.snoc (u:=(sp,y)) o k' hp' (Sx.SL.mono sy ae) (fun j hj hm=>by
     have h1:=(Sx.SL.bH sy hj).1;have h2:=(Sx.SL.bH A.out hm).2;omega) (fun x hx j hj hm=>by
     have h1:=(Sx.SL.bH sy hm).1;have h2:=(Sx.SL.bH (A.own x hx) hj).2;omega)
   have hb3:g1.size∉aE p6:=fun hm=>by have:=(Sx.SL.bH A.out hm).1; omega
   have hb1:h.size∉aE p6:=fun hm=>by have:=(Sx.SL.bH A.out hm).1; omega
   refine ap (b3h.an k' hb3) rfl (by simp [jm]) ?_;intro h'' b'' k'' z'';have hz':=k'.size;refine hk p' c' h'' (Ch.trans (Ch.trans e0h k' (fun j hj hl=>by have:=(Sx.SL.bH Ah.out hj).1; omega)) k'' (fun j hj hl=>by simp at hj; omega)) ((b1h.an k' hb1).an k'' (by simp; omega)) b'' (A'.an k'' (fun j hj hl=>by simp at hj; omega)) ae
  have v3:=v.an e03;rcases hk56 with rfl | rfl
  ·have hq:s.data.toList=[98,121,116,101]:=by rw [hs]
   refine aX (by rw [ByteArray.toList_eq,hq]; rfl) ?_;obtain ⟨aa,haa,hca⟩:=v3.cells i hia;refine aC ⟨ae,ae⟩ (au haa ?_);rw [show Int.toNat (i:Int)=i from ae];generalize al[i]=a at hit hca hmem;refine aG ((a.p,a.l,a.c),()) hca (ao ?_);rw [Ev] at hit;rw [az];refine Fe (v3.lK a hmem) (v3.bH a hmem) (v.wf a hmem) (v.many a hmem) (v.text a hmem) (lo:=-128) (hi:=255) ?_;intro h4 e4;refine ap (b4.an e4 aj) rfl (by simp [encI]) ?_;intro h5 b5 k5 z5;have k35:Ch [h1.size] h3 h5:=Ch.trans (e4.mono aj) k5 (fun j hj _=>hj);cases hn:fa (-128) 255 a.ts with
   | error e =>
    rw [hn] at hit;have he:=ff (v.wf a hmem) hn;refine aX (by show ((e:Int) != 0)=true; simp; omega) ?_;exact bad (e:=e) k35 (by rw [<- hr,hit]) ae
   | ok nn =>
    rw [hn] at hit b5;refine aW rfl ?_;refine push (sp:=⟨none,0,0⟩) (y:={ dA 5 with n:=nn }) k35 (SL.nil _ _ _ _) b5 ?_;intro p' c' h6 e6 b16 b36 A6 hb6;refine aY (cs:=[(false,[.int .i64]),(false,[.int .i64])]) (n4,((i+1:Nat):Int),()) (l-(i+1)) rfl ae (by rw [hw]; rfl) ⟨i+1,_,p',l7+1,c',rfl,ae,rfl,e6,b16,b36,A6,by simp [hus],hb6,?_⟩;rw [hit];cases cL 5 ((al.map In.ts).drop (i+1)) <;> simp
  ·have hq:¬ s.data.toList=[98,121,116,101]:=by rw [hs]; decide
   refine aW (by rw [ByteArray.toList_eq]; exact Pd hq) ?_;refine ap b4 rfl (by simp [encI]) ?_;intro h4 b4 k4 z4;have b4:bf h4 h1.size 96 (encI none 0 0 (dA 6)):=b4;have e04:Ext h h4:=Ch.trans e03 k4 (fun j hj hl=>by simp at hj; omega);have v4:=v.an e04;obtain ⟨aa,haa,hca⟩:=v4.cells i hia;refine aC ⟨ae,ae⟩ (au haa ?_);rw [show Int.toNat (i:Int)=i from ae];generalize al[i]=a at hit hca hmem;refine aG ((a.p,a.l,a.c),()) hca (ao ?_);rw [EA] at hit;rw [az];refine KO (x:=dA 6) (v4.lK a hmem) (v4.bH a hmem) (v.wf a hmem) (v.many a hmem) (v.text a hmem) b4 b4.lt (cont:=fun n15=>cond (n15 != (0:Int)) _ _) ?_;intro h5 k5 hm;have k35:Ch [h1.size] h3 h5:=Ch.trans k4 k5 (fun j hj _=>hj);cases hn:bL a.ts with
   | error e =>
    rw [hn] at hit hm;have he:=dC (v.wf a hmem) hn;refine aX (by show ((e:Int) != 0)=true; simp; omega) ?_;exact bad (e:=e) k35 (by rw [<- hr,hit]) ae
   | ok y =>
    rw [hn] at hit hm;obtain ⟨p5,l5,c5,b5,sl⟩:=hm;refine aW rfl ?_;refine push (sp:=⟨p5,l5,c5⟩) (y:={ dA 6 with e:=y }) k35 (Sx.SL.mono sl (by have:=k4.size; omega)) b5 ?_;intro p' c' h6 e6 b16 b36 A6 hb6;refine aY (cs:=[(false,[.int .i64]),(false,[.int .i64])]) (n4,((i+1:Nat):Int),()) (l-(i+1)) rfl ae (by rw [hw]; rfl) ⟨i+1,_,p',l7+1,c',rfl,ae,rfl,e6,b16,b36,A6,by simp [hus],hb6,?_⟩;rw [hit];cases cL 6 ((al.map In.ts).drop (i+1)) <;> simp
 ·have q:=OF q
  have:i=l:=ae
  subst this;rw [Pp (by rw [OI]; omega)] at hit;have hit:cL k (al.map In.ts)=.ok (us.map (·.2)):=by rw [hit]; simp [cL]
  refine af b3 ((2:Int),(p6,l7,l8),ct,(none,0,0),(0:Int),(0:Int),()) rfl (ao ?_);refine mg b1 rfl ?_;intro h' b' k' z';refine ⟨Ch.trans e1 k' (fun j hj hl=>by simp at hj; omega),?_⟩;rw [<- hr,hit];exact ⟨⟨p6,l7,l8⟩,us,⟨none,0,0⟩,rfl,(A.an k' (fun j hj hl=>by simp at hj; omega)).mono ae,rfl,SL.nil _ _ _ _,.inr rfl⟩
def dr:Except Nat (jM × Nat)->Except Nat jM
 | .error e=>.error e
 | .ok (t,_)=>.ok t
def FN {s:XA} {args:List (List Tok)} (q:s.data.toList=[112,111,111,108]):dr (dI s args)=if args.length≠0 then .error 20 else .ok (eP (dA 4)):=by
 have hc:bX s=0:=by unfold bX; simp [q]
 by_cases hn:args.length=0
 ·have hA:¬ (bX s=-2\/(0<=bX s/\(args.length:Int)≠bX s)):=by rw [hc]; omega
  rw [OG ae];unfold dI;simp (decide:=true) only [OG hA,q,P1,PR];rfl
 ·rw [OH hn];unfold dI;simp only;rw [OH (by rw [hc]; omega)] <;> rfl
def Dn {s:XA} {args:List (List Tok)} (q:s.data.toList=[97,108,105,103,110]):dr (dI s args)=if args.length≠1 then .error 20 else match fa 1 256 (ag args 0) with | .error e=>.error e | .ok n=>if mv n then .ok (eP { dA 3 with n:=n }) else .error 21:=by
 have hc:bX s=1:=by unfold bX; simp [q]
 by_cases hn:args.length=1
 ·have hA:¬ (bX s=-2\/(0<=bX s/\(args.length:Int)≠bX s)):=by rw [hc]; omega
  rw [OG ae];unfold dI;simp (decide:=true) only [OG hA,q,P1,PR];cases fa 1 256 (ag args 0) with
  | error e=>rfl
  | ok n=>by_cases hp:mv n=true <;> simp [hp,dr]
 ·rw [OH hn];unfold dI;simp only;rw [OH (by rw [hc]; omega)] <;> rfl
def Eb {s:XA} {args:List (List Tok)} (q:s.data.toList=[115,112,97,99,101]):dr (dI s args)=if args.length≠1 then .error 20 else match fa 0 1048576 (ag args 0) with | .error e=>.error e | .ok n=>.ok (eP { dA 7 with n:=n }):=by
 have hc:bX s=1:=by unfold bX; simp [q]
 by_cases hn:args.length=1
 ·have hA:¬ (bX s=-2\/(0<=bX s/\(args.length:Int)≠bX s)):=by rw [hc]; omega
  rw [OG ae];unfold dI;simp (decide:=true) only [OG hA,q,P1,PR]
  all_goals (cases fa 0 1048576 (ag args 0) <;> rfl)
 ·rw [OH hn];unfold dI;simp only;rw [OH (by rw [hc]; omega)] <;> rfl
def H3 {s:XA} {args:List (List Tok)} (q:s.data.toList=[101,113,117]):dr (dI s args)=if args.length≠2 then .error 20 else match jt (ag args 0) with | .error e=>.error e | .ok s=>match bL (ag args 1) with | .error e=>.error e | .ok x=>.ok { cg with kind:=3,name:=s,e:=x }:=by
 have hc:bX s=2:=by unfold bX; simp [q]
 by_cases hn:args.length=2
 ·have hA:¬ (bX s=-2\/(0<=bX s/\(args.length:Int)≠bX s)):=by rw [hc]; omega
  rw [OG ae];unfold dI;simp (decide:=true) only [OG hA,q,P1,PR];cases jt (ag args 0) with
  | error e=>rfl
  | ok s=>cases bL (ag args 1) <;> rfl
 ·rw [OH hn];unfold dI;simp only;rw [OH (by rw [hc]; omega)] <;> rfl
def BZ {s:XA} {args:List (List Tok)} (q:s.data.toList=[103,108,111,98,97,108]):dr (dI s args)=if args.length≠1 then .error 20 else match jt (ag args 0) with | .error e=>.error e | .ok s=>.ok { cg with kind:=4,name:=s }:=by
 have hc:bX s=1:=by unfold bX; simp [q]
 by_cases hn:args.length=1
 ·have hA:¬ (bX s=-2\/(0<=bX s/\(args.length:Int)≠bX s)):=by rw [hc]; omega
  rw [OG ae];unfold dI;simp (decide:=true) only [OG hA,q,P1,PR]
  all_goals (cases jt (ag args 0) <;> rfl)
 ·rw [OH hn];unfold dI;simp only;rw [OH (by rw [hc]; omega)] <;> rfl
def A8 {s:XA} {args:List (List Tok)} (q:s.data.toList=[115,101,99,116,105,111,110]):dr (dI s args)=if args.length≠1 then .error 20 else match ag args 0 with | [t]=>if t.kind=1/\t.text.data.toList=[116,101,120,116] then .ok { cg with kind:=5 } else if t.kind=1/\t.text.data.toList=[100,97,116,97] then .ok { cg with kind:=5,sec:=1 } else .error 20 | _=>.error 20:=by
 have hc:bX s=1:=by unfold bX; simp [q]
 by_cases hn:args.length=1
 ·have hA:¬ (bX s=-2\/(0<=bX s/\(args.length:Int)≠bX s)):=by rw [hc]; omega
  rw [OG ae];unfold dI;simp (decide:=true) only [OG hA,q,P1,PR];cases ag args 0 with
  | nil=>rfl
  | cons t r =>
   cases r with
   | cons _ _=>rfl
   | nil =>
    simp only;split
    ·rfl
    ·split <;> rfl
 ·rw [OH hn];unfold dI;simp only;rw [OH (by rw [hc]; omega)] <;> rfl
def Gr {s:XA} {args:List (List Tok)} (q:s.data.toList=[98,121,116,101]):dr (dI s args)=if args=[] then .error 20 else Js 5 args:=by
 have hc:bX s=-1:=by unfold bX; simp [q]
 have hA:¬ (bX s=-2\/(0<=bX s/\(args.length:Int)≠bX s)):=by rw [hc]; omega
 unfold dI Js;simp (decide:=true) only [OG hA,q,P1,PR]
 by_cases hn:args=[]
 ·rw [OH hn,OH hn] <;> rfl
 ·rw [OG hn,OG hn]
  all_goals (cases cL 5 args <;> rfl)
def Gz {s:XA} {args:List (List Tok)} (q:s.data.toList=[119,111,114,100]):dr (dI s args)=if args=[] then .error 20 else Js 6 args:=by
 have hc:bX s=-1:=by unfold bX; simp [q]
 have hA:¬ (bX s=-2\/(0<=bX s/\(args.length:Int)≠bX s)):=by rw [hc]; omega
 unfold dI Js;simp (decide:=true) only [OG hA,q,P1,PR]
 by_cases hn:args=[]
 ·rw [OH hn,OH hn] <;> rfl
 ·rw [OG hn,OG hn]
  all_goals (cases cL 6 args <;> rfl)
def Gj {s:XA} {args:List (List Tok)} (n0:¬ s.data.toList=[112,111,111,108]) (n1:¬ s.data.toList=[97,108,105,103,110]) (n2:¬ s.data.toList=[115,112,97,99,101]) (n3:¬ s.data.toList=[98,121,116,101]) (n4:¬ s.data.toList=[119,111,114,100]) (n5:¬ s.data.toList=[101,113,117]) (n6:¬ s.data.toList=[103,108,111,98,97,108]) (n7:¬ s.data.toList=[115,101,99,116,105,111,110]):dr (dI s args)=.error 20:=by
 have hc:bX s=-2:=by unfold bX; simp [n0,n1,n2,n3,n4,n5,n6,n7]
 unfold dI;simp only;rw [OH (.inl hc)] <;> rfl
def zk {h:Hp} {p:Option XC} {l c:Nat} {al:List In} (v:AH h p l al) (hal:al.length<=2^32) (s:XA) :
  HC Tryz.prog 135 #[.string s,.slice p l c] h (qk h (dr (dI s (al.map In.ts)))):=by
 refine ba (args:=[.string s,.slice p l c]) mixed Tryz.func135 aB (ka s p l c) ?_;have hl:=v.len;obtain ⟨r,hr⟩:∃ r,dr (dI s (al.map In.ts))=r:=⟨_,rfl⟩
 rw [hr]
 have bad:∀ {gg:Hp} {xs:List XB} {e:Nat} {L:Lp},Ext h gg->bf gg h.size 194 xs->xs.length=6->r=.error e->e≠0 ->
   (T.ak ⟨h.size,0,none⟩ [.int .i64 (0:Int),.slice none 0 0,.string ⟨#[]⟩,.slice none 0 0,.int .u32 (0:Int),.int .i64 (0:Int)] <|
   T.ah ⟨h.size,0,none⟩ [.int .i64,.slice 96,.string,.slice 109,.int .u32,.int .i64] <| fun (n6:Int) (p7:Option XC) (l8:Nat) (l9:Nat) (s10:XA) (p11:Option XC) (l12:Nat) (l13:Nat) (n14:Int) (n15:Int) =>
   T.ret (.tuple #[.agg #[.int .i64 n6,.slice p7 l8 l9,.string s10,.slice p11 l12 l13,.int .u32 n14,.int .i64 n15],.int .i64 (e:Int)])) L (qk h r) gg:=by
  intro gg xs e L eg bx hx hA he;refine mg bx hx ?_;intro h' b' k' z';refine ⟨Ch.trans eg k' (fun i hi hl=>by simp at hi; omega),?_⟩;rw [hA];exact ⟨rfl,he⟩
 have good:∀ {gg:Hp} {xs:List XB} {t:jM} {sl se:cH} {us:List (cH × cd)} {L:Lp},Ext h gg->bf gg h.size 194 xs->xs.length=6->r=.ok t->j5 gg (h.size+1) t sl us se ->
   (T.ak ⟨h.size,0,none⟩ [.int .i64 (t.kind:Int),.slice sl.p sl.l sl.c,.string t.name,.slice se.p se.l se.c,.int .u32 (t.e.num:Int),.int .i64 (t.sec:Int)] <|
   T.ah ⟨h.size,0,none⟩ [.int .i64,.slice 96,.string,.slice 109,.int .u32,.int .i64] <| fun (n6:Int) (p7:Option XC) (l8:Nat) (l9:Nat) (s10:XA) (p11:Option XC) (l12:Nat) (l13:Nat) (n14:Int) (n15:Int) =>
   T.ret (.tuple #[.agg #[.int .i64 n6,.slice p7 l8 l9,.string s10,.slice p11 l12 l13,.int .u32 n14,.int .i64 n15],.int .i64 (0:Int)])) L (qk h r) gg:=by
  intro gg xs t sl se us L eg bx hx hA A;refine mg bx hx ?_;intro h' b' k' z';refine ⟨Ch.trans eg k' (fun i hi hl=>by simp at hi; omega),?_⟩;rw [hA];exact ⟨sl,us,se,rfl,(A.an k' (fun i hi hl=>by simp at hi; omega)).mono ae⟩
 unfold gB aN aS aR aZ av aw aJ aI bh aQ;refine bm ?_;intro g1 b1 e1 z1;have v1:=v.an e1;have hh1:g1.size=h.size+1:=z1;have bz:∀ {gg:Hp},Ext g1 gg->bf gg h.size 194 zT:=fun e=>b1.an e aj
 have arg:∀ i,(hi:i<al.length)->ag (al.map In.ts) i=al[i].ts:=by
  intro i hi;unfold ag;rw [OV,OO (by rw [OI]; exact hi),Option.getD_some,O4]
 have mem:∀ i,(hi:i<al.length)->al[i]∈al:=fun i hi=>O2 hi
 by_cases q0:s.data.toList=[112,111,111,108]
 ·have q:=(ByteArray.toList_eq s).trans q0;have hD:=(hr.symm.trans (FN q0))
  simp only [q];refine bG (cs:=[(false,[.int .i64])]) (fun y h'=>h'=g1/\y.1=(0:Int)) ?_ ?_
  ·repeat (first | refine aX rfl ?_ | refine aW rfl ?_)
   exact aO (cs:=[(false,[.int .i64])]) ((0:Int),()) rfl rfl ⟨rfl,rfl⟩
  rintro ⟨n3,⟨⟩⟩ h9 ⟨e9,h3⟩;have e9:=e9.symm;subst e9;simp only at h3;subst h3;refine ao ?_;rw [OI] at hD;refine ai (fun g=>?_) (fun g=>?_)
  ·have g:¬ (l:Int)=0:=by simpa using g
   exact bad (e:=20) e1 (bz (Ch.refl _ _)) rfl (hD.trans (OH ae)) bO
  have g:(l:Int)=0:=by simpa using g
  rw [OG ae] at hD
  repeat (first | refine aX rfl ?_ | refine aW rfl ?_)
  refine fW (p:=none) (l:=0) (c:=0) (x:=dA 4) ?_;intro h2 s2 e2 z2;exact good (t:=eP (dA 4)) (sl:=⟨some ⟨g1.size,0,none⟩,1,1⟩) (se:=⟨none,0,0⟩) (e1.trans e2) (bz e2) rfl hD (Ak (Sx.SL.mono s2 ae) rfl)
 by_cases q1:s.data.toList=[97,108,105,103,110]
 ·have q:=(ByteArray.toList_eq s).trans q1;have hD:=(hr.symm.trans (Dn q1))
  simp only [q];refine bG (cs:=[(false,[.int .i64])]) (fun y h'=>h'=g1/\y.1=(1:Int)) ?_ ?_
  ·repeat (first | refine aX rfl ?_ | refine aW rfl ?_)
   exact aO (cs:=[(false,[.int .i64])]) ((1:Int),()) rfl rfl ⟨rfl,rfl⟩
  rintro ⟨n3,⟨⟩⟩ h9 ⟨e9,h3⟩;have e9:=e9.symm;subst e9;simp only at h3;subst h3;refine ao ?_;rw [OI] at hD;refine ai (fun g=>?_) (fun g=>?_)
  ·have g:¬ (l:Int)=1:=by simpa using g
   exact bad (e:=20) e1 (bz (Ch.refl _ _)) rfl (hD.trans (OH ae)) bO
  have g:(l:Int)=1:=by simpa using g
  rw [OG ae] at hD;have h1:0<al.length:=ae
  obtain ⟨a0,ha0,hc0⟩:=ej v1 h1;rw [wF] at hc0;rw [arg 0 h1] at hD
  repeat (first | refine aX rfl ?_ | refine aW rfl ?_)
  refine aC ⟨ae,ae⟩ (au ha0 (aG ((al[0].p,al[0].l,al[0].c),()) hc0 (ao ?_)));have va:=v1.lK _ (mem 0 h1);have vb:=v1.bH _ (mem 0 h1);have vw:=v.wf _ (mem 0 h1);have vm:=v.many _ (mem 0 h1);have vt:=v.text _ (mem 0 h1);refine Fe va vb vw vm vt (lo:=1) (hi:=256) ?_;intro h2 e2;have hz2:=e2.size;cases hn:fa 1 256 al[0].ts with
  | error e =>
   have he:=ff vw hn;rw [hn] at hD;refine aW (by show ((e:Int)==0)=false; simp; omega) ?_;refine aX (by show ((e:Int) != 0)=true; simp; omega) ?_;exact bad (e:=e) (e1.trans e2) (bz e2) rfl hD ae
  | ok n =>
   rw [hn] at hD;refine aX rfl (aM (F5 h2 n) ?_);refine ai (fun r=>?_) (fun r=>?_)
   ·have r:mv n=false:=by simpa [Dg] using r
    exact bad (e:=21) (e1.trans e2) (bz e2) rfl (hD.trans (OG (by rw [r]; simp))) bO
   have r:mv n=true:=by simpa [Dg] using r
   have hD:=hD.trans (OH r);refine aW rfl ?_;refine fW (p:=none) (l:=0) (c:=0) (x:={ dA 3 with n:=n }) ?_;intro h3 s3 e3 z3;exact good (t:=eP { dA 3 with n:=n }) (sl:=⟨some ⟨h2.size,0,none⟩,1,1⟩) (se:=⟨none,0,0⟩) (e1.trans (e2.trans e3)) (bz (e2.trans e3)) rfl hD (Ak (Sx.SL.mono s3 ae) rfl)
 by_cases q2:s.data.toList=[115,112,97,99,101]
 ·have q:=(ByteArray.toList_eq s).trans q2;have hD:=(hr.symm.trans (Eb q2))
  simp only [q];refine bG (cs:=[(false,[.int .i64])]) (fun y h'=>h'=g1/\y.1=(1:Int)) ?_ ?_
  ·repeat (first | refine aX rfl ?_ | refine aW rfl ?_)
   exact aO (cs:=[(false,[.int .i64])]) ((1:Int),()) rfl rfl ⟨rfl,rfl⟩
  rintro ⟨n3,⟨⟩⟩ h9 ⟨e9,h3⟩;have e9:=e9.symm;subst e9;simp only at h3;subst h3;refine ao ?_;rw [OI] at hD;refine ai (fun g=>?_) (fun g=>?_)
  ·have g:¬ (l:Int)=1:=by simpa using g
   exact bad (e:=20) e1 (bz (Ch.refl _ _)) rfl (hD.trans (OH ae)) bO
  have g:(l:Int)=1:=by simpa using g
  rw [OG ae] at hD;have h1:0<al.length:=ae
  obtain ⟨a0,ha0,hc0⟩:=ej v1 h1;rw [wF] at hc0;rw [arg 0 h1] at hD
  repeat (first | refine aX rfl ?_ | refine aW rfl ?_)
  refine aC ⟨ae,ae⟩ (au ha0 (aG ((al[0].p,al[0].l,al[0].c),()) hc0 (ao ?_)));have va:=v1.lK _ (mem 0 h1);have vb:=v1.bH _ (mem 0 h1);have vw:=v.wf _ (mem 0 h1);have vm:=v.many _ (mem 0 h1);have vt:=v.text _ (mem 0 h1);refine Fe va vb vw vm vt (lo:=0) (hi:=1048576) ?_;intro h2 e2;have hz2:=e2.size;cases hn:fa 0 1048576 al[0].ts with
  | error e =>
   have he:=ff vw hn;rw [hn] at hD;refine aX (by show ((e:Int) != 0)=true; simp; omega) ?_;exact bad (e:=e) (e1.trans e2) (bz e2) rfl hD ae
  | ok n =>
   rw [hn] at hD;refine aW rfl ?_;refine fW (p:=none) (l:=0) (c:=0) (x:={ dA 7 with n:=n }) ?_;intro h3 s3 e3 z3;exact good (t:=eP { dA 7 with n:=n }) (sl:=⟨some ⟨h2.size,0,none⟩,1,1⟩) (se:=⟨none,0,0⟩) (e1.trans (e2.trans e3)) (bz (e2.trans e3)) rfl hD (Ak (Sx.SL.mono s3 ae) rfl)
 by_cases q3:s.data.toList=[98,121,116,101]
 ·have q:=(ByteArray.toList_eq s).trans q3;have hD:=(hr.symm.trans (Gr q3))
  simp only [q];refine bG (cs:=[(false,[.int .i64])]) (fun y h'=>h'=g1/\y.1=(if l=0 then (1:Int) else (l:Int))) ?_ ?_
  ·repeat (first | refine aX rfl ?_ | refine aW rfl ?_)
   refine ai (fun g=>?_) (fun g=>?_)
   ·have g:l=0:=fe g;exact aO (cs:=[(false,[.int .i64])]) ((1:Int),()) rfl rfl ⟨rfl,by rw [OH g]⟩
   ·have g:¬ l=0:=fy g;exact aO (cs:=[(false,[.int .i64])]) ((l:Int),()) rfl rfl ⟨rfl,by rw [OG g]⟩
  rintro ⟨n3,⟨⟩⟩ h9 ⟨e9,h3⟩;have e9:=e9.symm;subst e9;simp only at h3;subst h3;refine ao ?_;have hnil:al.map In.ts=[]↔l=0:=by
   rw [List.map_eq_nil_iff,hl];exact List.length_eq_zero_iff.symm
  refine ai (fun g=>?_) (fun g=>?_)
  ·have g:¬ (l:Int)=if l=0 then (1:Int) else (l:Int):=by simpa using g
   have g0:l=0:=by
    by_cases h0:l=0
    ·exact h0
    ·rw [OG h0] at g;exact absurd rfl g
   exact bad (e:=20) e1 (bz (Ch.refl _ _)) rfl (hD.trans (OH (hnil.2 g0))) bO
  have g:(l:Int)=if l=0 then (1:Int) else (l:Int):=by simpa using g
  have g0:¬ l=0:=by
   intro h0;rw [OH h0] at g;omega
  rw [OG (fun e=>g0 (hnil.1 e))] at hD
  repeat (first | refine aX rfl ?_ | refine aW rfl ?_)
  refine aK (xz (k:=5) ae (by rw [q3]; decide) v1 hal) ?_;rintro u h2 ⟨e2,hu⟩;cases hn:Js 5 (al.map In.ts) with
  | error e =>
   rw [hn] at hD hu;obtain ⟨rfl,he⟩:=hu;refine ⟨((0:Int),(none,0,0),ct,(none,0,0),(0:Int),(0:Int),(e:Int),()),rfl,ao ?_⟩;exact bad (e:=e) (e1.trans e2) (bz e2) rfl hD he
  | ok t =>
   rw [hn] at hD hu;obtain ⟨sl,us,se,rfl,A⟩:=hu;refine ⟨((t.kind:Int),(sl.p,sl.l,sl.c),t.name,(se.p,se.l,se.c),(t.e.num:Int),(t.sec:Int),(0:Int),()),rfl,ao ?_⟩;exact good (t:=t) (sl:=sl) (se:=se) (us:=us) (e1.trans e2) (bz e2) rfl hD (A.mono ae)
 by_cases q4:s.data.toList=[119,111,114,100]
 ·have q:=(ByteArray.toList_eq s).trans q4;have hD:=(hr.symm.trans (Gz q4))
  simp only [q];refine bG (cs:=[(false,[.int .i64])]) (fun y h'=>h'=g1/\y.1=(if l=0 then (1:Int) else (l:Int))) ?_ ?_
  ·repeat (first | refine aX rfl ?_ | refine aW rfl ?_)
   refine ai (fun g=>?_) (fun g=>?_)
   ·have g:l=0:=fe g;exact aO (cs:=[(false,[.int .i64])]) ((1:Int),()) rfl rfl ⟨rfl,by rw [OH g]⟩
   ·have g:¬ l=0:=fy g;exact aO (cs:=[(false,[.int .i64])]) ((l:Int),()) rfl rfl ⟨rfl,by rw [OG g]⟩
  rintro ⟨n3,⟨⟩⟩ h9 ⟨e9,h3⟩;have e9:=e9.symm;subst e9;simp only at h3;subst h3;refine ao ?_;have hnil:al.map In.ts=[]↔l=0:=by
   rw [List.map_eq_nil_iff,hl];exact List.length_eq_zero_iff.symm
  refine ai (fun g=>?_) (fun g=>?_)
  ·have g:¬ (l:Int)=if l=0 then (1:Int) else (l:Int):=by simpa using g
   have g0:l=0:=by
    by_cases h0:l=0
    ·exact h0
    ·rw [OG h0] at g;exact absurd rfl g
   exact bad (e:=20) e1 (bz (Ch.refl _ _)) rfl (hD.trans (OH (hnil.2 g0))) bO
  have g:(l:Int)=if l=0 then (1:Int) else (l:Int):=by simpa using g
  have g0:¬ l=0:=by
   intro h0;rw [OH h0] at g;omega
  rw [OG (fun e=>g0 (hnil.1 e))] at hD
  repeat (first | refine aX rfl ?_ | refine aW rfl ?_)
  refine aK (xz (k:=6) ae (by rw [q4]; decide) v1 hal) ?_;rintro u h2 ⟨e2,hu⟩;cases hn:Js 6 (al.map In.ts) with
  | error e =>
   rw [hn] at hD hu;obtain ⟨rfl,he⟩:=hu;refine ⟨((0:Int),(none,0,0),ct,(none,0,0),(0:Int),(0:Int),(e:Int),()),rfl,ao ?_⟩;exact bad (e:=e) (e1.trans e2) (bz e2) rfl hD he
  | ok t =>
   rw [hn] at hD hu;obtain ⟨sl,us,se,rfl,A⟩:=hu;refine ⟨((t.kind:Int),(sl.p,sl.l,sl.c),t.name,(se.p,se.l,se.c),(t.e.num:Int),(t.sec:Int),(0:Int),()),rfl,ao ?_⟩;exact good (t:=t) (sl:=sl) (se:=se) (us:=us) (e1.trans e2) (bz e2) rfl hD (A.mono ae)
 by_cases q5:s.data.toList=[101,113,117]
 ·have q:=(ByteArray.toList_eq s).trans q5;have hD:=(hr.symm.trans (H3 q5))
  simp only [q];refine bG (cs:=[(false,[.int .i64])]) (fun y h'=>h'=g1/\y.1=(2:Int)) ?_ ?_
  ·repeat (first | refine aX rfl ?_ | refine aW rfl ?_)
   exact aO (cs:=[(false,[.int .i64])]) ((2:Int),()) rfl rfl ⟨rfl,rfl⟩
  rintro ⟨n3,⟨⟩⟩ h9 ⟨e9,h3⟩;have e9:=e9.symm;subst e9;simp only at h3;subst h3;refine ao ?_;rw [OI] at hD;refine ai (fun g=>?_) (fun g=>?_)
  ·have g:¬ (l:Int)=2:=by simpa using g
   exact bad (e:=20) e1 (bz (Ch.refl _ _)) rfl (hD.trans (OH ae)) bO
  have g:(l:Int)=2:=by simpa using g
  rw [OG ae] at hD;have h1:0<al.length:=ae
  obtain ⟨a0,ha0,hc0⟩:=ej v1 h1;rw [wF] at hc0;rw [arg 0 h1] at hD
  repeat (first | refine aX rfl ?_ | refine aW rfl ?_)
  refine aC ⟨ae,ae⟩ (au ha0 (aG ((al[0].p,al[0].l,al[0].c),()) hc0 (ao ?_)));have va:=v1.lK _ (mem 0 h1);have vb:=v1.bH _ (mem 0 h1);have vw:=v.wf _ (mem 0 h1);have vm:=v.many _ (mem 0 h1);have vt:=v.text _ (mem 0 h1);cases hn:jt al[0].ts with
  | error e =>
   have he:=mw hn;rw [hn] at hD;refine eZ (qN va vt) ((⟨#[]⟩:XA),(e:Int),()) (by rw [hn]; rfl) ?_;refine ao ?_;refine aX (by simp; omega) ?_;exact bad (e:=e) e1 (bz (Ch.refl _ _)) rfl hD ae
  | ok nm =>
   rw [hn] at hD;refine eZ (qN va vt) (nm,(0:Int),()) (by rw [hn]; rfl) ?_;refine ao ?_;refine aW rfl ?_
   repeat (first | refine aX rfl ?_ | refine aW rfl ?_)
   have h2:1<al.length:=ae
   rw [arg 1 h2] at hD;obtain ⟨a1,ha1,hc1⟩:=ej v1 h2;refine aC ⟨ae,ae⟩ (au ha1 (aG ((al[1].p,al[1].l,al[1].c),()) hc1 (ao ?_)));refine aK (sV (v1.lK _ (mem 1 h2)) (v1.bH _ (mem 1 h2)) (v.wf _ (mem 1 h2)) (v.many _ (mem 1 h2)) (v.text _ (mem 1 h2))) ?_;rintro u h3 ⟨e3,hu⟩;cases hx:bL al[1].ts with
   | error e =>
    rw [hx] at hu hD;have he:=dC (v.wf _ (mem 1 h2)) hx;have hu:u=.tuple #[.agg #[.slice none 0 0,.int .u32 0],.int .i64 (e:Int)]:=hu;subst hu;refine ⟨((none,0,0),(0:Int),(e:Int),()),rfl,ao ?_⟩;refine bm ?_;intro h4 b4 e4 z4;refine ap b4 rfl aj ?_;intro h5 b5 k5 z5;refine aX (by simp; omega) ?_;have e35:Ext h3 h5:=Ch.trans e4 k5 (fun i hi hl=>by simp at hi; omega);exact bad (e:=e) (e1.trans (e3.trans e35)) (bz (e3.trans e35)) rfl hD ae
   | ok x =>
    rw [hx] at hu hD;obtain ⟨p5,l5,c5,rfl,sl,gd⟩:=hu;refine ⟨((p5,l5,c5),(x.num:Int),(0:Int),()),rfl,ao ?_⟩;refine bm ?_;intro h4 b4 e4 z4;refine ap b4 rfl aj ?_;intro h5 b5 k5 z5;have b5:bf h5 h3.size 94 [.slice p5 l5 c5,.int .u32 (x.num:Int)]:=b5;refine aW rfl ?_;refine af b5 ((p5,l5,c5),(x.num:Int),()) rfl (ao ?_);have e35:Ext h3 h5:=Ch.trans e4 k5 (fun i hi hl=>by simp at hi; omega);exact good (t:={ cg with kind:=3,name:=nm,e:=x }) (sl:=⟨none,0,0⟩) (se:=⟨p5,l5,c5⟩) (us:=[]) (e1.trans (e3.trans e35)) (bz (e3.trans e35)) rfl hD ⟨dO.nil _ _,rfl,(Sx.SL.mono sl ae).bd e35 aj,.inl rfl⟩
 by_cases q6:s.data.toList=[103,108,111,98,97,108]
 ·have q:=(ByteArray.toList_eq s).trans q6;have hD:=(hr.symm.trans (BZ q6))
  simp only [q];refine bG (cs:=[(false,[.int .i64])]) (fun y h'=>h'=g1/\y.1=(1:Int)) ?_ ?_
  ·repeat (first | refine aX rfl ?_ | refine aW rfl ?_)
   exact aO (cs:=[(false,[.int .i64])]) ((1:Int),()) rfl rfl ⟨rfl,rfl⟩
  rintro ⟨n3,⟨⟩⟩ h9 ⟨e9,h3⟩;have e9:=e9.symm;subst e9;simp only at h3;subst h3;refine ao ?_;rw [OI] at hD;refine ai (fun g=>?_) (fun g=>?_)
  ·have g:¬ (l:Int)=1:=by simpa using g
   exact bad (e:=20) e1 (bz (Ch.refl _ _)) rfl (hD.trans (OH ae)) bO
  have g:(l:Int)=1:=by simpa using g
  rw [OG ae] at hD;have h1:0<al.length:=ae
  obtain ⟨a0,ha0,hc0⟩:=ej v1 h1;rw [wF] at hc0;rw [arg 0 h1] at hD
  repeat (first | refine aX rfl ?_ | refine aW rfl ?_)
  refine aC ⟨ae,ae⟩ (au ha0 (aG ((al[0].p,al[0].l,al[0].c),()) hc0 (ao ?_)));have va:=v1.lK _ (mem 0 h1);have vb:=v1.bH _ (mem 0 h1);have vw:=v.wf _ (mem 0 h1);have vm:=v.many _ (mem 0 h1);have vt:=v.text _ (mem 0 h1);cases hn:jt al[0].ts with
  | error e =>
   have he:=mw hn;rw [hn] at hD;refine eZ (qN va vt) ((⟨#[]⟩:XA),(e:Int),()) (by rw [hn]; rfl) ?_;refine ao ?_;refine aX (by simp; omega) ?_;exact bad (e:=e) e1 (bz (Ch.refl _ _)) rfl hD ae
  | ok nm =>
   rw [hn] at hD;refine eZ (qN va vt) (nm,(0:Int),()) (by rw [hn]; rfl) ?_;refine ao ?_;refine aW rfl ?_
   repeat (first | refine aX rfl ?_ | refine aW rfl ?_)
   exact good (t:={ cg with kind:=4,name:=nm }) (sl:=⟨none,0,0⟩) (se:=⟨none,0,0⟩) (us:=[]) e1 (bz (Ch.refl _ _)) rfl hD ⟨dO.nil _ _,rfl,SL.nil _ _ _ _,.inl rfl⟩
 by_cases q7:s.data.toList=[115,101,99,116,105,111,110]
 ·have q:=(ByteArray.toList_eq s).trans q7;have hD:=(hr.symm.trans (A8 q7))
  simp only [q];refine bG (cs:=[(false,[.int .i64])]) (fun y h'=>h'=g1/\y.1=(1:Int)) ?_ ?_
  ·repeat (first | refine aX rfl ?_ | refine aW rfl ?_)
   exact aO (cs:=[(false,[.int .i64])]) ((1:Int),()) rfl rfl ⟨rfl,rfl⟩
  rintro ⟨n3,⟨⟩⟩ h9 ⟨e9,h3⟩;have e9:=e9.symm;subst e9;simp only at h3;subst h3;refine ao ?_;rw [OI] at hD;refine ai (fun g=>?_) (fun g=>?_)
  ·have g:¬ (l:Int)=1:=by simpa using g
   exact bad (e:=20) e1 (bz (Ch.refl _ _)) rfl (hD.trans (OH ae)) bO
  have g:(l:Int)=1:=by simpa using g
  rw [OG ae] at hD;have h1:0<al.length:=ae
  obtain ⟨a0,ha0,hc0⟩:=ej v1 h1;rw [wF] at hc0;rw [arg 0 h1] at hD
  repeat (first | refine aX rfl ?_ | refine aW rfl ?_)
  refine aC ⟨ae,ae⟩ (au ha0 (aG ((al[0].p,al[0].l,al[0].c),()) hc0 (ao ?_)));have va:=v1.lK _ (mem 0 h1);have vb:=v1.bH _ (mem 0 h1);have vw:=v.wf _ (mem 0 h1);have vm:=v.many _ (mem 0 h1);have vt:=v.text _ (mem 0 h1);generalize al[0]=a at *;have hla:=va.len;refine ai (fun r'=>?_) (fun r'=>?_)
  ·have r':a.l=1:=fe r';obtain ⟨t,ht⟩:=vk (show a.ts.length=1 from ae);rw [ht] at va hD;obtain ⟨aa,haa,c0⟩:=va.cells 0 aj;have c0:bk g1 (aa.add (0*4)) 0 (enc t):=c0;obtain ⟨u1,u2,_⟩:=fj c0;simp only at hD;refine aC ⟨ae,ae⟩ (au ha0 (aG ((a.p,a.l,a.c),()) hc0 (ao ?_)));refine aC ⟨ae,ae⟩ (au haa (aG ((t.kind:Int),()) u1 (ao ?_)));refine ai (fun g=>?_) (fun g=>?_)
   ·have g:t.kind=1:=fe g;refine aC ⟨ae,ae⟩ (au ha0 (aG ((a.p,a.l,a.c),()) hc0 (ao ?_)));refine aC ⟨ae,ae⟩ (au haa (aG (t.text,()) u2 (ao ?_)))
    have fin:∀ (d:Bool),(ByteArray.toList t.text==[({ toBitVec:=100#8 }:UInt8),({ toBitVec:=97#8 }),({ toBitVec:=116#8 }),({ toBitVec:=97#8 })])=d->r=.ok { cg with kind:=5,sec:=if d then 1 else 0 }->∀ {L:Lp},
      (T.new [.int .i64 (0:Int),.slice none 0 0,.string ⟨#[]⟩,.slice none 0 0,.int .u32 (0:Int),.int .i64 (0:Int)] 194 <| fun (a26:XC) =>
      T.ak a26 [.int .i64 (5:Int),.slice none 0 0,.string ⟨#[]⟩,.slice none 0 0,.int .u32 (0:Int),.int .i64 (0:Int)] <|
      T.need (((0:Int)<=(0:Int))/\((0:Int)<(l:Int))) <|
      T.aA p <| fun (a27:XC) =>
      T.ah a27 [.slice 236] <| fun (p28:Option XC) (l29:Nat) (l30:Nat) =>
      T.need (((0:Int)<=(0:Int))/\((0:Int)<(l29:Int))) <|
      T.aA p28 <| fun (a31:XC) =>
      T.ah (a31.add 1) [.string] <| fun (Bm:XA) =>
      cond ((ByteArray.toList Bm)==[({ toBitVec:=100#8 }),({ toBitVec:=97#8 }),({ toBitVec:=116#8 }),({ toBitVec:=97#8 })])
       (T.ak (a26.add 5) [.int .i64 (1:Int)] <|
       T.ah a26 [.int .i64,.slice 96,.string,.slice 109,.int .u32,.int .i64] <| fun (n33:Int) (p34:Option XC) (l35:Nat) (l36:Nat) (s37:XA) (p38:Option XC) (l39:Nat) (l40:Nat) (n41:Int) (n42:Int) =>
       T.ak ⟨h.size,0,none⟩ [.int .i64 n33,.slice p34 l35 l36,.string s37,.slice p38 l39 l40,.int .u32 n41,.int .i64 n42] <|
       T.ah ⟨h.size,0,none⟩ [.int .i64,.slice 96,.string,.slice 109,.int .u32,.int .i64] <| fun (n43:Int) (p44:Option XC) (l45:Nat) (l46:Nat) (s47:XA) (p48:Option XC) (l49:Nat) (l50:Nat) (n51:Int) (n52:Int) =>
       T.ret (.tuple #[.agg #[.int .i64 n43,.slice p44 l45 l46,.string s47,.slice p48 l49 l50,.int .u32 n51,.int .i64 n52],.int .i64 (0:Int)]))
       (T.ah a26 [.int .i64,.slice 96,.string,.slice 109,.int .u32,.int .i64] <| fun (n33:Int) (p34:Option XC) (l35:Nat) (l36:Nat) (s37:XA) (p38:Option XC) (l39:Nat) (l40:Nat) (n41:Int) (n42:Int) =>
       T.ak ⟨h.size,0,none⟩ [.int .i64 n33,.slice p34 l35 l36,.string s37,.slice p38 l39 l40,.int .u32 n41,.int .i64 n42] <|
       T.ah ⟨h.size,0,none⟩ [.int .i64,.slice 96,.string,.slice 109,.int .u32,.int .i64] <| fun (n43:Int) (p44:Option XC) (l45:Nat) (l46:Nat) (s47:XA) (p48:Option XC) (l49:Nat) (l50:Nat) (n51:Int) (n52:Int) =>
       T.ret (.tuple #[.agg #[.int .i64 n43,.slice p44 l45 l46,.string s47,.slice p48 l49 l50,.int .u32 n51,.int .i64 n52],.int .i64 (0:Int)]))) L (qk h r) g1:=by
     intro d hd hA L;refine bm ?_;intro h2 b2 e2 z2;refine ap b2 rfl aj ?_;intro h3 b3 k3 z3;have b3:bf h3 g1.size 194 (jm 5 none 0 0 ct none 0 0 0 0):=b3;have e13:Ext g1 h3:=Ch.trans e2 k3 (fun i hi hl=>by simp at hi; omega);refine aC ⟨ae,ae⟩ (au ha0 (aG ((a.p,a.l,a.c),()) (bF e13 aj _ _ hc0) (ao ?_)));refine aC ⟨ae,ae⟩ (au haa (aG (t.text,()) (bF e13 aj _ _ u2) (ao ?_)));rw [hd];cases d with
     | true =>
      refine aX rfl ?_;rw [az];refine ap b3 rfl (by simp [jm]) ?_;intro h4 b4 k4 z4;have b4:bf h4 g1.size 194 (jm 5 none 0 0 ct none 0 0 0 1):=b4;refine af b4 ((5:Int),(none,0,0),ct,(none,0,0),(0:Int),(1:Int),()) rfl (ao ?_);have e14:Ext g1 h4:=Ch.trans e13 k4 (fun i hi hl=>by simp at hi; omega);exact good (t:={ cg with kind:=5,sec:=1 }) (sl:=⟨none,0,0⟩) (se:=⟨none,0,0⟩) (us:=[]) (e1.trans e14) (bz e14) rfl hA ⟨dO.nil _ _,rfl,SL.nil _ _ _ _,.inl rfl⟩
     | false =>
      refine aW rfl ?_;refine af b3 ((5:Int),(none,0,0),ct,(none,0,0),(0:Int),(0:Int),()) rfl (ao ?_);exact good (t:={ cg with kind:=5 }) (sl:=⟨none,0,0⟩) (se:=⟨none,0,0⟩) (us:=[]) (e1.trans e13) (bz e13) rfl hA ⟨dO.nil _ _,rfl,SL.nil _ _ _ _,.inl rfl⟩
    by_cases w:t.text.data.toList=[116,101,120,116]
    ·rw [OH ⟨g,w⟩] at hD;refine aX (by rw [ByteArray.toList_eq,w]; rfl) ?_;exact fin false (by rw [ByteArray.toList_eq,w]; rfl) hD
    ·rw [OG (fun hh=>w hh.2)] at hD;refine aW (by rw [ByteArray.toList_eq]; exact Pd w) ?_;refine aC ⟨ae,ae⟩ (au ha0 (aG ((a.p,a.l,a.c),()) hc0 (ao ?_)));refine aC ⟨ae,ae⟩ (au haa (aG (t.text,()) u2 (ao ?_)))
     by_cases x:t.text.data.toList=[100,97,116,97]
     ·rw [OH ⟨g,x⟩] at hD;refine aX (by rw [ByteArray.toList_eq,x]; rfl) ?_;exact fin true (by rw [ByteArray.toList_eq,x]; rfl) hD
     ·rw [OG (fun hh=>x hh.2)] at hD;refine aW (by rw [ByteArray.toList_eq]; exact Pd x) ?_;exact bad (e:=20) e1 (bz (Ch.refl _ _)) rfl hD bO
   ·have g:¬ t.kind=1:=fy g;rw [OG (fun hh=>g hh.1),OG (fun hh=>g hh.1)] at hD;exact bad (e:=20) e1 (bz (Ch.refl _ _)) rfl hD bO
  ·have r':¬ a.l=1:=fy r';have hD:r=.error 20:=by
    rw [hD];cases hts:a.ts with
    | nil=>rfl
    | cons t r =>
     cases r with
     | nil=>rw [hts] at hla; simp at hla; omega
     | cons _ _=>rfl
   exact bad (e:=20) e1 (bz (Ch.refl _ _)) rfl hD bO
 have hD:=hr.symm.trans (Gj q0 q1 q2 q3 q4 q5 q6 q7);have m0:¬ ByteArray.toList s=[112,111,111,108]:=fun e=>q0 ((ByteArray.toList_eq s).symm.trans e)
 have m1:¬ ByteArray.toList s=[97,108,105,103,110]:=fun e=>q1 ((ByteArray.toList_eq s).symm.trans e)
 have m2:¬ ByteArray.toList s=[115,112,97,99,101]:=fun e=>q2 ((ByteArray.toList_eq s).symm.trans e)
 have m3:¬ ByteArray.toList s=[98,121,116,101]:=fun e=>q3 ((ByteArray.toList_eq s).symm.trans e)
 have m4:¬ ByteArray.toList s=[119,111,114,100]:=fun e=>q4 ((ByteArray.toList_eq s).symm.trans e)
 have m5:¬ ByteArray.toList s=[101,113,117]:=fun e=>q5 ((ByteArray.toList_eq s).symm.trans e)
 have m6:¬ ByteArray.toList s=[103,108,111,98,97,108]:=fun e=>q6 ((ByteArray.toList_eq s).symm.trans e)
 have m7:¬ ByteArray.toList s=[115,101,99,116,105,111,110]:=fun e=>q7 ((ByteArray.toList_eq s).symm.trans e)
 refine bG (cs:=[(false,[.int .i64])]) (fun y h'=>h'=g1/\y.1=(-1:Int)) ?_ ?_
 ·repeat (first | refine aW (Pd m0) ?_ | refine aW (Pd m1) ?_ | refine aW (Pd m2) ?_ | refine aW (Pd m3) ?_ | refine aW (Pd m4) ?_ | refine aW (Pd m5) ?_ | refine aW (Pd m6) ?_ | refine aW (Pd m7) ?_)
  exact aO (cs:=[(false,[.int .i64])]) ((-1:Int),()) rfl rfl ⟨rfl,rfl⟩
 rintro ⟨n3,⟨⟩⟩ h9 ⟨e9,h3⟩;have e9:=e9.symm;subst e9;simp only at h3;subst h3;refine ao ?_;refine aX aj ?_;exact bad (e:=20) e1 (bz (Ch.refl _ _)) rfl hD bO
def En {s:XA} {args:List (List Tok)} {t:jM} {w:Nat} (h:dI s args=.ok (t,w)) :
  w=if s.data.toList=[112,111,111,108] then 0 else if s.data.toList=[98,121,116,101]\/s.data.toList=[119,111,114,100]\/s.data.toList=[115,112,97,99,101] then 1 else 2:=by
 unfold dI at h;simp only at h;split at h
 ·cases h
 split at h
 ·rename_i q;injection h with h; injection h with _ h
  rw [OH q]; exact h.symm
 rename_i q0;rw [OG q0];split at h
 ·rename_i q;rw [OG (by rw [q]; decide)]
  repeat' split at h
  all_goals first | (cases h; done) | (injection h with h; injection h with _ h; exact h.symm)
 rename_i q1;split at h
 ·rename_i q;rw [OH (.inr (.inr q))]
  repeat' split at h
  all_goals first | (cases h; done) | (injection h with h; injection h with _ h; exact h.symm)
 rename_i q2;split at h
 ·rename_i q;rw [OH (.inl q)]
  repeat' split at h
  all_goals first | (cases h; done) | (injection h with h; injection h with _ h; exact h.symm)
 rename_i q3;split at h
 ·rename_i q;rw [OH (.inr (.inl q))]
  repeat' split at h
  all_goals first | (cases h; done) | (injection h with h; injection h with _ h; exact h.symm)
 rename_i q4;rw [OG (by rintro (x | x | x); exact q3 x; exact q4 x; exact q2 x)]
 repeat' split at h
 all_goals first | (cases h; done) | (injection h with h; injection h with _ h; exact h.symm)
def wM (data:Bool):Except Nat (jM × Nat)->Int
 | .error e=>(e:Int)
 | .ok (_,w)=>if w=2\/w=(if data then 1 else 0) then 0 else 21
def Ct {h:Hp} {cO op:XA} {p:Option XC} {l c:Nat} {al:List In} (v:AH h p l al) (hal:al.length<=2^32) (sec:Int) :
  HC Tryz.prog 103 #[.agg #[.string cO,.string op,.slice p l c],.int .i64 sec] h (qk h (eL ⟨cO,op,al.map In.ts⟩ (decide (sec=1)))):=by
 refine ba (args:=[.agg #[.string cO,.string op,.slice p l c],.int .i64 sec]) mixed Tryz.func103 aB (nQ cO op p l c sec) ?_;unfold jR cU aS aR av aw aJ aI bh aQ;refine bm ?_;intro g1 b1 e1 z1;refine bm ?_;intro g2 b2 e2 z2;have b1:=b1.an e2 aj;have e02:=e1.trans e2;have b2:bf g2 g1.size 194 zT:=b2;have hg2:g2.size=g1.size+1:=z2;rw [az];refine af b1 (op,()) rfl (ao ?_);obtain ⟨r,hr⟩:∃ r,r=eL ⟨cO,op,al.map In.ts⟩ (decide (sec=1)):=⟨_,rfl⟩
 rw [<- hr]
 have bad:∀ {gg:Hp} {e:Nat} {L:Lp},Ext g2 gg->r=.error e->e≠0 ->
   (T.ak ⟨g1.size,0,none⟩ [.int .i64 (0:Int),.slice none 0 0,.string ⟨#[]⟩,.slice none 0 0,.int .u32 (0:Int),.int .i64 (0:Int)] <|
   T.ah ⟨g1.size,0,none⟩ [.int .i64,.slice 96,.string,.slice 109,.int .u32,.int .i64] <| fun (n6:Int) (p7:Option XC) (l8:Nat) (l9:Nat) (s10:XA) (p11:Option XC) (l12:Nat) (l13:Nat) (n14:Int) (n15:Int) =>
   T.ret (.tuple #[.agg #[.int .i64 n6,.slice p7 l8 l9,.string s10,.slice p11 l12 l13,.int .u32 n14,.int .i64 n15],.int .i64 (e:Int)])) L (qk h r) gg:=by
  intro gg e L eg hA he;refine mg (b2.an eg aj) rfl ?_;intro h' b' k' z';refine ⟨Ch.trans (e02.trans eg) k' (fun i hi hl=>by simp at hi; omega),?_⟩;rw [hA];exact ⟨rfl,he⟩
 have good:∀ {gg:Hp} {t:jM} {sl se:cH} {us:List (cH × cd)} {L:Lp},Ext g2 gg->r=.ok t->j5 gg g2.size t sl us se ->
   (T.ak ⟨g1.size,0,none⟩ [.int .i64 (t.kind:Int),.slice sl.p sl.l sl.c,.string t.name,.slice se.p se.l se.c,.int .u32 (t.e.num:Int),.int .i64 (t.sec:Int)] <|
   T.ah ⟨g1.size,0,none⟩ [.int .i64,.slice 96,.string,.slice 109,.int .u32,.int .i64] <| fun (n6:Int) (p7:Option XC) (l8:Nat) (l9:Nat) (s10:XA) (p11:Option XC) (l12:Nat) (l13:Nat) (n14:Int) (n15:Int) =>
   T.ret (.tuple #[.agg #[.int .i64 n6,.slice p7 l8 l9,.string s10,.slice p11 l12 l13,.int .u32 n14,.int .i64 n15],.int .i64 (0:Int)])) L (qk h r) gg:=by
  intro gg t sl se us L eg hA A;refine mg (b2.an eg aj) rfl ?_;intro h' b' k' z';refine ⟨Ch.trans (e02.trans eg) k' (fun i hi hl=>by simp at hi; omega),?_⟩;rw [hA];exact ⟨sl,us,se,rfl,(A.an k' (fun i hi hl=>by simp at hi; omega)).mono ae⟩
 refine ai (fun q=>?_) (fun q=>?_)
 ·have q:op=ct:=by
   have q:op.data.toList=[]:=(ByteArray.toList_eq op).symm.trans (eq_of_beq q);exact nL q
  have hA:r=.ok cg:=by rw [hr]; unfold eL; rw [OH q]
  exact good (t:=cg) (sl:=⟨none,0,0⟩) (se:=⟨none,0,0⟩) (us:=[]) (Ch.refl _ _) hA ⟨dO.nil _ _,rfl,SL.nil _ _ _ _,.inl rfl⟩
 have q:¬ op=ct:=fun e=>by
  subst e;rw [ByteArray.toList_eq] at q;simp [ct] at q
 have hop:=BJ (l:=⟨cO,op,al.map In.ts⟩) (data:=decide (sec=1)) q;rw [<- hr] at hop;simp only at hop;obtain ⟨ro,hro⟩:∃ ro,KP op (al.map In.ts)=ro:=⟨_,rfl⟩
 rw [hro] at hop;refine af b1 (op,()) rfl (ao ?_);obtain ⟨fo,hfo⟩:∃ fo,iM op=fo:=⟨_,rfl⟩
 have hle:fo<=43:=hfo▸ur _ _ _;refine aK (Hs op g2) ?_;rintro u0 g3 ⟨hu0,e3⟩;rw [hfo] at hu0;subst hu0;refine ⟨((fo:Int),()),rfl,ao ?_⟩;have b13:=b1.an e3 aj;have e03:=e02.trans e3;refine ai (fun f=>?_) (fun f=>?_)
 ·have f:(fo:Int)>0:=OE f
  have hopA:ro=match eV (fo:Int) (al.map In.ts) with
    | .error e=>.error e
    | .ok x=>.ok (eP x,0):=by
   rw [<- hro];unfold KP;rw [hfo,OH ae]
   all_goals (cases eV (fo:Int) (al.map In.ts) <;> rfl)
  try rw [az]
  refine af b13 ((p,l,c),()) rfl (ao ?_);refine aK (H5 (op:=fo) ae hle (v.an e03) ae) ?_;rintro u g4 ⟨e4,hu⟩;have e24:=e3.trans e4;cases hcd:eV (fo:Int) (al.map In.ts) with
  | error e =>
   rw [hcd] at hu hopA;have hopA:ro=.error e:=hopA;subst hopA;have he:=vF (fun a ha=>by obtain ⟨b,hb,rfl⟩:=Pa.1 ha; exact v.wf b hb) hcd;have hu:u=.tuple #[sT none 0 0 (dA 0),.int .i64 (e:Int)]:=hu;subst hu;refine ⟨((0:Int),(⟨#[]⟩:XA),(0:Int),(0:Int),(0:Int),(0:Int),(0:Int),(none,0,0),(0:Int),(0:Int),(e:Int),()),rfl,ao ?_⟩;refine bm ?_;intro g5 b5 e5 z5;refine ap b5 rfl aj ?_;intro g6 b6 k6 z6;have e46:Ext g4 g6:=Ch.trans e5 k6 (fun i hi hl=>by simp at hi; omega);refine bG (cs:=[(false,[.int .i64])]) (fun y h'=>h'=g6/\y.1=(e:Int)) ?_ ?_
   ·refine aW (by simp; omega) ?_;exact aO (cs:=[(false,[.int .i64])]) ((e:Int),()) rfl rfl ⟨rfl,rfl⟩
   rintro ⟨n3,⟨⟩⟩ h9 ⟨e9,h3⟩;have e9:=e9.symm;subst e9;simp only at h3;subst h3;refine ao ?_;refine aX (by simp; omega) ?_;exact bad (e:=e) (e24.trans e46) hop ae
  | ok x =>
   rw [hcd] at hu hopA;have hopA:ro=.ok (eP x,0):=hopA;subst hopA;obtain ⟨p',l',c',rfl,sx⟩:=hu;refine ⟨(x.kind,x.name,x.inst.op,x.inst.a,x.inst.b,x.inst.n,x.inst.form,(p',l',c'),(x.e.num:Int),x.n,(0:Int),()),rfl,ao ?_⟩;refine bm ?_;intro g5 b5 e5 z5;refine ap b5 rfl aj ?_;intro g6 b6 k6 z6;have b6:bf g6 g4.size 96 (encI p' l' c' x):=b6;have e46:Ext g4 g6:=Ch.trans e5 k6 (fun i hi hl=>by simp at hi; omega);refine bG (cs:=[(false,[.int .i64])]) (fun y h'=>h'=g6/\y.1=(if sec=1 then (21:Int) else 0)) ?_ ?_
   ·refine aX rfl ?_;refine ai (fun g=>?_) (fun g=>?_)
    ·have g:sec=1:=by simpa using g
     exact aO (cs:=[(false,[.int .i64])]) ((21:Int),()) rfl rfl ⟨rfl,by rw [OH g]⟩
    ·have g:¬ sec=1:=by simpa using g
     exact aO (cs:=[(false,[.int .i64])]) ((0:Int),()) rfl rfl ⟨rfl,by rw [OG g]⟩
   rintro ⟨n3,⟨⟩⟩ h9 ⟨e9,h3⟩;have e9:=e9.symm;subst e9;simp only at h3;subst h3;refine ao ?_
   by_cases g:sec=1
   ·rw [OH g];refine aX rfl ?_;refine bad (e:=21) (e24.trans e46) ?_ bO;rw [hop];simp [g]
   ·rw [OG g];refine aW rfl ?_;refine af b6 (x.kind,x.name,x.inst.op,x.inst.a,x.inst.b,x.inst.n,x.inst.form,(p',l',c'),(x.e.num:Int),x.n,()) rfl (ao ?_);refine fW (p:=p') (l:=l') (c:=c') (x:=x) ?_;intro g7 s7 e7 z7;have hz24:=e24.size;have hz3:=e3.size;have hz4:=e4.size;have hz46:=e46.size;refine good (t:=eP x) (sl:=⟨some ⟨g6.size,0,none⟩,1,1⟩) (se:=⟨none,0,0⟩) (us:=[(⟨p',l',c'⟩,x)]) ((e24.trans e46).trans e7) ?_ ⟨⟨Sx.SL.mono s7 ae,?_,?_,aj⟩,rfl,SL.nil _ _ _ _,.inr rfl⟩
    ·rw [hop];simp [g]
    ·intro w hw;have hw:w=(⟨p',l',c'⟩,x):=by simpa using hw
     subst hw;exact Sx.SL.bd (Sx.SL.bd (Sx.SL.mono sx ae) e46 aj) e7 aj
    ·intro w hw i hi hm;have hw:w=(⟨p',l',c'⟩,x):=by simpa using hw
     subst hw
     have:=(Sx.SL.bH sx hi).2
     simp [aE] at hm;omega
 ·have f:¬ (fo:Int)>0:=OF f;have hopA:ro=dI op (al.map In.ts):=by
   rw [<- hro];unfold KP;rw [hfo,OG ae]
  try rw [az]
  refine af b13 (op,()) rfl (ao ?_)
  try rw [az]
  refine af b13 ((p,l,c),()) rfl (ao ?_);refine aK (zk (v.an e03) hal op) ?_;rintro u g4 ⟨e4,hu⟩;have e24:=e3.trans e4;have hz3:=e3.size;rw [<- hopA] at hu;cases hd:ro with
  | error e =>
   subst hd;obtain ⟨rfl,he⟩:=hu;refine ⟨((0:Int),(none,0,0),ct,(none,0,0),(0:Int),(0:Int),(e:Int),()),rfl,ao ?_⟩;refine bm ?_;intro g5 b5 e5 z5;refine ap b5 rfl aj ?_;intro g6 b6 k6 z6;have e46:Ext g4 g6:=Ch.trans e5 k6 (fun i hi hl=>by simp at hi; omega);refine bG (cs:=[(false,[.int .i64])]) (fun y h'=>h'=g6/\y.1=(e:Int)) ?_ ?_
   ·refine aW (by simp; omega) ?_;exact aO (cs:=[(false,[.int .i64])]) ((e:Int),()) rfl rfl ⟨rfl,rfl⟩
   rintro ⟨n3,⟨⟩⟩ h9 ⟨e9,h3⟩;have e9:=e9.symm;subst e9;simp only at h3;subst h3;refine ao ?_;refine aX (by simp; omega) ?_;exact bad (e:=e) (e24.trans e46) hop he
  | ok qq =>
   obtain ⟨t,w⟩:=qq;subst hd;obtain ⟨sl,us,se,rfl,A⟩:=hu;have hwh:=En hopA.symm;simp only at hop;refine ⟨((t.kind:Int),(sl.p,sl.l,sl.c),t.name,(se.p,se.l,se.c),(t.e.num:Int),(t.sec:Int),(0:Int),()),rfl,ao ?_⟩;refine bm ?_;intro g5 b5 e5 z5;refine ap b5 rfl aj ?_;intro g6 b6 k6 z6;have b6:bf g6 g4.size 194 (jm t.kind sl.p sl.l sl.c t.name se.p se.l se.c t.e.num t.sec):=b6;have e46:Ext g4 g6:=Ch.trans e5 k6 (fun i hi hl=>by simp at hi; omega);have b16:=(b13.an e4 aj).an e46 aj;refine bG (cs:=[(false,[.int .i64])]) (fun y h'=>h'=g6/\y.1=wM (decide (sec=1)) (.ok (t,w))) ?_ ?_
   ·refine aX rfl ?_
    try rw [az]
    have fin0:wM (decide (sec=1)) (.ok (t,w))=0->∀ {L:Lp} {K:XB->Hp->Prop},T.again 0 [.int .i64 (0:Int)] ((fun vs h'=>∃ y:qu (flat [(false,[.int .i64])]),vs=parts [(false,[.int .i64])] (gb _ y)/\h'=g6/\y.1=wM (decide (sec=1)) (.ok (t,w)))::L) K g6 :=
     fun e L K=>aO (cs:=[(false,[.int .i64])]) ((0:Int),()) rfl rfl ⟨rfl,e.symm⟩
    have fin1:wM (decide (sec=1)) (.ok (t,w))=21->∀ {L:Lp} {K:XB->Hp->Prop},T.again 0 [.int .i64 (21:Int)] ((fun vs h'=>∃ y:qu (flat [(false,[.int .i64])]),vs=parts [(false,[.int .i64])] (gb _ y)/\h'=g6/\y.1=wM (decide (sec=1)) (.ok (t,w)))::L) K g6 :=
     fun e L K=>aO (cs:=[(false,[.int .i64])]) ((21:Int),()) rfl rfl ⟨rfl,e.symm⟩
    have dat:w=1->∀ {L:Lp} {K:XB->Hp->Prop},(cond (!(sec==(1:Int))) (T.again 0 [.int .i64 (21:Int)]) (T.again 0 [.int .i64 (0:Int)])) ((fun vs h'=>∃ y:qu (flat [(false,[.int .i64])]),vs=parts [(false,[.int .i64])] (gb _ y)/\h'=g6/\y.1=wM (decide (sec=1)) (.ok (t,w)))::L) K g6:=by
     intro hw L K;refine ai (fun g=>?_) (fun g=>?_)
     ·have g:¬ sec=1:=by simpa using g
      exact fin1 (by unfold wM; rw [hw]; simp [g])
     ·have g:sec=1:=by simpa using g
      exact fin0 (by unfold wM; rw [hw]; simp [g])
    refine af b16 (op,()) rfl (ao ?_)
    by_cases q0:op.data.toList=[112,111,111,108]
    ·rw [OH q0] at hwh;refine aX (by rw [ByteArray.toList_eq,q0]; rfl) ?_;refine ai (fun g=>?_) (fun g=>?_)
     ·have g:sec=1:=by simpa using g
      exact fin1 (by unfold wM; rw [hwh]; simp [g])
     ·have g:¬ sec=1:=by simpa using g
      refine af b16 (op,()) rfl (ao ?_);refine aW (by rw [ByteArray.toList_eq,q0]; rfl) ?_;refine af b16 (op,()) rfl (ao ?_);refine aW (by rw [ByteArray.toList_eq,q0]; rfl) ?_;refine af b16 (op,()) rfl (ao ?_);refine aW (by rw [ByteArray.toList_eq,q0]; rfl) ?_;exact fin0 (by unfold wM; rw [hwh]; simp [g])
    ·rw [OG q0] at hwh;refine aW (by rw [ByteArray.toList_eq]; exact Pd q0) ?_;refine af b16 (op,()) rfl (ao ?_)
     by_cases q1:op.data.toList=[98,121,116,101]
     ·refine aX (by rw [ByteArray.toList_eq,q1]; rfl) ?_;exact dat (hwh.trans (OH (.inl q1)))
     refine aW (by rw [ByteArray.toList_eq]; exact Pd q1) ?_;refine af b16 (op,()) rfl (ao ?_)
     by_cases q2:op.data.toList=[119,111,114,100]
     ·refine aX (by rw [ByteArray.toList_eq,q2]; rfl) ?_;exact dat (hwh.trans (OH (.inr (.inl q2))))
     refine aW (by rw [ByteArray.toList_eq]; exact Pd q2) ?_;refine af b16 (op,()) rfl (ao ?_)
     by_cases q3:op.data.toList=[115,112,97,99,101]
     ·refine aX (by rw [ByteArray.toList_eq,q3]; rfl) ?_;exact dat (hwh.trans (OH (.inr (.inr q3))))
     refine aW (by rw [ByteArray.toList_eq]; exact Pd q3) ?_;have hw2:w=2:=hwh.trans (OG (by rintro (x | x | x); exact q1 x; exact q2 x; exact q3 x));exact fin0 (by unfold wM; rw [hw2]; simp)
   rintro ⟨n3,⟨⟩⟩ h9 ⟨e9,h3⟩;have e9:=e9.symm;subst e9;simp only at h3;subst h3;refine ao ?_;have hwy:wM (decide (sec=1)) (.ok (t,w))=if w=2\/w=(if decide (sec=1)=true then 1 else 0) then 0 else 21:=rfl
   by_cases g:w=2\/w=(if decide (sec=1)=true then 1 else 0)
   ·rw [OH g] at hop hwy;rw [hwy];refine aW rfl ?_;refine af b6 ((t.kind:Int),(sl.p,sl.l,sl.c),t.name,(se.p,se.l,se.c),(t.e.num:Int),(t.sec:Int),()) rfl (ao ?_);exact good (t:=t) (sl:=sl) (se:=se) (us:=us) (e24.trans e46) hop ((A.an e46 aj).mono ae)
   ·rw [OG g] at hop hwy;rw [hwy];refine aX rfl ?_;exact bad (e:=21) (e24.trans e46) hop bO
end Go.Sx.Ob
namespace Go.Sx
open Go.Proofs
def HE {s:XA} {a k':Nat} {t:Tok} (ha:a<=s.size) (h:iP s a=.tok t k'):NZ t:=by
 have hsz:s.data.toList.length=s.size:=aj
 unfold iP at h;split at h
 ·cases h
 split at h
 ·cases h
 have hlen:(s.data.toList.drop a).length=s.size-a:=by rw [OR,hsz]
 split at h
 ·rename_i h1 h2 h3;split at h
  ·cases h
  ·rename_i h4;cases h;refine ⟨aj,fun _=>⟨rfl,?_⟩⟩;have h5:=de (s.data.toList.drop a) bt;have h0:(s.data.toList.drop a).getD 0 0=s.data.toList.getD a 0:=by simp [List.getD]
   have h6:=(qm (s:=s.data.toList.drop a) (set:=bt) ae).2 (by
    rw [h0];show (cM++bj).contains _=true;rw [kY,h3]; rfl)
   have e:(s.extract a (a+bo (s.data.toList.drop a) bt)).data.toList=(s.data.toList.drop a).take (bo (s.data.toList.drop a) bt):=by
    rw [nG,show a+bo (s.data.toList.drop a) bt-a=bo (s.data.toList.drop a) bt from ae]
   show bI (s.extract a (a+bo (s.data.toList.drop a) bt)).data.toList=!(fJ (s.extract a (a+bo (s.data.toList.drop a) bt)).data.toList).2.2;rw [e];unfold bI;have l1:((s.data.toList.drop a).take (bo (s.data.toList.drop a) bt)).length=bo (s.data.toList.drop a) bt:=by rw [O0]; omega
   have l2:((s.data.toList.drop a).take (bo (s.data.toList.drop a) bt)).getD 0 0=s.data.toList.getD a 0:=by rw [<- h0]; exact getD_take ae
   have l3:((s.data.toList.drop a).take (bo (s.data.toList.drop a) bt)).all (fun c=>dt c || cJ c)=true:=by
    refine O9.2 fun c hc=>?_
    obtain ⟨i,hi,rfl⟩:=PA hc;rw [l1] at hi;have h7:=qh hi;have h8:(cM++bj).contains ((s.data.toList.drop a).getD i 0)=true:=h7;rw [kY] at h8;rw [List.getElem_take];rw [List.getD,OO ae] at h8;exact h8
   rw [l1,l2,l3,h3,OK ae,OK ae] <;> rfl
 split at h
 ·split at h
  ·cases h
  ·cases h;exact ⟨(wX _).2,aj⟩
 split at h
 ·split at h
  ·cases h
  ·cases h;exact ⟨by show (s.data.toList.getD (a+1) 0).toNat<4294967296; have:=(s.data.toList.getD (a+1) 0).toNat_lt; omega,aj⟩
 split at h
 ·cases h;exact ⟨aj,aj⟩
 ·cases h
theorem Ff {s:XA}:∀ (f k:Nat) (acc:List Tok),k<=s.size->Wf acc->Wf (jr s f k acc).1
 | 0,k,acc,hk,w=>w
 | f+1,k,acc,hk,w=>by
  unfold jr;cases h:cG s k with
  | stop=>exact w
  | cX a=>intro t ht; simp at ht
  | tok t k' =>
   simp only;have h1:=lQ hk h;have hle:k+bo (s.data.toList.drop k) bY<=s.size:=by
    have:=de (s.data.toList.drop k) bY
    rw [OR] at this;have hsz:s.data.toList.length=s.size:=aj
    omega
   refine Ff f k' _ h1.2 ?_;intro u hu;rcases OS.1 hu with hu | hu
   ·exact w u hu
   ·rw [OJ] at hu;subst hu;exact HE hle h
def J4 (s:XA):Wf (eh s).1:=Ff _ 0 [] (P9 _) (by intro t ht; simp at ht)
theorem Aq {s:XA}:∀ (f k:Nat) (acc:List Tok),k<=s.size->(∀ t,t∈acc->t.text.size<=s.size)->∀ t,t∈(jr s f k acc).1->t.text.size<=s.size
 | 0,k,acc,hk,w=>w
 | f+1,k,acc,hk,w=>by
  unfold jr;cases h:cG s k with
  | stop=>exact w
  | cX a=>intro t ht; simp at ht
  | tok t k' =>
   simp only;have h1:=lQ hk h;have hle:k+bo (s.data.toList.drop k) bY<=s.size:=by
    have:=de (s.data.toList.drop k) bY
    rw [OR] at this;have hsz:s.data.toList.length=s.size:=aj
    omega
   refine Aq f k' _ h1.2 ?_;intro u hu;rcases OS.1 hu with hu | hu
   ·exact w u hu
   ·rw [OJ] at hu;subst hu;obtain ⟨_,_,_,h4⟩:=Ae hle h;rw [h4,gw];omega
def Ap (s:XA):∀ t,t∈(eh s).1->t.text.size<=s.size:=Aq _ 0 [] (P9 _) (by intro t ht; simp at ht)
theorem xn (n:Nat):∀ (ts:List Tok) (done:List (List Tok)) (dJ:List Tok) (r:List (List Tok)),eN n ts done dJ=.ok r->(∀ l,l∈done->l≠[])->∀ l,l∈r->l≠[]
 | [],done,dJ,r,h,hd=>by
  simp only [eN] at h;split at h
  ·cases h
  ·rename_i hc;injection h with h
   subst h;intro l hl;rcases OS.1 hl with hl | hl
   ·exact hd l hl
   ·have:l=dJ:=by simpa using hl
    subst this;exact hc
 | t::ts,done,dJ,r,h,hd=>by
  simp only [eN] at h;split at h
  ·cases h
  ·rename_i h0;split at h
   ·rename_i h1;refine xn n ts _ _ r h fun l hl=>?_
    rcases OS.1 hl with hl | hl
    ·exact hd l hl
    ·have:l=dJ:=by simpa using hl
     subst this;intro hh;subst hh;rw [h1] at h0;simp at h0
   ·exact xn n ts _ _ r h hd
def Ai (n:Nat) (lb:XA) (us:List Tok):∀ l,l∈(bS n lb us).1.args->l≠[]:=by
 cases us with
 | nil=>simp [bS]
 | cons t us =>
  simp only [bS];split
  ·simp [gX]
  ·cases hA:gj n us with
   | error a=>simp [gX]
   | ok r =>
    unfold gj at hA;split at hA
    ·injection hA with hA
     subst hA
     simp
    ·exact xn n us [] [] r hA aj
def Fo (s:XA):∀ l,l∈(bi s).1.args->l≠[]:=by
 unfold bi;split
 ·simp [gX]
 ·unfold ga;split
  ·exact Ai _ _ _
  ·exact Ai _ _ _
theorem uM (P:Tok->Prop) (n:Nat):∀ (ts:List Tok) (done:List (List Tok)) (dJ:List Tok) (r:List (List Tok)),eN n ts done dJ=.ok r->(∀ l,l∈done->∀ t,t∈l->P t)->(∀ t,t∈dJ->P t)->(∀ t,t∈ts->P t)->∀ l,l∈r->∀ t,t∈l->P t
 | [],done,dJ,r,h,hd,hc,ht=>by
  simp only [eN] at h;split at h
  ·cases h
  ·injection h with h
   subst h;intro l hl;rcases OS.1 hl with hl | hl
   ·exact hd l hl
   ·have:l=dJ:=by simpa using hl
    subst this;exact hc
 | t::ts,done,dJ,r,h,hd,hc,ht=>by
  simp only [eN] at h;split at h
  ·cases h
  ·split at h
   ·refine uM P n ts _ _ r h (fun l hl=>?_) aj (fun x hx=>ht x (by simp [hx]));rcases OS.1 hl with hl | hl
    ·exact hd l hl
    ·have:l=dJ:=by simpa using hl
     subst this;exact hc
   ·refine uM P n ts _ _ r h hd (fun x hx=>?_) (fun x hx=>ht x (by simp [hx]));rcases OS.1 hx with hx | hx
    ·exact hc x hx
    ·have:x=t:=by simpa using hx
     subst this;exact ht x aj
def xF (Q:Tok->Prop) (n:Nat) (lb:XA) (us:List Tok) (h:∀ t,t∈us->Q t):∀ l,l∈(bS n lb us).1.args->∀ t,t∈l->Q t:=by
 cases us with
 | nil=>simp [bS]
 | cons t us =>
  simp only [bS];split
  ·simp [gX]
  ·cases hA:gj n us with
   | error a=>simp [gX]
   | ok r =>
    unfold gj at hA;split at hA
    ·injection hA with hA
     subst hA
     simp
    ·exact uM Q n us [] [] r hA aj aj (fun x hx=>h x (by simp [hx]))
def xm (Q:Tok->Prop) (s:XA) (h:∀ t,t∈(eh s).1->Q t):∀ l,l∈(bi s).1.args->∀ t,t∈l->Q t:=by
 unfold bi;split
 ·simp [gX]
 ·unfold ga;split
  ·exact xF Q _ _ _ fun t ht=>h t (List.mem_of_mem_drop ht)
  ·exact xF Q _ _ _ h
def fN (s:XA) (hs:s.size<=2^20):∀ a,a∈(bi s).1.args->Wf a/\a.length<=2^40/\a≠[]/\∀ t,t∈a->t.text.size<=9223372036854775807:=fun a ha =>
 ⟨xm NZ s (J4 s) a ha,by have:=(ep s).1 a ha; omega,Fo s a ha,fun t ht=>by have:=xm (fun t=>t.text.size<=s.size) s (Ap s) a ha t ht; omega⟩
end Go.Sx
namespace Go.Sx.Ob
open Go.Proofs
def AH.parse {h:Hp} {b:Nat} {te es:TypeId} {p:Option XC} {c:Nat} {al:List In} (s:XA) (hs:s.size<=2^20) (A:eY h b te es p c al) (ha:al.map In.ts=(bi s).1.args):AH h p al.length al/\al.length<=2^32:=by
 refine ⟨AH.of A fun a hm=>fN s hs a.ts (ha▸PO hm),?_⟩
 have:=(ep s).2
 rw [<- ha,OI] at this;omega
def nT {ts:List Tok} {x:fG} (hw:Wf ts) (h:bL ts=.ok x):x.ay.length<=ts.length:=by
 unfold bL at h
 have:=ki 32 ts hw
 cases hs:nw 32 ts with
 | error e=>rw [hs] at h; cases h
 | ok q =>
  rw [hs] at h this;simp only at h;split at h
  ·injection h with h
   subst h;obtain ⟨_,_,_,h4⟩:=this;omega
  ·cases h
def HK {pool:Bool} {ts:List Tok} {x:fG} (hw:Wf ts) (h:rp pool ts=.ok x):x.ay.length<=ts.length:=by
 unfold rp at h;split at h
 ·exact nT hw h
 ·split at h
  ·cases h
  ·split at h
   ·have:=nT hw.tail h
    simp only [List.length_cons]; omega
   ·cases h
def Bd (n:Nat) (x:cd):Prop:=x.e.ay.length<=n
def I1 {n:Nat} {x y:cd} {r:F1} {ts:List Tok} (hw:Wf ts) (hn:ts.length<=n) (hx:Bd n x) (h:cS x r ts=.ok y):Bd n y:=by
 unfold cS at h;unfold Bd at *;split at h
 ·split at h
  ·cases h
  ·injection h with h
   subst h;split
   ·exact hx
   ·split
    ·exact hx
    ·exact hx
 ·split at h
  ·cases h
  ·injection h with h
   subst h;exact hx
 ·split at h
  ·cases h
  ·rename_i hv;injection h with h
   subst h
   have:=HK hw hv
   simp only [nZ]; omega
theorem zp {n:Nat}:∀ (rs:List F1) (args:List (List Tok)) (x y:cd),(∀ a,a∈args->Wf a/\a.length<=n)->Bd n x->dK x rs args=.ok y->Bd n y
 | [],args,x,y,_,hx,h=>by
  have h:Except.ok x=(Except.ok y:Except Nat cd):=by cases args <;> exact h
  injection h with h
  subst h;exact hx
 | r::rs,[],x,y,_,hx,h=>by
  simp only [dK] at h;injection h with h
  subst h;exact hx
 | r::rs,a::args,x,y,ha,hx,h=>by
  simp only [dK] at h;split at h
  ·cases h
  ·rename_i z hz;exact zp rs args z y (fun b hb=>ha b (by simp [hb])) (I1 (ha a aj).1 (ha a aj).2 hx hz) h
def Gm {n:Nat} {op:Int} {args:List (List Tok)} {y:cd} (ha:∀ a,a∈args->Wf a/\a.length<=n) (h:eV op args=.ok y):Bd n y:=by
 unfold eV at h;split at h
 ·cases h
 ·exact zp _ _ _ _ ha (by simp [Bd,ef,dA,fB]) h
def FB {n k:Nat} {ts:List Tok} {y:cd} (hw:Wf ts) (hn:ts.length<=n) (h:pf k ts=.ok y):Bd n y:=by
 unfold pf at h;split at h
 ·split at h
  ·cases h
  ·injection h with h
   subst h;simp [Bd,dA,fB]
 ·split at h
  ·cases h
  ·rename_i x hx;injection h with h
   subst h
   have:=nT hw hx
   unfold Bd; simp only; omega
theorem sX {n k:Nat}:∀ (args:List (List Tok)) (l:List cd),(∀ a,a∈args->Wf a/\a.length<=n)->cL k args=.ok l->l.length=args.length/\∀ x,x∈l->Bd n x
 | [],l,_,h=>by
  simp only [cL] at h;injection h with h
  subst h
  simp
 | a::args,l,ha,h=>by
  simp only [cL] at h;split at h
  ·cases h
  ·rename_i x hx;split at h
   ·cases h
   ·rename_i l' hl;injection h with h
    subst h
    have:=sX args l' (fun b hb=>ha b (by simp [hb])) hl
    refine ⟨by simp [this.1],fun y hy=>?_⟩;rcases OZ.1 hy with rfl | hy
    ·exact FB (ha a aj).1 (ha a aj).2 hx
    ·exact this.2 y hy
structure qv (n:Nat) (t:jM):Prop where
 many:t.items.length<=n
 item:∀ x,x∈t.items->Bd n x
 e:t.e.ay.length<=n
def qv.z (n:Nat):qv n cg:=⟨by simp [cg],by simp [cg],by simp [cg,fB]⟩
def qv.one {n:Nat} {x:cd} (hn:1<=n) (h:Bd n x):qv n (eP x):=⟨by simp [eP]; omega,by simp [eP]; exact h,by simp [eP,cg,fB]⟩
def JP {n:Nat} {op:XA} {args:List (List Tok)} {t:jM} {w:Nat} (hn:1<=n) (ha:∀ a,a∈args->Wf a/\a.length<=n) (hl:args.length<=n) (h:dI op args=.ok (t,w)):qv n t:=by
 have hag:∀ i,Wf (ag args i)/\(ag args i).length<=n:=by
  intro i;unfold ag;rw [OV];cases hh:args[i]? with
  | none=>exact ⟨fun t ht=>by simp at ht,aj⟩
  | some a=>exact ha a (List.mem_of_getElem? hh)
 have z:∀ x:cd,x.e=fB->Bd n x:=fun x hx=>by unfold Bd; rw [hx]; simp [fB]
 unfold dI at h;simp only at h;split at h
 ·cases h
 split at h
 ·injection h with h; injection h with h _; subst h
  exact qv.one hn (z _ rfl)
 split at h
 ·split at h
  ·cases h
  split at h
  ·injection h with h; injection h with h _; subst h
   exact qv.one hn (z _ rfl)
  ·cases h
 split at h
 ·split at h
  ·cases h
  injection h with h; injection h with h _; subst h
  exact qv.one hn (z _ rfl)
 split at h
 ·split at h
  ·cases h
  split at h
  ·cases h
  rename_i l hh;injection h with h; injection h with h _; subst h
  have:=sX args l ha hh
  exact ⟨by simp only; omega,this.2,by simp [cg,fB]⟩
 split at h
 ·split at h
  ·cases h
  split at h
  ·cases h
  rename_i l hh;injection h with h; injection h with h _; subst h
  have:=sX args l ha hh
  exact ⟨by simp only; omega,this.2,by simp [cg,fB]⟩
 split at h
 ·split at h
  ·cases h
  split at h
  ·cases h
  rename_i x hx;injection h with h; injection h with h _; subst h
  have:=nT (hag 1).1 hx
  exact ⟨by simp [cg],by simp [cg],by have:=(hag 1).2; simp only; omega⟩
 split at h
 ·split at h
  ·cases h
  injection h with h; injection h with h _; subst h
  exact ⟨by simp [cg],by simp [cg],by simp [cg,fB]⟩
 split at h
 ·split at h
  ·injection h with h; injection h with h _; subst h
   exact ⟨by simp [cg],by simp [cg],by simp [cg,fB]⟩
  split at h
  ·injection h with h; injection h with h _; subst h
   exact ⟨by simp [cg],by simp [cg],by simp [cg,fB]⟩
  ·cases h
 ·cases h
def yR {n:Nat} {l:Ln} {data:Bool} {t:jM} (hn:1<=n) (ha:∀ a,a∈l.args->Wf a/\a.length<=n) (hl:l.args.length<=n) (h:eL l data=.ok t):qv n t:=by
 unfold eL at h;split at h
 ·injection h with h
  subst h;exact qv.z n
 split at h
 ·split at h
  ·cases h
  rename_i x hx;split at h
  ·cases h
  injection h with h
  subst h;exact qv.one hn (Gm ha hx)
 split at h
 ·cases h
 rename_i t' w' hd
 by_cases g:w'=2\/w'=(if data then 1 else 0)
 ·rw [OH g] at h;injection h with h
  subst h;exact JP hn ha hl hd
 ·rw [OG g] at h;cases h
def Lj {op:Int} (h:dB op≠0):Sm op:=by
 unfold dB at h;unfold Sm;split at h
 ·exact absurd rfl h
 ·by_cases g:op<=43
  ·omega
  ·exfalso;apply h;rw [OV,Pf (by simp only [cP,List.length_cons,List.length_nil]; omega)] <;> rfl
def Nj (s:XA):List XB:=[.string s]
abbrev SN (h:Hp) (b:Nat) (p:Option XC) (l c:Nat) (xs:List XA):Prop:=SL h b 9 1 p l c (xs.map Nj)
def SN.len {h:Hp} {b:Nat} {p:Option XC} {l c:Nat} {xs:List XA} (s:SN h b p l c xs):l=xs.length:=by
 have:=s.1
 rwa [OI] at this
def SN.cell {h:Hp} {b:Nat} {p:Option XC} {l c:Nat} {xs:List XA} (s:SN h b p l c xs) {i:Nat} (hi:i<xs.length):∃ a,p=some a/\bk h (a.add (i*1)) 0 [.string xs[i]]:=by
 obtain ⟨a,ha,hc⟩:=SL.cells s (i:=i) (by rw [OI]; exact hi);refine ⟨a,ha,?_⟩;rw [O4] at hc;exact hc
def N4 (D:List XA) (s:XA) (i:Nat) (hi:i<D.length):fT (D.take (i+1)) s=(fT (D.take i) s || decide (D[i]=s)):=by
 unfold fT;rw [OT hi,List.any_append]
 simp
def xv {h:Hp} {b:Nat} {p:Option XC} {l c:Nat} {xs:List XA} (v:SN h b p l c xs) (hl:xs.length<=2^61) (s:XA):pO Tryz.prog 50 [.slice p l c,.string s] h (.bool (fT xs s)):=by
 refine dk mixed Tryz.func50 aB (pC p l c s) ?_;unfold kK cv bN dH bW bE pj aQ bZ;have n:=SN.len v;refine bJ (cs:=[(false,[.bool]),(false,[.int .i64])]) (fun y m h'=>∃ i:Nat,y.2.1=(i:Int)/\m=xs.length-i/\i<=xs.length/\h'=h/\fT (xs.take i) s=false) (false,(0:Int),()) xs.length rfl
  ⟨0,rfl,rfl,ae,rfl,rfl⟩ ?_
 rintro ⟨b2,n3,⟨⟩⟩ m h' ⟨i,hi,rfl,hle,rfl,hn⟩;simp only at hi;subst hi;refine ao ?_;refine ai (fun q=>?_) (fun q=>?_)
 ·have q:=OE q;have hil:i<xs.length:=ae
  obtain ⟨a,ha,hc⟩:=SN.cell v hil;refine aC ⟨ae,ae⟩ (au ha ?_);rw [show Int.toNat (i:Int)=i from ae];refine aG (xs[i],()) hc (ao ?_);have hs:=N4 xs s i hil;rw [Kt];refine ai (fun r=>?_) (fun r=>?_)
  ·have r:=OE r;refine ⟨O7 Value.bool ?_,rfl⟩;unfold fT;exact (List.any_eq_true.2 ⟨_,O2 hil,OK r⟩).symm
  ·rw [hn,r] at hs;refine aY (cs:=[(false,[.bool]),(false,[.int .i64])]) (b2,((i+1:Nat):Int),()) (xs.length-(i+1)) rfl ae (by rw [wrap_i64 ae ae]; rfl) ?_;exact ⟨i+1,rfl,rfl,ae,rfl,hs⟩
 ·have q:=OF q
  have:i=xs.length:=ae
  subst this;rw [O8] at hn;exact ⟨by rw [hn],rfl⟩
def rm (l:List cd):List XA:=(l.filter fun x=>decide (x.kind=1)).map (·.name)
def SN.push {L:Lp} {K:XB->Hp->Prop} {h:Hp} {b:Nat} {p:Option XC} {l c:Nat} {xs:List XA} (v:SN h b p l c xs) (x:XA) (hl:xs.length<=2^40) (hb:b<=h.size) {k:Option XC->Nat->Nat->T}
  (hk:∀ p' c' h',SN h' b p' (l+1) c' (xs++[x])->Ch (aE p) h h'->k p' (l+1) c' L K h') :
  T.fb Tryz.prog (Instr.buildSlice 25 1 #[(0,.string x)]) false [(false,[.slice 0])] (fun q m cc=>T.fb Tryz.prog (Builtin.append_ #[25,25] 25 #[.slice p l c,.slice q m cc]) false [(false,[.slice 0])] k) L K h:=by
 have n:=SN.len v;refine fp (vs:=[.string x]) Mm NE rfl ae ae aB rfl rfl v hb ae ae ?_;intro p' c' h' s' ch _;refine hk p' c' h' ?_ ch;unfold SN;rw [OU];exact s'
def SN.ext {h a b':Hp} {b:Nat} {p:Option XC} {l c:Nat} {xs:List XA} (e:Ext h a) (v:SN a b p l c xs) (hb:h.size<=b) (k:Ch (aE p) a b'):Ext h b' :=
 Ch.trans e k (fun i hi hl=>by have:=(Ob.SL.bH v i hi).1; omega)
def SN.put {L:Lp} {K:XB->Hp->Prop} {h:Hp} {b:Nat} {p:Option XC} {l c:Nat} {xs:List XA} (v:SN h b p l c xs) {i:Nat} (hi:i<xs.length) (x:XA) {a:XC} (ha:p=some a) {k:T}
  (hk:∀ h',SN h' b p l c (xs.set i x)->Ch (aE p) h h'->h'.size=h.size->k L K h'):T.ak (a.add (i*1)) [.string x] k L K h:=by
 refine SL.store (P:=Tryz.prog) v (i:=i) (vs:=Nj x) (by rw [OI]; exact hi) rfl rfl ha ?_;intro h' s' ch z;refine hk h' ?_ ch z;unfold SN;rw [List.map_set];exact s'
def C2 (zs:List XA) (j:Nat) (hj:0<j) (hl:j<zs.length):(zs.set j (zs[j-1]'ae)).eraseIdx (j-1)=zs.eraseIdx j:=by
 apply PK;intro k;rw [List.getElem?_eraseIdx,List.getElem?_eraseIdx]
 by_cases h1:k<j-1
 ·rw [OH h1,OH ae,List.getElem?_set_ne ae]
 ·rw [OG h1]
  by_cases h2:k<j
  ·have:k=j-1:=ae
   subst this;rw [OH h2,show j-1+1=j from ae,List.getElem?_set_self hl,OO ae]
  ·rw [OG h2,List.getElem?_set_ne ae]
def Ke (zs:List XA) (j:Nat) (hl:j<zs.length) (x s:XA):fT (zs.set j x) s=(fT (zs.eraseIdx j) s || decide (x=s)):=by
 unfold fT;rw [List.set_eq_take_append_cons_drop,OH hl,List.eraseIdx_eq_take_drop_succ];simp only [List.any_append,List.any_cons]
 all_goals (cases List.any (zs.take j) (fun t=>decide (t=s)) <;> cases List.any (zs.drop (j+1)) (fun t=>decide (t=s)) <;> cases decide (x=s) <;> rfl)
def qR {D:List XA} {s:XA}:fT D s=true↔s∈D:=by
 unfold fT;rw [List.any_eq_true];constructor
 ·rintro ⟨t,ht,e⟩;rw [<- OE e];exact ht
 ·intro hs;exact ⟨s,hs,OK rfl⟩
def xg (l:List XA) (x:XA):(l++[x]).Nodup↔l.Nodup/\x∉l:=by
 rw [List.nodup_append];constructor
 ·rintro ⟨a,_,c⟩;exact ⟨a,fun hx=>c x hx x aj rfl⟩
 ·rintro ⟨a,b⟩;refine ⟨a,aj,fun y hy z hz e=>?_⟩;rw [OJ.1 hz] at e;exact b (e▸hy)
structure eS where
 text:List cd
 data:List cd
 bU:List pP
 names:List XA
 aP:List (XA × Nat)
 sec:Nat
def cZ:eS:=⟨[],[],[],[],[],0⟩
def ul (s:XA):cd:={ dA 1 with name:=s }
def iz (cO:XA) (t:jM):List cd:=(if cO=ct then [] else [ul cO])++t.items
def lE (w:eS) (n:Nat) (cO:XA) (t:jM):eS :=
 let sf:=iz cO t
 let nm:=w.names++(if cO=ct then [] else [cO])
 { text:=if w.sec=0 then w.text++sf else w.text,data:=if w.sec=0 then w.data else w.data++sf,bU:=if t.kind=3 then w.bU++[(t.name,t.e)] else w.bU,names:=if t.kind=3 then nm++[t.name] else nm,aP:=if t.kind=4 then w.aP++[(t.name,n)] else w.aP,sec:=if t.kind=5 then t.sec else w.sec }
def zg (w:eS) (cO:XA) (t:jM):Prop:=(cO≠ct/\fT w.names cO=true)\/(t.kind=3/\(fT w.names t.name=true\/t.name=cO))
instance (w:eS) (cO:XA) (t:jM):Decidable (zg w cO t):=by unfold zg; infer_instance
def eJ (w:eS) (n:Nat) (s:XA):Except Nat eS :=
 if (bi s).2.2≠0 then .error (bi s).2.2
 else if (bi s).1.label≠ct/\bI (bi s).1.label.data.toList=false then .error 21
 else match eL (bi s).1 (decide (w.sec=1)) with
  | .error e=>.error e
  | .ok t=>if zg w (bi s).1.label t then .error 22
   else if 8192<w.text.length+w.data.length+(iz (bi s).1.label t).length then .error 4
   else .ok (lE w n (bi s).1.label t)
def bK:Nat->List UInt8->List (List UInt8)
 | 0,_=>[]
 | _+1,[]=>[]
 | f+1,s=>(s.takeWhile (·≠10))::bK f ((s.dropWhile (·≠10)).drop 1)
def cK (s:XA):List XA:=(bK (s.size+1) s.data.toList).map fun l=>⟨l.toArray⟩
def fV:eS->Nat->List XA->Except (Nat × Nat) eS
 | w,_,[]=>.ok w
 | w,n,s::l=>match eJ w n s with
  | .error e=>.error (n,e)
  | .ok w=>fV w (n+1) l
def IW (w:eS):Option (XA × Nat):=w.aP.find? fun g=>!fT w.names g.1
def jJ (s:XA):List XA->List XA
 | []=>[s]
 | t::l=>if fQ s t then s::t::l else if s=t then t::l else t::jJ s l
def cQ (l:List XA):List XA:=l.foldl (fun d s=>jJ s d) []
def dW (src:XA):Except (Nat × Nat) pN :=
 if 65536<src.size then .error (0,3)
 else if 4096<(cK src).length then .error (4097,4)
 else match fV cZ 1 (cK src) with
  | .error e=>.error e
  | .ok w=>match IW w with
   | some g=>.error (g.2,23)
   | none=>.ok ⟨w.text,w.data,w.bU,cQ (w.aP.map (·.1))⟩
structure yq (w:eS):Prop where
 text:∀ x,x∈w.text->dY x 0=true/\Good x.e
 data:∀ x,x∈w.data->dY x 1=true/\Good x.e
 bU:∀ x,x∈w.bU->bI x.1.data.toList=true/\Good x.2
 perm:w.names.Perm (rm w.text++rm w.data++w.bU.map (·.1))
 M0:w.names.Nodup
 aP:∀ g,g∈w.aP->bI g.1.data.toList=true
 sec:w.sec<=1
 many:w.text.length+w.data.length<=8192
def yq.z:yq cZ:=⟨by simp [cZ],by simp [cZ],by simp [cZ],by simp [cZ,rm],by simp [cZ],by simp [cZ],by simp [cZ],by simp [cZ]⟩
def Gc {x y:cd} {r:F1} {ts:List Tok} (h:cS x r ts=.ok y):y.kind=x.kind:=by
 unfold cS at h;split at h
 ·split at h
  ·cases h
  ·injection h with h
   subst h;split
   ·rfl
   ·split
    ·rfl
    ·rfl
 ·split at h
  ·cases h
  ·injection h with h
   subst h;rfl
 ·split at h
  ·cases h
  ·injection h with h
   subst h;rfl
theorem yu:∀ (rs:List F1) (args:List (List Tok)) (x y:cd),dK x rs args=.ok y->y.kind=x.kind
 | [],args,x,y,h=>by
  have h:Except.ok x=(Except.ok y:Except Nat cd):=by cases args <;> exact h
  injection h with h
  rw [h]
 | r::rs,[],x,y,h=>by
  simp only [dK] at h;injection h with h
  rw [h]
 | r::rs,a::args,x,y,h=>by
  simp only [dK] at h;split at h
  ·cases h
  ·rename_i z hz;rw [yu rs args z y h,Gc hz]
def D7 {op:Int} {args:List (List Tok)} {y:cd} (h:eV op args=.ok y):y.kind=2:=by
 unfold eV at h;split at h
 ·cases h
 ·rw [yu _ _ _ _ h]; rfl
theorem pW {k:Nat} (hk:k=5\/k=6):∀ (args:List (List Tok)) (l:List cd),cL k args=.ok l->∀ x,x∈l->x.kind≠1
 | [],l,h=>by
  simp only [cL] at h;injection h with h
  subst h
  simp
 | a::args,l,h=>by
  simp only [cL] at h;split at h
  ·cases h
  ·rename_i x hx;split at h
   ·cases h
   ·rename_i l' hl;injection h with h
    subst h;intro y hy;rcases OZ.1 hy with rfl | hy
    ·unfold pf at hx;rcases hk with rfl | rfl
     ·rw [OH rfl] at hx;split at hx
      ·cases hx
      ·injection hx with hx
       subst hx;simp [dA]
     ·rw [OG bO] at hx;split at hx
      ·cases hx
      ·injection hx with hx
       subst hx;simp [dA]
    ·exact pW hk args l' hl y hy
def Em {op:XA} {args:List (List Tok)} {t:jM} {w:Nat} (h:dI op args=.ok (t,w)):(∀ x,x∈t.items->x.kind≠1)/\(t.kind=3->t.items=[]):=by
 unfold dI at h;simp only at h;split at h
 ·cases h
 split at h
 ·injection h with h; injection h with h _; subst h
  exact ⟨by simp [eP,dA],by simp [eP]⟩
 split at h
 ·split at h
  ·cases h
  split at h
  ·injection h with h; injection h with h _; subst h
   exact ⟨by simp [eP,dA],by simp [eP]⟩
  ·cases h
 split at h
 ·split at h
  ·cases h
  injection h with h; injection h with h _; subst h
  exact ⟨by simp [eP,dA],by simp [eP]⟩
 split at h
 ·split at h
  ·cases h
  split at h
  ·cases h
  rename_i l hh;injection h with h; injection h with h _; subst h
  exact ⟨pW (.inl rfl) _ _ hh,aj⟩
 split at h
 ·split at h
  ·cases h
  split at h
  ·cases h
  rename_i l hh;injection h with h; injection h with h _; subst h
  exact ⟨pW (.inr rfl) _ _ hh,aj⟩
 split at h
 ·split at h
  ·cases h
  split at h
  ·cases h
  injection h with h; injection h with h _; subst h
  exact ⟨by simp [cg],by simp [cg]⟩
 split at h
 ·split at h
  ·cases h
  injection h with h; injection h with h _; subst h
  exact ⟨by simp [cg],by simp [cg]⟩
 split at h
 ·split at h
  ·injection h with h; injection h with h _; subst h
   exact ⟨by simp [cg],by simp [cg]⟩
  split at h
  ·injection h with h; injection h with h _; subst h
   exact ⟨by simp [cg],by simp [cg]⟩
  ·cases h
 ·cases h
def BP {l:Ln} {data:Bool} {t:jM} (h:eL l data=.ok t):(∀ x,x∈t.items->x.kind≠1)/\(t.kind=3->t.items=[]):=by
 unfold eL at h;split at h
 ·injection h with h
  subst h;exact ⟨by simp [cg],by simp [cg]⟩
 split at h
 ·split at h
  ·cases h
  rename_i x hx;split at h
  ·cases h
  injection h with h
  subst h;exact ⟨by simp [eP,D7 hx],by simp [eP]⟩
 split at h
 ·cases h
 rename_i t' w' hd
 by_cases g:w'=2\/w'=(if data then 1 else 0)
 ·rw [OH g] at h;injection h with h
  subst h;exact Em hd
 ·rw [OG g] at h;cases h
def yf (a b:List cd):rm (a++b)=rm a++rm b:=by simp [rm]
def Iy (cO:XA) {t:jM} (h:∀ x,x∈t.items->x.kind≠1):rm (iz cO t)=if cO=ct then [] else [cO]:=by
 unfold iz;rw [yf]
 have:rm t.items=[]:=by
  unfold rm;rw [List.map_eq_nil_iff,List.filter_eq_nil_iff];intro x hx;simpa using h x hx
 rw [this,Pr];split
 ·rfl
 ·rfl
def Ht {s:XA} (h:bI s.data.toList=true) (k:Nat):dY (ul s) k=true/\Good (ul s).e:=by
 refine ⟨?_,Good.z⟩;unfold dY;rw [OH (show (ul s).kind=1 from rfl)];simp [ul,dA,z2,z3,z4,Gp,h]
def yh {w w':eS} {n:Nat} {s:XA} (hs:s.size<=2^20) (W:yq w) (h:eJ w n s=.ok w'):yq w':=by
 unfold eJ at h;split at h
 ·cases h
 split at h
 ·cases h
 rename_i hl;split at h
 ·cases h
 rename_i t ht;split at h
 ·cases h
 rename_i hd;split at h
 ·cases h
 rename_i hm;injection h with h
 have f:=fN s hs;have ok:=qc (fun a ha=>(f a ha).1) ht;obtain ⟨nl,n3⟩:=BP ht;generalize (bi s).1.label=cO at *;have hlab:cO≠ct->bI cO.data.toList=true:=by
  intro g
  by_cases q:bI cO.data.toList=true
  ·exact q
  ·exact absurd ⟨g,by simpa using q⟩ hl
 have hits:∀ x,x∈iz cO t->dY x w.sec=true/\Good x.e:=by
  intro x hx;unfold iz at hx;rcases OS.1 hx with hx | hx
  ·split at hx
   ·simp at hx
   ·rename_i g
    have:x=ul cO:=by simpa using hx
    rw [this];exact Ht (hlab g) _
  ·have h1:=ok.items x hx;have hs:=W.sec;rcases (show w.sec=0\/w.sec=1 from ae) with e | e
   ·rw [e] at h1 ⊢; simpa using h1
   ·rw [e] at h1 ⊢; simpa using h1
 have hlb:=Iy cO nl;have hsec:=W.sec;subst h;refine ⟨?_,?_,?_,?_,?_,?_,?_,?_⟩
 ·intro x hx;unfold lE at hx;simp only at hx;split at hx
  ·rename_i e;rcases OS.1 hx with hx | hx
   ·exact W.text x hx
   ·have:=hits x hx
    rwa [e] at this
  ·exact W.text x hx
 ·intro x hx;unfold lE at hx;simp only at hx;split at hx
  ·exact W.data x hx
  ·rename_i e;rcases OS.1 hx with hx | hx
   ·exact W.data x hx
   ·have:=hits x hx
    rwa [show w.sec=1 from ae] at this
 ·intro x hx;unfold lE at hx;simp only at hx;split at hx
  ·rename_i e;rcases OS.1 hx with hx | hx
   ·exact W.bU x hx
   ·have:x=(t.name,t.e):=by simpa using hx
    rw [this];exact ⟨ok.name (.inl e),ok.e⟩
  ·exact W.bU x hx
 ·unfold lE;simp only;have P:=W.perm;generalize hlw:(if cO=ct then ([]:List XA) else [cO])=lw at *;have base:(w.names++lw).Perm (rm (if w.sec=0 then w.text++iz cO t else w.text)++rm (if w.sec=0 then w.data else w.data++iz cO t)++w.bU.map (·.1)):=by
   refine (P.append_right lw).trans ?_;split
   ·rw [yf,hlb];simp only [List.append_assoc];refine List.Perm.append_left _ ?_;rw [<- Px,<- Px];exact List.perm_append_comm.trans aj
   ·rw [yf,hlb];simp only [List.append_assoc];refine List.Perm.append_left _ (List.Perm.append_left _ ?_);exact List.perm_append_comm
  by_cases e:t.kind=3
  ·rw [OH e,OH e,OU,<- Px];exact base.append_right _
  ·rw [OG e,OG e];exact base
 ·have hnd:∀ s',(s'∈w.names↔fT w.names s'=true):=fun s'=>qR.symm
  unfold zg at hd;unfold lE;simp only;have h1:(w.names++(if cO=ct then [] else [cO])).Nodup:=by
   split
   ·simpa using W.M0
   ·rename_i g;rw [xg];refine ⟨W.M0,fun hm=>hd (.inl ⟨g,(hnd _).1 hm⟩)⟩
  split
  ·rename_i e;rw [xg];refine ⟨h1,fun hm=>?_⟩;rcases OS.1 hm with hm | hm
   ·exact hd (.inr ⟨e,.inl ((hnd _).1 hm)⟩)
   ·split at hm
    ·simp at hm
    ·exact hd (.inr ⟨e,.inr (by simpa using hm)⟩)
  ·exact h1
 ·intro g hg;unfold lE at hg;simp only at hg;split at hg
  ·rename_i e;rcases OS.1 hg with hg | hg
   ·exact W.aP g hg
   ·have:g=(t.name,n):=by simpa using hg
    rw [this];exact ok.name (.inr e)
  ·exact W.aP g hg
 ·unfold lE;simp only;split
  ·exact ok.sec
  ·exact hsec
 ·unfold lE;simp only
  have:=W.many
  split
  ·rw [OX]; omega
  ·rw [OX]; omega
theorem yC (s:XA):∀ (l:List XA) (x:XA),x∈jJ s l↔x=s\/x∈l
 | [],x=>by simp [jJ]
 | t::l,x=>by
  unfold jJ;split
  ·simp
  ·split
   ·rename_i e;subst e
    simp
   ·rw [OZ,yC s l,OZ];constructor
    ·rintro (h | h | h)
     ·exact .inr (.inl h)
     ·exact .inl h
     ·exact .inr (.inr h)
    ·rintro (h | h | h)
     ·exact .inr (.inl h)
     ·exact .inl h
     ·exact .inr (.inr h)
theorem Av (s:XA):∀ (l:List XA),l.Pairwise fQ->(jJ s l).Pairwise fQ
 | [],_=>by simp [jJ]
 | t::l,h=>by
  obtain ⟨h1,h2⟩:=Pu.1 h;unfold jJ;split
  ·rename_i g;refine Pu.2 ⟨fun x hx=>?_,h⟩;rcases OZ.1 hx with rfl | hx
   ·exact g
   ·exact iW g (h1 x hx)
  ·rename_i g;split
   ·exact h
   ·rename_i e;have g2:fQ t s:=by
     by_cases k:fQ t s
     ·exact k
     ·exact absurd (rf s t g k) e
    refine Pu.2 ⟨fun x hx=>?_,Av s l h2⟩;rcases (yC s l x).1 hx with rfl | hx
    ·exact g2
    ·exact h1 x hx
theorem AA:∀ (l d:List XA) (x:XA),x∈l.foldl (fun d s=>jJ s d) d↔x∈l\/x∈d
 | [],d,x=>aj
 | s::l,d,x=>by
  rw [Pq,AA l,yC,OZ];constructor
  ·rintro (h | h | h)
   ·exact .inl (.inr h)
   ·exact .inl (.inl h)
   ·exact .inr h
  ·rintro ((h | h) | h)
   ·exact .inr (.inl h)
   ·exact .inl h
   ·exact .inr (.inr h)
def nk (l:List XA) (x:XA):x∈cQ l↔x∈l:=by unfold cQ; rw [AA]; simp
theorem x6:∀ (l d:List XA),d.Pairwise fQ->(l.foldl (fun d s=>jJ s d) d).Pairwise fQ
 | [],d,h=>h
 | s::l,d,h=>x6 l _ (Av s d h)
def sO (l:List XA):(cQ l).Pairwise fQ:=x6 l [] List.Pairwise.nil
theorem Et:∀ (l:List XA) (w w':eS) (n:Nat),(∀ s,s∈l->s.size<=2^20)->yq w->fV w n l=.ok w'->yq w'
 | [],w,w',n,_,W,h=>by
  simp only [fV] at h;injection h with h
  subst h;exact W
 | s::l,w,w',n,hs,W,h=>by
  simp only [fV] at h;split at h
  ·cases h
  ·rename_i w1 h1;exact Et l w1 w' (n+1) (fun x hx=>hs x (by simp [hx])) (yh (hs s aj) W h1) h
theorem vX:∀ (f:Nat) (s:List UInt8) (N:Nat),s.length<=N->∀ l,l∈bK f s->l.length<=N
 | 0,s,N,_,l,h=>by simp [bK] at h
 | f+1,[],N,_,l,h=>by simp [bK] at h
 | f+1,c::s,N,hN,l,h=>by
  simp only [bK] at h;rcases OZ.1 h with rfl | h
  ·exact Pb (List.IsPrefix.length_le (List.takeWhile_prefix _)) hN
  ·refine vX f _ N ?_ l h;have h1:((c::s).dropWhile (fun x=>decide (x≠10))).length<=(c::s).length:=by
    have:=List.IsSuffix.length_le (List.dropWhile_suffix (l:=c::s) (fun x=>decide (x≠10)))
    exact this
   rw [OR];omega
def gO (src:XA):∀ s,s∈cK src->s.size<=src.size:=by
 intro s hs;unfold cK at hs;obtain ⟨l,hl,rfl⟩:=Pa.1 hs
 have:=vX _ _ src.size aj l hl
 show l.toArray.size<=_;simpa using this
def nl:UInt8->Bool:=fun c=>decide (c≠10)
theorem xf:∀ (l:List UInt8),(∀ x,x∈l->nl x=true)->l.takeWhile nl=l/\l.dropWhile nl=[]
 | [],_=>⟨rfl,rfl⟩
 | c::l,h=>by
  have:=xf l (fun x hx=>h x (by simp [hx]))
  rw [PT,List.dropWhile_cons,OH (h c aj),OH (h c aj),this.1];exact ⟨rfl,this.2⟩
def vJ (f:Nat) (c:UInt8) (s:List UInt8):bK (f+1) (c::s)=((c::s).takeWhile nl)::bK f (((c::s).dropWhile nl).drop 1):=rfl
def Bq:∀ (f:Nat) (x y:List UInt8),(∀ c,c∈x->nl c=true)->bK (f+1) (x++10::y)=x::bK f y:=by
 intro f x y hx;have h1:(x++10::y).takeWhile nl=x:=by
  rw [List.takeWhile_append,(xf x hx).1,OH rfl];simp [nl]
 have h2:(x++10::y).dropWhile nl=10::y:=by
  rw [List.dropWhile_append,(xf x hx).2];simp [nl]
 cases hq:x++10::y with
 | nil=>simp at hq
 | cons a l =>
  rw [vJ,<- hq,h1,h2] <;> rfl
def B6 (f:Nat) (x:List UInt8) (hx:∀ c,c∈x->nl c=true) (hn:x≠[]):bK (f+1) x=[x]:=by
 cases x with
 | nil=>exact absurd rfl hn
 | cons a l =>
  rw [vJ,(xf _ hx).1,(xf _ hx).2]
  all_goals (cases f <;> rfl)
theorem EB:∀ (s:List UInt8),(∀ c,c∈s->nl c=true)\/∃ l r,s=l++10::r/\∀ c,c∈l->nl c=true
 | []=>.inl aj
 | c::s=>by
  by_cases hc:c=10
  ·exact .inr ⟨[],s,by rw [hc]; rfl,aj⟩
  ·rcases EB s with h | ⟨l,r,h1,h2⟩
   ·refine .inl fun x hx=>?_
    rcases OZ.1 hx with rfl | hx
    ·simp [nl,hc]
    ·exact h x hx
   ·refine .inr ⟨c::l,r,by rw [h1]; rfl,fun x hx=>?_⟩;rcases OZ.1 hx with rfl | hx
    ·simp [nl,hc]
    ·exact h2 x hx
theorem C':∀ (l:List XA) (w:eS) (n:Nat) (q:Nat × Nat),fV w n l=.error q->n<=q.1/\q.1<n+l.length
 | [],w,n,q,h=>by simp [fV] at h
 | s::l,w,n,q,h=>by
  simp only [fV] at h;split at h
  ·injection h with h
   subst h
   simp
  ·have:=C' l _ (n+1) q h
   rw [Pg];omega
def Cq {w w':eS} {n:Nat} {s:XA} (h:eJ w n s=.ok w'):∀ g,g∈w'.aP->g∈w.aP\/g.2=n:=by
 unfold eJ at h;split at h
 ·cases h
 split at h
 ·cases h
 split at h
 ·cases h
 split at h
 ·cases h
 split at h
 ·cases h
 injection h with h
 subst h;intro g hg;unfold lE at hg;simp only at hg;split at hg
 ·rcases OS.1 hg with hg | hg
  ·exact .inl hg
  ·have:=OJ.1 hg
   subst this;exact .inr rfl
 ·exact .inl hg
theorem yz:∀ (l:List XA) (w w':eS) (n:Nat),fV w n l=.ok w'->∀ g,g∈w'.aP->g∈w.aP\/(n<=g.2/\g.2<n+l.length)
 | [],w,w',n,h,g,hg=>by
  simp only [fV] at h;injection h with h
  subst h;exact .inl hg
 | s::l,w,w',n,h,g,hg=>by
  simp only [fV] at h;split at h
  ·cases h
  ·rename_i w1 h1;rw [Pg];rcases yz l w1 w' (n+1) h g hg with k | k
   ·rcases Cq h1 g k with k | k
    ·exact .inl k
    ·exact .inr ae
   ·exact .inr ae
def dw:eS->Nat->List XA->eS × List (Nat × Nat)
 | w,_,[]=>(w,[])
 | w,n,s::l=>match eJ w n s with
  | .error e=>((dw w (n+1) l).1,(n,e)::(dw w (n+1) l).2)
  | .ok w'=>dw w' (n+1) l
def wz (w:eS) (l:List (XA × Nat)):List (Nat × Nat):=(l.filter fun g=>!fT w.names g.1).map fun g=>(g.2,23)
def uU (src:XA):pN × List (Nat × Nat) :=
 if 65536<src.size then (vz,[(0,3)])
 else if 4096<(cK src).length then (vz,[(4097,4)])
 else (⟨(dw cZ 1 (cK src)).1.text,(dw cZ 1 (cK src)).1.data,(dw cZ 1 (cK src)).1.bU,cQ ((dw cZ 1 (cK src)).1.aP.map (·.1))⟩,(dw cZ 1 (cK src)).2++wz (dw cZ 1 (cK src)).1 (dw cZ 1 (cK src)).1.aP)
theorem EI:∀ (l:List XA) (w w':eS) (n:Nat),fV w n l=.ok w'->dw w n l=(w',[])
 | [],w,w',n,h=>by
  simp only [fV] at h;injection h with h
  subst h;rfl
 | s::l,w,w',n,h=>by
  simp only [fV] at h;simp only [dw];split at h
  ·cases h
  ·rename_i w1 h1
   try rw [h1]
   exact EI l w1 w' (n+1) h
theorem Bu:∀ (l:List XA) (w:eS) (n:Nat) (q:Nat × Nat),fV w n l=.error q->∃ r,(dw w n l).2=q::r
 | [],w,n,q,h=>by simp [fV] at h
 | s::l,w,n,q,h=>by
  simp only [fV] at h;simp only [dw];split at h
  ·rename_i e he;injection h with h
   subst h
   try rw [he]
   exact ⟨_,rfl⟩
  ·rename_i w1 h1
   try rw [h1]
   exact Bu l w1 (n+1) q h
def xw (r:pN × List (Nat × Nat)):Except (Nat × Nat) pN:=match r.2 with
 | []=>.ok r.1
 | q::_=>.error q
theorem vZ {α:Type} (p:α->Bool):∀ (l:List α),l.filter p=[]/\l.find? p=none\/∃ x r,l.filter p=x::r/\l.find? p=some x
 | []=>.inl ⟨rfl,rfl⟩
 | a::l=>by
  by_cases h:p a=true
  ·exact .inr ⟨a,l.filter p,by rw [List.filter_cons,OH h],by rw [PN,h]⟩
  ·have h:p a=false:=by simpa using h
   rcases vZ p l with ⟨h1,h2⟩ | ⟨x,r,h1,h2⟩
   ·exact .inl ⟨by rw [List.filter_cons,h]; simpa using h1,by rw [PN,h]; exact h2⟩
   ·exact .inr ⟨x,r,by rw [List.filter_cons,h]; simpa using h1,by rw [PN,h]; exact h2⟩
def Ee (src:XA):xw (uU src)=dW src:=by
 unfold uU dW
 by_cases h1:65536<src.size
 ·rw [OH h1,OH h1]; rfl
 rw [OG h1,OG h1]
 by_cases h2:4096<(cK src).length
 ·rw [OH h2,OH h2]; rfl
 rw [OG h2,OG h2];cases hr:fV cZ 1 (cK src) with
 | error e =>
  obtain ⟨r,hr2⟩:=Bu _ _ _ _ hr;unfold xw;rw [hr2] <;> rfl
 | ok w =>
  rw [EI _ _ _ _ hr];unfold xw wz IW;simp only [List.nil_append];rcases vZ (fun g:XA × Nat=>!fT w.names g.1) w.aP with ⟨h1,h2⟩ | ⟨x,r,h1,h2⟩
  ·rw [h1,h2]; rfl
  ·rw [h1,h2]; rfl
theorem x7:∀ (l:List XA) (w:eS) (n:Nat),(dw w n l).2.length<=l.length
 | [],w,n=>by simp [dw]
 | s::l,w,n=>by
  simp only [dw];split
  ·have:=x7 l w (n+1)
   simpa using this
  ·rename_i w1 _
   have:=x7 l w1 (n+1)
   rw [Pg]; omega
def NU:Tryz.prog.underlying 24=some (.slice 99):=aB
def NH:List XB:=[.string ⟨#[]⟩,.slice none 0 0,.int .u32 (0:Int)]
def Nv:(Tryz.prog.info? 99).map (fun i=>(i.zero,i.size,i.bytes))=some (some (.agg NH.toArray),3,48):=aB
def Mo (s:XA) (p:Option XC) (l c:Nat) (n:Int):Instr.fill (fun j=>some (j*3,3)) ((Array.range (1*3)).map ((Value.agg NH.toArray).cells[· % (Value.agg NH.toArray).cells.size]!)) [(0,.agg #[.string s,.slice p l c,.int .u32 n])]=some #[.string s,.slice p l c,.int .u32 n]:=aB
def JN:Tryz.prog.underlying 25=some (.slice 9):=aB
def Od:(Tryz.prog.info? 9).map (fun i=>(i.zero,i.size,i.bytes))=some (some (.string ⟨#[]⟩),1,16):=aB
def N0:Tryz.prog.underlying 71=some (.slice 76):=aB
def NO:(Tryz.prog.info? 76).map (fun i=>(i.zero,i.size,i.bytes))=some (some (.agg #[.string ⟨#[]⟩,.int .i64 (0:Int)]),2,24):=aB
def Mh (s:XA) (n:Int):Instr.fill (fun j=>some (j*2,2)) ((Array.range (1*2)).map ((Value.agg #[.string ⟨#[]⟩,.int .i64 (0:Int)]).cells[· % (Value.agg #[.string ⟨#[]⟩,.int .i64 (0:Int)]).cells.size]!)) [(0,.agg #[.string s,.int .i64 n])]=some #[.string s,.int .i64 n]:=aB
def Nw:Tryz.prog.underlying 140=some (.slice 3):=aB
def N5:(Tryz.prog.info? 3).map (fun i=>(i.zero,i.size,i.bytes))=some (some (.int .i64 (0:Int)),1,8):=aB
section
variable {P:Program} {h:Hp} {K:XB->Hp->Prop}
def qL {t ty e:TypeId} {i:TypeInfo} {z:XB} (ht:P.underlying t=some (.slice e)) (hi:P.info? e=some i) (hz:i.zero=some z) (hzs:z.cells.size=i.size)
  {b b':Nat} {p q:Option XC} {l c m cc:Nat} {xs ys:List (List XB)} (s:SL h b e i.size p l c xs) (s':SL h b' e i.size q m cc ys) (hp:ys.flatten.all fI=true) (hby:(2*(l+m)+1024)*i.bytes<=2^48) (hl:l+m<=2^48) (hb:b<=h.size)
  (hk:∀ p' c' h',SL h' b e i.size p' (l+m) c' (xs++ys)->Ch (aE p) h h'->(p'=p\/∃ a,p'=some a/\h.size<=a.block)->K (.slice p' (l+m) c') h') :
  aV P (Builtin.append_ #[t,t] ty #[.slice p l c,.slice q m cc]) h K:=by
 cases q with
 | some a =>
  refine rc (ys:=ys) ht hi hz hzs s s'.1 s'.2.1 ?_ hp hby hl hb hk;obtain ⟨g,pre,rest,rfl,hbg,hlc,hbox,hr⟩:=s'.2.2;refine hbox.cells _ ?_;rw [PV,Qc]
 | none =>
  have h1:ys=[]:=s'.2.2.2;have h2:m=0:=by rw [s'.1,h1]; rfl
  subst h1 h2;have hroom:l+0<=c:=by
   cases p with
   | none =>
    have h3:c=0:=s.2.2.1;have h4:xs=[]:=s.2.2.2;have h5:l=0:=by rw [s.1,h4]; rfl
    omega
   | some a =>
    obtain ⟨g,pre,rest,rfl,hbg,hlc,hbox,hr⟩:=s.2.2;omega
  simp only [Nat.add_zero] at hroom;have hk:=hk p c h (by rw [Pr]; exact s) (Ch.refl _ _) (.inl rfl);cases p with
  | none =>
   have h3:c=0:=s.2.2.1;have h4:xs=[]:=s.2.2.2;have h5:l=0:=by rw [s.1,h4]; rfl
   subst h3 h5;simp [Builtin.append_,aD,aL ht,bV hi,eC hi,Builtin.lenOf,Builtin.firstCells];exact hk
  | some a =>
   simp [Builtin.append_,aD,aL ht,bV hi,eC hi,Builtin.lenOf,Builtin.firstCells,hroom];exact hk
end
def oo {α:Type} (f:α->List XB) (hf:∀ x,(f x).all fI=true) (l:List α):(l.map f).flatten.all fI=true:=by
 rw [List.all_flatten,List.all_map];exact O9.2 fun x _=>hf x
def nS (u:cH × cd):(vi u).all fI=true:=rfl
def N8 (u:cH × pP):List XB:=Kx u.1.p u.1.l u.1.c u.2
def NN (g:XA × Nat):List XB:=[.string g.1,.int .i64 (g.2:Int)]
structure Core (h:Hp) (b:Nat) (tx dx:List cd) (ex:List pP) (t d e:cH) (ut ud:List (cH × cd)) (ue:List (cH × pP)) (ow:Nat->Nat):Prop where
 t1:SL h b 96 10 t.p t.l t.c (ut.map vi)
 t2:∀ u,u∈ut->SL h b 109 2 u.1.p u.1.l u.1.c (u.2.e.ay.map cB)
 t3:ut.map (·.2)=tx
 d1:SL h b 96 10 d.p d.l d.c (ud.map vi)
 d2:∀ u,u∈ud->SL h b 109 2 u.1.p u.1.l u.1.c (u.2.e.ay.map cB)
 d3:ud.map (·.2)=dx
 e1:SL h b 99 3 e.p e.l e.c (ue.map N8)
 e2:∀ u,u∈ue->SL h b 109 2 u.1.p u.1.l u.1.c (u.2.2.ay.map cB)
 e3:ue.map (·.2)=ex
 o3:∀ i,i∈aE t.p->ow i=3
 o4:∀ i,i∈aE d.p->ow i=4
 o5:∀ i,i∈aE e.p->ow i=5
 ot:∀ u,u∈ut->∀ i,i∈aE u.1.p->ow i=0
 od:∀ u,u∈ud->∀ i,i∈aE u.1.p->ow i=0
 oe:∀ u,u∈ue->∀ i,i∈aE u.1.p->ow i=0
section
variable {h h':Hp} {b:Nat} {tx dx:List cd} {ex:List pP} {t d e:cH} {ut ud:List (cH × cd)} {ue:List (cH × pP)} {ow:Nat->Nat}
def Core.nil (h:Hp) (b:Nat) (ow:Nat->Nat):Core h b [] [] [] fA fA fA [] [] [] ow :=
 ⟨SL.nil _ _ _ _,aj,rfl,SL.nil _ _ _ _,aj,rfl,SL.nil _ _ _ _,aj,rfl,by simp [fA,aE],by simp [fA,aE],by simp [fA,aE],aj,aj,aj⟩
def SL.dp {ws:List Nat} {e':TypeId} {sz:Nat} {p:Option XC} {l c:Nat} {xs:List (List XB)} (s:SL h b e' sz p l c xs) (k:Ch ws h h') {k0:Nat} (ho:∀ i,i∈aE p->ow i=k0) (hw:∀ i,i∈ws->i<h.size->b<=i->ow i≠k0):SL h' b e' sz p l c xs :=
 Sx.SL.bd s k fun i hi hm=>by
  have h1:=Sx.SL.bH s hi;exact hw i hm h1.2 h1.1 (ho i hi)
def Core.an {ws:List Nat} (C:Core h b tx dx ex t d e ut ud ue ow) (k:Ch ws h h') (hw:∀ i,i∈ws->i<h.size->b<=i->6<=ow i):Core h' b tx dx ex t d e ut ud ue ow:=by
 have n:∀ k0,k0<6->∀ i,i∈ws->i<h.size->b<=i->ow i≠k0:=fun k0 hk i h1 h2 h3=>by have:=hw i h1 h2 h3; omega
 exact ⟨SL.dp C.t1 k C.o3 (n 3 ae),fun u hu=>SL.dp (C.t2 u hu) k (C.ot u hu) (n 0 ae),C.t3,
  SL.dp C.d1 k C.o4 (n 4 ae),fun u hu=>SL.dp (C.d2 u hu) k (C.od u hu) (n 0 ae),C.d3,
  SL.dp C.e1 k C.o5 (n 5 ae),fun u hu=>SL.dp (C.e2 u hu) k (C.oe u hu) (n 0 ae),C.e3,C.o3,C.o4,C.o5,C.ot,C.od,C.oe⟩
def Core.relabel (C:Core h b tx dx ex t d e ut ud ue ow) {ow':Nat->Nat} (ho:∀ i,i<h.size->ow' i=ow i):Core h b tx dx ex t d e ut ud ue ow' :=
 ⟨C.t1,C.t2,C.t3,C.d1,C.d2,C.d3,C.e1,C.e2,C.e3,fun i hi=>(ho i (Sx.SL.bH C.t1 hi).2).trans (C.o3 i hi),fun i hi=>(ho i (Sx.SL.bH C.d1 hi).2).trans (C.o4 i hi),fun i hi=>(ho i (Sx.SL.bH C.e1 hi).2).trans (C.o5 i hi),
  fun u hu i hi=>(ho i (Sx.SL.bH (C.t2 u hu) hi).2).trans (C.ot u hu i hi),fun u hu i hi=>(ho i (Sx.SL.bH (C.d2 u hu) hi).2).trans (C.od u hu i hi),fun u hu i hi=>(ho i (Sx.SL.bH (C.e2 u hu) hi).2).trans (C.oe u hu i hi)⟩
def cO (n k:Nat) (ow:Nat->Nat):Nat->Nat:=fun i=>if i<n then ow i else k
def bT {n k:Nat} {ow:Nat->Nat} {i:Nat} (hi:i<n):cO n k ow i=ow i:=OH hi
def oc {n k:Nat} {ow:Nat->Nat} {i:Nat} (hi:n<=i):cO n k ow i=k:=OG ae
def jf {p p':Option XC} {n k:Nat} {ow:Nat->Nat} (ho:∀ i,i∈aE p->ow i=k) (hl:∀ i,i∈aE p->i<n) (hp:p'=p\/∃ a,p'=some a/\n<=a.block):∀ i,i∈aE p'->cO n k ow i=k:=by
 intro i hi;rcases hp with rfl | ⟨a,rfl,ha⟩
 ·rw [bT (hl i hi)];exact ho i hi
 ·simp [aE] at hi;exact oc ae
variable {L:Lp} {K:XB->Hp->Prop}
def Core.Mf (C:Core h b tx dx ex t d e ut ud ue ow) (hb:b<=h.size) {b':Nat} {s:cH} {us:List (cH × cd)} (hs:SL h b' 96 10 s.p s.l s.c (us.map vi)) (hu:∀ u,u∈us->SL h b 109 2 u.1.p u.1.l u.1.c (u.2.e.ay.map cB)) (ho:∀ u,u∈us->∀ i,i∈aE u.1.p->ow i=0)
  (hm:t.l+s.l<=2^30) {k:Option XC->Nat->Nat->T}
  (hk:∀ (t':cH) h',Core h' b (tx++us.map (·.2)) dx ex t' d e (ut++us) ud ue (cO h.size 3 ow)->Ch (aE t.p) h h'->t'.l=t.l+s.l->k t'.p t'.l t'.c L K h') :
  T.fb Tryz.prog (Builtin.append_ #[23,23] 23 #[.slice t.p t.l t.c,.slice s.p s.l s.c]) false [(false,[.slice 0])] k L K h:=by
 obtain ⟨i,hi,hz,h1,h2⟩:=nI yN;refine dE ?_;have t1:=C.t1;rw [<- h1] at t1 hs;refine qL B3 hi hz (by rw [h1]; rfl) t1 hs (oo _ nS _) (by rw [h2]; omega) ae hb ?_;intro p' c' h' s' k' hp';have old:∀ {p:Option XC} {k0:Nat},(∀ i,i∈aE p->i<h.size)->(∀ i,i∈aE p->ow i=k0)->∀ i,i∈aE p->cO h.size 3 ow i=k0:=fun hl ho i hi=>(bT (hl i hi)).trans (ho i hi)
 have n:∀ k0,k0≠3->∀ i,i∈aE t.p->i<h.size->b<=i->ow i≠k0:=fun k0 hk i h1 h2 h3=>by rw [C.o3 i h1]; omega
 refine ⟨p',t.l+s.l,c',rfl,hk ⟨p',t.l+s.l,c'⟩ h' ?_ k' rfl⟩;rw [h1,<- OU] at s';refine ⟨s',?_,by rw [OU,C.t3],SL.dp C.d1 k' C.o4 (n 4 ae),fun u hu=>SL.dp (C.d2 u hu) k' (C.od u hu) (n 0 ae),C.d3,SL.dp C.e1 k' C.o5 (n 5 ae),fun u hu=>SL.dp (C.e2 u hu) k' (C.oe u hu) (n 0 ae),C.e3,?_,?_,?_,?_,?_,?_⟩
 ·intro u hu';rcases OS.1 hu' with hu' | hu'
  ·exact SL.dp (C.t2 u hu') k' (C.ot u hu') (n 0 ae)
  ·exact SL.dp (hu u hu') k' (ho u hu') (n 0 ae)
 ·exact jf C.o3 (fun i hi=>(Sx.SL.bH C.t1 hi).2) hp'
 ·exact old (fun i hi=>(Sx.SL.bH C.d1 hi).2) C.o4
 ·exact old (fun i hi=>(Sx.SL.bH C.e1 hi).2) C.o5
 ·intro u hu';rcases OS.1 hu' with hu' | hu'
  ·exact old (fun i hi=>(Sx.SL.bH (C.t2 u hu') hi).2) (C.ot u hu')
  ·exact old (fun i hi=>(Sx.SL.bH (hu u hu') hi).2) (ho u hu')
 ·exact fun u hu'=>old (fun i hi=>(Sx.SL.bH (C.d2 u hu') hi).2) (C.od u hu')
 ·exact fun u hu'=>old (fun i hi=>(Sx.SL.bH (C.e2 u hu') hi).2) (C.oe u hu')
def Core.MZ (C:Core h b tx dx ex t d e ut ud ue ow) (hb:b<=h.size) {b':Nat} {s:cH} {us:List (cH × cd)} (hs:SL h b' 96 10 s.p s.l s.c (us.map vi)) (hu:∀ u,u∈us->SL h b 109 2 u.1.p u.1.l u.1.c (u.2.e.ay.map cB)) (ho:∀ u,u∈us->∀ i,i∈aE u.1.p->ow i=0)
  (hm:d.l+s.l<=2^30) {k:Option XC->Nat->Nat->T}
  (hk:∀ (d':cH) h',Core h' b tx (dx++us.map (·.2)) ex t d' e ut (ud++us) ue (cO h.size 4 ow)->Ch (aE d.p) h h'->d'.l=d.l+s.l->k d'.p d'.l d'.c L K h') :
  T.fb Tryz.prog (Builtin.append_ #[23,23] 23 #[.slice d.p d.l d.c,.slice s.p s.l s.c]) false [(false,[.slice 0])] k L K h:=by
 obtain ⟨i,hi,hz,h1,h2⟩:=nI yN;refine dE ?_;have d1:=C.d1;rw [<- h1] at d1 hs;refine qL B3 hi hz (by rw [h1]; rfl) d1 hs (oo _ nS _) (by rw [h2]; omega) ae hb ?_;intro p' c' h' s' k' hp';have old:∀ {p:Option XC} {k0:Nat},(∀ i,i∈aE p->i<h.size)->(∀ i,i∈aE p->ow i=k0)->∀ i,i∈aE p->cO h.size 4 ow i=k0:=fun hl ho i hi=>(bT (hl i hi)).trans (ho i hi)
 have n:∀ k0,k0≠4->∀ i,i∈aE d.p->i<h.size->b<=i->ow i≠k0:=fun k0 hk i h1 h2 h3=>by rw [C.o4 i h1]; omega
 refine ⟨p',d.l+s.l,c',rfl,hk ⟨p',d.l+s.l,c'⟩ h' ?_ k' rfl⟩;rw [h1,<- OU] at s';refine ⟨SL.dp C.t1 k' C.o3 (n 3 ae),fun u hu=>SL.dp (C.t2 u hu) k' (C.ot u hu) (n 0 ae),C.t3,s',?_,by rw [OU,C.d3],SL.dp C.e1 k' C.o5 (n 5 ae),fun u hu=>SL.dp (C.e2 u hu) k' (C.oe u hu) (n 0 ae),C.e3,?_,?_,?_,?_,?_,?_⟩
 ·intro u hu';rcases OS.1 hu' with hu' | hu'
  ·exact SL.dp (C.d2 u hu') k' (C.od u hu') (n 0 ae)
  ·exact SL.dp (hu u hu') k' (ho u hu') (n 0 ae)
 ·exact old (fun i hi=>(Sx.SL.bH C.t1 hi).2) C.o3
 ·exact jf C.o4 (fun i hi=>(Sx.SL.bH C.d1 hi).2) hp'
 ·exact old (fun i hi=>(Sx.SL.bH C.e1 hi).2) C.o5
 ·exact fun u hu'=>old (fun i hi=>(Sx.SL.bH (C.t2 u hu') hi).2) (C.ot u hu')
 ·intro u hu';rcases OS.1 hu' with hu' | hu'
  ·exact old (fun i hi=>(Sx.SL.bH (C.d2 u hu') hi).2) (C.od u hu')
  ·exact old (fun i hi=>(Sx.SL.bH (hu u hu') hi).2) (ho u hu')
 ·exact fun u hu'=>old (fun i hi=>(Sx.SL.bH (C.e2 u hu') hi).2) (C.oe u hu')
def Core.nZ (C:Core h b tx dx ex t d e ut ud ue ow) (hb:b<=h.size) {st:List (XC × List XB)} {s:cH} {x:pP} (hu:SL h b 109 2 s.p s.l s.c (x.2.ay.map cB)) (ho:∀ i,i∈aE s.p->ow i=0)
  (hm:e.l+1<=2^30) {k:Option XC->Nat->Nat->T} (hst:∀ h',Ext h h'->T.Gg h' st)
  (hk:∀ (e':cH) h',Core h' b tx dx (ex++[x]) t d e' ut ud (ue++[(s,x)]) (cO h.size 5 ow)->Ch (aE e.p) h h'->e'.l=e.l+1->k e'.p e'.l e'.c L K h') :
  T.fb Tryz.prog (Instr.buildSlice 24 1 #[(0,.agg #[.string x.1,.slice s.p s.l s.c,.int .u32 (x.2.num:Int)])]) false [(false,[.slice 0])] (fun q m cc=>T.aT st (T.fb Tryz.prog (Builtin.append_ #[24,24] 24 #[.slice e.p e.l e.c,.slice q m cc]) false [(false,[.slice 0])] k)) L K h:=by
 refine lL NU Nv rfl ae ae (Mo x.1 s.p s.l s.c x.2.num) rfl rfl C.e1 hb ae ae hst ?_;intro p' c' h' s' k' hp';have old:∀ {p:Option XC} {k0:Nat},(∀ i,i∈aE p->i<h.size)->(∀ i,i∈aE p->ow i=k0)->∀ i,i∈aE p->cO h.size 5 ow i=k0:=fun hl ho i hi=>(bT (hl i hi)).trans (ho i hi)
 have n:∀ k0,k0≠5->∀ i,i∈aE e.p->i<h.size->b<=i->ow i≠k0:=fun k0 hk i h1 h2 h3=>by rw [C.o5 i h1]; omega
 refine hk ⟨p',e.l+1,c'⟩ h' ?_ k' rfl;refine ⟨SL.dp C.t1 k' C.o3 (n 3 ae),fun u hu=>SL.dp (C.t2 u hu) k' (C.ot u hu) (n 0 ae),C.t3,SL.dp C.d1 k' C.o4 (n 4 ae),fun u hu=>SL.dp (C.d2 u hu) k' (C.od u hu) (n 0 ae),C.d3,by rw [OU]; exact s',?_,by rw [OU,C.e3]; rfl,?_,?_,?_,?_,?_,?_⟩
 ·intro u hu';rcases OS.1 hu' with hu' | hu'
  ·exact SL.dp (C.e2 u hu') k' (C.oe u hu') (n 0 ae)
  ·have:=OJ.1 hu'
   subst this;exact SL.dp hu k' ho (n 0 ae)
 ·exact old (fun i hi=>(Sx.SL.bH C.t1 hi).2) C.o3
 ·exact old (fun i hi=>(Sx.SL.bH C.d1 hi).2) C.o4
 ·exact jf C.o5 (fun i hi=>(Sx.SL.bH C.e1 hi).2) hp'
 ·exact fun u hu'=>old (fun i hi=>(Sx.SL.bH (C.t2 u hu') hi).2) (C.ot u hu')
 ·exact fun u hu'=>old (fun i hi=>(Sx.SL.bH (C.d2 u hu') hi).2) (C.od u hu')
 ·intro u hu';rcases OS.1 hu' with hu' | hu'
  ·exact old (fun i hi=>(Sx.SL.bH (C.e2 u hu') hi).2) (C.oe u hu')
  ·have:=OJ.1 hu'
   subst this;exact old (fun i hi=>(Sx.SL.bH hu hi).2) ho
end
structure Ab (b:Nat) (q:Nat->Prop) (ow:Nat->Nat) (h h':Hp):Prop where
 size:h.size<=h'.size
 same:∀ i,i<h.size->(i<b\/q i)->h'[i]?=h[i]?
 qs:∀ i,q i->i<h.size
 qo:∀ i,q i->ow i=9
def Ab.AM {b:Nat} {q:Nat->Prop} {ow:Nat->Nat} {h h':Hp} (k:Ext h h') (qs:∀ i,q i->i<h.size) (qo:∀ i,q i->ow i=9):Ab b q ow h h' :=
 ⟨k.size,fun i hi _=>k.same i hi aj,qs,qo⟩
def Ab.step {b:Nat} {q:Nat->Prop} {ow ow':Nat->Nat} {h h1 h2:Hp} {ws:List Nat} (a:Ab b q ow h h1) (k:Ch ws h1 h2) (hw:∀ i,i∈ws->i<h1.size->b<=i/\ow i≠9) (ho:∀ i,i<h1.size->ow' i=ow i):Ab b q ow' h h2:=by
 have hlt:∀ i,i<h.size->i<h1.size:=fun i hi=>PE hi a.size
 refine ⟨Pb a.size k.size,fun i hi hq=>?_,a.qs,fun i hq=>(ho i (hlt i (a.qs i hq))).trans (a.qo i hq)⟩;rw [<- a.same i hi hq];refine k.same i (hlt i hi) fun hm=>?_
 have:=hw i hm (hlt i hi)
 rcases hq with hq | hq
 ·omega
 ·exact this.2 (a.qo i hq)
def Ab.CY {b:Nat} {q:Nat->Prop} {ow ow':Nat->Nat} {h h1 h2:Hp} (a:Ab b q ow h h1) (k:Ext h1 h2) (ho:∀ i,i<h1.size->ow' i=ow i):Ab b q ow' h h2:=a.step k aj ho
def nb (t d e:cH) (sec items:Int) (g:Nat) (q:cH):List XB:=[t.v,d.v,e.v,.slice none 0 0,.int .i64 sec,.int .i64 items,.map (some g),q.v]
structure ei (h:Hp) (b A g:Nat) (w:eS) (t d e q:cH) (ut ud:List (cH × cd)) (ue:List (cH × pP)) (ow:Nat->Nat):Prop where
 core:Core h b w.text w.data w.bU t d e ut ud ue ow
 box:bf h A 73 (nb t d e (w.sec:Int) ((w.text.length+w.data.length:Nat):Int) g q)
 names:rG h g w.names
 aP:SL h b 76 2 q.p q.l q.c (w.aP.map NN)
 oA:ow A=6
 og:ow g=7
 oq:∀ i,i∈aE q.p->ow i=8
 bA:b<=A
 bg:b<=g
section
variable {h h':Hp} {b A g:Nat} {w:eS} {t d e q:cH} {ut ud:List (cH × cd)} {ue:List (cH × pP)} {ow:Nat->Nat}
def ei.an {ws:List Nat} (a:ei h b A g w t d e q ut ud ue ow) (k:Ch ws h h') (hw:∀ i,i∈ws->i<h.size->b<=i->9<=ow i):ei h' b A g w t d e q ut ud ue ow :=
 ⟨a.core.an k (fun i h1 h2 h3=>by have:=hw i h1 h2 h3; omega),a.box.an k (fun hm=>by have:=hw A hm a.box.lt a.bA; have:=a.oA; omega),a.names.an k (fun hm=>by have:=hw g hm a.names.lt a.bg; have:=a.og; omega),
  SL.dp a.aP k a.oq (fun i h1 h2 h3=>by have:=hw i h1 h2 h3; omega),a.oA,a.og,a.oq,a.bA,a.bg⟩
def ei.relabel (a:ei h b A g w t d e q ut ud ue ow) {ow':Nat->Nat} (ho:∀ i,i<h.size->ow' i=ow i):ei h b A g w t d e q ut ud ue ow' :=
 ⟨a.core.relabel ho,a.box,a.names,a.aP,(ho A a.box.lt).trans a.oA,(ho g a.names.lt).trans a.og,fun i hi=>(ho i (Sx.SL.bH a.aP hi).2).trans (a.oq i hi),a.bA,a.bg⟩
def lN {α β:Type} {us:List (α × β)} {l:List β} (h:us.map (·.2)=l):us.length=l.length:=by rw [<- h,OI]
def ei.tl (a:ei h b A g w t d e q ut ud ue ow):t.l=w.text.length:=by rw [a.core.t1.1,OI,lN a.core.t3]
def ei.dl (a:ei h b A g w t d e q ut ud ue ow):d.l=w.data.length:=by rw [a.core.d1.1,OI,lN a.core.d3]
def ei.el (a:ei h b A g w t d e q ut ud ue ow):e.l=w.bU.length:=by rw [a.core.e1.1,OI,lN a.core.e3]
def ei.ql (a:ei h b A g w t d e q ut ud ue ow):q.l=w.aP.length:=by rw [a.aP.1,OI]
def iY (w:eS) (sf:List cd):eS:={ w with text:=if w.sec=0 then w.text++sf else w.text,data:=if w.sec=0 then w.data else w.data++sf }
def ye (w:eS) (sf:List cd):(iY w sf).text.length+(iY w sf).data.length=w.text.length+w.data.length+sf.length:=by
 unfold iY;simp only;split
 ·rw [OX]; omega
 ·rw [OX]; omega
def NI (h:Hp) (b A g:Nat) (w:eS) (e q:cH) (us:List (cH × cd)) (ue:List (cH × pP)) (ow:Nat->Nat) (v:XB) (h':Hp):Prop :=
 v=.tuple #[]/\∃ t' d' ut' ud' ow',ei h' b A g (iY w (us.map (·.2))) t' d' e q ut' ud' ue ow'/\(∀ i,i<h.size->ow' i=ow i)/\∃ ws,Ch ws h h'/\∀ i,i∈ws->i<h.size->b<=i/\(ow i=3\/ow i=4\/ow i=6)
def Hu (a : ei h b A g w t d e q ut ud ue ow) (hb : b <= h.size) (hsec : w.sec <= 1) {b' : Nat} {s : cH} {us : List (cH × cd)} (hs : SL h b' 96 10 s.p s.l s.c (us.map vi)) (hu : ∀ u, u ∈ us -> SL h b 109 2 u.1.p u.1.l u.1.c (u.2.e.ay.map cB)) (ho : ∀ u, u ∈ us -> ∀ i, i ∈ aE u.1.p -> ow i = 0)
    (hm : w.text.length + w.data.length + us.length <= 2 ^ 29) : HC Tryz.prog 66 #[.pointer (some ⟨A, 0, none⟩), .int .i64 (w.sec : Int), .slice s.p s.l s.c] h (NI h b A g w e q us ue ow) := by
  refine ba (args := [.pointer (some ⟨A, 0, none⟩), .int .i64 (w.sec : Int), .slice s.p s.l s.c]) mixed Tryz.func66 aB (lT (some ⟨A, 0, none⟩) w.sec s.p s.l s.c) ?_;unfold iF aR aH aw;have hsl : s.l = us.length := by rw [hs.1, OI]
  have htl := a.tl;have hdl := a.dl;have hlt := a.box.lt;refine ai (fun r => ?_) (fun r => ?_)
  · have r : w.sec = 1 := by have := eq_of_beq r; omega
    refine au rfl ?_;rw [az];refine af a.box ((d.p, d.l, d.c), ()) rfl (ao ?_);refine a.core.MZ hb hs hu ho ae ?_;intro d' h1 C1 k1 l1;have nA : A ∉ aE d.p := fun hm => by have := a.core.o4 A hm; have := a.oA; omega
    refine au rfl ?_;rw [az];refine ap (a.box.an k1 nA) rfl (by simp [nb]) ?_;intro h2 b2 k2 z2;have b2 : bf h2 A 73 (nb t d' e (w.sec : Int) ((w.text.length + w.data.length : Nat) : Int) g q) := b2;refine au rfl ?_;rw [az];refine af b2 (((w.text.length + w.data.length : Nat) : Int), ()) rfl (ao ?_);refine au rfl ?_;rw [az];refine ap b2 rfl (by simp [nb]) ?_;intro h3 b3 k3 z3;have b3 : bf h3 A 73 (nb t d' e (w.sec : Int) (IntKind.wrap .i64 (((w.text.length + w.data.length : Nat) : Int) + (s.l : Int))) g q) := b3;rw [wrap_i64 ae ae, show (((w.text.length + w.data.length : Nat) : Int) + (s.l : Int)) = ((w.text.length + w.data.length + us.length : Nat) : Int) from ae] at b3;have oA1 : cO h.size 4 ow A = 6 := (bT hlt).trans a.oA;have C3 := (C1.an k2 (fun i hi _ _ => by have hi := OJ.1 hi; subst hi; omega)).an k3 (fun i hi _ _ => by have hi := OJ.1 hi; subst hi; omega);have ng : g ∉ aE d.p := fun hm => by have := a.core.o4 g hm; have := a.og; omega
    have ngA : g ∉ [A] := fun hm => by have hm := OJ.1 hm; subst hm; have := a.oA; have := a.og; omega
    have qd : ∀ i, i ∈ aE q.p -> i ∉ aE d.p := fun i hi hm => by have := a.core.o4 i hm; have := a.oq i hi; omega
    have qA : ∀ i, i ∈ aE q.p -> i ∉ [A] := fun i hi hm => by have hm := OJ.1 hm; subst hm; have := a.oA; have := a.oq i hi; omega
    refine ⟨rfl, t, d', ut, ud ++ us, cO h.size 4 ow, ⟨?_, ?_, ((a.names.an k1 ng).an k2 ngA).an k3 ngA, Sx.SL.bd (Sx.SL.bd (Sx.SL.bd a.aP k1 qd) k2 qA) k3 qA, oA1, (bT a.names.lt).trans a.og, fun i hi => (bT (Sx.SL.bH a.aP hi).2).trans (a.oq i hi), a.bA, a.bg⟩, fun i hi => bT hi, A :: aE d.p, ?_, ?_⟩
    · unfold iY
      simp only;rw [OG ae, OG ae];exact C3
    · rw [ye, OI]
      exact b3
    · exact ((k1.mono (fun i hi _ => by simp [hi])).trans k2 (fun i hi _ => by have hi := OJ.1 hi; simp [hi])).trans k3 (fun i hi _ => by have hi := OJ.1 hi; simp [hi])
    · intro i hi hl
      rcases OZ.1 hi with rfl | hi
      · exact ⟨a.bA, .inr (.inr a.oA)⟩
      · exact ⟨(Sx.SL.bH a.core.d1 hi).1, .inr (.inl (a.core.o4 i hi))⟩
  · have r : w.sec = 0 := by have : ¬ w.sec = 1 := fun e => by rw [e] at r; simp at r
                             omega
    refine au rfl ?_;refine af a.box ((t.p, t.l, t.c), ()) rfl (ao ?_);refine a.core.Mf hb hs hu ho ae ?_;intro t' h1 C1 k1 l1;have nA : A ∉ aE t.p := fun hm => by have := a.core.o3 A hm; have := a.oA; omega
    refine au rfl ?_;refine ap (a.box.an k1 nA) rfl (by simp [nb]) ?_;intro h2 b2 k2 z2;have b2 : bf h2 A 73 (nb t' d e (w.sec : Int) ((w.text.length + w.data.length : Nat) : Int) g q) := b2;refine au rfl ?_;rw [az];refine af b2 (((w.text.length + w.data.length : Nat) : Int), ()) rfl (ao ?_);refine au rfl ?_;rw [az];refine ap b2 rfl (by simp [nb]) ?_;intro h3 b3 k3 z3;have b3 : bf h3 A 73 (nb t' d e (w.sec : Int) (IntKind.wrap .i64 (((w.text.length + w.data.length : Nat) : Int) + (s.l : Int))) g q) := b3;rw [wrap_i64 ae ae, show (((w.text.length + w.data.length : Nat) : Int) + (s.l : Int)) = ((w.text.length + w.data.length + us.length : Nat) : Int) from ae] at b3;have oA1 : cO h.size 3 ow A = 6 := (bT hlt).trans a.oA;have C3 := (C1.an k2 (fun i hi _ _ => by have hi := OJ.1 hi; subst hi; omega)).an k3 (fun i hi _ _ => by have hi := OJ.1 hi; subst hi; omega);have ng : g ∉ aE t.p := fun hm => by have := a.core.o3 g hm; have := a.og; omega
    have ngA : g ∉ [A] := fun hm => by have hm := OJ.1 hm; subst hm; have := a.oA; have := a.og; omega
    have qd : ∀ i, i ∈ aE q.p -> i ∉ aE t.p := fun i hi hm => by have := a.core.o3 i hm; have := a.oq i hi; omega
    have qA : ∀ i, i ∈ aE q.p -> i ∉ [A] := fun i hi hm => by have hm := OJ.1 hm; subst hm; have := a.oA; have := a.oq i hi; omega
    refine ⟨rfl, t', d, ut ++ us, ud, cO h.size 3 ow, ⟨?_, ?_, ((a.names.an k1 ng).an k2 ngA).an k3 ngA, Sx.SL.bd (Sx.SL.bd (Sx.SL.bd a.aP k1 qd) k2 qA) k3 qA, oA1, (bT a.names.lt).trans a.og, fun i hi => (bT (Sx.SL.bH a.aP hi).2).trans (a.oq i hi), a.bA, a.bg⟩, fun i hi => bT hi, A :: aE t.p, ?_, ?_⟩
    · unfold iY
      simp only;rw [OH r, OH r];exact C3
    · rw [ye, OI]
      exact b3
    · exact ((k1.mono (fun i hi _ => by simp [hi])).trans k2 (fun i hi _ => by have hi := OJ.1 hi; simp [hi])).trans k3 (fun i hi _ => by have hi := OJ.1 hi; simp [hi])
    · intro i hi hl
      rcases OZ.1 hi with rfl | hi
      · exact ⟨a.bA, .inr (.inr a.oA)⟩
      · exact ⟨(Sx.SL.bH a.core.t1 hi).1, .inl (a.core.o3 i hi)⟩
end
end Go.Sx.Ob
