/- Contracts over heaps, part 6. Condition: as each statement says. -/
import Derived.Test.YtmdncdaladplkaaGreatDoorP5
import Derived.Test.YtmdncdaladplkaaGreatDoorSxV
import Derived.Test.YtmdncdaladplkaaGreatDoorRows
import Derived.ProofKit
import Derived.LaidMore
import Derived.LaidLaws
import Derived.OpenShut
import Derived.ChangeSame
import Derived.ChangeStays
import Derived.ChangeOld
import Derived.ChangeSlices
import Derived.ChangeMaps5
import Derived.JoinedCond
import Derived.Lib.LaidTab
import Derived.Stop.Joined
set_option linter.all false
set_option maxRecDepth 100000
set_option maxHeartbeats 4000000
namespace Go.Sx.Lk
open Go.Proofs Go.Sx.Ob
def WR:Tryz.prog.underlying 32=some (.slice 70):=ax
def Zn:(Tryz.prog.info? 70).map (fun i=>(i.zero,i.size,i.bytes))=some (some (.agg #[.slice none 0 0,.slice none 0 0,.slice none 0 0,.slice none 0 0]),4,96):=ax
def Xt (a:Xac) (b c:Nat) (d:Xac) (e f:Nat) (g:Xac) (h c3:Nat) (i:Xac) (k l:Nat):Instr.fill (fun j=>some (j*4,4)) ((Array.range (1*4)).map ((Value.agg #[.slice none 0 0,.slice none 0 0,.slice none 0 0,.slice none 0 0]).cells[· % (Value.agg #[.slice none 0 0,.slice none 0 0,.slice none 0 0,.slice none 0 0]).cells.size]!)) [(0,.agg #[.slice a b c,.slice d e f,.slice g h c3,.slice i k l])]=some ([.slice a b c,.slice d e f,.slice g h c3,.slice i k l]:List Xab).toArray:=ax
def Xs (i r:Xax) (j:Xac) (k l:Nat) (b:Xac) (c s:Nat):T :=
   (bP 37 [.slice j k l] true [(false,[.slice 116]),aQ,aQ] <| fun (m:Xac) (n o:Nat) (a d:Int) =>
   cond (d != (0:Int))
    (T.need (eS a c) <|
    T.bf b <| fun (e:Xax) =>
    T.af (e.add (aI a 2)) [.int .i64] <| fun (f:Int) =>
    T.need (eS a c) <|
    T.bf b <| fun (g:Xax) =>
    T.af ((g.add (aI a 2)).add 1) [.string] <| fun (h:Xaa) =>
    T.bi [(((g.add (aI a 2)).add 1),[.string h]),((e.add (aI a 2)),[vI f])] <|
    T.aD i [vI d,vI f,.string h] <|
    T.af i [.int .i64,.int .i64,.string] <| fun (p q:Int) (Vr:Xaa) =>
    bG #[.pointer none,.agg #[vI p,vI q,.string Vr]])
    (Wt i r m n o))
def Wf (e c:Xax) (w x:Xac) (y z:Nat) (A:Xac) (B C:Nat) (a:Int) (D:Xac) (E F:Nat) (G:Xac) (H I:Nat) (J:Xac) (K L:Nat) (M:Xac) (N O:Nat):T :=
   T.new [bg,bg,bg,bg] 70 <| fun (b:Xax) =>
   T.aD b [.slice D E F,.slice G H I,.slice J K L,.slice M N O] <|
   T.new [bg,bg,bg,bg] 70 <| fun (d:Xax) =>
   T.af b [.slice 55] <| fun (P:Xac) (Q R:Nat) =>
   bP 33 [.pointer (some c),vI a,.slice P Q R] true [(false,[.slice 55]),(false,[.string]),cn] <| fun (S:Xac) (U V:Nat) (W:Xaa) (X:Bool) =>
   T.aD d [.slice S U V] <|
   cond (!X)
    (T.aD e [vI (23:Int),vI a,.string W] <|
    T.af e [.int .i64,.int .i64,.string] <| fun (Y Z:Int) (s46:Xaa) =>
    bG #[.pointer none,.agg #[vI Y,vI Z,.string s46]])
    (T.af (b.add 1) [.slice 55] <| fun (p44:Xac) (l45 l46:Nat) =>
    bP 33 [.pointer (some c),vI a,.slice p44 l45 l46] true [(false,[.slice 55]),(false,[.string]),cn] <| fun (p47:Xac) (l48 l49:Nat) (s50:Xaa) (b51:Bool) =>
    T.aD (d.add 1) [.slice p47 l48 l49] <|
    cond (!b51)
    (T.aD e [vI (23:Int),vI a,.string s50] <|
    T.af e [.int .i64,.int .i64,.string] <| fun (n52 n53:Int) (s54:Xaa) =>
    bG #[.pointer none,.agg #[vI n52,vI n53,.string s54]])
    (T.af (b.add 2) [.slice 116] <| fun (p52:Xac) (l53 l54:Nat) =>
    WZ e c a p52 l53 w x y z A B C fun p55 p56 l57 l58 p59 l60 l61 =>
     (T.af c [.slice 70] <| fun (f:Xac) (g h:Nat) =>
     T.af d [.slice 55,.slice 55,.slice 116,.slice 9] <| fun (i:Xac) (j k:Nat) (l:Xac) (m n:Nat) (o:Xac) (p q:Nat) (r:Xac) (s t:Nat) =>
     bQ (Instr.buildSlice 32 1 #[(0,.agg #[.slice i j k,.slice l m n,.slice o p q,.slice r s t])]) false [cY] <| fun (p78:Xac) (l79 l80:Nat) =>
     T.bi [(c,[.slice f g h])] <|
     bQ (Builtin.append_ #[32,32] 32 #[.slice f g h,.slice p78 l79 l80]) false [cY] <| fun (p81:Xac) (l82 l83:Nat) =>
     T.bi [(d,[.slice i j k,.slice l m n,.slice o p q,.slice r s t])] <|
     T.aD c [.slice p81 l82 l83] <|
     T.af (c.add 6) [.int .i64] <| fun (u:Int) =>
     T.af b [.slice 55,.slice 55,.slice 116,.slice 9] <| fun (p85:Xac) (l86 l87:Nat) (p88:Xac) (l89 l90:Nat) (p91:Xac) (l92 l93:Nat) (p94:Xac) (l95 l96:Nat) =>
     bP 36 [.agg #[.slice p85 l86 l87,.slice p88 l89 l90,.slice p91 l92 l93,.slice p94 l95 l96]] false [aQ] <| fun (n97:Int) =>
     T.bi [((c.add 6),[vI u])] <|
     T.aD (c.add 6) [vI (bq (u+n97))] <|
     T.again 1 [.pointer p55,.slice p56 l57 l58,.slice p59 l60 l61,vI (bq (a+(1:Int)))])))
variable {V:Nat->kV} {H Y e:Nat}
def AU {n:Nat} {x:kV} (hk:2*n<=H):nE (lN V H x) n=nE V n:=by
 unfold nE;apply ck9;intro i hi;have hi:i<n:=dv9.1 hi;unfold y6 lN;rw [ac9 ad,ac9 ad]
section
variable {h h':Hp} {B N M:Nat} {w:LW} {usl lb:bU} {sp:Int} {S:Nat->kV}
def rC.add (s:rC h B w usl lb sp N M S) (e:Ext h h') (a:2*N<=M) {x:kV} (b:nB h' h.size x):rC h' B w usl lb sp N (M+1) (lN S M x):=by
 have s':=s.ext e;exact ⟨s'.box,s'.maps,s'.qW,by rw [AU a]; exact s'.un,s.yq.add e s.lt b⟩
end
section
variable {h h':Hp} {B N M:Nat} {w:LW} {usl lb:bU} {sp:Int} {S:Nat->kV}
def rC.Hm {x:Nat} {xs:List Xab} (s:rC h B w usl lb sp N M S) (b:bC h x 70 xs) (o:B+4<=x) (a:x∉aJ usl.p) (k:Ch [x] h h'):rC h' B w usl lb sp N M S:=by
 have c:∀ {g sz:Nat} {e:TypeId} {q:Xac} {m d:Nat} {ys:List (List Xab)},SL h g e sz q m d ys->e≠70->SL h' g e sz q m d ys:=fun t n=>t.bK k (fun i hi f=>by
  have:i=x:=by simpa using f
  subst this;exact C2 t b n hi)
 exact ⟨s.box.an k (by simp; omega),s.maps.an k (by simp; omega) (by simp; omega) (by simp; omega),c s.qW bT,s.un.bK k (fun i hi f=>by
  have:i=x:=by simpa using f
  subst this;exact a hi),⟨fun j l=>⟨c (s.yq.sec j l).out bT,fun u a=>c ((s.yq.sec j l).fC u a) bT⟩,s.yq.ap⟩⟩
variable {H:List (Xaa × bM)}
def D4.Hm {x b:Nat} {xs:List Xab} {e k:bU} {ks:List Ky} (s:D4 h b e k H ks) (bx:bC h x 70 xs) (c:Ch [x] h h'):D4 h' b e k H ks:=by
 have f:∀ {g sz:Nat} {e:TypeId} {q:Xac} {m d:Nat} {ys:List (List Xab)},SL h g e sz q m d ys->e≠70->SL h' g e sz q m d ys:=fun t j=>t.bK c (fun i hi a=>by
  have:i=x:=by simpa using a
  subst this;exact C2 t bx j hi)
 obtain ⟨⟨ms,o,a⟩,y⟩:=s;exact ⟨⟨ms,⟨f o.out bT,fun m a=>f (o.fC m a) bT,o.ap,o.dj⟩,a⟩,f y bT⟩
def D4.rj {b f sz:Nat} {q:Xac} {m d:Nat} {ys:List (List Xab)} {e k:bU} {ks:List Ky} (s:D4 h b e k H ks) (t:SL h f 70 sz q m d ys) (c:Ch (aJ q) h h'):D4 h' b e k H ks:=by
 obtain ⟨⟨ms,o,a⟩,y⟩:=s;exact ⟨⟨ms,o.sQ t c bT bT,a⟩,y.bK c (fun i hi a=>wy t y bT i a hi)⟩
def D4.Vh {b x:Nat} {e k:bU} {ks:List Ky} (s:D4 h b e k H ks) (d:x<b) (c:Ch [x] h h'):D4 h' b e k H ks:=by
 obtain ⟨⟨ms,o,a⟩,y⟩:=s;exact ⟨⟨ms,o.an c (fun i hi=>by have:i=x:=(by simpa using hi); omega),a⟩,y.bK c (fun i hi a=>by
  have:i=x:=by simpa using a
  have:=(y.cB hi).1
  omega)⟩
end
variable {O:LW} {b:cv} {Z c:bU} {U:List (Xaa × bM)} {d:Xac}
def Sa {L:Lp} {K:Xab->Hp->Prop} {h0 h:Hp} {n:Nat} {usl lb:bU} {sp:Nat} {M td el kl:bU} {ks:List Ky} {I:qF (flat Re)->Nat->Hp->Prop} 
  (hL:2=L.length) (hJ:L[1]?=some (Jl I e)) (pw:eM h0) (tb0:yO h0) (hA:h0.size<=H) (hAB:H<Y) (e0:Ext h0 h) (ba:bC h H 77 [vI 0,vI 0,.string ⟨#[]⟩]) (s:rC h Y O usl lb (sp:Int) n (2*n) V) (Kx:Q3 O) (es0:D4 h (Y+4) el kl U ks)
  (v:uD h0 Z c M td b) (ge:∀ x,x∈cR b->Gl x) (hr:fz b=0) (hl1:b.text.length<=2^20) (hl2:b.data.length<=2^20) (hl3:b.bj.length<=2^20) (hD:U.length<=2^20) (hks:ks.length<=2^20) (hn:n<=2^20) (hsp:sp<=2^40)
  (N:∀ h' q,Ext h0 h'->sB O n b=some q->K (Kd 23 n q) h')
  (hk:∀ h' X kl' usl' S',Ext h0 h'->bC h' H 77 [vI 0,vI 0,.string ⟨#[]⟩]->rC h' Y O usl' lb ((sp+km b.text:Nat):Int) (n+1) (2*(n+1)) S'->D4 h' (Y+4) X kl' (U++b.bj.map fun a=>(O.word (n,a.1),O.lin n a.2)) (ks++b.bj.map fun a=>(n,a.1)) ->
   sB O n b=none->(∀ k,k<2*n->S' k=V k)->(S' (2*n)).ws.map (·.2)=b.text.map (O.fD n)->(S' (2*n+1)).ws.map (·.2)=b.data.map (O.fD n) ->
   ∃ m',m'<e/\I (d,(X.p,X.l,X.c),(kl'.p,kl'.l,kl'.c),((n+1:Nat):Int),()) m' h') :
  Wf ⟨H,0,none⟩ ⟨Y+3,0,none⟩ d el.p el.l el.c kl.p kl.l kl.c (n:Int) Z.p Z.l Z.c c.p c.l c.c M.p M.l M.c td.p td.l td.c L K h:=by
 unfold Wf bP bQ bq bG bg aQ cn cY;have l0:=s.lt;have zA:=e0.size;refine br ?_;intro h1 b1' e1 z1;refine bR b1' ?_;intro h2 b2 k2 z2;have b2:bC h2 h.size 70 [Z.v,c.v,M.v,td.v]:=b2;have e02:Ext h h2:=bY e1 k2;refine br ?_;intro h3 b3 e3 z3;have b23:=b2.an e3 aj;refine az b23 ((Z.p,Z.l,Z.c),()) (ao ?_);have e03:=e02.trans e3;have s3:=s.ext e03;have E3:=e0.trans e03;refine aK (Aw (c:=Z.c) (pw.an E3 aj) s3.box s3.maps Kx n (v.an E3).text hl1 (fun x hx=>ge _ (by unfold cR; simp only [List.mem_append]; exact .inl (.inl (bc9 hx))))) ?_;rintro _ h4 ⟨G,P⟩;have z03:=e03.size;have z4:=G.size;have q3:=b3.lt;cases hb:O.zX n b.text with
 | some t =>
  rw [hb] at P;subst P;refine ⟨((none,0,0),t,false,()),rfl,ao ?_⟩;refine bR (b3.an G aj) ?_;intro h5 b5 k5 z5;refine cj rfl ?_;have e35:Ext h3 h5\/True:=.inr trivial;have ba5:=((ba.an (e03.trans G) aj).an k5 (by simp; omega))
  refine bR ba5 ?_;intro h6 b6 k6 z6;have b6:bC h6 H 77 [vI 23,vI (n:Int),.string t]:=b6;refine az b6 ((23:Int),(n:Int),t,()) ?_;refine N h6 t ?_ (by unfold sB; rw [hb]; rfl);exact Ch.trans (bY (E3.trans G) k5) k6 (fun i hi hl=>by simp at hi; omega)
 | none =>
  rw [hb] at P;obtain ⟨p4,c4,B4,w4,rfl,lc4,hB4,hw4⟩:=P;refine ⟨((p4,Z.l,c4),(⟨#[]⟩:Xaa),true,()),rfl,ao ?_⟩;refine bR (b3.an G aj) ?_;intro h5 b5 k5 z5;have b5:bC h5 h2.size 70 [.slice p4 Z.l c4,.slice none 0 0,.slice none 0 0,.slice none 0 0]:=b5;refine cg rfl ?_;have x4:nB h4 h3.size ⟨⟨p4,Z.l,c4⟩,w4⟩:=⟨lc4.out,fun y hy=>(lc4.fC y hy).mono hB4⟩
  have s4:=s3.add G (aq9 _) x4;have hu2:h2.size∉aJ usl.p:=fun r=>by have:=(s.un.cB r).2; have:=e02.size; omega
  have l2:=e02.size;have s5:=s4.Hm (b3.an G aj) ad hu2 k5;have ba5:=(ba.an (e03.trans G) aj).an k5 (by simp; omega);have q2:=b2.lt;have b25:=(b23.an G aj).an k5 (by simp; omega);have E5:Ext h0 h5:=bY (E3.trans G) k5;have es5:D4 h5 (Y+4) el kl U ks:=((es0.ext (e03.trans G))).Hm (b3.an G aj) k5;rw [aE];refine az b25 ((c.p,c.l,c.c),()) (ao ?_);refine aK (Aw (c:=c.c) (pw.an E5 aj) s5.box s5.maps Kx n (v.an E5).data hl2 (fun x hx=>ge _ (by unfold cR; simp only [List.mem_append]; exact .inl (.inr (bc9 hx))))) ?_;rintro _ h6 ⟨e6,P⟩;have b56:=b5.an e6 aj;have z6:=e6.size;cases Q:O.zX n b.data with
  | some t =>
   rw [Q] at P;subst P;refine ⟨((none,0,0),t,false,()),rfl,ao ?_⟩;rw [aE];refine bR b56 ?_;intro h7 b7 k7 z7;refine cj rfl ?_;have ba7:=(ba5.an e6 aj).an k7 (by simp; omega);refine bR ba7 ?_;intro h8 b8 k8 z8;have b8:bC h8 H 77 [vI 23,vI (n:Int),.string t]:=b8;refine az b8 ((23:Int),(n:Int),t,()) ?_;refine N h8 t ?_ (by unfold sB; rw [hb,Q]; rfl);exact Ch.trans (bY (E5.trans e6) k7) k8 (fun i hi hl=>by simp at hi; omega)
  | none =>
   rw [Q] at P;obtain ⟨p6,c6,B6,w6,rfl,lc6,hB6,hw6⟩:=P;refine ⟨((p6,c.l,c6),(⟨#[]⟩:Xaa),true,()),rfl,ao ?_⟩;rw [aE];refine bR b56 ?_;intro h7 b7 k7 z7;have b7:bC h7 h2.size 70 [.slice p4 Z.l c4,.slice p6 c.l c6,.slice none 0 0,.slice none 0 0]:=b7;refine cg rfl ?_;have x6:nB h6 h5.size ⟨⟨p6,c.l,c6⟩,w6⟩:=⟨lc6.out,fun y hy=>(lc6.fC y hy).mono hB6⟩
   have s6:=s5.add e6 ad x6;have s7:=s6.Hm b56 ad hu2 k7;have es7:=(es5.ext e6).Hm b56 k7;have ba7:=(ba5.an e6 aj).an k7 (by simp; omega);have b27:=(b25.an e6 aj).an k7 (by simp; omega);have E7:Ext h0 h7:=bY (E5.trans e6) k7;have VX:=b27;rw [aE];refine az b27 ((M.p,M.l,M.c),()) (ao ?_);refine TM hL pw hA hAB E7 ba7 s7 Kx es7 v.bj (fun a he=>ge _ (by unfold cR; simp only [List.mem_append]; exact .inr (bc9 he))) hl3 hD hks (fun h' q a P=>N h' q a (by unfold sB; rw [hb,Q]; exact P)) ?_;intro h8 el8 kl8 J E8 ba8 C es8 ke8 hb3;have b78:=ke8 _ _ _ bT bT b7;have b28:=ke8 _ _ _ bT bT b27;generalize R:lN (lN V (2*n) ⟨⟨p4,Z.l,c4⟩,w4⟩) (2*n+1) ⟨⟨p6,c.l,c6⟩,w6⟩=S2 at C;refine az C.box ((usl.p,usl.l,usl.c),()) (ao ?_);refine az b78 ((p4,Z.l,c4),(p6,c.l,c6),(none,0,0),(none,0,0),()) (ao ?_);have hul:usl.l=n:=by have:=s.un.1; rwa [jW] at this
   have z8':=E8.size;have l8:=C.lt;refine gR (vs:=[.slice p4 Z.l c4,.slice p6 c.l c6,.slice none 0 0,.slice none 0 0]) WR Zn rfl ad ad (Xt p4 Z.l c4 p6 c.l c6 none 0 0 none 0 0) rfl rfl C.un ad ad ad (fun h' a=>⟨(C.box.an a aj).cells _ rfl,trivial⟩) ?_;intro p9 c9 h9 s9 W hp9;have b79:=b78.an W hu2;have hu1:h.size∉aJ usl.p:=fun r=>by have:=(s.un.cB r).2; omega
   have b29:=b28.an W hu1;refine ⟨⟨b79.cells _ rfl,trivial⟩,?_⟩;have g:∀ i,i∈aJ usl.p->Y+4<=i:=fun i hi=>(C.un.cB hi).1
   have bx9:=C.box.an W (fun r=>by have:=g _ r; omega);have ba9:=ba8.an W (fun r=>by have:=g _ r; omega);have es9:=es8.rj C.un W;have E9:Ext h0 h9:=Ch.trans E8 W (fun i hi hl=>by have:=g _ hi; omega);have m9:=C.maps.an W (fun r=>by have:=g _ r; omega) (fun r=>by have:=g _ r; omega) (fun r=>by have:=g _ r; omega);have lb9:=C.qW.bK W (fun i hi r=>wy C.un C.qW bT i r hi);have se9:=C.yq.sQ C.un W bT bT;have z9:=W.size;refine bR bx9 ?_;intro h10 E j z10;have E:RX h10 (Y+3) ⟨p9,usl.l+1,c9⟩ lb Y (Y+1) (Y+2) (sp:Int):=E;have es10:=es9.Vh ad j;have ba10:=ba9.an j (by simp; omega);have m10:=m9.an j aj aj aj;have lb10:=lb9.bK j (fun i hi=>by have:=(lb9.cB hi).1; simp; omega);have se10:=se9.nH j aj;have un10:=s9.bK j (fun i hi=>by have:=(s9.cB hi).1; simp; omega);have E10:Ext h0 h10:=bY E9 j;have b210:=b29.an j (by simp; omega);rw [aE];refine az E ((sp:Int),()) (ao ?_);refine az b210 ((Z.p,Z.l,Z.c),(c.p,c.l,c.c),(M.p,M.l,M.c),(td.p,td.l,td.c),()) (ao ?_);refine aK (LR (tb0.an E10 aj) (v.an E10)) ?_;rintro _ h11 ⟨rfl,o⟩;rw [ag9 hr];refine ⟨(((km b.text:Nat):Int),()),rfl,ao ?_⟩;have bx11:=E.an o aj;refine ⟨⟨bx11.cells _ rfl,trivial⟩,?_⟩;have hsl:=AN b.text;refine bR bx11 ?_;intro h12 F z z12;have hw1:IntKind.wrap .i64 ((sp:Int)+((km b.text:Nat):Int))=((sp+km b.text:Nat):Int):=by rw [wrap_i64 ad ad]; omega
   rw [hw1] at F;have F:RX h12 (Y+3) ⟨p9,usl.l+1,c9⟩ lb Y (Y+1) (Y+2) ((sp+km b.text:Nat):Int):=F;have hw:=ic n;rw [hw];have un11:=un10.an o aj;have lb11:=lb10.an o aj;obtain ⟨m',hm',hI⟩:=hk h12 el8 kl8 ⟨p9,usl.l+1,c9⟩ S2 (bY (E10.trans o) z) ((ba10.an o aj).an z (by simp; omega))
    ⟨F,(m10.an o aj aj aj).an z aj aj aj,lb11.bK z (fun i hi=>by have:=(lb11.cB hi).1; simp; omega),by
     have:=un11.bK z (fun i hi=>by have:=(un11.cB hi).1; simp; omega)
     rw [<- R,Jn];rw [<- R,AU ad,AU ad] at this;exact this,(se10.ext o).nH z aj⟩
    ((es10.ext o).Vh ad z) (by unfold sB; rw [hb,Q]; exact hb3) (fun k hk=>by rw [<- R]; unfold lN; rw [ac9 ad,ac9 ad]) (by rw [<- R]; unfold lN; rw [ac9 ad,ag9 rfl]; exact hw4) (by rw [<- R]; unfold lN; rw [ag9 rfl]; exact hw6)
   exact aG (cs:=Re) (d,(el8.p,el8.l,el8.c),(kl8.p,kl8.l,kl8.c),((n+1:Nat):Int),()) m' (by rw [bp9 ad]; exact hJ) hm' rfl hI
def mT (us:List cv):Nat:=(us.map fun u=>km u.text).sum
structure Pg (x:kV):Prop where
 len:x.ws.length<=2^30
 YH:∀ u,u∈x.ws->u.2.e.ah.length<=2^40
 sz:∀ u,u∈x.ws->∀ t,t∈u.2.e.ah->t.1.size<=maxLen
def OI (h0:Hp) (us:List cv) (v:Xab) (h':Hp):Prop:=Ext h0 h'/\match mP us with
 | .error f=>v=Kd f.rD f.unit f.name
 | .ok P=>∃ B usl lb S,h0.size<=B/\v=.tuple #[ptr (B+3),.agg #[vI 0,vI 0,.string ⟨#[]⟩]]/\rC h' B P.w usl lb ((mT us:Nat):Int) us.length (2*us.length) S /\
   (∀ n,(hn:n<us.length)->(S (2*n)).ws.map (·.2)=us[n].text.map (P.fD n)/\(S (2*n+1)).ws.map (·.2)=us[n].data.map (P.fD n))/\∀ k,k<2*us.length->Pg (S k)
def Qt {ms:List cV} (ok:EqsOk ms) (het:∀ e,e∈ms->e.x.ah.length<=2^20) {x:bM} (hl:x.ah.length<=2^20) (d:∀ t,t∈x.ah->t.1.size<=maxLen):(dz (cG ms) x).ah.length<=2^40/\∀ t,t∈(dz (cG ms) x).ah->t.1.size<=maxLen:=by
 have c:∀ s y,cG ms s=some y->∃ e,e∈ms/\y=e.x:=by
  intro s y a;unfold cG at a;split at a
  ·next g =>
   obtain ⟨e,b,_,i⟩:=kG ((dV ms s).1 g);exact ⟨e,b,by cases a; exact i⟩
  ·cases a
 refine ⟨?_,fun t ht=>?_⟩
 ·have hnf:=eP (cG ms) x;have h1:((dz (cG ms) x).ah.map (·.1)).Nodup:=cr9.2 (hnf.1.imp fun h=>jX h);have h2:=kb _ ((x.ah.flatMap (sI (cG ms))).map (·.1)) h1 (fun s d=>by
   obtain ⟨t,ht,rfl⟩:=an9.1 d;obtain ⟨p,f,e⟩:=FE ht;exact an9.2 ⟨p,f,e⟩)
  rw [ab9,ab9] at h2;have h3:=qR (of:=cG ms) (B:=2^20) bT (fun s y a=>by
   obtain ⟨e,b,rfl⟩:=c s y a;exact het e b) x.ah
  exact cq9 h2 (cq9 h3 (cq9 (cl9 _ hl) bT))
 ·rcases pW ht with ⟨p,f,b,_⟩ | ⟨p,y,u,_,a,j,b⟩
  ·rw [<- b]; exact d p f
  ·obtain ⟨e,k,rfl⟩:=c _ _ a;rw [<- b]; exact ok.ts e k u j
def Zl {x:bM} (g:Good x) (h:x.ah.length<=2^20):Gl x :=
 ⟨g.nf,g.num,h,fun t ht=>by
  have:=BC (g.Ku t ht)
  have a:2000<=maxLen:=bT
  omega⟩
def H7.pS {us:List cv} (s:H7 us) (r:Fw us) (a:b∈us) {x:bM} (c:x∈cR b):Gl x :=
 Zl (BW (r.right b a) (s.num b a) x c) (s.len a c)
def Gr {us:List cv} (s:H7 us) (r:Fw us) (lb:Q3 O) {u:cv} (f:u∈us) (i:sB O H u=none) {l:List cC} (hl:l=u.text\/l=u.data) {ws:List (bU × cC)} (h:ws.map (·.2)=l.map (O.fD H)):Kb ws/\ws.length<=2^20:=by
 have hb':=x5 i;have h2:=(r.bj f).2;refine ⟨fun y c=>?_,?_⟩
 ·have h1:y.2∈l.map (O.fD H):=by rw [<- h]; exact bc9 c
  obtain ⟨x,b,j⟩:=an9.1 h1;have a:O.bad H x.e=none:=by
   rcases hl with rfl | rfl
   ·exact hb'.1 x b
   ·exact hb'.2.1 x b
  have d:x.e∈cR u:=by
   unfold cR;simp only [List.mem_append];rcases hl with rfl | rfl
   ·exact .inl (.inl (bc9 b))
   ·exact .inl (.inr (bc9 b))
  have g:=s.pS r f d;have c:y.2.e=O.lin H x.e:=by rw [<- j]; rfl
  rw [c];exact ⟨cq9 (Ar a) g.len,jl g.num,Qh lb a⟩
 ·have:=as9 List.length h
  rw [ab9,ab9] at this;rcases hl with rfl | rfl <;> omega
def N6 {es:List cV} (h:es.map fJ=U) {i:Nat} (hi:i<es.length) (h1:kS (dF es) es[i].name) (h2:∀ j,(a:j<i)->¬ kS (dF es) es[j].name):lZ U=some i:=by
 classical
 have b:dF (fg U)=dF es:=Cn (by rw [qv,h]);have hl:U.length=es.length:=by rw [<- h,ab9]
 have hn:∀ j,(a:j<es.length)->(U[j]'ad).1=es[j].name:=by
  intro j a;subst h;rw [am9] <;> rfl
 unfold lZ;rw [bd9];refine ⟨ad,?_,fun j a=>?_⟩
 ·refine aj9 ?_;rw [b,hn i hi];exact h1
 ·intro hd;have hd:=ah9 hd;rw [b,hn j ad] at hd;exact h2 j a hd
def NH {es:List cV} (h:es.map fJ=U) (h2:∀ v,¬ kS (dF es) v):lZ U=none:=by
 have a:dF (fg U)=dF es:=Cn (by rw [qv,h]);unfold lZ;rw [ca9];intro x b;rw [decide_eq_false_iff_not,a];exact h2 _
def PQ {es ms:List cV} (h:es.map fJ=U) (a:ms.map (fun m=>(m.name,m.x))=es.map (fun e=>(e.name,fq es e.name))):cG ms=cG (fg (jr U)):=by
 refine Hj ?_;rw [qv];show ms.map (fun m=>(m.name,m.x))=_;rw [a];unfold jr;have b:fq (fg U)=fq es:=KR (by rw [qv,h]);rw [b,<- h,bf9] <;> rfl
def SB {J0 J1:List Xab->Hp->Prop} {h0 h:Hp} {usl lb:bU} {us:List cv} 
  (hA:h0.size<=H) (L:H<Y) (e0:Ext h0 h) (W:bC h H 77 [vI 0,vI 0,.string ⟨#[]⟩]) (s:rC h Y O usl lb ((mT us:Nat):Int) us.length (2*us.length) V)
  (M:D4 h (Y+4) Z c (om O us) ((eJ 0 us).map jy)) (r:Fw us) (sm:H7 us) (i0:WI O (cy 0 us) ((eJ 0 us).map jy)) (X:fO O 0 us=none)
  (hS:∀ n,(hn:n<us.length)->(V (2*n)).ws.map (·.2)=us[n].text.map (O.fD n)/\(V (2*n+1)).ws.map (·.2)=us[n].data.map (O.fD n))
  (t:mP us=match lZ (om O us) with
    | some i=>.error ⟨24,((eJ 0 us).map fun q=>(q.1,q.2.1)).getD i (0,dW) |>.1,((eJ 0 us).map fun q=>(q.1,q.2.1)).getD i (0,dW) |>.2⟩
    | none=>.ok ⟨O,us,om O us⟩) :
  Xs ⟨H,0,none⟩ ⟨Y+3,0,none⟩ Z.p Z.l Z.c c.p c.l c.c [J0,J1] (OI h0 us) h:=by
 unfold Xs aI bP eS bG aQ;obtain ⟨⟨es,o,e⟩,y⟩:=M;have eo:=V8 r sm i0 X e;have hl:es.length=(eJ 0 us).length:=by
  have:=as9 List.length e
  unfold om at this;simpa using this
 have hl2:=r.eqs;refine aK (G7 (c:=Z.c) (Ec o) eo (fun i hi=>(o.out.cB hi).2) ad) ?_;rintro _ h1 ⟨N,m⟩;rcases N with ⟨i,hi,P,x,rfl⟩ | ⟨z,p',l',c',ms,rfl,Q,C⟩
 ·refine ⟨((none,0,0),(i:Int),(24:Int),()),rfl,ao ?_⟩;refine cj rfl ?_;have y1:=y.an m aj;have hkl:c.l=(eJ 0 us).length:=by have:=y.1; rwa [ab9,ab9] at this
  have D:i<(eJ 0 us).length:=ad
  obtain ⟨a,ha,hc⟩:=y1.cells (i:=i) (by rw [ab9,ab9]; exact D);rw [am9,am9] at hc;generalize N:(eJ 0 us)[i]=q at hc;have hc:aH h1 (a.add (i*2)) 0 [vI (q.1:Int),.string q.2.1]:=hc;refine bS ha ?_;rw [cr i];refine ay ((q.1:Int),()) (fe 1 _ 0 hc) (ao ?_);refine bS ha ?_;have E:aH h1 ((a.add (i*2)).add 1) 0 [.string q.2.1]:=jx _ 1 0 (iA 1 _ 0 hc);refine ay (q.2.1,()) E (ao ?_);refine ⟨⟨E,fe 1 _ 0 hc,trivial⟩,?_⟩;refine bR (W.an m aj) ?_;intro h2 R F z2;have R:bC h2 H 77 [vI 24,vI (q.1:Int),.string q.2.1]:=R;refine az R ((24:Int),(q.1:Int),q.2.1,()) ?_;refine ⟨bY (e0.trans m) F,?_⟩;rw [t,N6 e hi P x];have hg:((eJ 0 us).map fun q=>(q.1,q.2.1)).getD i (0,dW)=(q.1,q.2.1):=by
   rw [cf9,ci9,ad9 D,N] <;> rfl
  simp only [hg] <;> rfl
 ·refine ⟨((p',l',c'),(0:Int),(0:Int),()),rfl,ao ?_⟩;refine cg rfl ?_;obtain ⟨U,F,k3,k4⟩:=M6 eo z C ad;have hmany:=r.many;have f:∀ j,j<2*us.length->Kb (V j).ws/\(V j).ws.length<=2^20:=by
   intro j hj;have hn:j / 2<us.length:=ad
   have hbn:=j1 us 0 X (j / 2) hn;rw [bu9] at hbn;have hSn:=hS (j / 2) hn
   by_cases h2:j % 2=0
   ·have:j=2*(j / 2):=ad
    rw [this];exact Gr sm r (r.Kx i0) (al9 hn) hbn (.inl rfl) hSn.1
   ·have:j=2*(j / 2)+1:=ad
    rw [this];exact Gr sm r (r.Kx i0) (al9 hn) hbn (.inr rfl) hSn.2
  refine Tx hA L (e0.trans m) (W.an m aj) (s.ext m) ⟨Q,U,F,k3,k4⟩ ad f ?_
  ·intro h' J E' s' d;refine ⟨E',?_⟩;rw [t,NH e z];refine ⟨Y,usl,lb,J,ad,rfl,s',fun n hn=>?_,fun k hk=>?_⟩
   rotate_left
   ·have hd:=(d k).2;rw [ag9 hk] at hd;obtain ⟨K,q2⟩:=f k hk;have hlen:(J k).ws.length=(V k).ws.length:=by
     have:=as9 List.length hd
     rwa [ab9,ab9] at this
    have g:∀ u,u∈(J k).ws->∃ v,v∈(V k).ws/\u.2=rT (cG ms) v.2:=by
     intro u G;have h1:u.2∈(V k).ws.map (fun u=>rT (cG ms) u.2):=by rw [<- hd]; exact bc9 G
     obtain ⟨v,hv,I⟩:=an9.1 h1;exact ⟨v,hv,I.symm⟩
    refine ⟨ad,fun u G=>?_,fun u G=>?_⟩
    ·obtain ⟨v,hv,I⟩:=g u G;rw [I];exact (Qt U F (K v hv).1 (K v hv).2.2).1
    ·obtain ⟨v,hv,I⟩:=g u G;rw [I];exact (Qt U F (K v hv).1 (K v hv).2.2).2
   have hSn:=hS n hn;have hlo:=PQ e C;have hd:∀ (k:Nat) (l:List cC),k<2*us.length->(V k).ws.map (·.2)=l.map (O.fD n)->(J k).ws.map (·.2)=l.map ((⟨O,us,om O us⟩:LP).fD n):=by
    intro k l hk hl
    have:=(d k).2
    rw [ag9 hk] at this;rw [this,show (V k).ws.map (fun u=>rT (cG ms) u.2)=((V k).ws.map (·.2)).map (rT (cG ms)) by rw [bf9]; rfl,hl,bf9,hlo] <;> rfl
   exact ⟨hd _ _ ad hSn.1,hd _ _ ad hSn.2⟩
def Zg (y z:Xax) (B c:Xac) (b A:Nat):T :=
   (T.loop [(false,[.pointer 0]),cY,cY,aQ] [.pointer B,bg,bg,vI (0:Int)] <| fun (j d:Xac) (e f:Nat) (g:Xac) (h i:Nat) (a:Int) =>
   bt a b
   (T.need (eS a b) <|
   T.bf c <| fun (k:Xax) =>
   T.af (k.add (aI a 4)) [.slice 55,.slice 55,.slice 116,.slice 9] <| fun (l:Xac) (m n:Nat) (o:Xac) (p q:Nat) (r:Xac) (s t:Nat) (u:Xac) (w x:Nat) =>
   Wf y z j d e f g h i a l m n o p q r s t u w x)
   (Xs y z d e f g h i))
def Qd (w:LW) (us:List cv) (u:cv):om w (us++[u])=om w us++u.bj.map fun e=>(w.word (us.length,e.1),w.lin us.length e.2):=by
 unfold om;rw [sA,ao9,bf9,bu9] <;> rfl
def ME (us:List cv) (u:cv):(eJ 0 (us++[u])).map jy=(eJ 0 us).map jy++u.bj.map fun e=>(us.length,e.1):=by
 rw [sA,ao9,bf9,bu9] <;> rfl
def I9 (us:List cv) (u:cv):mT (us++[u])=mT us+km u.text:=by
 unfold mT
 simp
theorem Hz:∀ us:List cv,mT us<=vR us
 | []=>by simp [mT,vR]
 | u::us=>by
  have h1:=Hz us;have h2:=AN u.text;unfold mT vR at *;simp only [List.map_cons,List.sum_cons];omega
def IW (us:List cv) (n:Nat):mT (us.take n)<=mT us:=by
 have h:us=us.take n++us.drop n:=(ce9 n us).symm
 conv=>rhs; rw [h]
 unfold mT;rw [ao9,fq9];omega
def O2 (us:List cv) (n:Nat):(eJ 0 (us.take n)).length<=(eJ 0 us).length:=by
 have e:∀ (a b:List cv) (k:Nat),eJ k (a++b)=eJ k a++eJ (k+a.length) b:=by
  intro a
  induction a with
  | nil=>intro b k; simp [eJ]
  | cons x a c =>
   intro b k;rw [ez9,eJ,eJ,c,ay9,cj9,show k+1+a.length=k+(a.length+1) from ad]
 have h:=e (us.take n) (us.drop n) 0;rw [ce9] at h;rw [h,af9];omega
def Su {J0:List Xab->Hp->Prop} {h0 h:Hp} {lb:bU} {us:List cv} {pp:Xac} {cc:Nat}
  (pw:eM h0) (L:yO h0) (hA:h0.size<=H) (o:H<Y) (e0:Ext h0 h) (t:bC h H 77 [vI 0,vI 0,.string ⟨#[]⟩]) (s:FN h Y nu lb 0 O)
  (v:xA h0 pp e us) (r:Fw us) (sm:H7 us) (i0:WI O (cy 0 us) ((eJ 0 us).map jy))
  (g:mP us=match fO O 0 us with
   | some q=>.error ⟨23,q.1,q.2⟩
   | none=>match lZ (om O us) with
    | some i=>.error ⟨24,((eJ 0 us).map fun q=>(q.1,q.2.1)).getD i (0,dW) |>.1,((eJ 0 us).map fun q=>(q.1,q.2.1)).getD i (0,dW) |>.2⟩
    | none=>.ok ⟨O,us,om O us⟩) :
  Zg ⟨H,0,none⟩ ⟨Y+3,0,none⟩ none pp e cc [J0] (OI h0 us) h:=by
 unfold Zg bt aI eS bg aQ cY;have hll:=v.len;have hmany:=r.many;have hlwb:=r.Kx i0;have s0:rC h Y O nu lb ((0:Nat):Int) 0 (2*0) (fun _=>YY):=⟨s.box,s.maps,s.qW,SL.nil _ _ _ _,lU.nil _ _ _⟩
 refine aT (cs:=Re) (fun y m' h'=>∃ (n:Nat) (usl z C:bU) (S:Nat->kV),y.1=none/\y.2.1=(z.p,z.l,z.c)/\y.2.2.1=(C.p,C.l,C.c)/\y.2.2.2.1=(n:Int)/\n<=us.length/\m'=us.length-n/\Ext h0 h'/\bC h' H 77 [vI 0,vI 0,.string ⟨#[]⟩]/\rC h' Y O usl lb ((mT (us.take n):Nat):Int) n (2*n) S /\
   D4 h' (Y+4) z C (om O (us.take n)) ((eJ 0 (us.take n)).map jy)/\fO O 0 us=fO O n (us.drop n)/\∀ j,(hj:j<n)->(K:j<us.length)->(S (2*j)).ws.map (·.2)=us[j].text.map (O.fD j)/\(S (2*j+1)).ws.map (·.2)=us[j].data.map (O.fD j))
  (none,(none,0,0),(none,0,0),(0:Int),()) us.length rfl
  ⟨0,nu,nu,nu,fun _=>YY,rfl,rfl,rfl,rfl,ad,ad,e0,t,by simpa [mT] using s0,⟨⟨[],⟨SL.nil _ _ _ _,aj,List.Pairwise.nil,aj⟩,rfl⟩,SL.nil _ _ _ _⟩,rfl,by intro j hj; omega⟩ ?_
 clear e0 t s s0;rintro ⟨p13,⟨p14,l15,l16⟩,⟨p17,l18,l19⟩,n20,⟨⟩⟩ m' h1 ⟨n,usl,z,C,S,D,F,G,I,hnl,rfl,M,t,s,k,b,hS⟩;simp only [Prod.mk.injEq] at D F G I;obtain ⟨rfl,rfl,rfl⟩:=F;obtain ⟨rfl,rfl,rfl⟩:=G;subst D I;refine ao ?_;refine aR ?_ ?_<;>intro q
 ·have d:n<us.length:=ad
  obtain ⟨a,N,P,Q,R,ha,hc,hu⟩:=v.cells n d;have hmem:=al9 d;have m:us.take (n+1)=us.take n++[us[n]]:=ae9 d;have U:(us.take n).length=n:=by rw [az9]; omega
  rw [BH O us n d] at b;have hre:=r.bj hmem;have hrr:=r.right _ hmem;have hgood:=fun x K=>sm.pS r hmem (x:=x) K
  have hsu:=IW us n;have hsu2:=Hz us;have hit:=sm.items;have hek:=O2 us n;have hek2:=r.eqs;generalize V:us[n]=u at hc hu m b hre hrr hgood;refine bS ha ?_;rw [cr n];refine ay ((N.p,N.l,N.c),(P.p,P.l,P.c),(Q.p,Q.l,Q.c),(R.p,R.l,R.c),()) (aM M aj _ _ hc) (ao ?_);refine Sa rfl rfl pw L hA o M t s hlwb k hu hgood hrr ad ad ad (by unfold om; rw [ab9]; omega) (by rw [ab9]; omega) ad ad ?_ ?_
  ·intro h' q E hq;refine ⟨E,?_⟩;rw [hq] at b;rw [g,b]
  ·intro h' W X J S' E Z s' es' hb f h1 h2;rw [hb] at b;refine ⟨us.length-(n+1),ad,n+1,J,W,X,S',rfl,rfl,rfl,rfl,ad,rfl,E,Z,?_,?_,b,fun j hj K=>?_⟩
   ·rw [m,I9];exact s'
   ·rw [m,Qd,ME,U];exact es'
   ·by_cases hjn:j=n
    ·subst hjn;rw [V];exact ⟨h1,h2⟩
    ·rw [f _ ad,f _ ad];exact hS j ad K
 ·have hn:n=us.length:=ad
  subst hn;rw [eq9 (aq9 _)] at b;rw [bv9 (aq9 _)] at s k;have b:fO O 0 us=none:=b;rw [b] at g;exact SB hA o M t s k r sm i0 b (fun n hn=>hS n hn hn) g
variable {a:Hp}
def TA (pw:eM a) (G:yO a) {c:Nat} {us:List cv} (v:xA a d H us) (sm:H7 us):HC Xaz 21 #[.slice d H c] a (OI a us):=by
 refine bd (args:=[.slice d H c]) mixed Tryz.func21 ax (AX d H c) ?_;unfold zE aY bh bt aI cQ eG bP bn bQ bq aF bG bg cm aQ cn cY;have hll:=v.len;have hmany:=v.many;refine br ?_;intro h1 U V z1;refine aw ?_ ?_<;>intro q
 ·have q:H=0:=by
   have:=ah9 q
   omega
  refine bR U ?_;intro h2 f Z z2;have f:bC h2 a.size 77 [vI 25,vI 0,.string ⟨#[]⟩]:=f;refine az f ((25:Int),(0:Int),(⟨#[]⟩:Xaa),()) ?_;refine ⟨bY V Z,?_⟩;unfold mP;rw [ag9 ad] <;> rfl
 have m:¬ us.length=0:=by
  have:=av9 q
  omega
 refine aw ?_ ?_<;>intro q
 ·have q:=ah9 q;refine bR U ?_;intro h2 f Z z2;have f:bC h2 a.size 77 [vI 4,vI 0,.string ⟨#[]⟩]:=f;refine az f ((4:Int),(0:Int),(⟨#[]⟩:Xaa),()) ?_;refine ⟨bY V Z,?_⟩;unfold mP;rw [ac9 m,ag9 ad] <;> rfl
 have g:¬ 64<us.length:=by
  have:=av9 q
  omega
 have I:∀ n,us.findIdx? (fun u=>decide (fz u≠0))=some n->mP us=.error ⟨31,n,dW⟩:=by
  intro n hn;unfold mP;rw [ac9 m,ac9 g,hn]
 refine aT (cs:=[(false,[.pointer 0]),(false,[.int .i64])]) (fun y m' h'=>∃ n:Nat,y.1=none/\y.2.1=(n:Int)/\n<=us.length/\m'=us.length-n/\Ext a h'/\bC h' a.size 77 [vI 0,vI 0,.string ⟨#[]⟩]/\∀ j,(o:j<n)->(hx:j<us.length)->fz us[j]=0) (none,(0:Int),()) us.length rfl
  ⟨0,rfl,rfl,ad,ad,V,U,by intro j o; omega⟩ ?_
 clear V U;rintro ⟨p2,n3,⟨⟩⟩ m' h2 ⟨n,J,K,hnl,rfl,L,f,s⟩;simp only at J K;subst J K;refine ao ?_;refine aR ?_ ?_<;>intro q
 ·have M:n<us.length:=ad
  obtain ⟨b,t,x,z,A,ha,hc,N⟩:=v.cells n M;refine bS ha ?_;rw [cr n];refine ay ((t.p,t.l,t.c),(x.p,x.l,x.c),(z.p,z.l,z.c),(A.p,A.l,A.c),()) (aM L aj _ _ hc) (ao ?_);refine br ?_;intro h3 b3' e3 z3;refine bR b3' ?_;intro h4 b4 k4 z4;have b4:bC h4 h2.size 70 [t.v,x.v,z.v,A.v]:=b4;have O:Ext h2 h4:=bY e3 k4;have e04:=L.trans O;refine az b4 ((t.p,t.l,t.c),(x.p,x.l,x.c),(z.p,z.l,z.c),(A.p,A.l,A.c),()) (ao ?_);refine aK (w9 (G.an e04 aj) (N.an e04)) ?_;rintro _ h5 ⟨rfl,E⟩;refine ⟨(((fz us[n]:Nat):Int),()),rfl,ao ?_⟩;have b5:=f.an (O.trans E) aj;have e05:=e04.trans E;refine aw ?_ ?_<;>intro q
  ·have hne:fz us[n]≠0:=by
    intro h0;rw [h0] at q;exact absurd q bT
   refine bR b5 ?_;intro h6 F k6 z6;have F:bC h6 a.size 77 [vI 31,vI (n:Int),.string ⟨#[]⟩]:=F;refine az F ((31:Int),(n:Int),(⟨#[]⟩:Xaa),()) ?_;refine ⟨bY e05 k6,?_⟩;rw [I n (by
    rw [bd9];exact ⟨M,aj9 hne,fun j o=>by rw [s j o ad]; decide⟩)]
   rfl
  ·have hz:fz us[n]=0:=by
    have hb:(((fz us[n]:Nat):Int) != 0)=false:=q
    by_cases h0:fz us[n]=0
    ·exact h0
    ·have:(((fz us[n]:Nat):Int) != 0)=true:=by
      rw [bne_iff_ne];omega
     rw [this] at hb;cases hb
   have hw:=ic n;rw [hw];refine aG (cs:=[(false,[.pointer 0]),(false,[.int .i64])]) (none,((n+1:Nat):Int),()) (us.length-(n+1)) rfl ad rfl ⟨n+1,rfl,rfl,ad,rfl,e05,b5,fun j o hx=>?_⟩
   by_cases hjn:j=n
   ·subst hjn; exact hz
   ·exact s j ad hx
 ·have hn:n=us.length:=ad
  subst hn;have r:Fw us:=⟨fun u N=>by
   obtain ⟨j,o,rfl⟩:=bg9 N;exact s j o o,ad⟩
  have P:us.findIdx? (fun u=>decide (fz u≠0))=none:=by
   rw [ca9];intro u N;rw [r.right u N];decide
  have q2:=f.lt;refine AS (kv:=Fv) (en:=eI) ?_;intro h3 m3 e3 z3;refine AS (kv:=Fv) (en:=eI) ?_;intro h4 m4 e4 z4;refine zI (en:=eI) ?_;intro h5 m5 E z5;refine br ?_;intro h6 F W z6;have e26:=((e3.trans e4).trans E).trans W;have Q:h4.size=h2.size+2:=ad
  have R:h5.size=h2.size+3:=ad
  rw [z3] at m4;rw [Q] at m5;rw [R,z3,Q] at F;rw [R];have p6:FN h6 h2.size nu nu 0 UR:=⟨F,⟨((m3.an e4 aj).an E aj).an W aj,(m4.an E aj).an W aj,m5.an W aj⟩,SL.nil _ _ _ _⟩
  have v2:=v.an L;have hit:=sm.items;refine aK (Im (c:=c) rfl e26 p6 v2 (by show 0+vR us<=_; omega) ad rfl) ?_;rintro _ h7 ⟨rfl,lb7,p7,e7⟩;refine ⟨(),rfl,ao ?_⟩;refine aK (LG (c:=c) rfl e7 p7 v2 ad) ?_;rintro _ h8 ⟨X,Y⟩;have b28:=f.an X aj;have z8:=X.size;have w0:=UY r.right;cases S:lr 0 us (nU 0 us UR) with
  | error q =>
   rw [S] at Y;subst Y;refine ⟨((22:Int),(q.1:Int),q.2,true,()),rfl,ao ?_⟩;refine br ?_;intro h9 B e9 z9;refine bR B ?_;intro h10 k C z10;have k:bC h10 h8.size 77 [vI 22,vI (q.1:Int),.string q.2]:=k;have e:Ext h8 h10:=bY e9 C;refine cj rfl ?_;refine az k ((22:Int),(q.1:Int),q.2,()) ?_;refine ⟨⟨k.cells _ rfl,trivial⟩,?_⟩;refine bR (b28.an e aj) ?_;intro h11 D k11 z11;have D:bC h11 a.size 77 [vI 22,vI (q.1:Int),.string q.2]:=D;refine az D ((22:Int),(q.1:Int),q.2,()) ?_;refine ⟨bY ((L.trans X).trans e) k11,?_⟩;unfold mP;rw [ac9 m,ac9 g,P];simp only [S] <;> rfl
  | ok w =>
   rw [S] at Y;obtain ⟨rfl,p8⟩:=Y;refine ⟨((0:Int),(0:Int),(⟨#[]⟩:Xaa),false,()),rfl,ao ?_⟩;refine br ?_;intro h9 B e9 z9;refine bR B ?_;intro h10 k C z10;have e:Ext h8 h10:=bY e9 C;refine cg rfl ?_;have e010:=(L.trans X).trans e;refine Su (cc:=c) pw G (aq9 _) q2 e010 (b28.an e aj) (p8.an e) v r sm (w0.meet S) ?_;unfold mP;rw [ac9 m,ac9 g,P];simp only [S];cases fO w 0 us with
   | some q=>rfl
   | none =>
    cases lZ (om w us) with
    | some i=>rfl
    | none=>rfl
structure CC (h:Hp) (b:Nat) (s:bU) (ws:List (bU × cC)):Prop where
 out:SL h b 55 10 s.p s.l s.c (ws.map ub)
 fC:∀ u,u∈ws->SL h b 64 2 u.1.p u.1.l u.1.c (u.2.e.ah.map dp)
def CC.vd {b:Nat} {ws:List (bU × cC)} (o:CC a b Z ws):Xx a Z.p Z.l ws :=
 ⟨by have:=o.out.1; rwa [ab9] at this,fun i hi=>by
  obtain ⟨c,d,hc⟩:=o.out.cells (i:=i) (by simpa using hi);rw [am9] at hc;exact ⟨c,d,hc⟩⟩
def Z1 (c:Xac) (b d:Nat):T :=
   T.loop [aQ] [vI (0:Int)] <| fun (a:Int) =>
   bt a b
    (T.need (eS a b) <|
    T.bf c <| fun (e:Xax) =>
    T.af ((e.add (aI a 10)).add 7) [.slice 64] <| fun (f:Xac) (g h:Nat) =>
    bP 65 [.slice f g h] false [(false,[.slice 64])] <| fun (i:Xac) (j k:Nat) =>
    T.need (eS a b) <|
    T.bf c <| fun (l:Xax) =>
    T.aD ((l.add (aI a 10)).add 7) [.slice i j k] <|
    T.again 0 [vI (bq (a+(1:Int)))])
    (T.ret (.slice c b d))
def xZ (h:Hp) (us:List cC) (v:Xab) (h':Hp):Prop:=Ext h h'/\∃ s ws,v=bU.v s/\CC h' h.size s ws/\ws.map (·.2)=us
def VP {h0 h:Hp} {b0:Nat} {s:bU} {ws:List (bU × cC)} (e0:Ext h0 h) (o:SL h h0.size 55 10 s.p s.l s.c (ws.map ub)) (hin:∀ u,u∈ws->SL h0 b0 64 2 u.1.p u.1.l u.1.c (u.2.e.ah.map dp)) (hl:ws.length<=2^30) (ht:∀ u,u∈ws->u.2.e.ah.length<=2^40) :
  Z1 s.p s.l s.c [] (xZ h0 (ws.map (·.2))) h:=by
 unfold Z1 bt aI bP bq eS aQ;have J:s.l=ws.length:=by have:=o.1; rwa [ab9] at this
 have z0:=e0.size
 refine aT (cs:=cI) (fun y G h'=>∃ (i:Nat) (b:List (bU × cC)),y.1=(i:Int)/\i<=ws.length/\G=ws.length-i/\Ext h0 h'/\SL h' h0.size 55 10 s.p s.l s.c (b.map ub)/\b.length=ws.length /\
   ∀ m,(f:m<ws.length)->(r:m<b.length)->b[m].2=ws[m].2/\if m<i then SL h' h0.size 64 2 b[m].1.p b[m].1.l b[m].1.c (b[m].2.e.ah.map dp) else b[m]=ws[m]) ((0:Int),()) ws.length rfl
  ⟨0,ws,rfl,ad,ad,e0,o,rfl,fun m f r=>⟨rfl,by rw [ac9 ad]⟩⟩ ?_
 clear e0 o z0;rintro ⟨K,⟨⟩⟩ G h1 ⟨i,b,hi,L,rfl,B,o,t,et⟩;simp only at hi;subst hi;refine ao ?_;have z1:=B.size;refine aR ?_ ?_<;>intro q
 ·have n:i<ws.length:=ad
  have d:i<b.length:=ad
  have hi:=(et i n d).2;rw [ac9 ad] at hi;obtain ⟨a,D,hc⟩:=o.cells (i:=i) (by simpa using d);rw [am9,hi] at hc;have hin:=hin ws[i] (al9 n);have ht:=ht ws[i] (al9 n);generalize C:ws[i]=u at hin hc ht;refine bS D ?_;rw [cr i];refine ay ((u.1.p,u.1.l,u.1.c),()) (fe 1 [_,_,_] 0 (jx _ 7 0 (iA 7 _ 0 hc))) (ao ?_);refine aK (HW (c:=u.1.c) (xP (hin.an B aj)) ht) ?_;rintro _ h2 ⟨⟨p',l',c',rfl,H⟩,E⟩;refine ⟨((p',l',c'),()),rfl,ao ?_⟩;refine bS D ?_;have o2:=o.an E aj;refine SL.part (P:=Xaz) o2 (i:=i) (by rw [ab9]; exact d) (o:=7) aj (by simp [dr]) D ?_;intro M I F z3;have w:(b.map ub).set i (lK ((b.map ub)[i]'(by rw [ab9]; exact d)) 7 [.slice p' l' c'])=(b.set i (⟨p',l',c'⟩,u.2)).map ub:=by
   rw [fc9,am9,hi,C] <;> rfl
  rw [w] at I;have hw:=ic i;rw [hw];refine aG (cs:=cI) (((i+1:Nat):Int),()) (ws.length-(i+1)) rfl ad rfl ?_;refine ⟨i+1,_,rfl,ad,rfl,Ch.trans (B.trans E) F (fun j x hl=>by have:=(o2.cB x).1; omega),I,by rw [cy9]; exact t,fun m f r=>?_⟩
  by_cases z:m=i
  ·subst z;rw [ag9 ad,List.getElem_set_self,C];exact ⟨rfl,(H.bK F (fun j x f=>wy o2 H bT j f x)).mono z1⟩
  ·have g:m<b.length:=ad
   have:=et m f g
   rw [List.getElem_set_ne (Ne.symm z)];refine ⟨this.1,?_⟩;have this:=this.2
   by_cases k:m<i
   ·rw [ag9 k] at this;rw [ag9 ad]
    have:=this.an E aj
    exact this.bK F (fun j x f=>wy o2 this bT j f x)
   ·rw [ac9 k] at this;rw [ac9 ad];exact this
 ·have hi:i=ws.length:=ad
  subst hi;refine ⟨B,s,b,rfl,⟨o,fun u C=>?_⟩,?_⟩
  ·obtain ⟨m,f,rfl⟩:=bg9 C
   have:=(et m ad f).2
   rwa [ag9 ad] at this
  ·refine fo9 (by rw [ab9,ab9]; exact t) fun m A g=>?_
   rw [ab9] at A g;rw [am9,am9];exact (et m g A).1
section
variable {h:Hp} {B N M:Nat} {w:LW} {usl lb:bU} {sp:Int} {S:Nat->kV}
def Oo (s:rC h B w usl lb sp N M S):uu Xaz 39 [ptr (B+3)] h (vI (N:Int)):=by
 refine ff mixed Tryz.func39 ax (oc (some ⟨B+3,0,none⟩)) ?_;unfold jD;refine bm rfl ?_;refine az s.box ((usl.p,usl.l,usl.c),()) ?_;have a:usl.l=N:=by have:=s.un.1; rwa [jW] at this
 exact ⟨by rw [<- a],rfl⟩
def uG (S:Nat->kV) (N:Nat) (n k:Int):List cC:=if 0<=n/\n<N/\(k=0\/k=1) then (S (2*n.toNat+k.toNat)).ws.map (·.2) else []
def qm (h:Hp):xZ h [] (.slice none 0 0) h:=⟨Ch.refl _ _,nu,[],rfl,⟨SL.nil _ _ _ _,aj⟩,rfl⟩
def Oq (s:rC h B w usl lb sp N M S) (K:2*N<=M) (L:N<=2^30) (hs:∀ k,k<2*N->(S k).ws.length<=2^30/\∀ u,u∈(S k).ws->u.2.e.ah.length<=2^40) (n k:Int) (hn:-9223372036854775808<=n/\n<=9223372036854775807) :
  HC Xaz 40 #[ptr (B+3),vI n,vI k] h (xZ h (uG S N n k)):=by
 refine bd (args:=[ptr (B+3),vI n,vI k]) mixed Tryz.func40 ax (nQ (some ⟨B+3,0,none⟩) n k) ?_;unfold jF aY bh bt aI bP bg aQ;have D:usl.l=N:=by have:=s.un.1; rwa [jW] at this
 have d:¬ (0<=n/\n<N/\(k=0\/k=1))->uG S N n k=[]:=fun h=>by unfold uG; rw [ac9 h]
 refine aw ?_ ?_<;>intro q
 ·have q:=ah9 q;rw [d ad];exact qm h
 have q1:=av9 q;refine bm rfl ?_;refine az s.box ((usl.p,usl.l,usl.c),()) (ao ?_);refine aw ?_ ?_<;>intro q
 ·have q:=ah9 q;rw [d ad];exact qm h
 have q2:=av9 q;refine aw ?_ ?_<;>intro q
 ·have q:=ah9 q;rw [d ad];exact qm h
 have q3:=av9 q;refine aw ?_ ?_<;>intro q
 ·have q:=ah9 q;rw [d ad];exact qm h
 have q4:=av9 q;have o:n.toNat<N:=ad
 obtain ⟨a,C,hc⟩:=s.un.cells (i:=n.toNat) (by rw [jW]; exact o);rw [DY] at hc;generalize A:n.toNat=m at hc o;have g:∀ j,j<2->∃ f:bU,f=(S (2*m+j)).s/\Xx h f.p f.l (S (2*m+j)).ws:=by
  intro j E;have hs:=s.yq.sec (2*m+j) ad;exact ⟨_,rfl,CC.vd (b:=B+4) ⟨hs.out,hs.fC⟩⟩
 have hit:k=0\/k=1->uG S N n k=(S (2*m+k.toNat)).ws.map (·.2):=fun hk=>by
  unfold uG;rw [ag9 ⟨ad,ad,hk⟩,A]
 refine bm rfl ?_;refine az s.box ((usl.p,usl.l,usl.c),()) (ao ?_);refine bS C ?_;obtain ⟨f,r,F⟩:=g 0 ad;obtain ⟨x,y,G⟩:=g 1 ad;have hc:aH h (a.add (m*4)) 0 [f.v,x.v,nu.v,nu.v]:=by rw [r,y]; exact hc
 refine ay ((f.p,f.l,f.c),()) (fe 1 _ 0 hc) (ao ?_);have z:∀ (j:Nat) (t:bU),j<2->t=(S (2*m+j)).s->Xx h t.p t.l (S (2*m+j)).ws->(T.call Xaz 57 [.slice t.p t.l t.c] false [(false,[.slice 55])] fun p l c=>Z1 p l c) [] (xZ h ((S (2*m+j)).ws.map (·.2))) h:=by
  intro j t E ht H;have hsz:=hs (2*m+j) ad;have se:=s.yq.sec (2*m+j) ad;refine aK (D2 (c:=t.c) H hsz.1) ?_;rintro _ h1 ⟨⟨p',c',rfl,I⟩,J⟩;refine ⟨((p',t.l,c'),()),rfl,ao ?_⟩;exact VP (s:=⟨p',t.l,c'⟩) J I se.fC hsz.1 hsz.2
 refine aw ?_ ?_<;>intro q
 ·have hk:k=1:=by simpa using q
  rw [hit (.inr hk),hk];refine bm rfl ?_;refine az s.box ((usl.p,usl.l,usl.c),()) (ao ?_);refine bS C ?_;refine ay ((x.p,x.l,x.c),()) (fe 1 [_,_,_] 0 (jx _ 1 0 (iA 1 _ 0 hc))) (ao ?_);exact z 1 x ad y G
 ·have hk:k=0:=by
   have:¬ k=1:=by
    intro h;rw [h] at q;exact absurd q bT
   omega
  rw [hit (.inl hk),hk];exact z 0 f ad r F
end
def VF:Xab:=.tuple #[.pointer none,.pointer none,.bool false,.bool true]
def Ri (us:List cv) (P:LP) (F:cv->List cC) (tw:List (bU × List (bU × cC))):Prop :=
 tw.length=us.length/\∀ n u x,us[n]?=some u->tw[n]?=some x->x.2.map (·.2)=(F u).map (P.fD n)
structure CH (h0 h':Hp) (us:List cv) (su:bU) (P:LP) (B:Nat) (usl lb:bU) (S:Nat->kV) (g b':Nat) (lb2 st sd:bU) (tw dw:List (bU × List (bU × cC))):Prop where
 le:h0.size<=B
 pg:rC h' B P.w usl lb ((mT us:Nat):Int) us.length (2*us.length) S
 its:∀ n,(hn:n<us.length)->(S (2*n)).ws.map (·.2)=us[n].text.map (P.fD n)/\(S (2*n+1)).ws.map (·.2)=us[n].data.map (P.fD n)
 sz:∀ k,k<2*us.length->Pg (S k)
 pr:DG h' g su lb2 st sd (cy 0 us)
 tx:wo h' b' st tw
 dx:wo h' b' sd dw
 ti:Ri us P (·.text) tw
 di:Ri us P (·.data) dw
def ofQ (h0:Hp) (us:List cv) (su:bU) (v:Xab) (h':Hp):Prop:=Ext h0 h' /\
 if uF us=true then v=VF else match mP us with
 | .error _=>v=VF
 | .ok P=>∃ B usl lb S g b' lb2 st sd tw dw,v=.tuple #[ptr (B+3),ptr g,.bool true,.bool true]/\CH h0 h' us su P B usl lb S g b' lb2 st sd tw dw
def Qu {us:List cv} {P:LP} (d:FC us (.ok P)) (sm:H7 us) {ms:List cV} (f:ms.map fJ=(dR us (cy 0 us) us).map fun y=>(y.1,fq (fg (dR us (cy 0 us) us)) y.1)) {F:cv->List cC} (g:∀ u x,x∈F u->x.e∈cR u)
  {tw:List (bU × List (bU × cC))} (t:zK us (cy 0 us) ms F us.length tw):Ri us P F tw:=by
 obtain ⟨z1,m,o,h,i,c,j,p⟩:=d;refine ⟨t.1,fun n u x b k=>?_⟩;rw [t.2 n u x b k];refine ck9 fun y l=>?_
 have hn:=(ax9.1 b).1;have hyl:=g u y l;have a:P.w.bad n y.e=none:=by
  have h1:=j1 us 0 c n hn;rw [bu9,(ax9.1 b).2,yn,cx9] at h1;exact h1 _ hyl
 have e1:=i.put c j hn a (sm.num u (cp9 b) _ hyl).1 f;unfold LP.fD xU;rw [h,e1]
def XT (pw:eM a) (H:yO a) {su:bU} {us:List cv} (v:xA a su.p su.l us) (sm:H7 us):HC Xaz 11 #[.slice su.p su.l su.c] a (ofQ a us su):=by
 refine bd (args:=[.slice su.p su.l su.c]) mixed Tryz.func11 ax (sX su.p su.l su.c) ?_;unfold nC aZ bP bG cm;refine aP (NT (c:=su.c) v) ?_;refine aw ?_ ?_<;>intro q
 ·refine ⟨Ch.refl _ _,?_⟩;rw [ag9 q] <;> rfl
 ·have G:∀ (w:Xab) (h':Hp),(Ext a h'/\match mP us with
    | .error _=>w=VF
    | .ok P=>∃ B usl lb S g b' lb2 st sd tw dw,w=.tuple #[ptr (B+3),ptr g,.bool true,.bool true]/\CH a h' us su P B usl lb S g b' lb2 st sd tw dw)->ofQ a us su w h':=by
   intro w h' Q;refine ⟨Q.1,?_⟩;rw [ac9 (by rw [q]; simp)];exact Q.2
  have ag:=Bw sm.num;refine aK (TA (c:=su.c) pw H v sm) ?_;rintro _ h1 ⟨I,hl⟩;have v1:=v.an I;cases t:mP us with
  | error f =>
   rw [t] at hl ag G;have hl:_=Kd f.rD f.unit f.name:=hl;subst hl;obtain ⟨y,m⟩:=ag;refine ⟨(none,(f.rD:Int),(f.unit:Int),f.name,()),rfl,ao ?_⟩;refine br ?_;intro h2 J K z2;refine bR J ?_;intro h3 n L z3;have n:bC h3 h1.size 77 [vI (f.rD:Int),vI (f.unit:Int),.string f.name]:=n;have j:Ext h1 h3:=bY K L;have R:(fS us).rD=0->Px us (E6 us):=by
    intro o;rcases m with m | ⟨_,⟨r,w,A,U⟩,_⟩
    ·rw [m] at o;exact absurd o y
    ·exact G' sm r A U
   refine aK (C0 (v1.an j) R) ?_;rintro V z ⟨C,k⟩;have D:V=Value.tuple #[.pointer none,RY f]:=by
    unfold DZ at k;rcases m with m | ⟨o,_,i,x,s,hi,rfl⟩
    ·rw [ag9 (by rw [m]; exact y),m] at k;exact k
    ·rw [ac9 ad] at k;rcases k with ⟨W,X,b,E,D⟩ | ⟨_,_,_,_,_,_,_,_,b,_⟩
     ·rw [s] at b;cases b;rw [hi] at E;cases E;exact D
     ·rw [s] at b;cases b
   subst D;refine ⟨(none,(f.rD:Int),(f.unit:Int),f.name,()),rfl,ao ?_⟩;refine br ?_;intro Y M N Z;refine bR M ?_;intro h6 e O z6;have e:bC h6 z.size 91 [vI (f.rD:Int),vI (f.unit:Int),.string f.name]:=e;have d:Ext z h6:=bY N O;have b36:=n.an (C.trans d) aj;have e06:=((I.trans j).trans C).trans d;refine az b36 ((f.rD:Int),()) (ao ?_);refine az e ((f.rD:Int),()) (ao ?_);refine cj aj ?_;rw [aE,aE];refine az b36 ((f.unit:Int),()) (ao ?_);refine az e ((f.unit:Int),()) (ao ?_);refine cj aj ?_;rw [aE,aE];refine az b36 (f.name,()) (ao ?_);refine az e (f.name,()) (ao ?_);refine cj aj ?_;refine az e ((f.rD:Int),()) (ao ?_);have o:((f.rD:Int)==(0:Int))=false:=by
    have:¬ (f.rD:Int)=0:=ad
    simpa using this
   rw [o];refine cj rfl ?_;exact G _ _ ⟨e06,rfl⟩
  | ok P =>
   rw [t] at hl ag G;obtain ⟨B,usl,lb,S,hB,hv,pg,its,o⟩:=hl;subst hv;have ag':=ag;obtain ⟨z1,r,u1,d1,A1,b1,c1,f1⟩:=ag;refine ⟨(some ⟨B+3,0,none⟩,(0:Int),(0:Int),(⟨#[]⟩:Xaa),()),rfl,ao ?_⟩;refine br ?_;intro h2 J K z2;refine bR J ?_;intro h3 n L z3;have n:bC h3 h1.size 77 [vI 0,vI 0,.string ⟨#[]⟩]:=n;have j:Ext h1 h3:=bY K L;refine aK (C0 (v1.an j) (fun _=>G' sm r A1 b1)) ?_;rintro _ z ⟨C,k⟩;unfold DZ at k;rw [ac9 ad] at k;rcases k with ⟨W,X,b,_⟩ | ⟨g,b',lb2,st,sd,tw,dw,ms,_,D,F,pr,tx,dx,ti,di⟩
   ·rw [f1] at b;cases b
   subst D;refine ⟨(some ⟨g,0,none⟩,(0:Int),(0:Int),(⟨#[]⟩:Xaa),()),rfl,ao ?_⟩;refine br ?_;intro Y M N Z;refine bR M ?_;intro h6 e O z6;have e:bC h6 z.size 91 [vI 0,vI 0,.string ⟨#[]⟩]:=e;have d:Ext z h6:=bY N O;have b36:=n.an (C.trans d) aj;have e16:=(j.trans C).trans d;refine az b36 ((0:Int),()) (ao ?_);refine az e ((0:Int),()) (ao ?_);refine cj rfl ?_;rw [aE,aE];refine az b36 ((0:Int),()) (ao ?_);refine az e ((0:Int),()) (ao ?_);refine cj rfl ?_;rw [aE,aE];refine az b36 ((⟨#[]⟩:Xaa),()) (ao ?_);refine az e ((⟨#[]⟩:Xaa),()) (ao ?_);refine cj aj ?_;refine az e ((0:Int),()) (ao ?_);refine cj rfl ?_;refine G _ _ ⟨I.trans e16,B,usl,lb,S,g,b',lb2,st,sd,tw,dw,rfl,hB,pg.ext e16,its,o,pr.an d,tx.ext d,dx.ext d,?_,?_⟩
   ·exact Qu ag' sm F (fun u x s=>bh9 _ (bh9 _ (bc9 s))) ti
   ·exact Qu ag' sm F (fun u x s=>bh9 _ (br9 _ (bc9 s))) di
end Go.Sx.Lk
namespace Go.Sx
open Go.Proofs
def CP {h:Hp} {p q:Xac} {l m c d:Nat} {x y:bM} (v:iD h p l x.ah) (w:iD h q m y.ah) (hl:x.ah.length<=2^60) :
  HC Xaz 16 #[ik p l c x,ik q m d y] h fun r h'=>r=.bool (gS x y)/\Ext h h':=by
 refine bd (args:=[.agg #[.slice p l c,.int .u32 x.num],.agg #[.slice q m d,.int .u32 y.num]]) mixed Tryz.func16 ax (qb p l c x.num q m d y.num) ?_;unfold kY aY bh bt aI fh aF bz ez aQ cn;refine br ?_;intro h1 b1 F z1;refine br ?_;intro h2 A B z2;have b1:=b1.an B aj;have e02:=F.trans B;have v:=v.an e02 aj;have w:=w.an e02 aj;have hv:=v.len;have hw:=w.len;rw [aE,aE];refine az b1 ((x.num:Int),()) (ao ?_);refine az A ((y.num:Int),()) (ao ?_);refine aw ?_ ?_<;>intro f
 ·have f:¬ x.num=y.num:=by have:¬ (x.num:Int)=y.num:=(by simpa using f); omega
  refine ⟨?_,e02⟩;unfold gS;rw [ak9 f] <;> rfl
 ·have f:x.num=y.num:=by have:(x.num:Int)=y.num:=(by simpa using f); omega
  have G:gS x y=decide (x.ah=y.ah):=by
   unfold gS;rw [aj9 f] <;> rfl
  rw [G];refine az b1 ((p,l,c),()) (ao ?_);refine az A ((q,m,d),()) (ao ?_);refine aw ?_ ?_<;>intro g
  ·have g:¬ (l:Int)=(m:Int):=by simpa using g
   exact ⟨by rw [ak9 (fun e=>by rw [e] at hv; omega)],e02⟩
  ·have g:(l:Int)=(m:Int):=by simpa using g
   refine aT (cs:=gT) (fun z n h'=>∃ (i:Nat),z.2.1=(i:Int)/\i<=x.ah.length/\n=x.ah.length-i/\h2=h'/\(x.ah=y.ah↔x.ah.drop i=y.ah.drop i)) (false,(0:Int),()) x.ah.length rfl
    ⟨0,rfl,ad,ad,rfl,Iff.rfl⟩ ?_
   rintro ⟨C,n8,⟨⟩⟩ n H ⟨i,hi,D,rfl,rfl,E⟩;simp only at hi;subst hi;refine ao ?_;refine az b1 ((p,l,c),()) (ao ?_);refine aR ?_ ?_<;>intro g
   ·have j:i<x.ah.length:=ad
    have k:i<y.ah.length:=ad
    obtain ⟨a,rfl,hc⟩:=v.cells i j;obtain ⟨a',rfl,o⟩:=w.cells i k;have hst:=xp j k;have hno:=Bx j k;generalize x.ah[i]=t at hc hst hno;generalize y.ah[i]=u at o hst hno;refine az b1 ((some a,l,c),()) (ao ?_);refine bS rfl ?_;rw [cr i];refine ay (t.1,(t.2:Int),()) hc (ao ?_);refine az A ((some a',m,d),()) (ao ?_);refine bS rfl ?_;refine ay (u.1,(u.2:Int),()) o (ao ?_);refine wO (b:=decide (t≠u)) (fun I hk=>QG _ _ _ _ _ _ _ _ (by rw [N4]; exact hk)) ?_;refine ⟨⟨A.cells _ rfl,b1.cells _ rfl,trivial⟩,?_⟩;refine aw ?_ ?_<;>intro s
    ·exact ⟨by rw [ak9 (hno (ah9 s))],e02⟩
    ·have s:t=u:=by simpa using s
     have hw:=ic i;exact aG (cs:=gT) (C,((i+1:Nat):Int),()) (x.ah.length-(i+1)) rfl ad (as9 (fun z=>[Value.bool C,Value.int .i64 z]) hw) ⟨i+1,rfl,ad,rfl,rfl,E.trans (hst s)⟩
   ·refine ⟨?_,e02⟩;rw [aj9 (E.2 (by rw [cc9 ad,cc9 ad]))]
end Go.Sx
namespace Go.Sx.Po
open Go.Proofs Go.Sx.Ob Go.Sx.Lk
def xC (x:cC):Bool:=x.kind==2 && ((dy x.inst.op:Nat):Int)==11
variable {U:Hp} {V:Xac} {H O a:Nat} {Y:cC}
def Mt (v:iV U V H Y):HC Xaz 15 #[.agg (encI V H O Y).toArray] U fun w h'=>w=.bool (xC Y)/\Ext U h':=by
 refine bd (args:=[.agg (encI V H O Y).toArray]) mixed Tryz.func15 ax (pt Y.kind Y.name Y.inst.op Y.inst.a Y.inst.b Y.inst.n Y.inst.form V H O Y.e.num Y.n) ?_;unfold kf cQ aF bz;refine br ?_;intro h1 d f z1;have d:bC h1 U.size 55 (encI V H O Y):=d;rw [aE];refine az d (Y.kind,()) (ao ?_);unfold xC;cases i:Y.kind==(2:Int) with
 | false=>exact cg rfl ⟨rfl,f⟩
 | true =>
  refine cj rfl ?_;refine az d (Y.inst.op,()) (ao ?_);refine aK (oQ h1 Y.inst.op v.op) ?_;rintro _ h2 ⟨rfl,g⟩;refine ⟨(((dy Y.inst.op:Nat):Int),()),rfl,?_⟩;exact ⟨rfl,f.trans g⟩
structure Yh (h:Hp) (p:Xac) (l:Nat) (xs:List bM):Prop where
 len:l=xs.length
 many:xs.length<=2^40
 cells:∀ i,(hi:i<xs.length)->∃ a q m d,p=some a/\aH h (a.add (i*2)) 0 [.slice q m d,.int .u32 (xs[i].num:Int)]/\rh h q m xs[i]
def gg (xs:List bM) (x:bM):Int:=match xs.findIdx? fun y=>gS y x with
 | some k=>(k:Int)
 | none=>-1
structure Pl where
 u:Nat
 i:Nat
 l:List bM
def eR (l:List bM) (x:bM):List bM:=if gg l x<0 then l++[x] else l
def shut (u i:Nat) (l:List bM):List Pl:=if l.length=0 then [] else [⟨u,i,l⟩]
def oy (u:Nat):Nat->List cC->List bM->List Pl
 | i,[],l=>shut u i l
 | i,x::xs,l=>if x.kind=4 then shut u i l++oy u (i+1) xs [] else oy u (i+1) xs (if xC x then eR l x.e else l)
def EQ (I:Nat->List cC) (N:Nat):List Pl:=(List.range N).flatMap fun u=>oy u 0 (I u) []
def CY (h:Hp) (st:bU) (N:Nat) (F:Nat->List cC):Prop:=st.l=N/\∀ n,n<N->∃ (a:Xax) (t:bU),st.p=some a/\aH h (a.add (n*1)) 0 [t.v]/\FJ h t.p t.l (F n)
variable {Z:TypeId}
def nh {sz:Nat} {zs:List (List Xab)} (s:SL U H Z sz V O a zs):∀ i,i∈aJ V->∃ ys,bC U i Z ys:=SL.zL s
def U3 {sz:Nat} {zs:List (List Xab)} (s:SL U H Z sz V O a zs):∀ i,i∈aJ V->i<U.size:=fun i hi=>by
 obtain ⟨ys,d⟩:=SL.zL s i hi;exact d.lt
def Ys (x:Pl × bU):List Xab:=[vI (x.1.u:Int),vI (x.1.i:Int),x.2.v]
def Wa:Tryz.prog.underlying 28=some (.slice 53):=ax
def W1:(Tryz.prog.info? 53).map (fun i=>(i.zero,i.size,i.bytes))=some (some (.agg #[.slice none 0 0,.int .u32 0]),2,32):=ax
def V4 (p:Xac) (l c:Nat) (n:Int):Instr.fill (fun j=>some (j*2,2)) ((Array.range (1*2)).map ((Value.agg #[.slice none 0 0,.int .u32 0]).cells[· % (Value.agg #[.slice none 0 0,.int .u32 0]).cells.size]!)) [(0,.agg #[.slice p l c,.int .u32 n])]=some ([.slice p l c,.int .u32 n]:List Xab).toArray:=ax
section
variable {L:Lp} {K:Xab->Hp->Prop} {h0 h:Hp}
end
def A' {its:List cC} {l:List bM} (h:O<its.length):oy H O (its.drop O) l=if its[O].kind=4 then shut H O l++oy H (O+1) (its.drop (O+1)) [] else oy H (O+1) (its.drop (O+1)) (if xC its[O] then eR l its[O].e else l):=by
 rw [aw9 h] <;> rfl
def JX {its:List cC} {l:List bM}:oy H its.length (its.drop its.length) l=shut H its.length l:=by
 rw [de9] <;> rfl
def H6 (I:Nat->List cC) (N n:Nat):List Pl:=((List.range N).drop n).flatMap fun u=>oy u 0 (I u) []
variable {b:Nat->List cC}
def Lg (h:O<H):H6 b H O=oy O 0 ((b O).drop 0) []++H6 b H (O+1):=by
 unfold H6;rw [aw9 (by simpa using h),cd9]
 simp
def U4 (h:H<=O):H6 b H O=[]:=by
 unfold H6;rw [eq9 (by simpa using h)] <;> rfl
def RR (u i:Nat) (l:List bM):(shut u i l).length<=1:=by
 unfold shut;split <;> simp
def Ca (R:List Pl) (u i:Nat) (x:bM):Option (Nat × Int):=match R.findIdx? fun p=>p.u==u && decide (i<p.i) with
 | some k=>some (k,gg (R[k]?.map (·.l) |>.getD []) x)
 | none=>none
def rl (I:Nat->List cC) (N:Nat) (u i:Int):Option (Nat × Int) :=
 if u<0\/(N:Int)<=u\/i<0 then none else match (I u.toNat)[i.toNat]? with
 | some x=>if xC x then Ca (EQ I N) u.toNat i.toNat x.e else none
 | none=>none
def Yv:Option (Nat × Int)->Xab
 | none=>.tuple #[vI 0,vI 0,.bool false]
 | some q=>.tuple #[vI (q.1:Int),vI q.2,.bool true]
def Rz {α:Type} {xs:List α} {p:α->Bool} {i:Nat} (hi:i<xs.length) (h:∀ j,(a:j<xs.length)->j<i->p xs[j]=false) (ht:p xs[i]=true):xs.findIdx? p=some i:=by
 rw [bd9];exact ⟨hi,ht,fun j a=>by rw [h j ad a]; simp⟩
def MY (j:yO U) (v:iV U V H Y):HC Xaz 41 #[.agg (encI V H O Y).toArray] U fun w h'=>w=.bool (xC Y)/\Ext U h':=by
 refine bd (args:=[.agg (encI V H O Y).toArray]) mixed Tryz.func41 ax (zR Y.kind Y.name Y.inst.op Y.inst.a Y.inst.b Y.inst.n Y.inst.form V H O Y.e.num Y.n) ?_;unfold wh bP aF bz cm cn;refine br ?_;intro h1 d f z1;have d:bC h1 U.size 55 (encI V H O Y):=d;rw [aE];refine az d (Y.inst.op,()) (ao ?_);refine aK (KY (j.an f aj) Y.inst.op v.op.1 v.op.2) ?_;rintro _ h2 ⟨s,b,rfl,k⟩;refine ⟨(s,b,((dy Y.inst.op:Nat):Int),decide (dy Y.inst.op≠0),()),rfl,ao ?_⟩;refine br ?_;intro r m o z3;refine bR m ?_;intro h4 g p z4;have g:bC h4 h2.size 171 [.string s,.int .u8 b,vI ((dy Y.inst.op:Nat):Int)]:=g;have i:Ext h2 h4:=bY o p;have e14:=k.trans i;refine az (d.an e14 aj) (Y.kind,()) (ao ?_);unfold xC;cases t:Y.kind==(2:Int) with
 | false=>exact cg rfl ⟨rfl,f.trans e14⟩
 | true =>
  refine cj rfl ?_;rw [aE];refine az g (((dy Y.inst.op:Nat):Int),()) ?_;exact ⟨rfl,f.trans e14⟩
structure XD (h:Hp) (p:Xac) (l:Nat) (ps:List Pl):Prop where
 len:l=ps.length
 many:ps.length<=2^40
 cells:∀ i,(hi:i<ps.length)->∃ (a:Xax) (w:bU),p=some a/\aH h (a.add (i*3)) 0 [vI (ps[i].u:Int),vI (ps[i].i:Int),.slice w.p w.l w.c]/\Yh h w.p w.l ps[i].l
def Yh.an {h h':Hp} {p:Xac} {l:Nat} {xs:List bM} (v:Yh h p l xs) (e:Ext h h'):Yh h' p l xs :=
 ⟨v.len,v.many,fun i hi=>by
  obtain ⟨a,q,m,d,b,hc,hv⟩:=v.cells i hi;exact ⟨a,q,m,d,b,aM e aj _ _ hc,hv.an e⟩⟩
def XD.an {h h':Hp} {p:Xac} {l:Nat} {ps:List Pl} (v:XD h p l ps) (e:Ext h h'):XD h' p l ps :=
 ⟨v.len,v.many,fun i hi=>by
  obtain ⟨a,w,b,hc,hv⟩:=v.cells i hi;exact ⟨a,w,b,aM e aj _ _ hc,hv.an e⟩⟩
def Ml {x y:bM} (a:Good x) (b:Good y) (h:fG x=fG y):x=y:=by
 have h1:=(CV a).2;have h2:=(CV b).2;rw [h] at h1;rw [h1] at h2;cases h2;rfl
def Ni {xs:List bM} {x:bM} (a:∀ y,y∈xs->Good y) (b:Good x):(xs.findIdx? fun y=>decide (fG y=fG x))=xs.findIdx? fun y=>gS y x:=by
 induction xs with
 | nil=>rfl
 | cons y xs c =>
  have d:decide (fG y=fG x)=gS y x:=by
   rw [ds9];unfold gS;simp only [decide_eq_true_eq,Bool.and_eq_true];constructor
   ·intro h
    have:=Ml (a y aj) b h
    rw [this];exact ⟨rfl,rfl⟩
   ·rintro ⟨h1,h2⟩;obtain ⟨f,g⟩:=y;obtain ⟨i,j⟩:=x;simp only at h1 h2;subst h1 h2;rfl
  rw [List.findIdx?_cons,List.findIdx?_cons,d,c fun z e=>a z (ap9 _ e)]
end Go.Sx.Po
namespace Go.Sx.Ob
open Go.Proofs
def OC (b:Bool) (n:Int) (s:Xaa) (h:Hp) (K:Unit->Hp->Prop):aS Xaz (Instr.checkKey b 10000 131 (.agg #[vI n,.string s])) h K=K () h:=ax
def Nt:Tryz.prog.underlying 131=some (.struct (vU Xaz 131)):=ax
def V3:Tryz.prog.stoodInHeld 131=false:=ax
def YS (n m:Int) (s t:Xaa):(vU Xaz 131).all (okF Xaz #[vI n,.string s] #[vI m,.string t])=true:=ax
def Wr (n m:Int) (s t:Xaa):(vU Xaz 131).all (HZ #[vI n,.string s] #[vI m,.string t])=(n==m && (s==t && true)):=by
 rw [<- dd9]
 kernel_rfl
def ZN:wA Xaz 131 Fv where
 check b a h K hk:=by rw [show Fv a=.agg #[vI (a.1:Int),.string a.2] from rfl,OC]; exact hk
 kind:=⟨_,Nt,fun a b=>rfl⟩
 eqv a b h K hk:=by
  show aS Xaz (Op.equal 131 (.agg #[vI (a.1:Int),.string a.2]) (.agg #[vI (b.1:Int),.string b.2])) h K;rw [gW Nt V3 (YS _ _ _ _),Wr];have e:decide (a=b)=(((a.1:Nat):Int)==((b.1:Nat):Int) && (a.2==b.2 && true)):=by
   obtain ⟨c,d⟩:=a;obtain ⟨f,g⟩:=b;show decide ((c,d)=(f,g))=(((c:Nat):Int)==((f:Nat):Int) && (d==g && true));rw [sg,cz9,ds9];simp only [Prod.mk.injEq,decide_eq_true_eq,Bool.and_eq_true,beq_iff_eq];constructor <;> exact fun ⟨x,y⟩=>⟨ad,y⟩
  rw [<- e];exact hk
 bits a:=by
  show ((2:Nat)==2 && _)=true;simp [Instr.sameBits,Fv,sg]
 inj a b h:=by
  obtain ⟨c,d⟩:=a;obtain ⟨f,g⟩:=b;simp only [Fv,Value.agg.injEq,Array.mk.injEq,List.cons.injEq,Value.int.injEq,Value.string.injEq,and_true,true_and] at h;rw [Prod.mk.injEq];exact ⟨ad,h.2⟩
def HU (b:Bool) (n m:Int) (h:Hp) (K:Unit->Hp->Prop):aS Xaz (Instr.checkKey b 10000 89 (.agg #[vI n,vI m])) h K=K () h:=ax
def Fu:Tryz.prog.underlying 89=some (.struct (vU Xaz 89)):=ax
def Ru:Tryz.prog.stoodInHeld 89=false:=ax
def U7 (n m s t:Int):(vU Xaz 89).all (okF Xaz #[vI n,vI s] #[vI m,vI t])=true:=ax
def O' (n m s t:Int):(vU Xaz 89).all (HZ #[vI n,vI s] #[vI m,vI t])=(n==m && (s==t && true)):=by
 rw [<- dd9]
 kernel_rfl
def kiT:wA Xaz 89 Cr.GI where
 check b a h K hk:=by rw [show Cr.GI a=.agg #[vI (a.1:Int),vI (a.2:Int)] from rfl,HU]; exact hk
 kind:=⟨_,Fu,fun a b=>rfl⟩
 eqv a b h K hk:=by
  show aS Xaz (Op.equal 89 (.agg #[vI (a.1:Int),vI (a.2:Int)]) (.agg #[vI (b.1:Int),vI (b.2:Int)])) h K;rw [gW Fu Ru (U7 _ _ _ _),O'];have e:decide (a=b)=(((a.1:Nat):Int)==((b.1:Nat):Int) && (((a.2:Nat):Int)==((b.2:Nat):Int) && true)):=by
   obtain ⟨c,d⟩:=a;obtain ⟨f,g⟩:=b;show decide ((c,d)=(f,g))=(((c:Nat):Int)==((f:Nat):Int) && (((d:Nat):Int)==((g:Nat):Int) && true));rw [cz9,ds9];simp only [Prod.mk.injEq,decide_eq_true_eq,Bool.and_eq_true,beq_iff_eq];omega
  rw [<- e];exact hk
 bits a:=by
  show ((2:Nat)==2 && _)=true;simp [Instr.sameBits,Cr.GI]
 inj a b h:=by
  obtain ⟨c,d⟩:=a;obtain ⟨f,g⟩:=b;simp only [Cr.GI,Value.agg.injEq,Array.mk.injEq,List.cons.injEq,Value.int.injEq,and_true,true_and] at h;rw [Prod.mk.injEq];omega
end Go.Sx.Ob
namespace Go.Sx.Lk
open Go.Proofs Go.Sx.Ob
def CC.vw {h:Hp} {b:Nat} {s:bU} {ws:List (bU × cC)} (o:CC h b s ws) (hl:ws.length<=2^60) (c:∀ x,x∈ws.map (·.2)->x.name.size<=maxLen/\Sm x.inst.op/\x.e.ah.length<=2^60/\∀ t,t∈x.e.ah->t.1.size<=maxLen):FJ h s.p s.l (ws.map (·.2)) :=
 ⟨by have:=o.out.1; rw [ab9] at this ⊢; exact this,by rw [ab9]; exact hl,fun i hi=>by
  rw [ab9] at hi;obtain ⟨a,d,hc⟩:=o.out.cells (i:=i) (by simpa using hi);rw [am9] at hc;rw [am9];have h1:=c ws[i].2 (bc9 (al9 hi));exact ⟨a,_,_,_,d,hc,⟨xP (o.fC _ (al9 hi)),h1.2.2.1,h1.2.2.2⟩,h1.1,h1.2.1⟩⟩
section
variable {h0 h h':Hp} {us:List cv} {su:bU} {P:LP} {B:Nat} {usl lb:bU} {S:Nat->kV} {g b':Nat} {lb2 st sd:bU} {tw dw:List (bU × List (bU × cC))}
structure One (h0 h':Hp) (us:List cv) (P:LP) (B:Nat) (usl lb:bU) (S:Nat->kV):Prop where
 le:h0.size<=B
 pg:rC h' B P.w usl lb ((mT us:Nat):Int) us.length (2*us.length) S
 its:∀ n,(hn:n<us.length)->(S (2*n)).ws.map (·.2)=us[n].text.map (P.fD n)/\(S (2*n+1)).ws.map (·.2)=us[n].data.map (P.fD n)
 sz:∀ k,k<2*us.length->Pg (S k)
def One.ext (b:One h0 h us P B usl lb S) (e:Ext h h'):One h0 h' us P B usl lb S:=⟨b.le,b.pg.ext e,b.its,b.sz⟩
def CH.one (b:CH h0 h us su P B usl lb S g b' lb2 st sd tw dw):One h0 h us P B usl lb S:=⟨b.le,b.pg,b.its,b.sz⟩
def Ag (u:cv) (j:Nat):List cC:=if j=0 then u.text else u.data
def One.sec (b:One h0 h us P B usl lb S) {n j:Nat} (hn:n<us.length) (a:j<2):(S (2*n+j)).ws.map (·.2)=(Ag us[n] j).map (P.fD n):=by
 unfold Ag
 by_cases h:j=0
 ·rw [ag9 h,h]; exact (b.its n hn).1
 ·rw [ac9 h,show j=1 from ad]; exact (b.its n hn).2
def One.item (b:One h0 h us P B usl lb S) {n j:Nat} (hn:n<us.length) (a:j<2):uG S us.length (n:Int) (j:Int)=(Ag us[n] j).map (P.fD n):=by
 unfold uG;rw [ag9 ⟨ad,ad,ad⟩];rw [show ((n:Int)).toNat=n from ad,show ((j:Int)).toNat=j from ad];exact b.sec hn a
variable {H:Xac}
def One.ok (b:One h0 h us P B usl lb S) {hv:Hp} {l:Nat} (v:xA hv H l us) {n j:Nat} (hn:n<us.length) (r:j<2):∀ x,x∈(Ag us[n] j).map (P.fD n)->x.name.size<=maxLen/\Sm x.inst.op/\x.e.ah.length<=2^60/\∀ t,t∈x.e.ah->t.1.size<=maxLen:=by
 intro x f;obtain ⟨y,c,rfl⟩:=an9.1 f;have hz:=b.sz (2*n+j) ad;rw [<- b.sec hn r] at f;obtain ⟨w,k,s⟩:=an9.1 f;have h1:=hz.YH w k;have h2:=hz.sz w k;rw [s] at h1 h2;obtain ⟨a,sa,sb,sc,u,C,hc,o⟩:=v.cells n hn;have hi:iV hv none 0 y\/(y.name.size<=maxLen/\Sm y.inst.op):=by
  right
  have d:∀ {q:Xac} {m:Nat} {xs:List cC},FJ hv q m xs->y∈xs->y.name.size<=maxLen/\Sm y.inst.op:=by
   intro q m xs z A;obtain ⟨i,hi,rfl⟩:=bg9 A;obtain ⟨_,_,_,_,_,_,it⟩:=z.cells i hi;exact ⟨it.name,it.op⟩
  unfold Ag at c
  by_cases h:j=0
  ·rw [ag9 h] at c; exact d o.text c
  ·rw [ac9 h] at c; exact d o.data c
 have hi:y.name.size<=maxLen/\Sm y.inst.op:=hi.elim (fun it=>⟨it.name,it.op⟩) id;exact ⟨hi.1,hi.2,ad,h2⟩
def One.many (b:One h0 h us P B usl lb S) {n j:Nat} (hn:n<us.length) (a:j<2):(Ag us[n] j).length<=2^30:=by
 have h1:=(b.sz (2*n+j) ad).len;have h2:=as9 List.length (b.sec hn a);rw [ab9,ab9] at h2;omega
def One.out (b:One h0 h us P B usl lb S) (f:us.length<=2^20) {hv:Hp} {l:Nat} (v:xA hv H l us) {n j:Nat} (hn:n<us.length) (d:j<2) :
  HC Xaz 40 #[ptr (B+3),vI (n:Int),vI (j:Int)] h fun w h'=>Ext h h'/\∃ t ws,w=bU.v t/\CC h' h.size t ws/\ws.map (·.2)=(Ag us[n] j).map (P.fD n)/\FJ h' t.p t.l ((Ag us[n] j).map (P.fD n)):=by
 have hit:=Oq b.pg (aq9 _) ad (fun k hk=>⟨(b.sz k hk).len,(b.sz k hk).YH⟩) n j ad;rw [b.item hn d] at hit;refine HC.mono hit fun w h' i=>?_
 obtain ⟨e,t,ws,m,o,c⟩:=i;refine ⟨e,t,ws,m,o,c,?_⟩;have hmn:=b.many hn d;have a:ws.length<=2^60:=by
  have:=as9 List.length c
  rw [ab9,ab9] at this;omega
 have:=o.vw a (by rw [c]; exact b.ok v hn d)
 rwa [c] at this
end
end Go.Sx.Lk
namespace Go.Sx.Po
open Go.Proofs Go.Sx.Ob Go.Sx.Lk
def nz (k:Int × Int):Xab:=.agg #[vI k.1,vI k.2]
def Zr:wA Xaz 89 nz where
 check b a h K hk:=by rw [show nz a=.agg #[vI a.1,vI a.2] from rfl,HU]; exact hk
 kind:=⟨_,Fu,fun a b=>rfl⟩
 eqv a b h K hk:=by
  show aS Xaz (Op.equal 89 (.agg #[vI a.1,vI a.2]) (.agg #[vI b.1,vI b.2])) h K;rw [gW Fu Ru (U7 _ _ _ _),O'];have e:decide (a=b)=(a.1==b.1 && (a.2==b.2 && true)):=by
   obtain ⟨c,d⟩:=a;obtain ⟨f,g⟩:=b;show decide ((c,d)=(f,g))=(c==f && (d==g && true));rw [cz9,ds9];simp only [Prod.mk.injEq,decide_eq_true_eq,Bool.and_eq_true,beq_iff_eq]
  rw [<- e];exact hk
 bits a:=by
  show ((2:Nat)==2 && _)=true;simp [Instr.sameBits,nz]
 inj a b h:=by
  obtain ⟨c,d⟩:=a;obtain ⟨f,g⟩:=b;simp only [nz,Value.agg.injEq,Array.mk.injEq,List.cons.injEq,Value.int.injEq,and_true,true_and] at h;rw [Prod.mk.injEq];exact h
def Wz (q:Nat × Nat):Xab:=.agg #[vI (q.1:Int),vI (q.2:Int)]
def Zt (n:Nat):Xab:=vI (n:Int)
def O5:Tryz.prog.underlying 81=some (.map 89 86):=ax
def uO:Tryz.prog.underlying 126=some (.map 131 3):=ax
def Wi:(Tryz.prog.info? 3).bind (·.zero)=some (vI 0):=ax
def T9:(Tryz.prog.info? 86).bind (·.zero)=some (.agg #[vI 0,vI 0]):=ax
section
variable {L:Lp} {K:Xab->Hp->Prop} {h:Hp}
variable {H O:Nat}
def NY {f:Ky->Option Nat} (m:fx Fv Zt h H f O) (s:Ky) {k:Int->Bool->T} (hk:k (((f s).getD 0:Nat):Int) (f s).isSome L K h) :
  T.eH Xaz (Instr.lookup 126 (.map (some H)) (Fv s) true) true [(false,[.int .i64]),(false,[.bool])] k L K h:=by
 obtain ⟨D,m,a,_⟩:=m;show aS _ _ _ _;refine oS ZN uO Wi m s true _ ?_;rw [ag9 rfl,oG,a];refine ⟨((((f s).getD 0:Nat):Int),(f s).isSome,()),?_,hk⟩
 all_goals (cases f s <;> rfl)
def Pt {f:Int × Int->Option (Nat × Nat)} (m:fx nz Wz h H f O) (s:Int × Int) {k:Int->Int->Bool->T} (hk:k ((((f s).getD (0,0)).1:Nat):Int) ((((f s).getD (0,0)).2:Nat):Int) (f s).isSome L K h) :
  T.eH Xaz (Instr.lookup 81 (.map (some H)) (nz s) true) true [(true,[.int .i64,.int .i64]),(false,[.bool])] k L K h:=by
 obtain ⟨D,m,a,_⟩:=m;show aS _ _ _ _;refine oS Zr O5 T9 m s true _ ?_;rw [ag9 rfl,oG,a];refine ⟨(((((f s).getD (0,0)).1:Nat):Int),((((f s).getD (0,0)).2:Nat):Int),(f s).isSome,()),?_,hk⟩
 all_goals (cases f s <;> rfl)
end
variable {e:List bM}
def Rc {m:List bM} {x:bM} (h:0<=gg e x):gg (e++m) x=gg e x:=by
 unfold gg at *;rw [ea9];cases a:e.findIdx? fun y=>gS y x with
 | none=>rw [a] at h; exact absurd h bT
 | some k=>rfl
def MV {x:bM} (h:gg e x<0):gg (e++[x]) x=(e.length:Int):=by
 unfold gg at *;rw [ea9];cases a:e.findIdx? fun y=>gS y x with
 | some k=>rw [a] at h; simp at h; omega
 | none=>simp [CU]
def AQ (l:List bM) (x:bM):gg (eR l x) x=if gg l x<0 then (l.length:Int) else gg l x:=by
 unfold eR;split
 ·next h=>exact MV h
 ·rfl
def xz (l:List bM) (x:bM):0<=gg (eR l x) x:=by
 rw [AQ];split <;> omega
def gI (l:List bM) (x:bM):eR l x≠[]:=by
 intro h
 have:=xz l x
 rw [h] at this;have h2:gg [] x=-1:=rfl;omega
def K9 (l:List bM) (x:bM):l <+: eR l x:=by
 unfold eR;split
 ·exact ⟨[x],rfl⟩
 ·exact eb9 _
theorem Bu (u:Nat):∀ (its:List cC) (i:Nat) (l:List bM),l≠[]->∃ j l' r,oy u i its l=⟨u,j,l'⟩::r/\i<=j/\l <+: l'
 | [],i,l,h=>⟨i,l,[],by
   unfold oy shut;rw [ac9 (fun a=>h (bo9 a))],aq9 _,eb9 _⟩
 | x::its,i,l,h=>by
  unfold oy
  by_cases hk:x.kind=4
  ·rw [ag9 hk];unfold shut;rw [ac9 (fun a=>h (bo9 a))];exact ⟨i,l,_,rfl,aq9 _,eb9 _⟩
  ·rw [ac9 hk]
   by_cases hl:xC x=true
   ·rw [ag9 hl];obtain ⟨j,l',r,h1,h2,b⟩:=Bu u its (i+1) (eR l x.e) (gI _ _);exact ⟨j,l',r,h1,ad,(K9 l x.e).trans b⟩
   ·rw [ac9 hl];obtain ⟨j,l',r,h1,h2,b⟩:=Bu u its (i+1) l h;exact ⟨j,l',r,h1,ad,b⟩
def Ei {out rest:List Pl} {u i:Nat} {x:cC} {its:List cC} {l:List bM} (d:∀ p,p∈out->p.u<u\/p.u=u/\p.i<i) (hl:xC x=true) :
  Ca (out++(oy u (i+1) its (eR l x.e)++rest)) u i x.e=some (out.length,gg (eR l x.e) x.e):=by
 obtain ⟨j,l',r,h1,h2,f⟩:=Bu u its (i+1) (eR l x.e) (gI _ _);rw [h1];have a:out.length<(out++((⟨u,j,l'⟩::r)++rest)).length:=aj
 have b:(out++((⟨u,j,l'⟩::r)++rest))[out.length]=⟨u,j,l'⟩:=by
  rw [ct9 (aq9 _)]
  simp
 unfold Ca;rw [Rz a (fun e g c=>?_) (by rw [b]; simp; omega)]
 ·simp only [List.getElem?_eq_getElem a,b,Option.map_some,Option.getD_some];obtain ⟨m,rfl⟩:=f;rw [Rc (xz _ _)]
 ·rw [by9 c];rcases d _ (al9 c) with h | ⟨h,h'⟩
  ·have:((out[e].u==u)=false):=by simp; omega
   rw [this]; rfl
  ·have:decide (i<out[e].i)=false:=by simp; omega
   rw [this,fb9]
def zP (I:Nat->List cC) (N:Nat) (k:Int × Int):Option (Nat × Nat):=(rl I N k.1 k.2).map fun q=>(q.1,q.2.toNat)
structure uc (h:Hp) (W:List Nat) (bl:Nat):Prop where
 t:∀ i,i∈W->∀ ys,¬ bC h i 64 ys
 m:∀ i,i∈W->∀ ys,¬ bC h i 55 ys
 l:∀ i,i∈W->bl<=i\/∀ ys,¬ bC h i 53 ys
variable {O:Hp} {H V a d i j:Nat} {f:TypeId}
def oa {e':TypeId} {ys zs:List Xab} (a:bC O H f ys) (b:bC O H e' zs):f=e':=by
 have:=bb9 (Eq.trans (Eq.symm a) b)
 injection this
variable {Y:List Nat}
def uc.box {bl:Nat} {e:TypeId} (c:∀ i,i∈Y->∃ ys,bC O i e ys) (h1:e≠64) (h2:e≠55) (d:e≠53):uc O Y bl :=
 ⟨fun i hi ys a=>by obtain ⟨zs,b⟩:=c i hi; exact h1 (oa b a),fun i hi ys a=>by obtain ⟨zs,b⟩:=c i hi; exact h2 (oa b a),fun i hi=>.inr fun ys a=>by obtain ⟨zs,b⟩:=c i hi; exact d (oa b a)⟩
def uc.lit {bl:Nat} (c:∀ i,i∈Y->∃ ys,bC O i 53 ys) (a:∀ i,i∈Y->bl<=i):uc O Y bl :=
 ⟨fun i hi ys a=>by obtain ⟨zs,b⟩:=c i hi; exact absurd (oa b a) bT,fun i hi ys a=>by obtain ⟨zs,b⟩:=c i hi; exact absurd (oa b a) bT,fun i hi=>.inl (a i hi)⟩
def uc.map {α β:Type} [DecidableEq α] {kv:α->Xab} {en:β->Xab} {bl:Nat} {f:α->Option β} {n:Nat} (m:fx kv en O H f n):uc O [H] bl:=by
 obtain ⟨D,⟨es,cl,b,_⟩,_⟩:=m;have no:∀ i,i∈[H]->∀ e ys,¬ bC O i e ys:=by
  intro i hi e ys a;rw [ai9.1 hi] at a
  have:=bb9 (Eq.trans (Eq.symm b) a)
  cases this
 exact ⟨fun i hi=>no i hi 64,fun i hi=>no i hi 55,fun i hi=>.inr (no i hi 53)⟩
def uc.nil (h:Hp) (bl:Nat):uc h [] bl:=⟨aj,aj,aj⟩
structure VL (x:bM):Prop where
 many:x.ah.length<=2^60
 names:∀ t,t∈x.ah->t.1.size<=maxLen
structure kU (h:Hp) (b:Nat) (s:bU) (xs:List bM):Prop where
 ex:∃ (cs:List (List Xab)) (ts:List bU),SL h b 53 2 s.p s.l s.c cs/\cs.length=xs.length/\ts.length=xs.length/\∀ i,(hi:i<xs.length)->(hc:i<cs.length)->(ht:i<ts.length)->cs[i]=[ts[i].v,.int .u32 (xs[i].num:Int)]/\SL h 0 64 2 ts[i].p ts[i].l ts[i].c (xs[i].ah.map dp)/\VL xs[i]
def kU.nil (h:Hp) (b:Nat):kU h b ⟨none,0,0⟩ []:=⟨⟨[],[],SL.nil _ _ _ _,rfl,rfl,fun i hi=>absurd hi aj⟩⟩
variable {U c:bU}
def kU.len {xs:List bM} (v:kU O H U xs):U.l=xs.length:=by
 obtain ⟨cs,ts,sl,hl,_⟩:=v.ex;rw [<- hl];exact sl.1
def kU.cB {h:Hp} {b:Nat} {s:bU} {xs:List bM} (v:kU h b s xs):∀ i,i∈aJ s.p->b<=i/\i<h.size:=by
 obtain ⟨cs,ts,sl,_⟩:=v.ex;exact fun i hi=>⟨(sl.cB hi).1,U3 sl i hi⟩
def kU.box {xs:List bM} (v:kU O H U xs):∀ i,i∈aJ U.p->∃ ys,bC O i 53 ys:=by
 obtain ⟨cs,ts,sl,_⟩:=v.ex;exact nh sl
def wU {h':Hp} {t:bU} {zs:List (List Xab)} {bl:Nat} (s:SL O H 64 2 t.p t.l t.c zs) (k:Ch Y O h') (o:uc O Y bl):SL h' H 64 2 t.p t.l t.c zs :=
 s.bK k fun i hi a=>by
  obtain ⟨ys,d⟩:=nh s i hi;exact o.t i a ys d
def kU.an {h':Hp} {xs:List bM} (v:kU O H U xs) {bl:Nat} (k:Ch Y O h') (o:uc O Y bl) (d:∀ i,i∈aJ U.p->i∉Y):kU h' H U xs:=by
 obtain ⟨cs,ts,sl,hl,ht,c⟩:=v.ex;exact ⟨⟨cs,ts,sl.bK k d,hl,ht,fun i hi hc a=>⟨(c i hi hc a).1,wU (c i hi hc a).2.1 k o,(c i hi hc a).2.2⟩⟩⟩
def kU.Pu {h':Hp} {xs:List bM} (v:kU O H U xs) {bl:Nat} (k:Ch Y O h') (o:uc O Y bl) (a:∀ i,i∈aJ U.p->i<bl):kU h' H U xs :=
 v.an k o fun i hi c=>by
  rcases o.l i c with h1 | h1
  ·have:=a i hi; omega
  ·obtain ⟨ys,d⟩:=v.box i hi;exact h1 ys d
def kU.vw {xs:List bM} (v:kU O H U xs) (c:xs.length<=2^40):Yh O U.p U.l xs:=by
 obtain ⟨cs,ts,sl,hl,ht,d⟩:=v.ex;refine ⟨v.len,c,fun i hi=>?_⟩;obtain ⟨a,e,hc⟩:=SL.cells sl (i:=i) ad;obtain ⟨f,g,ok⟩:=d i hi ad ad;rw [f] at hc;exact ⟨a,_,_,_,e,hc,⟨Sx.SL.NF g,ok.many,ok.names⟩⟩
structure xR (h:Hp) (b bl:Nat) (s:bU) (pw:List (Pl × bU)):Prop where
 sl:SL h b 84 3 s.p s.l s.c (pw.map Ys)
 lits:∀ x,x∈pw->kU h 0 x.2 x.1.l/\∀ i,i∈aJ x.2.p->b<=i/\i<bl
def xR.an {h':Hp} {bl:Nat} {pw:List (Pl × bU)} (v:xR O H bl U pw) (k:Ch Y O h') (o:uc O Y bl) (c:∀ i,i∈aJ U.p->i∉Y):xR h' H bl U pw :=
 ⟨v.sl.bK k c,fun x a=>⟨(v.lits x a).1.Pu k o fun i hi=>((v.lits x a).2 i hi).2,(v.lits x a).2⟩⟩
def xR.nil (h:Hp) (b bl:Nat):xR h b bl ⟨none,0,0⟩ []:=⟨SL.nil _ _ _ _,aj⟩
def XM:Tryz.prog.underlying 80=some (.slice 84):=ax
def YA:(Tryz.prog.info? 84).map (fun i=>(i.zero,i.size,i.bytes))=some (some (.agg #[vI 0,vI 0,.slice none 0 0]),3,40):=ax
section
variable {L:Lp} {K:Xab->Hp->Prop} {h:Hp}
variable {H:Xac->Nat->Nat->T} {O:bU}
def L7 {bl:Nat} {t:bU} {xs:List bM} {x:bM} (v:kU h bl O xs) (u:bl<=h.size) (z:xs.length<=2^30) (w:SL h 0 64 2 t.p t.l t.c (x.ah.map dp)) (ok:VL x)
  (hk:∀ a h',kU h' bl a (xs++[x])->Ch (aJ O.p) h h'->H a.p a.l a.c L K h') :
  T.eH Xaz (Instr.buildSlice 28 1 #[(0,.agg #[.slice t.p t.l t.c,.int .u32 (x.num:Int)])]) false [(false,[.slice 0])] (fun (j:Xac) (m n:Nat)=>T.eH Xaz (Builtin.append_ #[28,28] 28 #[.slice O.p O.l O.c,.slice j m n]) false [(false,[.slice 0])] H) L K h:=by
 have hl:=v.len;have hbx:=v.box;have hbk:=v.cB;obtain ⟨cs,ts,sl,d,f,q⟩:=v.ex;refine gh (b:=bl) (vs:=[.slice t.p t.l t.c,.int .u32 (x.num:Int)]) Wa W1 rfl ad ad (V4 t.p t.l t.c x.num) rfl rfl sl u ad ad ?_;intro p' c' h' a k' _;have o:uc h (aJ O.p) bl:=uc.lit hbx fun i hi=>(hbk i hi).1
 refine hk ⟨p',O.l+1,c'⟩ h' ⟨⟨_,ts++[t],a,by simp [d],by simp [f],fun i hi hc ht=>?_⟩⟩ k'
 by_cases g:i<xs.length
 ·rw [by9 (show i<cs.length from ad),by9 (show i<ts.length from ad)];have e:(xs++[x])[i]=xs[i]:=by9 g;rw [e];obtain ⟨h1,h2,y⟩:=q i g ad ad;exact ⟨h1,wU h2 k' o,y⟩
 ·have r:i=xs.length:=by simp at hi; omega
  subst r;rw [ct9 (show cs.length<=xs.length from ad),ct9 (show ts.length<=xs.length from ad)];have e:(xs++[x])[xs.length]=x:=aj
  rw [e];simp only [d,f,Nat.sub_self,List.getElem_cons_zero];exact ⟨rfl,wU w k' o,ok⟩
def RQ (u i:Int) (p:Xac) (l c:Nat):Instr.fill (fun j=>some (j*3,3)) ((Array.range (1*3)).map ((Value.agg #[vI 0,vI 0,.slice none 0 0]).cells[· % (Value.agg #[vI 0,vI 0,.slice none 0 0]).cells.size]!)) [(0,.agg #[vI u,vI i,.slice p l c])]=some ([vI u,vI i,.slice p l c]:List Xab).toArray:=ax
def I8 {b bl:Nat} {t:bU} {pw:List (Pl × bU)} {u i:Nat} {xs:List bM} (ps:xR h b bl O pw) (v:kU h bl t xs) (r:b<=bl) (F:bl<=h.size) (q:pw.length<=2^30)
  (hk:∀ e h',xR h' b h'.size e (pw++[(⟨u,i,xs⟩,t)])->Ch (aJ O.p) h h'->(e.p=O.p\/∃ a,e.p=some a/\h.size<=a.block)->H e.p e.l e.c L K h') :
  T.eH Xaz (Instr.buildSlice 80 1 #[(0,.agg #[vI (u:Int),vI (i:Int),.slice t.p t.l t.c])]) false [(false,[.slice 0])] (fun (g:Xac) (m n:Nat)=>T.eH Xaz (Builtin.append_ #[80,80] 80 #[.slice O.p O.l O.c,.slice g m n]) false [(false,[.slice 0])] H) L K h:=by
 have hl:O.l=pw.length:=by have:=ps.sl.1; rwa [ab9] at this
 refine gh (b:=b) (vs:=[vI (u:Int),vI (i:Int),.slice t.p t.l t.c]) XM YA rfl ad ad (RQ u i t.p t.l t.c) rfl rfl ps.sl ad ad ad ?_;intro p' c' h' e k' w;have o:uc h (aJ O.p) bl:=uc.box (nh ps.sl) bT bT bT;have z:=k'.size;refine hk ⟨p',O.l+1,c'⟩ h' ⟨by rw [ao9]; exact e,fun x f=>?_⟩ k' w;rcases ar9.1 f with f | f
 ·obtain ⟨h1,h2⟩:=ps.lits x f;refine ⟨h1.Pu k' o fun j d=>(h2 j d).2,fun j d=>⟨(h2 j d).1,?_⟩⟩
  have:=(h1.cB j d).2
  omega
 ·rw [ai9.1 f];have hv:=v.cB;have hbx:=v.box;obtain ⟨cs,ts,sl,y,A,B⟩:=v.ex;have C:kU h 0 t xs:=⟨⟨cs,ts,sl.mono (em9 _),y,A,B⟩⟩
  refine ⟨C.an k' o fun j d q=>?_,fun j d=>⟨by have:=(hv j d).1; omega,by have:=(hv j d).2; omega⟩⟩;obtain ⟨ys,D⟩:=hbx j d;obtain ⟨zs,E⟩:=nh ps.sl j q;exact absurd (oa D E) bT
end
def iL (I:Nat->List cC) (N n i:Nat) (k:Int × Int):Option (Nat × Nat):=if 0<=k.1/\0<=k.2/\(k.1<n\/k.1=n/\k.2<i) then zP I N k else none
section
variable {I:Nat->List cC} {N n i:Nat}
def Xd (h:zP I N ((n:Int),(i:Int))=none):iL I N n (i+1)=iL I N n i:=by
 funext k
 obtain ⟨a,b⟩:=k;unfold iL;simp only
 by_cases e:a=(n:Int)/\b=(i:Int)
 ·obtain ⟨rfl,rfl⟩:=e;rw [ag9 ad,ac9 ad,h]
 ·by_cases h1:0<=a/\0<=b/\(a<(n:Int)\/a=(n:Int)/\b<(i:Int))
  ·rw [ag9 h1,ag9 ad]
  ·rw [ac9 h1,ac9 ad]
def Ln {v:Nat × Nat} (h:zP I N ((n:Int),(i:Int))=some v):iL I N n (i+1)=pT (iL I N n i) ((n:Int),(i:Int)) v:=by
 funext k
 obtain ⟨a,b⟩:=k;unfold iL pT;simp only [Prod.mk.injEq]
 by_cases e:a=(n:Int)/\b=(i:Int)
 ·rw [ag9 e];obtain ⟨rfl,rfl⟩:=e;rw [ag9 ad,h]
 ·rw [ac9 e]
  by_cases h1:0<=a/\0<=b/\(a<(n:Int)\/a=(n:Int)/\b<(i:Int))
  ·rw [ag9 h1,ag9 ad]
  ·rw [ac9 h1,ac9 ad]
def Kc {u j:Nat} (h:(I u).length<=j):zP I N ((u:Int),(j:Int))=none:=by
 unfold zP rl;simp only;split
 ·rfl
 ·rw [cr u,cr j,bs9 h] <;> rfl
def SR {k:Int × Int} (h:k.1<0\/(N:Int)<=k.1\/k.2<0):zP I N k=none:=by
 unfold zP rl;rw [ag9 h] <;> rfl
def Qj {u j:Nat} (b:u<N) (a:j<(I u).length):zP I N ((u:Int),(j:Int))=if xC (I u)[j] then (Ca (EQ I N) u j (I u)[j].e).map (fun q=>(q.1,q.2.toNat)) else none:=by
 unfold zP rl;simp only;rw [ac9 ad,cr u,cr j,ad9 a];simp only;split <;> rfl
def OX {m:Nat} (h:(I n).length<=m):iL I N n m=iL I N (n+1) 0:=by
 funext k
 obtain ⟨a,b⟩:=k;unfold iL;simp only
 by_cases h1:0<=a/\0<=b/\(a<(n:Int)\/a=(n:Int)/\b<(m:Int))
 ·rw [ag9 h1,ag9 ad]
 ·rw [ac9 h1]
  by_cases h2:0<=a/\0<=b/\(a<((n+1:Nat):Int)\/a=((n+1:Nat):Int)/\b<((0:Nat):Int))
  ·rw [ag9 h2];obtain ⟨j,rfl⟩:∃ j:Nat,b=(j:Int):=⟨b.toNat,ad⟩
   have c:a=(n:Int):=ad
   rw [c];exact (Kc ad).symm
  ·rw [ac9 h2]
def SI:iL I N N 0=zP I N:=by
 funext k
 unfold iL;split
 ·rfl
 ·next h=>exact (SR ad).symm
def RO:iL I N 0 0=fun _=>none:=by
 funext k
 unfold iL;rw [ac9 ad]
end
structure BQ (x:cC):Prop where
 tm:VL x.e
 pS:Good x.e
 many:x.e.ah.length<=2^30
 sz:∀ t,t∈x.e.ah->t.1.size<=32/\t.2<4294967296
 num:x.e.num<4294967296
 name:x.name.size<=maxLen
 op:Sm x.inst.op
structure Zk (h:Hp) (p:Xac) (l c:Nat) (ws:List (bU × cC)):Prop where
 out:SL h 0 55 10 p l c (ws.map ub)
 fC:∀ u,u∈ws->SL h 0 64 2 u.1.p u.1.l u.1.c (u.2.e.ah.map dp)
variable {Z:Xac}
def Zk.an {h':Hp} {ws:List (bU × cC)} (v:Zk O Z H V ws) {bl:Nat} (k:Ch Y O h') (o:uc O Y bl):Zk h' Z H V ws :=
 ⟨v.out.bK k fun i hi a=>by
  obtain ⟨ys,b⟩:=nh v.out i hi;exact o.m i a ys b,fun u d=>wU (v.fC u d) k o⟩
def js {α β:Type} [DecidableEq α] {kv:α->Xab} {en:β->Xab} {g:Nat} {a:α->Option β} (m:fx kv en O g a H) {ys:List Xab} (b:bC O V f ys):V≠g:=by
 rintro rfl;obtain ⟨D,⟨es,cl,c,_⟩,_⟩:=m
 have:=bb9 (Eq.trans (Eq.symm c) b)
 cases this
structure Mem (h:Hp) (b0 bl:Nat) (s w:bU) (pw:List (Pl × bU)) (xs:List bM) (g8 n:Nat) (p:Xac) (l c:Nat) (ws:List (bU × cC)):Prop where
 ps:xR h b0 bl s pw
 lq:kU h bl w xs
 bx:bC h g8 84 [vI (n:Int),vI 0,w.v]
 it:Zk h p l c ws
def Mem.an {h h':Hp} {b0 bl:Nat} {s w:bU} {pw:List (Pl × bU)} {xs:List bM} {g8 n:Nat} {p:Xac} {l c:Nat} {ws:List (bU × cC)} (v:Mem h b0 bl s w pw xs g8 n p l c ws) {W:List Nat} (k:Ch W h h') (o:uc h W bl) (a:∀ i,i∈aJ s.p->i∉W) (b:∀ i,i∈aJ w.p->i∉W) (d:g8∉W):Mem h' b0 bl s w pw xs g8 n p l c ws :=
 ⟨v.ps.an k o a,v.lq.an k o b,v.bx.an k d,v.it.an k o⟩
def Mem.O0 {α β:Type} [DecidableEq α] {kv:α->Xab} {en:β->Xab} {h':Hp} {b0 bl:Nat} {pw:List (Pl × bU)} {xs:List bM} {g8:Nat} {ws:List (bU × cC)} (v:Mem O b0 bl U c pw xs g8 H Z V a ws) {f:α->Option β} {nf:Nat} (m:fx kv en O d f nf) (k:Ch [d] O h'):Mem h' b0 bl U c pw xs g8 H Z V a ws:=by
 refine v.an k (uc.map m) (fun i hi b=>?_) (fun i hi b=>?_) (fun b=>?_)
 ·obtain ⟨ys,e⟩:=nh v.ps.sl i hi;exact js m e (ai9.1 b)
 ·obtain ⟨ys,e⟩:=v.lq.box i hi;exact js m e (ai9.1 b)
 ·exact js m v.bx (ai9.1 b)
def Mem.ext {h':Hp} {b0 bl:Nat} {pw:List (Pl × bU)} {xs:List bM} {g8:Nat} {ws:List (bU × cC)} (v:Mem O b0 bl U c pw xs g8 H Z V a ws) (e:Ext O h'):Mem h' b0 bl U c pw xs g8 H Z V a ws:=v.an e (uc.nil _ _) aj aj aj
structure NS (h0 h:Hp) (I:Nat->List cC) (N gs gm n i g8:Nat) (s w:bU) (pw:List (Pl × bU)) (bl:Nat) (xs:List bM) (p:Xac) (l c:Nat) (ws:List (bU × cC)):Prop where
 e:Ext h0 h
 mem:Mem h h0.size bl s w pw xs g8 n p l c ws
 lo:h0.size<=bl
 hi:bl<=h.size
 ms:∃ nf,fx nz Wz h gs (iL I N n i) nf
 mm:∃ m nm,fx Fv Zt h gm m nm/\(∀ t,m (s.l,t)=xs.findIdx? fun y=>decide (fG y=t))/\∀ q t,s.l<q->m (q,t)=none
 ord:∀ p,p∈pw.map (·.1)->p.u<n\/p.u=n/\p.i<i
 l8:h0.size<=g8
 n8:g8∉aJ s.p
 xl:xs.length<=i
 pS:∀ y,y∈xs->Good y
 en:(I n).length<i->xs=[]
 eq:pw.map (·.1)++((if i<=(I n).length then oy n i ((I n).drop i) xs else [])++H6 I N (n+1))=EQ I N
def ldT (g8 gs gm n i b:Nat) (s:bU):T :=
   T.af ((⟨b,0,none⟩:Xax).add 7) [.slice 64,.int .u32] <| fun (e:Xac) (f g:Nat) (h:Int) =>
   bP 42 [.agg #[.slice e f g,aF h]] false [(false,[.string])] <| fun (j:Xaa) =>
   T.new [vI (0:Int),cm] 131 <| fun (a:Xax) =>
   T.aD a [vI (s.l:Int),.string j] <|
   T.af a [.int .i64,.string] <| fun (k:Int) (m:Xaa) =>
   bQ (Instr.lookup 126 (.map (some gm)) (.agg #[vI k,.string m]) true) true [aQ,cn] <| fun (o:Int) (q:Bool) =>
   cond (!q)
   (T.af ((⟨g8,0,none⟩:Xax).add 2) [.slice 53] <| fun (I:Xac) (d J:Nat) =>
   T.af a [.int .i64,.string] <| fun (r:Int) (t:Xaa) =>
   T.dX Xaz (Instr.mapUpdate 126 (.map (some gm)) (.agg #[vI r,.string t]) (vI (d:Int))) <|
   T.af ((⟨g8,0,none⟩:Xax).add 2) [.slice 53] <| fun (u:Xac) (w x:Nat) =>
   T.af ((⟨b,0,none⟩:Xax).add 7) [.slice 64,.int .u32] <| fun (y:Xac) (z A:Nat) (B:Int) =>
   bQ (Instr.buildSlice 28 1 #[(0,.agg #[.slice y z A,aF B])]) false [cY] <| fun (C:Xac) (D E:Nat) =>
   bQ (Builtin.append_ #[28,28] 28 #[.slice u w x,.slice C D E]) false [cY] <| fun (F:Xac) (G H:Nat) =>
   T.aD ((⟨g8,0,none⟩:Xax).add 2) [.slice F G H] <|
   T.dX Xaz (Instr.mapUpdate 81 (.map (some gs)) (.agg #[vI (n:Int),vI (i:Int)]) (.agg #[vI (s.l:Int),vI (d:Int)])) <|
   T.again 1 [.slice s.p s.l s.c,vI (bq ((i:Int)+(1:Int)))])
   (T.dX Xaz (Instr.mapUpdate 81 (.map (some gs)) (.agg #[vI (n:Int),vI (i:Int)]) (.agg #[vI (s.l:Int),vI o])) <|
   T.again 1 [.slice s.p s.l s.c,vI (bq ((i:Int)+(1:Int)))])
def WN {L:Lp} {K:Xab->Hp->Prop} {h0 h:Hp} {I:Nat->List cC} {N gs gm n i g8 M:Nat} {s w:bU} {pw:List (Pl × bU)} {bl:Nat} {xs:List bM} {p:Xac} {l c:Nat} {ws:List (bU × cC)} (O:eM h0) (hg:gs≠gm) (hgs:h0.size<=gs) (hgm:h0.size<=gm)
  (a:NS h0 h I N gs gm n i g8 s w pw bl xs p l c ws) (hn:n<N) (hi:i<(I n).length) (hlen:(I n).length<=2^29) {q:Xac} {m d:Nat} (g:xC (I n)[i]=true) (b35:bC h M 55 (encI q m d (I n)[i])) (hsl:SL h 0 64 2 q m d ((I n)[i].e.ah.map dp)) (ok:BQ (I n)[i])
  (go:∀ h' w' Z,NS h0 h' I N gs gm n (i+1) g8 s w' pw bl Z p l c ws->T.again 1 [.slice s.p s.l s.c,vI (IntKind.wrap .i64 ((i:Int)+(1:Int)))] L K h'):ldT g8 gs gm n i M s L K h:=by
 have P:s.l=pw.length:=by have:=a.mem.ps.sl.1; rwa [ab9] at this
 have heq:=a.eq;rw [ag9 ad,A' hi] at heq;have hk2:(I n)[i].kind=2:=by
  unfold xC at g;rw [bm9] at g;exact eq_of_beq g.1
 rw [ac9 ad,ag9 g] at heq;have hT:=Qj (I:=I) hn hi;rw [ag9 g] at hT;have hsq:=Ei (out:=pw.map (·.1)) (rest:=H6 I N (n+1)) (u:=n) (i:=i) (its:=(I n).drop (i+1)) (l:=xs) a.ord g;rw [heq,ab9,<- P] at hsq;rw [hsq] at hT;simp only [Option.map_some] at hT;have D:∀ p,p∈pw.map (·.1)->p.u<n\/p.u=n/\p.i<i+1:=fun p W=>(a.ord p W).imp id fun h=>⟨h.1,ad⟩
 generalize (I n)[i]=x at *;unfold ldT bP bQ bq aF cm aQ cn cY;rw [aE,aE];refine az b35 ((q,m,d),(x.e.num:Int),()) (ao ?_);refine aK (SM (x:=x.e) (Sx.SL.NF hsl) (O.an a.e aj) ok.many ok.sz ok.num) ?_;rintro _ h1 ⟨rfl,e1⟩;refine ⟨(fG x.e,()),rfl,ao ?_⟩;refine br ?_;intro h2 b2 e2 z2;refine bR b2 ?_;intro h3 X k3 z3;have X:bC h3 h1.size 131 [vI (s.l:Int),.string (fG x.e)]:=X;have e13:Ext h1 h3:=bY e2 k3;have e03:=e1.trans e13;refine az X ((s.l:Int),fG x.e,()) (ao ?_);have mem:=a.mem.ext e03;have b35:=b35.an e03 aj;have hsl:=hsl.bK e03 aj;have eh:=a.e.trans e03;have hbl:=a.hi;have z03:=e03.size;obtain ⟨nf,ms⟩:=a.ms;have ms:=ms.an e03 aj;obtain ⟨mf,nm,mm,B,Q⟩:=a.mm;have mm:=mm.an e03 aj;have E:mf (s.l,fG x.e)=xs.findIdx? fun y=>gS y x.e:=by rw [B,Ni a.pS ok.pS]
 refine NY (s:=(s.l,fG x.e)) mm ?_;rw [E];cases hf:(xs.findIdx? fun y=>gS y x.e) with
 | some k =>
  refine cg rfl ?_;have W:gg xs x.e=(k:Int):=by unfold gg; rw [hf]
  have f:eR xs x.e=xs:=by unfold eR; rw [ac9 ad]
  rw [f,W] at hT;rw [f] at heq;refine HF Zr O5 ms ((n:Int),(i:Int)) ((s.l,k):Nat × Nat) ?_;intro h4 m4 z z4;have e4:Ext h0 h4:=bY eh z;rw [<- Ln (by rw [hT]; rfl)] at m4;exact go h4 w xs ⟨e4,mem.O0 ms z,a.lo,by have:=z.size; omega,⟨_,m4⟩,⟨mf,nm,mm.an z (by simp; omega),B,Q⟩,D,a.l8,a.n8,by have:=a.xl; omega,a.pS,fun C=>absurd C ad,by rw [ag9 ad]; exact heq⟩
 | none =>
  refine cj rfl ?_;have W:gg xs x.e=-1:=by unfold gg; rw [hf]
  have f:eR xs x.e=xs++[x.e]:=by unfold eR; rw [ag9 ad]
  have hwl:=mem.lq.len;have hxl:=a.xl;have R:gg (eR xs x.e) x.e=(xs.length:Int):=by rw [AQ,ag9 ad]
  rw [R] at hT;rw [f] at heq;refine az mem.bx ((w.p,w.l,w.c),()) (ao ?_);refine az X ((s.l:Int),fG x.e,()) (ao ?_);refine HF ZN uO mm (s.l,fG x.e) w.l ?_;intro h4 S z z4;have mem4:=mem.O0 mm z;have b354:=b35.an z (fun b=>js mm b35 (ai9.1 b));have hsl4:=wU (t:=⟨q,m,d⟩) hsl z (uc.map (bl:=0) mm);have ms4:=ms.an z (by simp; omega);have e4:Ext h0 h4:=bY eh z;have z4':=z.size;refine az mem4.bx ((w.p,w.l,w.c),()) (ao ?_);refine az b354 ((q,m,d),(x.e.num:Int),()) (ao ?_);refine L7 (t:=⟨q,m,d⟩) mem4.lq ad ad hsl4 ok.tm ?_;intro w' h5 U F;have hbx:=mem4.lq.box;have hbk:=mem4.lq.cB;have o5:uc h4 (aJ w.p) bl:=uc.lit hbx fun j o=>(hbk j o).1
  have ps5:=mem4.ps.an F o5 (fun j o b=>by
   obtain ⟨ys,G⟩:=nh mem4.ps.sl j o;obtain ⟨zs,A⟩:=hbx j b;exact absurd (oa G A) bT)
  have bx5:=mem4.bx.an F (fun b=>by
   obtain ⟨zs,A⟩:=hbx _ b;exact absurd (oa mem4.bx A) bT)
  have it5:=mem4.it.an F o5;have ms5:=ms4.an F (fun b=>by
   obtain ⟨zs,A⟩:=hbx _ b;exact js ms4 A rfl)
  have mm5:=S.an F (fun b=>by
   obtain ⟨zs,A⟩:=hbx _ b;exact js S A rfl)
  have e5:Ext h0 h5:=Ch.trans e4 F (fun j o hl=>by have:=(hbk j o).1; have:=a.lo; omega);have z5:=F.size;refine bR bx5 ?_;intro h6 H J z6;have H:bC h6 g8 84 [vI (n:Int),vI 0,w'.v]:=H;have o6:uc h5 [g8] bl:=uc.box (e:=84) (fun j o=>by rw [ai9.1 o]; exact ⟨_,bx5⟩) bT bT bT;have ps6:=ps5.an J o6 (fun j o b=>a.n8 (by rw [<- ai9.1 b]; exact o));have lq6:=U.an J o6 (fun j o b=>by
   obtain ⟨zs,A⟩:=U.box j o;rw [ai9.1 b] at A;exact absurd (oa bx5 A) bT)
  have it6:=it5.an J o6;have ms6:=ms5.an J (fun b=>js ms5 bx5 (ai9.1 b).symm);have mm6:=mm5.an J (fun b=>js mm5 bx5 (ai9.1 b).symm);have e6:Ext h0 h6:=Ch.trans e5 J (fun j o hl=>by simp at o; have:=a.l8; omega);refine HF Zr O5 ms6 ((n:Int),(i:Int)) ((s.l,w.l):Nat × Nat) ?_;intro h7 m7 Y z7;have e7:Ext h0 h7:=bY e6 Y;rw [<- Ln (by rw [hT]; simp [hwl])] at m7;have V:Mem h6 h0.size bl s w' pw (xs++[x.e]) g8 n p l c ws:=⟨ps6,lq6,H,it6⟩
  refine go h7 w' (xs++[x.e]) ⟨e7,V.O0 ms6 Y,a.lo,by have:=Y.size; omega,⟨_,m7⟩,⟨_,_,mm6.an Y (by simp; omega),fun t=>?_,fun r t hr=>?_⟩,D,a.l8,a.n8,by simp; omega,?_,fun C=>absurd C ad,by rw [ag9 ad]; exact heq⟩
  ·unfold pT;rw [ea9]
   by_cases ht:t=fG x.e
   ·subst ht;rw [ag9 rfl,<- B,E,hf,hwl]
    simp
   ·rw [ac9 (by intro C; exact ht (dr9 C).2),B];cases (xs.findIdx? fun y=>decide (fG y=t)) with
    | some k=>rfl
    | none =>
     have:decide (fG x.e=t)=false:=ak9 fun C=>ht C.symm
     simp [this]
  ·unfold pT;rw [ac9 (by intro C; have:=(dr9 C).1; omega)];exact Q r t hr
  ·intro y G;rcases ar9.1 G with G | G
   ·exact a.pS y G
   ·rw [ai9.1 G]; exact ok.pS
def plT (g8 n i a:Nat) (s:bU):T :=
   T.af (⟨a,0,none⟩:Xax) [.int .i64] <| fun (b:Int) =>
   cond (b==(4:Int))
   (T.af ((⟨g8,0,none⟩:Xax).add 2) [.slice 53] <| fun (u:Xac) (d w:Nat) =>
   cond (decide ((d:Int)>(0:Int)))
    (T.aD ((⟨g8,0,none⟩:Xax).add 1) [vI (i:Int)] <|
    T.af (⟨g8,0,none⟩:Xax) [.int .i64,.int .i64,.slice 53] <| fun (e f:Int) (g:Xac) (h j:Nat) =>
    bQ (Instr.buildSlice 80 1 #[(0,.agg #[vI e,vI f,.slice g h j])]) false [cY] <| fun (k:Xac) (m o:Nat) =>
    bQ (Builtin.append_ #[80,80] 80 #[.slice s.p s.l s.c,.slice k m o]) false [cY] <| fun (q:Xac) (r t:Nat) =>
    T.aD (⟨g8,0,none⟩:Xax) [vI (n:Int),vI (0:Int),bg] <|
    T.again 1 [.slice q r t,vI (bq ((i:Int)+(1:Int)))])
    (T.again 1 [.slice s.p s.l s.c,vI (bq ((i:Int)+(1:Int)))]))
   (T.again 1 [.slice s.p s.l s.c,vI (bq ((i:Int)+(1:Int)))])
def Xg {L:Lp} {K:Xab->Hp->Prop} {h0 h:Hp} {I:Nat->List cC} {N gs gm n i g8 J:Nat} {s w:bU} {pw:List (Pl × bU)} {bl:Nat} {xs:List bM} {p:Xac} {l c:Nat} {ws:List (bU × cC)} (hgs:h0.size<=gs) (hgm:h0.size<=gm)
  (b:NS h0 h I N gs gm n i g8 s w pw bl xs p l c ws) (R:i<=(I n).length) (hlen:(I n).length<=2^29) (S:pw.length<=2^30) {q:Xac} {m d:Nat} {x:cC} (hk:i=(I n).length->x.kind=4) (U:zP I N ((n:Int),(i:Int))=none) (V:bC h J 55 (encI q m d x))
  (W:oy n i ((I n).drop i) xs=if x.kind=4 then shut n i xs++(if i+1<=(I n).length then oy n (i+1) ((I n).drop (i+1)) [] else []) else (if i+1<=(I n).length then oy n (i+1) ((I n).drop (i+1)) xs else []))
  (X:∀ h' B w' Y Z xs',NS h0 h' I N gs gm n (i+1) g8 B w' Y Z xs' p l c ws->T.again 1 [.slice B.p B.l B.c,vI (IntKind.wrap .i64 ((i:Int)+(1:Int)))] L K h'):plT g8 n i J s L K h:=by
 have hsl0:s.l=pw.length:=by have:=b.mem.ps.sl.1; rwa [ab9] at this
 have heq:=b.eq;rw [ag9 R,W] at heq;have hwl:=b.mem.lq.len;have k:∀ p,p∈pw.map (·.1)->p.u<n\/p.u=n/\p.i<i+1:=fun p hp=>(b.ord p hp).imp id fun h=>⟨h.1,ad⟩
 obtain ⟨nf,ms⟩:=b.ms;rw [<- Xd U] at ms;obtain ⟨mf,nm,mm,M,A⟩:=b.mm;unfold plT bQ bq bg cY;rw [aE,aE];refine az V (x.kind,()) (ao ?_);refine aw ?_ ?_<;>intro C
 ·have C:x.kind=4:=eq_of_beq C;rw [ag9 C,ay9] at heq;refine az b.mem.bx ((w.p,w.l,w.c),()) (ao ?_);refine aR ?_ ?_<;>intro g1
  ·have hsh:shut n i xs=[⟨n,i,xs⟩]:=by unfold shut; rw [ac9 ad]
   rw [hsh] at heq;refine bR b.mem.bx ?_;intro h1 o E z1;have o:bC h1 g8 84 [vI (n:Int),vI (i:Int),w.v]:=o;have o1:uc h [g8] bl:=uc.box (e:=84) (fun j g=>by rw [ai9.1 g]; exact ⟨_,b.mem.bx⟩) bT bT bT;have ps1:=b.mem.ps.an E o1 (fun j g f=>b.n8 (by rw [<- ai9.1 f]; exact g));have lq1:=b.mem.lq.an E o1 (fun j g f=>by
    obtain ⟨zs,F⟩:=b.mem.lq.box j g;rw [ai9.1 f] at F;exact absurd (oa b.mem.bx F) bT)
   have it1:=b.mem.it.an E o1;have ms1:=ms.an E (fun f=>js ms b.mem.bx (ai9.1 f).symm);have mm1:=mm.an E (fun f=>js mm b.mem.bx (ai9.1 f).symm);have e1:Ext h0 h1:=Ch.trans b.e E (fun j g hl=>by simp at g; have:=b.l8; omega);refine az o ((n:Int),(i:Int),(w.p,w.l,w.c),()) (ao ?_);have hb:=b.hi;refine I8 (u:=n) (i:=i) (xs:=xs) ps1 lq1 b.lo ad S ?_;intro B h2 O G z;have o2:uc h1 (aJ s.p) bl:=uc.box (nh ps1.sl) bT bT bT;have bx2:=o.an G b.n8;have it2:=it1.an G o2;have ms2:=ms1.an G (fun f=>by
    obtain ⟨zs,F⟩:=nh ps1.sl _ f;exact js ms1 F rfl)
   have mm2:=mm1.an G (fun f=>by
    obtain ⟨zs,F⟩:=nh ps1.sl _ f;exact js mm1 F rfl)
   have e2:Ext h0 h2:=Ch.trans e1 G (fun j g hl=>by have:=(ps1.sl.cB g).1; omega);have z2:=G.size;have P:g8∉aJ B.p:=by
    rcases z with z | ⟨a,z,ha⟩
    ·rw [z]; exact b.n8
    ·rw [z];intro f
     have:g8=a.block:=ai9.1 f
     have:=o.lt
     omega
   have hs':B.l=s.l+1:=by
    have:=O.sl.1
    rw [ab9,af9,List.length_singleton] at this;omega
   refine bR bx2 ?_;intro h3 D Q z3;have D:bC h3 g8 84 [vI (n:Int),vI 0,(⟨none,0,0⟩:bU).v]:=D;have o3:uc h2 [g8] h2.size:=uc.box (e:=84) (fun j g=>by rw [ai9.1 g]; exact ⟨_,bx2⟩) bT bT bT;have ps3:=O.an Q o3 (fun j g f=>P (by rw [<- ai9.1 f]; exact g));have ms3:=ms2.an Q (fun f=>js ms2 bx2 (ai9.1 f).symm);have mm3:=mm2.an Q (fun f=>js mm2 bx2 (ai9.1 f).symm);have e3:Ext h0 h3:=Ch.trans e2 Q (fun j g hl=>by simp at g; have:=b.l8; omega);refine X h3 B ⟨none,0,0⟩ _ h2.size [] ⟨e3,⟨ps3,kU.nil _ _,D,it2.an Q o3⟩,by have:=b.lo; omega,ad,⟨_,ms3⟩,⟨_,_,mm3,fun t=>?_,fun r t hr=>A r t ad⟩,?_,b.l8,P,aj,aj,fun _=>rfl,?_⟩
   ·rw [A _ _ ad] <;> rfl
   ·intro y H;rw [ao9,ar9] at H;rcases H with H | H
    ·exact k y H
    ·have:y=⟨n,i,xs⟩:=by simpa using H
     rw [this];exact .inr ⟨rfl,by show i<i+1; omega⟩
   ·rw [ao9,ay9];exact heq
  ·have hx0:xs=[]:=bo9 ad;subst hx0;exact X h s w pw bl [] ⟨b.e,b.mem,b.lo,b.hi,⟨_,ms⟩,⟨_,_,mm,M,A⟩,k,b.l8,b.n8,aj,b.pS,fun _=>rfl,heq⟩
 ·have C:¬ x.kind=4:=ne_of_beq_false C;rw [ac9 C] at heq;exact X h s w pw bl xs ⟨b.e,b.mem,b.lo,b.hi,⟨_,ms⟩,⟨_,_,mm,M,A⟩,k,b.l8,b.n8,by have:=b.xl; omega,b.pS,fun hh=>absurd (hk ad) C,heq⟩
def ln:cC:=⟨4,⟨#[]⟩,⟨0,0,0,0,0⟩,⟨[],0⟩,0⟩
def Ye:Tryz.prog.underlying 46=some (.slice 55):=ax
def WB:Instr.fill (fun j=>some (j*10,10)) ((Array.range (1*10)).map ((Value.agg iz.toArray).cells[· % (Value.agg iz.toArray).cells.size]!)) [(0,.agg #[vI (4:Int),.string ⟨#[]⟩,vI (0:Int),vI (0:Int),vI (0:Int),.int .i32 (0:Int),vI (0:Int),.slice none 0 0,.int .u32 (0:Int),vI (0:Int)])]=some (encI none 0 0 ln).toArray:=ax
def Qa {x:cC} (s:SL O 0 64 2 U.p U.l U.c (x.e.ah.map dp)) (ok:BQ x):iV O U.p U.l x:=⟨⟨Sx.SL.NF s,ok.tm.many,ok.tm.names⟩,ok.name,ok.op⟩
def Qo (h:Hp):iV h none 0 ln:=⟨⟨⟨rfl,fun i hi=>absurd hi (by simp [ln])⟩,by simp [ln],by simp [ln]⟩,by show 0<=_; omega,by unfold Sm; show _<=(0:Int)/\(0:Int)<=_; omega⟩
variable {b:Nat->List cC}
def EV (X:eM O) (tb:yO O) {N:Nat} (hN:N<=2^29) (un:∀ h',Ext O h'->uu Xaz 39 [ptr (H+3)] h' (vI (N:Int)))
  (its:∀ h',Ext O h'->∀ n:Nat,n<N->HC Xaz 40 #[ptr (H+3),vI (n:Int),vI 0] h' fun v h''=>Ext h' h''/\∃ t ws,v=bU.v t/\CC h'' h'.size t ws/\ws.map (·.2)=b n)
  (hI:∀ n,n<N->(b n).length<=2^29) (hR:(EQ b N).length<=2^30) (ok:∀ n x,n<N->x∈b n->BQ x) :
  HC Xaz 22 #[ptr (H+3)] O fun v h'=>Ext O h'/\∃ s pw gs nf,v=.tuple #[bU.v s,.map (some gs)]/\xR h' O.size h'.size s pw/\pw.map (·.1)=EQ b N/\fx nz Wz h' gs (zP b N) nf:=by
 refine bd (args:=[ptr (H+3)]) mixed Tryz.func22 ax (BM (some ⟨H+3,0,none⟩)) ?_;unfold yY aY bh bt aI aZ cQ eG bP bn bQ aF bG bg cm aQ cn cY;refine AS (kv:=nz) (en:=Wz) ?_;intro h1 Y e1 z1;refine cg rfl ?_;refine AS (kv:=Fv) (en:=Zt) ?_;intro h2 Z e2 z2;have e02:=e1.trans e2;have ms2:=Y.an e2 aj;have hgl:=Y.lt;refine jo (un h2 e02) ?_;generalize hgs:O.size=gs at ms2;have M:O.size<=h1.size:=ad
 have hne:gs≠h1.size:=ad
 have K:O.size<=gs:=ad
 generalize h1.size=gm at Z M hne;refine aT (cs:=lM) (fun y k h'=>∃ (n:Nat) (s:bU) (pw:List (Pl × bU)) (bl:Nat),y.1=(s.p,s.l,s.c)/\y.2.1=(n:Int)/\k=N-n/\n<=N/\Ext O h'/\xR h' O.size bl s pw/\O.size<=bl/\bl<=h'.size/\(∃ nf,fx nz Wz h' gs (iL b N n 0) nf)/\(∃ m nm,fx Fv Zt h' gm m nm/\∀ q t,s.l<=q->m (q,t)=none)/\(∀ p,p∈pw.map (·.1)->p.u<n)/\pw.map (·.1)++H6 b N n=EQ b N) ((none,0,0),(0:Int),()) N rfl
  ⟨0,⟨none,0,0⟩,[],O.size,rfl,rfl,rfl,ad,e02,xR.nil _ _ _,aq9 _,by have:=e02.size; omega,⟨0,by rw [RO]; exact ms2⟩,⟨_,_,Z,fun _ _ _=>rfl⟩,aj,rfl⟩ ?_
 rintro ⟨⟨p4,l5,c6⟩,n7,⟨⟩⟩ k W ⟨n,s,pw,bl,hs,hn,rfl,hle,e3,ps,lo,hi,⟨nf,ms⟩,⟨mf,nm,mm,P⟩,ord,Q⟩;simp only [Prod.mk.injEq] at hs hn;obtain ⟨rfl,rfl,rfl⟩:=hs;subst hn;refine ao ?_;refine aR ?_ ?_<;>intro g
 ·have hn:n<N:=ad
  have hIn:=hI n hn;rw [Lg hn] at Q;refine br ?_;intro h4 b4 e4 z4;refine bR b4 ?_;intro h5 b5 k5 z5;have b5:bC h5 W.size 84 [vI (n:Int),vI 0,(⟨none,0,0⟩:bU).v]:=b5;have e35:Ext W h5:=bY e4 k5;refine aK (its h5 (e3.trans e35) n hn) ?_;rintro _ h6 ⟨e6,t,ws,rfl,own,hws⟩;refine ⟨((t.p,t.l,t.c),()),rfl,ao ?_⟩;have hwl:ws.length=(b n).length:=by rw [<- hws,ab9]
  have htl:t.l=ws.length:=by have:=own.out.1; rwa [ab9] at this
  have z6:=e6.size;refine gh (b:=h5.size) (vs:=encI none 0 0 ln) Ye ZR rfl ad ad WB rfl rfl own.out ad ad ad ?_;intro p' c' h7 s7 k7 _;have e57:Ext h5 h7:=Ch.trans e6 k7 (fun j hj hl=>by have:=(own.out.cB hj).1; omega);have e37:=e35.trans e57;have it:Zk h7 p' (t.l+1) c' (ws++[(⟨none,0,0⟩,ln)]):=by
   refine ⟨?_,fun u D=>?_⟩
   ·have:=s7.mono (em9 _)
    rw [ao9];exact this
   ·rcases ar9.1 D with D | D
    ·exact SL.rj ((own.fC u D).mono (em9 _)) k7 (nh own.out) bT
    ·rw [ai9.1 D];exact SL.nil _ _ _ _
  have b7:=b5.an e57 aj;have l8:O.size<=W.size:=e3.size;have z37:=e37.size;have ns0:NS O h7 b N gs gm n 0 W.size s ⟨none,0,0⟩ pw bl [] p' (t.l+1) c' (ws++[(⟨none,0,0⟩,ln)]) :=
   ⟨e3.trans e37,⟨ps.an e37 (uc.nil _ _) aj,kU.nil _ _,b7,it⟩,lo,ad,⟨nf,ms.an e37 aj⟩,⟨mf,nm,mm.an e37 aj,fun t=>by rw [P _ _ (aq9 _)]; rfl,fun q t Q=>P _ _ ad⟩,fun p hp=>.inl (ord p hp),l8,fun hm=>by
    have:=U3 ps.sl _ hm
    omega,aj,aj,fun _=>rfl,by rw [ag9 ad]; exact Q⟩
  refine aT (cs:=lM) (fun y k h'=>∃ (i:Nat) (s w:bU) (pw:List (Pl × bU)) (bl:Nat) (xs:List bM),y.1=(s.p,s.l,s.c)/\y.2.1=(i:Int)/\k=(b n).length+1-i/\i<=(b n).length+1/\NS O h' b N gs gm n i W.size s w pw bl xs p' (t.l+1) c' (ws++[(⟨none,0,0⟩,ln)])) ((s.p,s.l,s.c),(0:Int),()) ((b n).length+1) rfl
   ⟨0,s,⟨none,0,0⟩,pw,bl,[],rfl,rfl,rfl,ad,ns0⟩ ?_
  clear ns0 it b7 ps ms mm P ord Q;rintro ⟨⟨p18,l19,c20⟩,n21,⟨⟩⟩ k h8 ⟨i,s,w,pw,bl,xs,hs,hi2,rfl,hil,r⟩;simp only [Prod.mk.injEq] at hs hi2;obtain ⟨rfl,rfl,rfl⟩:=hs;subst hi2;refine ao ?_;have hwi:i<=(b n).length->IntKind.wrap .i64 ((i:Int)+1)=((i+1:Nat):Int):=fun _=>by rw [wrap_i64 ad ad]; omega
  refine aR ?_ ?_<;>intro g1
  ·have L:i<=(b n).length:=ad
   have hwi:=hwi L;have hiw:i<(ws++[((⟨none,0,0⟩:bU),ln)]).length:=by simp; omega
   obtain ⟨a,ha,hc⟩:=SL.cells r.mem.it.out (i:=i) (by rw [ab9]; exact hiw);rw [am9] at hc;have hin:=r.mem.it.fC _ (al9 hiw);have D:(i<(b n).length->∃ A:i<(b n).length,(ws++[((⟨none,0,0⟩:bU),ln)])[i].2=(b n)[i])/\(i=(b n).length->(ws++[((⟨none,0,0⟩:bU),ln)])[i]=(⟨none,0,0⟩,ln)):=by
    constructor
    ·intro A;refine ⟨A,?_⟩;rw [by9 ad]
     have:=am9 (l:=ws) (f:=(·.2)) (i:=i) (h:=by rw [ab9]; omega)
     rw [<- this]
     congr 1
    ·intro A;rw [ct9 ad];simp [hwl,A]
   generalize (ws++[((⟨none,0,0⟩:bU),ln)])[i]=u at hc hin D;obtain ⟨C,x⟩:=u;simp only at hin D;have hc:aH h8 (a.add (i*10)) 0 (encI C.p C.l C.c x):=hc;have hat:iV h8 C.p C.l x:=by
    by_cases A:i<(b n).length
    ·obtain ⟨_,E⟩:=D.1 A;exact Qa hin (by rw [E]; exact ok n _ hn (al9 A))
    ·have:=D.2 ad
     have h1:=(dr9 this).1;have h2:=(dr9 this).2;subst h1 h2;exact Qo _
   refine bS ha ?_;rw [cr i];refine ay (x.kind,x.name,x.inst.op,x.inst.a,x.inst.b,x.inst.n,x.inst.form,(C.p,C.l,C.c),(x.e.num:Int),x.n,()) hc (ao ?_);refine br ?_;intro h9 b9 e9 z9;refine bR b9 ?_;intro h10 J k10 z10;have J:bC h10 h8.size 55 (encI C.p C.l C.c x):=J;have F:Ext h8 h10:=bY e9 k10;refine az J (x.kind,x.name,x.inst.op,x.inst.a,x.inst.b,x.inst.n,x.inst.form,(C.p,C.l,C.c),(x.e.num:Int),x.n,()) (ao ?_);refine aK (MY (tb.an (r.e.trans F) aj) (hat.an F)) ?_;rintro _ h11 ⟨rfl,e11⟩;refine ⟨(xC x,()),rfl,ao ?_⟩;have e811:=F.trans e11;have ns':NS O h11 b N gs gm n i W.size s w pw bl xs p' (t.l+1) c' (ws++[(⟨none,0,0⟩,ln)]):=by
    obtain ⟨nf,m1⟩:=r.ms;obtain ⟨m,nm,m2,q1,q2⟩:=r.mm
    have:=e811.size
    have:=r.hi
    exact ⟨r.e.trans e811,r.mem.ext e811,r.lo,ad,⟨nf,m1.an e811 aj⟩,⟨m,nm,m2.an e811 aj,q1,q2⟩,r.ord,r.l8,r.n8,r.xl,r.pS,r.en,r.eq⟩
   have b11:=J.an e11 aj;have hpl:pw.length<=2^30:=by
    have:=as9 List.length r.eq
    rw [af9,ab9] at this;omega
   cases G:xC x with
   | true =>
    refine cj rfl ?_;have A:i<(b n).length:=by
     by_cases A:i<(b n).length
     ·exact A
     ·have h2:=(dr9 (D.2 ad)).2;rw [h2] at G;cases G
    obtain ⟨_,E⟩:=D.1 A;subst E;exact WN (q:=C.p) (m:=C.l) (d:=C.c) X hne K M ns' hn A hIn G b11 (hin.bK e811 aj) (ok n _ hn (al9 A)) fun h' w' R S =>
     aG (cs:=lM) ((s.p,s.l,s.c),((i+1:Nat):Int),()) ((b n).length+1-(i+1)) rfl ad (as9 (fun z=>[Value.slice s.p s.l s.c,Value.int .i64 z]) hwi) ⟨i+1,s,w',pw,bl,R,rfl,rfl,rfl,ad,S⟩
   | false =>
    refine cg rfl ?_;refine Xg (q:=C.p) (m:=C.l) (d:=C.c) (x:=x) K M ns' L hIn hpl (fun A=>by rw [(dr9 (D.2 A)).2]; rfl) ?_ b11 ?_ fun h' U w' pw' bl' R S =>
     aG (cs:=lM) ((U.p,U.l,U.c),((i+1:Nat):Int),()) ((b n).length+1-(i+1)) rfl ad (as9 (fun z=>[Value.slice U.p U.l U.c,Value.int .i64 z]) hwi) ⟨i+1,U,w',pw',bl',R,rfl,rfl,rfl,ad,S⟩
    ·by_cases A:i<(b n).length
     ·obtain ⟨_,E⟩:=D.1 A;rw [Qj hn A,<- E,G] <;> rfl
     ·exact Kc ad
    ·by_cases A:i<(b n).length
     ·obtain ⟨_,E⟩:=D.1 A;rw [A' A,<- E,G,ag9 (show i+1<=(b n).length from ad),ag9 (show i+1<=(b n).length from ad)] <;> rfl
     ·have V:i=(b n).length:=ad
      have h2:=(dr9 (D.2 V)).2;rw [h2,ag9 (show ln.kind=4 from rfl),ac9 ad,bz9,V,JX]
  ·have V:i=(b n).length+1:=ad
   have hx0:=r.en ad;have heq:=r.eq;rw [ac9 ad,dj9] at heq;obtain ⟨nf,m1⟩:=r.ms;obtain ⟨m,nm,m2,q1,q2⟩:=r.mm;rw [OX ad] at m1;subst hx0;have hw:=ic n;exact aG (cs:=lM) ((s.p,s.l,s.c),((n+1:Nat):Int),()) (N-(n+1)) rfl ad (as9 (fun z=>[Value.slice s.p s.l s.c,Value.int .i64 z]) hw) ⟨n+1,s,pw,bl,rfl,rfl,rfl,ad,r.e,r.mem.ps,r.lo,r.hi,⟨nf,m1⟩,⟨m,nm,m2,fun q t Q=>by
    by_cases hqe:q=s.l
    ·subst hqe; rw [q1]; rfl
    ·exact q2 q t ad⟩,fun p hp=>by rcases r.ord p hp with O | ⟨O,_⟩ <;> omega,heq⟩
 ·have hnN:n=N:=ad
  subst hnN;rw [U4 (aq9 _),bz9] at Q;rw [SI] at ms;subst hgs;exact ⟨e3,s,pw,_,nf,rfl,⟨ps.sl,fun x E=>⟨(ps.lits x E).1,fun j hj=>⟨((ps.lits x E).2 j hj).1,by have:=((ps.lits x E).2 j hj).2; omega⟩⟩⟩,Q,ms⟩
def YX:Tryz.prog.underlying 24=some (.slice 30):=ax
def XO:(Tryz.prog.info? 30).map (fun i=>(i.zero,i.size,i.bytes))=some (some (.agg #[vI 0,vI 0,.slice none 0 0]),3,40):=ax
structure Sw (h:Hp) (b bl:Nat) (s:bU) (pw:List (Pl × bU)):Prop where
 sl:SL h b 30 3 s.p s.l s.c (pw.map Ys)
 lits:∀ x,x∈pw->kU h 0 x.2 x.1.l/\∀ i,i∈aJ x.2.p->b<=i/\i<bl
def Sw.vw {h:Hp} {b bl:Nat} {s:bU} {pw:List (Pl × bU)} (v:Sw h b bl s pw) (c:pw.length<=2^40) (hl:∀ p,p∈pw.map (·.1)->p.l.length<=2^40):XD h s.p s.l (pw.map (·.1)) :=
 ⟨by have:=v.sl.1; rw [ab9] at this; rw [ab9]; exact this,by rw [ab9]; exact c,fun i hi=>by
  rw [ab9] at hi;obtain ⟨a,d,hc⟩:=SL.cells v.sl (i:=i) (by rw [ab9]; exact hi);rw [am9] at hc;rw [am9];exact ⟨a,pw[i].2,d,hc,(v.lits _ (al9 hi)).1.vw (hl _ (bc9 (al9 hi)))⟩⟩
def L5 {R:List Pl} (w:R.length<=2^30) (all:HC Xaz 22 #[ptr H] O fun v h'=>Ext O h'/\∃ s pw g,v=.tuple #[bU.v s,.map g]/\xR h' O.size h'.size s pw/\pw.map (·.1)=R) :
  HC Xaz 8 #[ptr H] O fun v h'=>Ext O h'/\∃ s pw,v=bU.v s/\Sw h' O.size h'.size s pw/\pw.map (·.1)=R:=by
 refine bd (args:=[ptr H]) mixed Tryz.func8 ax (zY (some ⟨H,0,none⟩)) ?_;unfold xu aY bh bt aI bP bn bg aQ cY;refine aK all ?_;rintro _ h1 ⟨A,s,pw,g,rfl,ps,m⟩;refine ⟨((s.p,s.l,s.c),g,()),rfl,ao ?_⟩;have C:s.l=pw.length:=by have:=ps.sl.1; rwa [ab9] at this
 have D:pw.length<=2^30:=by rw [<- m,ab9] at w; exact w
 have z1:=A.size;refine aT (cs:=lM) (fun y k h'=>∃ (i:Nat) (t:bU),y.1=(t.p,t.l,t.c)/\y.2.1=(i:Int)/\k=pw.length-i/\i<=pw.length/\Ext h1 h'/\SL h' h1.size 30 3 t.p t.l t.c ((pw.take i).map Ys)) ((none,0,0),(0:Int),()) pw.length rfl
  ⟨0,⟨none,0,0⟩,rfl,rfl,rfl,ad,Ch.refl _ _,SL.nil _ _ _ _⟩ ?_
 rintro ⟨⟨P,Q,S⟩,n8,⟨⟩⟩ k h2 ⟨i,t,ht,hi,rfl,E,e,sl⟩;simp only [Prod.mk.injEq] at ht hi;obtain ⟨rfl,rfl,rfl⟩:=ht;subst hi;refine ao ?_;have F:t.l=i:=by have:=sl.1; rw [ab9,az9] at this; omega
 refine aR ?_ ?_<;>intro g
 ·have n:i<pw.length:=ad
  obtain ⟨a,G,hc⟩:=SL.cells ps.sl (i:=i) (by rw [ab9]; exact n);rw [am9] at hc;refine bS G ?_;rw [cr i];refine ay ((pw[i].1.u:Int),(pw[i].1.i:Int),(pw[i].2.p,pw[i].2.l,pw[i].2.c),()) (aM e aj _ _ hc) (ao ?_);refine br ?_;intro U I J z3;refine bR I ?_;intro h4 o K z4;have o:bC h4 h2.size 84 (Ys pw[i]):=o;have d:Ext h2 h4:=bY J K;refine az o ((pw[i].1.u:Int),(pw[i].1.i:Int),(pw[i].2.p,pw[i].2.l,pw[i].2.c),()) (ao ?_);have z2:=e.size;have z24:=d.size;refine gh (b:=h1.size) (vs:=Ys pw[i]) YX XO rfl ad ad (RQ pw[i].1.u pw[i].1.i pw[i].2.p pw[i].2.l pw[i].2.c) rfl rfl (sl.an d aj) ad ad ad ?_;intro p' c' h5 L M _;have q:Ext h1 h5:=Ch.trans (e.trans d) M (fun j f hl=>by have:=(sl.cB f).1; omega);have hw:=ic i;refine aG (cs:=lM) ((p',t.l+1,c'),((i+1:Nat):Int),()) (pw.length-(i+1)) rfl ad (as9 (fun z=>[Value.slice p' (t.l+1) c',Value.int .i64 z]) hw) ⟨i+1,⟨p',t.l+1,c'⟩,rfl,rfl,rfl,ad,q,?_⟩;rw [ae9 n,ao9];exact L
 ·have r:i=pw.length:=ad
  subst r;rw [bj9] at sl;refine ⟨A.trans e,t,pw,rfl,⟨sl.mono z1,fun x N=>?_⟩,m⟩;obtain ⟨h1,h2⟩:=ps.lits x N;have z2:=e.size;exact ⟨h1.Pu e (uc.nil _ _) (fun j f=>(h2 j f).2),fun j f=>⟨(h2 j f).1,by have:=(h2 j f).2; omega⟩⟩
theorem yd (u:Nat):∀ (j:Nat) (its:List cC) (i:Nat) (l:List bM),j<=its.length->∃ out l',oy u i its l=out++oy u (i+j) (its.drop j) l'/\∀ p,p∈out->p.u=u/\p.i<i+j
 | 0,its,i,l,_=>⟨[],l,rfl,aj⟩
 | j+1,[],i,l,h=>absurd h aj
 | j+1,x::its,i,l,h=>by
  have h:j<=its.length:=by simp at h; omega
  rw [show oy u i (x::its) l=if x.kind=4 then shut u i l++oy u (i+1) its [] else oy u (i+1) its (if xC x then eR l x.e else l) from rfl]
  by_cases hk:x.kind=4
  ·rw [ag9 hk];obtain ⟨out,l',h1,h2⟩:=yd u j its (i+1) [] h;refine ⟨shut u i l++out,l',by rw [h1,ay9,List.drop_succ_cons,show i+(j+1)=i+1+j from ad],fun p a=>?_⟩;rcases ar9.1 a with a | a
   ·unfold shut at a;split at a
    ·exact absurd a aj
    ·rw [ai9.1 a];exact ⟨rfl,by show i<_; omega⟩
   ·have:=h2 p a
    exact ⟨this.1,ad⟩
  ·rw [ac9 hk];obtain ⟨out,l',h1,h2⟩:=yd u j its (i+1) (if xC x then eR l x.e else l) h;exact ⟨out,l',by rw [h1,List.drop_succ_cons,show i+(j+1)=i+1+j from ad],fun p a=>by
    have:=h2 p a
    exact ⟨this.1,ad⟩⟩
theorem Lj (u:Nat):∀ (its:List cC) (i:Nat) (l:List bM) (p:Pl),p∈oy u i its l->p.u=u
 | [],i,l,p,h=>by
  unfold oy shut at h;split at h
  ·exact absurd h aj
  ·rw [ai9.1 h]
 | x::its,i,l,p,h=>by
  unfold oy at h;split at h
  ·rcases ar9.1 h with h | h
   ·unfold shut at h;split at h
    ·exact absurd h aj
    ·rw [ai9.1 h]
   ·exact Lj u its _ _ p h
  ·exact Lj u its _ _ p h
def TC {I:Nat->List cC} {N u i:Nat} (f:u<N) (hi:i<(I u).length) (hl:xC (I u)[i]=true) :
  ∃ out rest l,EQ I N=out++(oy u (i+1) ((I u).drop (i+1)) (eR l (I u)[i].e)++rest)/\(∀ p,p∈out->p.u<u\/p.u=u/\p.i<i)/\(∀ p,p∈rest->u<p.u)/\Ca (EQ I N) u i (I u)[i].e=some (out.length,gg (eR l (I u)[i].e) (I u)[i].e):=by
 have h0:∀ n,n<=N->EQ I N=(List.range n).flatMap (fun u=>oy u 0 (I u) [])++H6 I N n:=by
  intro n
  induction n with
  | zero=>intro _; rfl
  | succ n g =>
   intro hn;rw [g ad,Lg (show n<N from ad),fs9,dt9]
   simp
 have h1:=h0 u ad;rw [Lg f] at h1;obtain ⟨out,l,h2,h⟩:=yd u i (I u) 0 [] ad;rw [List.drop_zero,h2,bu9,A' hi] at h1;have hk:¬ (I u)[i].kind=4:=by
  intro hk;unfold xC at hl;rw [hk] at hl;exact absurd hl aj
 rw [ac9 hk,ag9 hl] at h1;have d:∀ p,p∈(List.range u).flatMap (fun u=>oy u 0 (I u) [])++out->p.u<u\/p.u=u/\p.i<i:=by
  intro p c;rcases ar9.1 c with c | c
  ·obtain ⟨v,hv,c⟩:=ec9.1 c;rw [Lj v _ _ _ p c];exact .inl (dv9.1 hv)
  ·obtain ⟨a,b⟩:=h p c;exact .inr ⟨a,ad⟩
 rw [ay9,<- ay9] at h1;refine ⟨_,_,l,h1,d,?_,?_⟩
 ·intro p c;unfold H6 at c;obtain ⟨v,hv,c⟩:=ec9.1 c;rw [Lj _ _ _ _ p c];obtain ⟨k,hk,rfl⟩:=List.mem_iff_getElem.1 hv;rw [List.getElem_drop,List.getElem_range];omega
 ·rw [h1];exact Ei (x:=(I u)[i]) d hl
def PY {u i:Int} {q:Nat × Int} (h:rl b H u i=some q):0<=q.2:=by
 unfold rl at h;split at h
 ·cases h
 ·next d =>
  split at h
  ·next x a =>
   split at h
   ·next hl =>
    obtain ⟨hi,rfl⟩:=ax9.1 a;obtain ⟨out,rest,l,_,_,_,c⟩:=TC (I:=b) (N:=H) (u:=u.toNat) ad hi hl;rw [c] at h;cases h;exact xz _ _
   ·cases h
  ·cases h
def QH (all:HC Xaz 22 #[ptr H] O fun v h'=>Ext O h'/\∃ s gs nf,v=.tuple #[bU.v s,.map (some gs)]/\fx nz Wz h' gs (zP b V) nf) (u i:Int) :
  HC Xaz 9 #[ptr H,vI u,vI i] O fun v h'=>Ext O h'/\v=Yv (rl b V u i):=by
 refine bd (args:=[ptr H,vI u,vI i]) mixed Tryz.func9 ax (Cc (some ⟨H,0,none⟩) u i) ?_;unfold zJ bP bQ bG cn;refine aK all ?_;rintro _ h1 ⟨f,s,gs,nf,rfl,m⟩;refine ⟨((s.p,s.l,s.c),some gs,()),rfl,ao ?_⟩;refine Pt m (u,i) ?_;refine br ?_;intro n g j z3;refine bR g ?_;intro h4 a k z4;have d:Ext h1 h4:=bY j k;have a:bC h4 h1.size 86 [vI ((((zP b V (u,i)).getD (0,0)).1:Nat):Int),vI ((((zP b V (u,i)).getD (0,0)).2:Nat):Int)]:=a;refine az a (((((zP b V (u,i)).getD (0,0)).1:Nat):Int),()) (ao ?_);rw [aE];refine az a (((((zP b V (u,i)).getD (0,0)).2:Nat):Int),()) (ao ?_);refine ⟨⟨a.cells _ rfl,trivial⟩,f.trans d,?_⟩;show Value.tuple _=_;cases e:rl b V u i with
 | none=>rw [show zP b V (u,i)=none by unfold zP; rw [e]; rfl]; rfl
 | some q =>
  have:=PY e
  rw [show zP b V (u,i)=some (q.1,q.2.toNat) by unfold zP; rw [e]; rfl];show Value.tuple #[vI (q.1:Int),vI ((q.2.toNat:Nat):Int),.bool true]=Value.tuple #[vI (q.1:Int),vI q.2,.bool true];rw [show ((q.2.toNat:Nat):Int)=q.2 from ad]
def TB (h:H<=2^60):(Lib.decDigits H).length<=20:=by
 rw [Lib.decDigits_length]
 by_cases h0:H=0
 ·subst h0; rw [Lib.nDigits_small ad]; omega
 ·have:=Lib.numDigits_eq H ad ad
  split at this <;> omega
def C' {c:UInt8} (hc:c=76\/c=69) (h:H<=2^60):cE (c::Lib.decDigits H)=true:=by
 have hl:=TB h;have hd:=(CN H).1;have e:dI c=true:=by rcases hc with rfl | rfl <;> decide
 unfold cE;have h1:decide (0<(c::Lib.decDigits H).length)=true:=aj
 have h2:decide ((c::Lib.decDigits H).length<=32)=true:=by simp; omega
 have g:((c::Lib.decDigits H).all fun c=>dI c || dL c)=true:=by
  rw [ff9,e,Bool.true_or,bl9,bn9];intro x i;rw [hd x i,Bool.or_true]
 have j:(ry (c::Lib.decDigits H)).2.2=false:=by
  by_cases d:(c::Lib.decDigits H).length=2
  ·obtain ⟨a,b,f⟩:∃ a b,c::Lib.decDigits H=[a,b]:=by
    match h:Lib.decDigits H with
    | []=>rw [h] at d; simp at d
    | [b]=>exact ⟨c,b,rfl⟩
    | _::_::_=>rw [h] at d; simp at d
   rw [f];have k:a=c:=by injection f with h _; exact h.symm
   subst k;show (ry [a,b]).2.2=false;unfold ry;have l:¬ cN a=114:=by rcases hc with rfl | rfl <;> decide
   have m:¬ cN a=122:=by rcases hc with rfl | rfl <;> decide
   simp [l,m]
  ·rw [Bh d]
 rw [h1,h2,g,j];show (true && true && dI c && true && !false)=true;rw [e] <;> rfl
def IV {w:LW} (b:Q3 w) (k:Ky):cE (w.word k).data.toList=true:=by
 unfold LW.word;cases h:w.num k with
 | some n =>
  have:=b.n _ _ h
  show cE ((⟨#[76]⟩:Xaa)++lF n).data.toList=true;rw [oA,ei];exact C' (.inl rfl) ad
 | none =>
  have h1:(w.sK k).getD 0<=2^60:=by
   cases h2:w.sK k with
   | none=>simp
   | some i=>have:=b.e _ _ h2; simp; omega
  show cE ((⟨#[69]⟩:Xaa)++lF ((w.sK k).getD 0)).data.toList=true;rw [oA,ei];exact C' (.inr rfl) h1
section
variable {us:List cv} {w:LW}
variable {H:Nat} {O:bM}
def Qn (A:oT us w) (hn:H<us.length) (a:w.bad H O=none):∀ t,t∈(w.lin H O).ah->∃ k,VH us k/\t.1=w.word k:=by
 intro t ht;obtain ⟨p,k,d,hk,b⟩:=Ek a t ht;rw [A.own hn] at hk;obtain ⟨o,c,rfl⟩:=et9.1 hk;exact ⟨_,Fo A.right c,b⟩
def QW (A:oT us w) (h:fO w 0 us=none) (hc:lZ (om w us)=none) (hn:H<us.length) (a:w.bad H O=none):∀ t,t∈(oh (jr (om w us)) (w.lin H O)).ah->∃ k,VH us k/\t.1=w.word k:=by
 intro t ht;have b:((om w us).map (·.1)).Nodup:=by rw [Iv]; exact (A.two h).WO
 rcases pW ht with ⟨p,i,c,_⟩ | ⟨p,y,v,i,ho,hv,c⟩
 ·obtain ⟨k,hk,e⟩:=Qn A hn a p i;exact ⟨k,hk,by rw [<- c,e]⟩
 ·rw [sq b] at ho
  by_cases f:cF (fg (om w us)) p.1=true
  ·rw [ag9 f] at ho;have ho:=bb9 ho;subst ho;obtain ⟨_,s,u,m,j,e⟩:=tC (own:=cF (fg (om w us))) (lin:=dB (fg (om w us))) (names:=Sx.aX (fg (om w us))) (fun s=>dV _ s) (JA hc) ((dV _ _).1 f) v hv;obtain ⟨d,o,_,r⟩:=kG m;rw [r] at j;obtain ⟨y,z,rfl⟩:=an9.1 o;obtain ⟨q,l,rfl⟩:=an9.1 (show y∈(eJ 0 us).map (fun q=>(w.word (jy q),w.lin q.1 q.2.2)) from z);obtain ⟨C,g,_⟩:=Al l;obtain ⟨k,hk,B⟩:=Qn A (ax9.1 g).1 (As h l) u j;exact ⟨k,hk,by rw [<- c,<- e,B]⟩
  ·rw [ac9 f] at ho; cases ho
def T4 (A:oT us w) (r:Fw us) (c:fO w 0 us=none) (hc:lZ (om w us)=none) (hn:H<us.length) (a:w.bad H O=none):(oh (jr (om w us)) (w.lin H O)).ah.length<=2^20:=by
 have b:Nf (oh (jr (om w us)) (w.lin H O)).ah:=eP _ _;have h1:((oh (jr (om w us)) (w.lin H O)).ah.map (·.1)).Nodup:=cr9.2 (b.1.imp fun h=>jX h);have h2:=kb _ (((cy 0 us).map Ao++(eJ 0 us).map jy).map w.word) h1 (fun s d=>by
  obtain ⟨t,ht,rfl⟩:=an9.1 d;obtain ⟨k,hk,e⟩:=QW A c hc hn a t ht;rw [e];refine bc9 (ar9.2 ?_);exact hk)
 have h3:=r.eK;have h4:=r.eqs;rw [ab9,ab9,af9,ab9,ab9] at h2;omega
end
def Wn {us:List cv} {P:LP} (s:FC us (.ok P)) (sm:H7 us) {h0:Hp} {usl lb:bU} {S:Nat->kV} (b:One h0 O us P H usl lb S) {hv:Hp} (v:xA hv Z V us) (hn:a<us.length) :
  ∀ x,x∈(Ag us[a] 0).map (P.fD a)->BQ x:=by
 intro x q;obtain ⟨_,i,u,z,A,j,hc,_⟩:=s;have r:Fw us:=⟨A.right,i⟩
 have ok:=b.ok v hn (show 0<2 from ad) x q;obtain ⟨y,C,rfl⟩:=an9.1 q;have f:y∈us[a].text:=C;have hbn:=j1 us 0 j a hn;rw [bu9] at hbn;have hbx:=(x5 hbn).1 y f;have e:(P.fD a y).e=oh (jr (om P.w us)) (P.w.lin a y.e):=by rw [<- z]; rfl
 have hky:=QW A j hc hn hbx;have hln:=T4 A r j hc hn hbx;have lw:=r.Kx A.wi;have d:Nf (oh (jr (om P.w us)) (P.w.lin a y.e)).ah:=eP _ _;have m:us[a]∈us:=al9 hn;have o:y.e∈cR us[a]:=by
  unfold cR;simp only [List.mem_append,List.mem_map];exact .inl (.inl ⟨y,f,rfl⟩)
 have c:(oh (jr (om P.w us)) (P.w.lin a y.e)).num<4294967296:=jl (jl (sm.num _ m _ o).1);rw [<- e] at hky hln d c;have g:∀ t,t∈(P.fD a y).e.ah->cE t.1.data.toList=true:=fun t ht=>by
  obtain ⟨k,_,D⟩:=hky t ht;rw [D];exact IV lw k
 exact ⟨⟨ok.2.2.1,ok.2.2.2⟩,⟨d,g,c⟩,ad,fun t ht=>⟨BC (g t ht),(d.2 t ht).2⟩,c,ok.1,ok.2.1⟩
end Go.Sx.Po
namespace Go.Sx.Lk
open Go.Proofs Go.Sx.Ob
section
variable {h0 h h':Hp} {us:List cv} {su:bU} {P:LP} {B:Nat} {usl lb:bU} {S:Nat->kV} {g b':Nat} {lb2 st sd:bU} {tw dw:List (bU × List (bU × cC))}
def CH.Z4 (b:CH h0 h us su P B usl lb S g b' lb2 st sd tw dw) {hv:Hp} {p:Xac} {l:Nat} (v:xA hv p l us) {n:Nat} (hn:n<us.length) :
  ∃ (a:Xax) (t:bU),st.p=some a/\aH h (a.add (n*1)) 0 [t.v]/\FJ h t.p t.l ((Ag us[n] 0).map (P.fD n)):=by
 have tr:=b.tx;have d:=b.ti;have e:n<tw.length:=by rw [d.1]; exact hn
 obtain ⟨a,f,hc⟩:=SL.cells tr.sl (i:=n) (by rw [ab9]; exact e);rw [am9] at hc;have hin:=tr.fC _ (al9 e);have hd:=d.2 n us[n] tw[n] (ad9 hn) (ad9 e);have hd:tw[n].2.map (·.2)=(Ag us[n] 0).map (P.fD n):=hd;refine ⟨a,tw[n].1,f,hc,?_⟩;have o:CC h b' tw[n].1 tw[n].2:=⟨hin.sl,hin.own⟩
 have hm:=b.one.many hn (show 0<2 from ad);have c:tw[n].2.length<=2^60:=by
  have:=as9 List.length hd
  rw [ab9,ab9] at this;omega
 have:=o.vw c (by rw [hd]; exact b.one.ok v hn (show 0<2 from ad))
 rwa [hd] at this
end
end Go.Sx.Lk
namespace Go.Sx.Po
open Go.Proofs Go.Sx.Ob Go.Sx.Lk
def PI (h:Hp):Prop:=∀ h',Ext h h'->HC Xaz 10 #[] h' fun v h''=>v=.bool true/\Ext h' h''
def Js {L:Lp} {h h1:Hp} (b:PI h) (a:Ext h h1):(T.call Xaz 10 [] false [(false,[.bool])] fun (c:Bool)=>T.ret (.bool c)) L (fun w h'=>w=.bool true/\Ext h h') h1:=by
 refine aK (b h1 a) ?_;rintro _ h2 ⟨rfl,d⟩;exact ⟨(true,()),rfl,rfl,a.trans d⟩
theorem E1 (u:Nat):∀ (its:List cC) (i:Nat) (l:List bM),(oy u i its l).length<=its.length+1/\∀ p,p∈oy u i its l->p.l.length<=l.length+its.length
 | [],i,l=>by
  unfold oy shut;split
  ·simp
  ·simp
 | x::its,i,l=>by
  unfold oy;split
  ·obtain ⟨h1,h2⟩:=E1 u its (i+1) [];have h3:=RR u i l;refine ⟨by simp; omega,fun p a=>?_⟩;rcases ar9.1 a with a | a
   ·unfold shut at a;split at a
    ·exact absurd a aj
    ·rw [ai9.1 a];show l.length<=_;omega
   ·have:=h2 p a
    simp at this ⊢;omega
  ·obtain ⟨h1,h2⟩:=E1 u its (i+1) (if xC x then eR l x.e else l);have h3:(if xC x then eR l x.e else l).length<=l.length+1:=by
    split
    ·unfold eR;split
     ·simp
     ·omega
    ·omega
   refine ⟨by simp; omega,fun p a=>?_⟩
   have:=h2 p a
   simp at this ⊢;omega
def Xn {I:Nat->List cC} {N m:Nat} (h:∀ n,n<N->(I n).length<=m):(EQ I N).length<=N*(m+1)/\∀ p,p∈EQ I N->p.l.length<=m:=by
 constructor
 ·unfold EQ;rw [ep9]
  have:∀ l:List Nat,(∀ n,n∈l->n<N)->(l.map fun u=>(oy u 0 (I u) []).length).sum<=l.length*(m+1):=by
   intro l
   induction l with
   | nil=>intro _; simp
   | cons n l b =>
    intro hl;have h1:=b fun k hk=>hl k (ap9 _ hk)
    have h2:=(E1 n (I n) 0 []).1;have h3:=h n (hl n aj);rw [bq9,cn9,cj9,Nat.succ_mul];omega
  have:=this (List.range N) (fun n hn=>dv9.1 hn)
  rwa [du9] at this
 ·intro p a;obtain ⟨n,hn,a⟩:=ec9.1 a;have h1:=(E1 n (I n) 0 []).2 p a;have h2:=h n (dv9.1 hn);simp at h1;omega
def IU (us:List cv) (P:LP) (n:Nat):List cC:=if hn:n<us.length then (Ag us[n] 0).map (P.fD n) else []
structure Np (h:Hp) (us:List cv) (P:LP) (B:Nat):Prop where
 un:∀ h',Ext h h'->uu Xaz 39 [ptr (B+3)] h' (vI (us.length:Int))
 its:∀ h',Ext h h'->∀ n:Nat,n<us.length->HC Xaz 40 #[ptr (B+3),vI (n:Int),vI 0] h' fun v h''=>Ext h' h''/\∃ t ws,v=bU.v t/\CC h'' h'.size t ws/\ws.map (·.2)=IU us P n
 ok:∀ n x,n<us.length->x∈IU us P n->BQ x
 len:∀ n,n<us.length->(IU us P n).length<=8192
 many:us.length<=64
section
variable {h0 h h':Hp} {us:List cv} {su:bU} {P:LP} {B:Nat} {usl lb:bU} {S:Nat->kV} {g b':Nat} {lb2 st sd:bU} {tw dw:List (bU × List (bU × cC))}
variable {H:Xac}
def _root_.Go.Sx.Lk.CH.prg (b:CH h0 h us su P B usl lb S g b' lb2 st sd tw dw) (d:FC us (.ok P)) (sm:H7 us) {hv:Hp} {l:Nat} (v:xA hv H l us):Np h us P B:=by
 have ag':=d;obtain ⟨_,a,_,_,A,_,_,_⟩:=ag';have r:Fw us:=⟨A.right,a⟩
 refine ⟨fun h' e=>Oo (b.one.ext e).pg,fun h' e n hn=>?_,fun n x hn c=>?_,fun n hn=>?_,a⟩
 ·refine HC.mono ((b.one.ext e).out ad v hn (show 0<2 from ad)) fun w h'' f=>?_
  obtain ⟨i,t,ws,j,o,k,m⟩:=f;exact ⟨i,t,ws,j,o,by unfold IU; rw [dif_pos hn]; exact k⟩
 ·unfold IU at c;rw [dif_pos hn] at c;exact Wn d sm b.one v hn x c
 ·unfold IU;rw [dif_pos hn,ab9]
  have:=(r.bj (al9 hn)).2
  show us[n].text.length<=_;omega
def _root_.Go.Sx.Lk.CH.Yg (b:CH h0 h us su P B usl lb S g b' lb2 st sd tw dw) {hv:Hp} {l:Nat} (v:xA hv H l us):CY h st us.length (IU us P):=by
 refine ⟨?_,fun n hn=>?_⟩
 ·have:=b.tx.sl.1
  rw [ab9,b.ti.1] at this;exact this
 ·obtain ⟨a,t,c,hc,hv⟩:=b.Z4 v hn;refine ⟨a,t,c,hc,?_⟩;unfold IU;rw [dif_pos hn];exact hv
def Np.an (p:Np h us P B) (e:Ext h h'):Np h' us P B:=⟨fun h2 a=>p.un h2 (e.trans a),fun h2 a=>p.its h2 (e.trans a),p.ok,p.len,p.many⟩
def Np.sz (p:Np h us P B):(EQ (IU us P) us.length).length<=2^30/\∀ q,q∈EQ (IU us P) us.length->q.l.length<=8192:=by
 obtain ⟨h1,h2⟩:=Xn (I:=IU us P) (N:=us.length) p.len
 have:=p.many
 have a:us.length*(8192+1)<=64*(8192+1):=cl9 _ this;exact ⟨ad,h2⟩
def Np.all (p:Np h us P B) (pw:eM h) (a:yO h):HC Xaz 22 #[ptr (B+3)] h fun v h'=>Ext h h'/\∃ s pw gs nf,v=.tuple #[bU.v s,.map (some gs)]/\xR h' h.size h'.size s pw/\pw.map (·.1)=EQ (IU us P) us.length/\fx nz Wz h' gs (zP (IU us P) us.length) nf :=
 EV pw a (by have:=p.many; omega) p.un p.its (fun n hn=>by have:=p.len n hn; omega) p.sz.1 p.ok
def Np.X0 (p:Np h us P B) (pw:eM h) (b:yO h):HC Xaz 8 #[ptr (B+3)] h fun v h'=>Ext h h'/\∃ s pw,v=bU.v s/\Sw h' h.size h'.size s pw/\pw.map (·.1)=EQ (IU us P) us.length :=
 L5 p.sz.1 (HC.mono (p.all pw b) fun v h' c=>by
  obtain ⟨e,s,pw,gs,nf,hv,ps,a,_⟩:=c;exact ⟨e,s,pw,_,hv,ps,a⟩)
def Np.slot (p:Np h us P B) (pw:eM h) (a:yO h) (u i:Int):HC Xaz 9 #[ptr (B+3),vI u,vI i] h fun v h'=>Ext h h'/\v=Yv (rl (IU us P) us.length u i) :=
 QH (HC.mono (p.all pw a) fun v h' b=>by
  obtain ⟨e,s,pw,gs,nf,hv,_,_,m⟩:=b;exact ⟨e,s,gs,nf,hv,m⟩) u i
end
def Qg (o:Option (Nat × Int)):∃ a b c,Yv o=.tuple #[vI a,vI b,.bool c]:=by cases o <;> exact ⟨_,_,_,rfl⟩
end Go.Sx.Po
namespace Go.Sx
def Nl {P:Program} {h:Hp} {t e:TypeId} {i:TypeInfo} {a b c d:Int} (ht:P.underlying t=some (.array 2 e)) (g:P.underlying e=some (.int .i64)) (hi:P.info? e=some i) (j:P.cellsOf e=1) (K:Bool->Hp->Prop) :
  aS P (Op.equal t (.agg #[vI a,vI b]) (.agg #[vI c,vI d])) h K=K (a==c && (b==d && true)) h:=by
 show aS P (Op.equalIn (9998+2) t (.agg #[vI a,vI b]) (.agg #[vI c,vI d])) h K=_;have f:cH P e=some false:=by unfold cH; rw [g]
 unfold Op.equalIn;rw [av,aC ht];simp only;rw [av,cd hi,j,Std.Legacy.Range.forIn_eq_forIn_range'];simp only [show List.range' (0:Nat) (Std.Legacy.Range.size [:2]) 1=[0,1] from rfl,List.forIn_cons,List.forIn_nil];rw [av,av,av,lR f (off:=0*1) (v:=vI a) rfl,av,lR f (off:=0*1) (v:=vI c) rfl,av,qJ g (by simp [RV])];show aS P _ h _=_;cases h1:(a==c) with
 | false=>simp only [Ur,h1]; rfl
 | true =>
  simp only [Ur,h1,Bool.not_true,Bool.false_eq_true,if_false,Bool.true_and];rw [DV];simp only;rw [av,av,lR f (off:=1*1) (v:=vI b) rfl,av,lR f (off:=1*1) (v:=vI d) rfl,av,qJ g (by simp [RV])];cases h2:(b==d) with
  | false=>simp only [Ur,h2]; rfl
  | true=>simp only [Ur,h2]; rfl
end Go.Sx
namespace Go.Sx.Po
open Go.Proofs Go.Sx.Ob Go.Sx.Lk
def Vq:Tryz.prog.underlying 57=some (.array 2 3):=ax
def UW:Tryz.prog.underlying 41=some (.map 57 53):=ax
def ZT:Tryz.prog.underlying 3=some (.int .i64):=ax
def YE:∃ i,Tryz.prog.info? 3=some i:=cg9.1 ax
def Wj:Tryz.prog.cellsOf 3=1:=ax
def Pd (b:Bool) (n m:Int) (h:Hp) (K:Unit->Hp->Prop):aS Xaz (Instr.checkKey b 10000 57 (.agg #[vI n,vI m])) h K=K () h:=ax
def kaT:wA Xaz 57 nz where
 check b a h K hk:=by rw [show nz a=.agg #[vI a.1,vI a.2] from rfl,Pd]; exact hk
 kind:=⟨_,Vq,fun a b=>rfl⟩
 eqv a b h K hk:=by
  obtain ⟨i,hi⟩:=YE;show aS Xaz (Op.equal 57 (.agg #[vI a.1,vI a.2]) (.agg #[vI b.1,vI b.2])) h K;rw [Nl Vq ZT hi Wj];have e:decide (a=b)=(a.1==b.1 && (a.2==b.2 && true)):=by
   obtain ⟨c,d⟩:=a;obtain ⟨f,g⟩:=b;show decide ((c,d)=(f,g))=(c==f && (d==g && true));rw [cz9,ds9];simp only [Prod.mk.injEq,decide_eq_true_eq,Bool.and_eq_true,beq_iff_eq]
  rw [<- e];exact hk
 bits a:=by
  show ((2:Nat)==2 && _)=true;simp [Instr.sameBits,nz]
 inj:=Zr.inj
def Za (out:List Pl) (l:List bM) (k:Int × Int):Prop:=0<=k.1/\0<=k.2/\((∃ p,out[k.1.toNat]?=some p/\k.2<(p.l.length:Int))\/k.1=(out.length:Int)/\k.2<(l.length:Int))
def xI (out:List Pl):Nat:=(out.map fun p=>p.l.length).sum
structure O8 (f:Int × Int->Option Xab) (c:Nat) (out:List Pl) (l:List bM):Prop where
 mem:∀ k,(f k).isSome=true↔Za out l k
 jn:c=xI out+l.length
def O8.nil:O8 (fun _=>none) 0 [] []:=⟨fun k=>by unfold Za; simp; omega,rfl⟩
def O8.shut {f:Int × Int->Option Xab} {c:Nat} {out:List Pl} {l:List bM} (w:O8 f c out l) (u i:Nat):O8 f c (out++Po.shut u i l) []:=by
 unfold Po.shut;split
 ·next h =>
  have:l=[]:=bo9 h
  subst this;rw [bz9];exact w
 ·next h =>
  refine ⟨fun k=>(w.mem k).trans ?_,by rw [w.jn]; unfold xI; simp⟩;unfold Za;constructor
  ·rintro ⟨h1,h2,d⟩;refine ⟨h1,h2,.inl ?_⟩;rcases d with ⟨p,a,hl⟩ | ⟨j,hl⟩
   ·exact ⟨p,by rw [bp9 (ax9.1 a).1]; exact a,hl⟩
   ·refine ⟨⟨u,i,l⟩,?_,hl⟩;rw [j,show ((out.length:Nat):Int).toNat=out.length from ad,bi9 (aq9 _),ex9] <;> rfl
  ·rintro ⟨h1,h2,d⟩;refine ⟨h1,h2,?_⟩;rcases d with ⟨p,a,hl⟩ | ⟨j,hl⟩
   ·by_cases g:k.1.toNat<out.length
    ·rw [bp9 g] at a;exact .inl ⟨p,a,hl⟩
    ·rw [bi9 ad] at a;obtain ⟨b,a⟩:=ax9.1 a;rw [List.length_singleton] at b;have e:k.1.toNat-out.length=0:=ad
     simp only [e,List.getElem_cons_zero] at a;subst a;exact .inr ⟨ad,hl⟩
   ·exact absurd hl (by simp; omega)
def KA {l:List bM} {x:bM}:gg l x<(l.length:Int):=by
 unfold gg;split
 ·next k hk =>
  obtain ⟨h,_⟩:=bd9.1 hk;omega
 ·omega
variable {V:List bM}
def Mu {x:bM} {k:Nat} (h:gg V x=(k:Int)):∃ hk:k<V.length,gS V[k] x=true:=by
 unfold gg at h;split at h
 ·next j a =>
  obtain ⟨h1,h2,_⟩:=bd9.1 a
  have:j=k:=ad
  subst this;exact ⟨h1,h2⟩
 ·omega
variable {Y:Int × Int->Option Xab} {H U a:Nat}
def O8.put {out:List Pl} (w:O8 Y H out V) (x:bM) (v:Xab) :
  O8 (pT Y ((out.length:Int),gg (eR V x) x) v) (if (Y ((out.length:Int),gg (eR V x) x)).isSome then H else H+1) out (eR V x):=by
 have hp:=xz V x;have hlt:=KA (l:=eR V x) (x:=x);have hq:=AQ V x;have old:(Y ((out.length:Int),gg (eR V x) x)).isSome=true↔gg (eR V x) x<(V.length:Int):=by
  rw [w.mem];unfold Za;simp only;constructor
  ·rintro ⟨_,_,⟨p,h,_⟩ | ⟨_,h⟩⟩
   ·rw [show ((out.length:Nat):Int).toNat=out.length from ad,bs9 (aq9 _)] at h;cases h
   ·exact h
  ·exact fun h=>⟨ad,hp,.inr ⟨trivial,h⟩⟩
 have a:(eR V x).length=if gg V x<0 then V.length+1 else V.length:=by
  unfold eR;split
  ·simp
  ·rfl
 have hle:=KA (l:=V) (x:=x);refine ⟨fun k=>?_,?_⟩
 ·unfold pT;split
  ·next h =>
   subst h;refine ⟨fun _=>⟨by show (0:Int)<=(out.length:Int); omega,hp,.inr ⟨rfl,hlt⟩⟩,fun _=>rfl⟩
  ·next h =>
   rw [w.mem];unfold Za;constructor
   ·rintro ⟨h1,h2,b | ⟨b,g⟩⟩
    ·exact ⟨h1,h2,.inl b⟩
    ·refine ⟨h1,h2,.inr ⟨b,?_⟩⟩;split at a <;> omega
   ·rintro ⟨h1,h2,b | ⟨b,g⟩⟩
    ·exact ⟨h1,h2,.inl b⟩
    ·refine ⟨h1,h2,.inr ⟨b,?_⟩⟩
     have:¬ k.2=gg (eR V x) x:=fun e=>h (by obtain ⟨i,j⟩:=k; simp only at b e; rw [b,e])
     split at a
     ·next d=>rw [ag9 d] at hq; omega
     ·omega
 ·have:=w.jn
  by_cases h:gg V x<0
  ·rw [ag9 h] at a hq;rw [ac9 (fun d=>by have:=old.1 d; omega)];omega
  ·rw [ac9 h] at a hq;rw [ag9 (old.2 ad)];omega
theorem yX (u:Nat):∀ (its:List cC) (i:Nat) (l:List bM),l≠[]->∃ j l' r,oy u i its l=⟨u,j,l'⟩::r/\i<=j/\j<=i+its.length/\l <+: l'/\∀ k,(hk:k<its.length)->i+k<j->its[k].kind≠4
 | [],i,l,h=>⟨i,l,[],by
   unfold oy Po.shut;rw [ac9 (fun a=>h (bo9 a))],aq9 _,aq9 _,eb9 _,fun k hk=>absurd hk aj⟩
 | x::its,i,l,h=>by
  unfold oy
  by_cases hk:x.kind=4
  ·rw [ag9 hk];unfold Po.shut;rw [ac9 (fun a=>h (bo9 a))];exact ⟨i,l,_,rfl,aq9 _,ad,eb9 _,fun k _ b=>ad⟩
  ·rw [ac9 hk];obtain ⟨j,l',r,h1,h2,g,c,f⟩:=yX u its (i+1) (if xC x then eR l x.e else l) (by split; exact gI _ _; exact h);refine ⟨j,l',r,h1,ad,by simp; omega,?_,fun k d b=>?_⟩
   ·split at c
    ·exact (K9 l x.e).trans c
    ·exact c
   ·cases k with
    | zero=>exact hk
    | succ k=>exact f k (by simpa using d) ad
def Md (x y:bM):gS x y=gS y x:=by
 unfold gS;rw [ds9];simp only [Bool.and_eq_true,decide_eq_true_eq];constructor <;> rintro ⟨a,b⟩ <;> exact ⟨a.symm,b.symm⟩
def B9 (l:List bM):Prop:=∀ i j,(hi:i<l.length)->(a:j<l.length)->j<i->gS l[i] l[j]=false
def Dg:B9 []:=fun i j hi=>absurd hi aj
def Lx (h:B9 V) (x:bM):B9 (eR V x):=by
 unfold eR;split
 ·next e =>
  intro i j hi f c;have a:j<V.length:=by simp at hi; omega
  rw [by9 a]
  by_cases b:i<V.length
  ·rw [by9 b];exact h i j b a c
  ·have d:i=V.length:=by simp at hi; omega
   subst d;rw [ct9 (aq9 _)];simp only [Nat.sub_self,List.getElem_cons_zero];unfold gg at e;split at e
   ·omega
   ·next hn =>
    rw [Md]
    have:=ca9.1 hn _ (al9 a)
    simpa using this
 ·exact h
theorem yP (u:Nat):∀ (its:List cC) (i:Nat) (l:List bM),B9 l->∀ p,p∈oy u i its l->B9 p.l
 | [],i,l,h,p,a=>by
  unfold oy Po.shut at a;split at a
  ·exact absurd a aj
  ·rw [ai9.1 a]; exact h
 | x::its,i,l,h,p,a=>by
  unfold oy at a;split at a
  ·rcases ar9.1 a with a | a
   ·unfold Po.shut at a;split at a
    ·exact absurd a aj
    ·rw [ai9.1 a]; exact h
   ·exact yP u its _ _ Dg p a
  ·refine yP u its _ _ ?_ p a;split
   ·exact Lx h _
   ·exact h
def L6 {I:Nat->List cC} {N:Nat}:∀ p,p∈EQ I N->B9 p.l:=by
 intro p a;obtain ⟨n,_,a⟩:=ec9.1 a;exact yP n _ _ _ Dg p a
section
variable {L:Lp} {K:Xab->Hp->Prop} {h:Hp} {g n:Nat} {f:Int × Int->Option Xab}
def ZM (m:fx nz (fun v=>v) h g f n) {k:Int->T} (hk:k (n:Int) L K h):T.eH Xaz (Builtin.len_ #[41] 3 #[.map (some g)]) false [(false,[.int .i64])] k L K h:=by
 obtain ⟨D,m,e,hn⟩:=m;obtain ⟨es,clock,b,c,d⟩:=m;have a:es.size=n:=by
  have:=as9 List.length c
  simp only [List.length_map,Array.length_toList] at this;omega
 show aS _ _ _ _;unfold Builtin.len_;simp only [List.getElem?_toArray,List.getElem?_cons_zero];rw [av,aC UW];simp only [pure_bind];rw [av];refine fF b aj _ ?_;simp only [pure_bind];exact ⟨((n:Int),()),by rw [a]; rfl,hk⟩
end
variable {O:List Pl}
def M5 (h:H<O.length):xI (O.take (H+1))=xI (O.take H)+O[H].l.length:=by
 unfold xI;rw [ae9 h,ao9,fq9]
 simp
def Lu {m:Nat} (h:∀ p,p∈O->p.l.length<=m):xI O<=O.length*m:=by
 unfold xI
 induction O with
 | nil=>simp
 | cons p O a =>
  have h1:=a fun q b=>h q (ap9 _ b)
  have h2:=h p aj;rw [bq9,cn9,cj9,Nat.succ_mul];omega
def Rw (n:Xac) (d:Nat) (J:Option Nat) (K:Bool):T :=
  T.loop [cn,aQ,aQ] [.bool K,vI (0:Int),vI (0:Int)] <| fun (o:Bool) (e a:Int) =>
  bt a d
  (T.need (eS a d) <|
  T.bf n <| fun (p:Xax) =>
  T.af ((p.add (aI a 3)).add 2) [.slice 53] <| fun (L:Xac) (q M:Nat) =>
  T.loop [cn,aQ] [.bool o,vI (0:Int)] <| fun (f:Bool) (b:Int) =>
  T.need (eS a d) <|
  T.bf n <| fun (r:Xax) =>
  T.af ((r.add (aI a 3)).add 2) [.slice 53] <| fun (N:Xac) (s O:Nat) =>
  bt b s
   (T.loop [cn,aQ] [.bool f,vI (0:Int)] <| fun (g:Bool) (c:Int) =>
   cond (decide (c<b))
   (T.need (eS a d) <|
   T.bf n <| fun (h:Xax) =>
   T.af ((h.add (aI a 3)).add 2) [.slice 53] <| fun (i:Xac) (j t:Nat) =>
   T.need (eS b j) <|
   T.bf i <| fun (u:Xax) =>
   T.af (u.add (aI b 2)) [.slice 64,.int .u32] <| fun (w:Xac) (x y:Nat) (z:Int) =>
   T.need (eS a d) <|
   T.bf n <| fun (k:Xax) =>
   T.af ((k.add (aI a 3)).add 2) [.slice 53] <| fun (l:Xac) (m A:Nat) =>
   T.need (eS c m) <|
   T.bf l <| fun (B:Xax) =>
   T.af (B.add (aI c 2)) [.slice 64,.int .u32] <| fun (C:Xac) (D E:Nat) (F:Int) =>
   bP 16 [.agg #[.slice w x y,aF z],.agg #[.slice C D E,aF F]] false [cn] <| fun (G:Bool) =>
   T.bi [(((k.add (aI a 3)).add 2),[.slice l m A]),(((h.add (aI a 3)).add 2),[.slice i j t])] <|
   cond G
    bz
    (T.again 3 [.bool g,vI (bq (c+(1:Int)))]))
   (T.again 2 [.bool g,vI (bq (b+(1:Int)))]))
   (T.again 1 [.bool f,vI (bq (e+(q:Int))),vI (bq (a+(1:Int)))]))
  (bQ (Builtin.len_ #[41] 3 #[.map J]) false [aQ] <| fun (H:Int) =>
  cond (e==H)
   (bP 10 [] false [cn] <| fun (I:Bool) =>
   T.ret (.bool I))
   bz)
variable {b:Xac}
def Lw {J0:List Xab->Hp->Prop} {h0 h:Hp} (v:XD h b H O) (E:O.length<=2^30) (F:∀ q,q∈O->q.l.length<=8192) (ap:∀ q,q∈O->B9 q.l)
  (m:fx nz (fun v=>v) h U Y (xI O)) (kn:PI h0) (e0:Ext h0 h) (Z:Bool):Rw b H (some U) Z [J0] (fun w h'=>w=.bool true/\Ext h0 h') h:=by
 unfold Rw bt aI bP bQ bq eS aF bz aQ cn;have hl:=v.len;have hN:=Lu F;have hN2:O.length*8192<=2^30*8192:=cl9 _ E;refine aT (cs:=Nb) (fun y k h'=>∃ i:Nat,y.2.1=(xI (O.take i):Int)/\y.2.2.1=(i:Int)/\k=H-i/\i<=H/\Ext h h') (Z,(0:Int),(0:Int),()) H rfl ⟨0,rfl,rfl,rfl,ad,Ch.refl _ _⟩ ?_;rintro ⟨G,n16,n17,⟨⟩⟩ k h1 ⟨i,hn,hi,rfl,hil,D⟩;simp only at hi hn;subst hi hn;refine ao ?_;refine aR ?_ ?_<;>intro q
 ·have o:i<O.length:=ad
  obtain ⟨a,w,ha,hc,hv⟩:=v.cells i o;have hx8:=F _ (al9 o);have hap:=ap _ (al9 o);have htk:=M5 o;have htle:xI (O.take (i+1))<=(O.take (i+1)).length*8192:=Lu fun q hq=>F q (cv9 hq)
  have htl:(O.take (i+1)).length*8192<=2^30*8192:=cl9 _ (by rw [az9]; omega);generalize O[i]=x at hc hv hx8 hap htk;have I:∀ {h5:Hp},Ext h h5->aH h5 ((a.add (i*3)).add 2) 0 [.slice w.p w.l w.c]:=fun e=>aM e aj _ _ (gK [.slice w.p w.l w.c] 2 0 ⟨hc.2.2.1,trivial⟩)
  have hwl:=hv.len;have rd:∀ {h3:Hp} {K:Xab->Hp->Prop} {J:Lp} {L:Xax->Xac->Nat->Nat->T},Ext h h3->L a w.p w.l w.c J K h3->T.need (((0:Int)<=(i:Int))/\((i:Int)<(H:Int))) (T.bf b <| fun (s:Xax)=>T.af ((s.add ((Int.toNat (i:Int))*3)).add 2) [.slice 53] (L s)) J K h3:=by
   intro h3 K J L n hk;refine bS ha ?_;rw [cr i];exact ay ((w.p,w.l,w.c),()) (I n) hk
  refine rd D ?_;refine aT (cs:=gT) (fun y k h'=>∃ j:Nat,y.2.1=(j:Int)/\k=w.l-j/\j<=w.l/\Ext h h') (G,(0:Int),()) w.l rfl ⟨0,rfl,rfl,ad,D⟩ ?_;rintro ⟨u,n23,⟨⟩⟩ k h2 ⟨j,hj,rfl,hjl,M⟩;simp only at hj;subst hj;refine ao ?_;refine rd M ?_;refine aR ?_ ?_<;>intro q1
  ·have A:j<x.l.length:=ad
   obtain ⟨a2,q2,m2,r2,N,P,B⟩:=hv.cells j A;refine aT (cs:=gT) (fun y k h'=>∃ t:Nat,y.2.1=(t:Int)/\k=j-t/\t<=j/\Ext h h') (u,(0:Int),()) j rfl ⟨0,rfl,rfl,ad,M⟩ ?_;rintro ⟨r,n29,⟨⟩⟩ k h3 ⟨t,ht,rfl,htj,n⟩;simp only at ht;subst ht;refine ao ?_;refine aR ?_ ?_<;>intro q3
   ·have C:t<x.l.length:=ad
    obtain ⟨a3,q4,m3,r3,Q,S,V⟩:=hv.cells t C;refine rd n ?_;refine bS N ?_;rw [cr j];refine ay ((q2,m2,r2),(x.l[j].num:Int),()) (aM n aj _ _ P) (ao ?_);refine rd n ?_;refine bS Q ?_;rw [cr t];refine ay ((q4,m3,r3),(x.l[t].num:Int),()) (aM n aj _ _ S) (ao ?_);refine aK (CP (c:=r2) (d:=r3) (B.an n).vw (V.an n).vw B.many) ?_;rintro _ h4 ⟨rfl,e4⟩;refine ⟨(gS x.l[j] x.l[t],()),rfl,ao ?_⟩;have e04:=n.trans e4;have hw:=ic t;refine ⟨⟨I e04,I e04,trivial⟩,?_⟩;rw [hap j t A C ad];refine cg rfl ?_;exact aG (cs:=gT) (r,((t+1:Nat):Int),()) (j-(t+1)) rfl ad (as9 (fun z=>[Value.bool r,Value.int .i64 z]) hw) ⟨t+1,rfl,rfl,ad,e04⟩
   ·have hw:=ic j;exact aG (cs:=gT) (r,((j+1:Nat):Int),()) (w.l-(j+1)) rfl ad (as9 (fun z=>[Value.bool r,Value.int .i64 z]) hw) ⟨j+1,rfl,rfl,ad,n⟩
  ·have hw:=ic i;have W:IntKind.wrap .i64 ((xI (O.take i):Int)+(w.l:Int))=((xI (O.take (i+1)):Nat):Int):=by rw [wrap_i64 ad ad]; omega
   rw [hw,W];exact aG (cs:=Nb) (u,((xI (O.take (i+1)):Nat):Int),((i+1:Nat):Int),()) (H-(i+1)) rfl ad rfl ⟨i+1,rfl,rfl,rfl,ad,M⟩
 ·have X:i=O.length:=ad
  subst X;rw [bj9];refine ZM (m.an D (by have:=m.lt; simp)) ?_;refine cj aj ?_;exact Js kn (e0.trans D)
section
variable {Lq:Lp} {K:Xab->Hp->Prop} {h h3:Hp} {gd:Nat} {su lb st sd:bU} {L:List Lb} {N:Nat} {I:Nat->List cC}
def qO (pr:DG h gd su lb st sd L) (k:CY h st N I) (e:Ext h h3) {n:Nat} (hn:n<N) {a:Xax} {t:bU} (m:st.p=some a) (hc:aH h (a.add (n*1)) 0 [t.v])
  {j:Xax->Xac->Nat->Nat->Xax->Xac->Nat->Nat->T} (hk:j ⟨gd,0,none⟩ st.p st.l st.c a t.p t.l t.c Lq K h3) :
  T.bf (some (⟨gd,0,none⟩:Xax)) (fun (b:Xax)=>T.af (b.add 2) [.slice 46] <| fun (d:Xac) (f i:Nat) =>
   T.need (((0:Int)<=(n:Int))/\((n:Int)<(f:Int))) <| T.bf d <| fun (g:Xax)=>T.af (g.add ((Int.toNat (n:Int))*1)) [.slice 55] (j b d f i g)) Lq K h3:=by
 refine bm rfl ?_;rw [aE];refine az (pr.an e).box ((st.p,st.l,st.c),()) (ao ?_);refine dC ⟨ad,by rw [k.1]; omega⟩ (bm m ?_);rw [cr n];exact ay ((t.p,t.l,t.c),()) (aM e aj _ _ hc) hk
end
def NV (F n : Xac) (m : Nat) (r8 : Option Nat) (b c : Int) (G : Bool) (a d : Int) : T :=
      (cond (decide (a < (0 : Int)))
       bz
       (cond (decide (a >= (m : Int)))
        bz
        (cond (decide (d < (0 : Int)))
         bz
         (T.need (((0 : Int) <= a) /\ (a < (m : Int))) <|
         T.bf n <| fun (o : Xax) =>
         T.af ((o.add ((Int.toNat a) * 3)).add 2) [.slice 53] <| fun (H : Xac) (p I:Nat) =>
         cond (decide (d >= (p : Int)))
          bz
          (T.need (((0 : Int) <= a) /\ (a < (m : Int))) <|
          T.bf n <| fun (q : Xax) =>
          T.af (q.add ((Int.toNat a) * 3)) [.int .i64] <| fun (r : Int) =>
          cond (r != b)
           bz
           (T.need (((0 : Int) <= a) /\ (a < (m : Int))) <|
           T.bf n <| fun (s : Xax) =>
           T.af ((s.add ((Int.toNat a) * 3)).add 1) [.int .i64] <| fun (t : Int) =>
           cond (decide (t <= c))
            bz
            (T.need (((0 : Int) <= a) /\ (a < (m : Int))) <|
            T.bf n <| fun (u : Xax) =>
            T.af ((u.add ((Int.toNat a) * 3)).add 2) [.slice 53] <| fun (w : Xac) (x J:Nat) =>
            T.need (((0 : Int) <= d) /\ (d < (x : Int))) <|
            T.bf w <| fun (K : Xax) =>
            T.af (K.add ((Int.toNat d) * 2)) [.slice 64, .int .u32] <| fun (L : Xac) (M N:Nat) (O : Int) =>
            T.bf F <| fun (y : Xax) =>
            T.af (y.add 2) [.slice 46] <| fun (z : Xac) (A P:Nat) =>
            T.need (((0 : Int) <= b) /\ (b < (A : Int))) <|
            T.bf z <| fun (B : Xax) =>
            T.af (B.add ((Int.toNat b) * 1)) [.slice 55] <| fun (C : Xac) (D Q:Nat) =>
            T.need (((0 : Int) <= c) /\ (c < (D : Int))) <|
            T.bf C <| fun (R : Xax) =>
            T.af ((R.add ((Int.toNat c) * 10)).add 7) [.slice 64, .int .u32] <| fun (S : Xac) (U V:Nat) (W : Int) =>
            bP 16 [.agg #[.slice L M N, aF O], .agg #[.slice S U V, aF W]] false [(false, [.bool])] <| fun (X : Bool) =>
            T.bi [((B.add ((Int.toNat b) * 1)), [.slice C D Q]), ((y.add 2), [.slice z A P]), (((u.add ((Int.toNat a) * 3)).add 2), [.slice w x J]), (((s.add ((Int.toNat a) * 3)).add 1), [vI t]), ((q.add ((Int.toNat a) * 3)), [vI r]), (((o.add ((Int.toNat a) * 3)).add 2), [.slice H p I])] <|
            cond (!X)
             bz
             (T.loop [(false, [.bool]), (false, [.int .i64])] [.bool G, vI (bq (c + (1 : Int)))] <| fun (E : Bool) (e : Int) =>
             T.need (((0 : Int) <= a) /\ (a < (m : Int))) <|
             T.bf n <| fun (Y : Xax) =>
             T.af ((Y.add ((Int.toNat a) * 3)).add 1) [.int .i64] <| fun (Z : Int) =>
             cond (decide (e < Z))
              (T.bf F <| fun (f : Xax) =>
              T.af (f.add 2) [.slice 46] <| fun (g : Xac) (h l88:Nat) =>
              T.need (((0 : Int) <= b) /\ (b < (h : Int))) <|
              T.bf g <| fun (i : Xax) =>
              T.af (i.add ((Int.toNat b) * 1)) [.slice 55] <| fun (j : Xac) (k l92:Nat) =>
              T.need (((0 : Int) <= e) /\ (e < (k : Int))) <|
              T.bf j <| fun (l : Xax) =>
              T.af (l.add ((Int.toNat e) * 10)) [.int .i64] <| fun (n94 : Int) =>
              cond (n94 == (4 : Int))
               bz
               (T.again 2 [.bool E, vI (bq (e + (1 : Int)))]))
              (T.bf F <| fun (f : Xax) =>
              T.af (f.add 2) [.slice 46] <| fun (g : Xac) (h l88:Nat) =>
              T.need (((0 : Int) <= b) /\ (b < (h : Int))) <|
              T.bf g <| fun (i : Xax) =>
              T.af (i.add ((Int.toNat b) * 1)) [.slice 55] <| fun (j : Xac) (k l92:Nat) =>
              T.need (((0 : Int) <= c) /\ (c < (k : Int))) <|
              T.bf j <| fun (l : Xax) =>
              T.af ((l.add ((Int.toNat c) * 10)).add 7) [.slice 64, .int .u32] <| fun (p94 : Xac) (l95 l96:Nat) (n97 : Int) =>
              T.dX Xaz (Instr.mapUpdate 41 (.map r8) (.agg #[vI a, vI d]) (.agg #[.slice p94 l95 l96, aF n97])) <|
              T.again 1 [.bool E, vI (bq (c + (1 : Int)))])))))))))
variable {Z:Nat->List cC}
def M0 {J0 J1:List Xab->Hp->Prop} {K:Xab->Hp->Prop} {h:Hp} {su lb st sd:bU} {L:List Lb} (pr:DG h H su lb st sd L) (V:CY h st U Z) {i:Nat} (hn:a<U) (hi:i<(Z a).length) (hI:(Z a).length<=2^29)
  {l:Nat} (v:XD h b l O) {o r j:Nat} {xs:List bM} (ha:o<O.length) (hR:O[o]=⟨a,j,xs⟩) (hb:r<xs.length) (hq:gS xs[r] (Z a)[i].e=true) (hij:i<j) (hj:j<=(Z a).length) (hbt:∀ k,(hk:k<(Z a).length)->i<k->k<j->(Z a)[k].kind≠4)
  {g c:Nat} (m:fx nz (fun v=>v) h g Y c) (C:Bool)
  (go:∀ s h3 G vv,Ext h h3->Ch [g] h3 G->fx nz (fun v=>v) G g (pT Y ((o:Int),(r:Int)) vv) (if (Y ((o:Int),(r:Int))).isSome then c else c+1)->T.again 1 [.bool s,vI (IntKind.wrap .i64 ((i:Int)+(1:Int)))] [J0,J1] K G) :
  NV (some ⟨H,0,none⟩) b l (some g) (a:Int) (i:Int) C (o:Int) (r:Int) [J0,J1] K h:=by
 unfold NV bP bq aF bz;have hl:=v.len;obtain ⟨W,w,u,hc,hv⟩:=v.cells o ha;rw [hR] at hc hv;simp only at hc hv;have hwl:=hv.len;obtain ⟨ar,t,D,A,vi⟩:=V.2 a hn;have htl:=vi.len;obtain ⟨ai,J,mm,F,M,hci,hvi⟩:=vi.cells i hi;obtain ⟨al,ql,ml,dl,hal,hcl,P⟩:=hv.cells r hb;have c0:∀ {x:Hp},Ext h x->aH x (W.add (o*3)) 0 [vI (a:Int)]:=fun e=>aM e aj _ _ ⟨hc.1,trivial⟩
 have c1:∀ {x:Hp},Ext h x->aH x ((W.add (o*3)).add 1) 0 [vI (j:Int)]:=fun e=>aM e aj _ _ (gK [vI (j:Int)] 1 0 ⟨hc.2.1,trivial⟩)
 have X:∀ {x:Hp},Ext h x->aH x ((W.add (o*3)).add 2) 0 [.slice w.p w.l w.c]:=fun e=>aM e aj _ _ (gK [.slice w.p w.l w.c] 2 0 ⟨hc.2.2.1,trivial⟩)
 have hE:∀ {x:Hp},Ext h x->aH x ((ai.add (i*10)).add 7) 0 [.slice J mm F,.int .u32 ((Z a)[i].e.num:Int)]:=fun e=>by
  have:=(aM e aj _ _ hci).2.2.2.2.2.2.2
  exact gK [.slice J mm F,.int .u32 ((Z a)[i].e.num:Int)] 7 0 ⟨this.1,this.2.1,trivial⟩
 have pl:∀ {h3:Hp} {K:Xab->Hp->Prop} {Lq:Lp} {kk:Xax->Xac->Nat->Nat->T},Ext h h3->kk W w.p w.l w.c Lq K h3->T.need (((0:Int)<=(o:Int))/\((o:Int)<(l:Int))) (T.bf b <| fun (Q:Xax)=>T.af ((Q.add ((Int.toNat (o:Int))*3)).add 2) [.slice 53] (kk Q)) Lq K h3:=by
  intro h3 K Lq kk e3 hk;refine bS u ?_;rw [cr o];exact ay ((w.p,w.l,w.c),()) (X e3) hk
 have r0:=Ch.refl [] h;refine cg aj (cg (by simp; omega) (cg aj ?_));refine pl r0 ?_;refine cg (by simp; omega) ?_;refine bS u ?_;rw [cr o];refine ay ((a:Int),()) (c0 r0) (ao ?_);refine cg aj ?_;refine bS u ?_;refine ay ((j:Int),()) (c1 r0) (ao ?_);refine cg (by simp; omega) ?_;refine bS u ?_;refine ay ((w.p,w.l,w.c),()) (X r0) (ao ?_);refine bS hal ?_;rw [cr r];refine ay ((ql,ml,dl),(xs[r].num:Int),()) hcl (ao ?_);refine qO pr V r0 hn D A ?_;refine bS M ?_;rw [cr i,cr a];refine ay ((J,mm,F),((Z a)[i].e.num:Int),()) (hE r0) (ao ?_);refine aK (CP (c:=dl) (d:=F) P.vw hvi.lin.vw P.many) ?_;rintro _ h1 ⟨rfl,E⟩;refine ⟨(gS xs[r] (Z a)[i].e,()),rfl,ao ?_⟩;have s2:=(pr.an E).box.cells (off:=0+2) [.slice st.p st.l st.c] rfl;refine ⟨⟨aM E aj _ _ A,s2,X E,c1 E,c0 E,X E,trivial⟩,?_⟩;rw [hq];refine cg rfl ?_;have hwi:=ic i;refine aT (cs:=gT) (fun y z h'=>∃ k:Nat,y.2.1=(k:Int)/\z=j-k/\i<k/\k<=j/\Ext h h') (C,((i+1:Nat):Int),()) (j-(i+1)) (as9 (fun z=>[Value.bool C,Value.int .i64 z]) hwi) ⟨i+1,rfl,rfl,ad,ad,E⟩ ?_;rintro ⟨s,n82,⟨⟩⟩ z h2 ⟨k,hk,rfl,hik,hkj,B⟩;simp only at hk;subst hk;refine ao ?_;refine bS u ?_;refine ay ((j:Int),()) (c1 B) (ao ?_);refine aR ?_ ?_<;>intro q
 ·have S:k<(Z a).length:=ad
  obtain ⟨ak,q5,m5,c5,hak,hck,hvk⟩:=vi.cells k S;refine qO pr V B hn D A ?_;refine bS hak ?_;rw [cr k];refine ay ((Z a)[k].kind,()) ⟨(aM B aj _ _ hck).1,trivial⟩ (ao ?_);refine cg (beq_false_of_ne (hbt k S hik ad)) ?_;have hw:=ic k;exact aG (cs:=gT) (s,((k+1:Nat):Int),()) (j-(k+1)) rfl ad (as9 (fun z=>[Value.bool s,Value.int .i64 z]) hw) ⟨k+1,rfl,rfl,ad,ad,B⟩
 ·refine qO pr V B hn D A ?_;refine bS M ?_;refine ay ((J,mm,F),((Z a)[i].e.num:Int),()) (hE B) (ao ?_);refine HF (en:=fun v=>v) kaT UW (m.an B aj) ((o:Int),(r:Int)) (.agg #[.slice J mm F,.int .u32 ((Z a)[i].e.num:Int)]) ?_;intro G m4 k4 z4;exact go s h2 G _ B k4 m4
def CY.an {h h':Hp} {st:bU} {N:Nat} {I:Nat->List cC} (b:CY h st N I) (e:Ext h h'):CY h' st N I:=⟨b.1,fun n hn=>by
  obtain ⟨a,t,c,hc,hv⟩:=b.2 n hn;exact ⟨a,t,c,aM e aj _ _ hc,hv.an e⟩⟩
def Mn {x:cC} (h:xC x=true):¬ x.kind=4:=by
 intro hk;unfold xC at h;rw [hk] at h;exact absurd h aj
def RP (hn:U<H) (hi:a<(Z U).length):rl Z H (U:Int) (a:Int)=if xC (Z U)[a] then Ca (EQ Z H) U a (Z U)[a].e else none:=by
 unfold rl;rw [ac9 ad,cr U,cr a,ad9 hi]
def MX {out:List Pl} {l:List bM} (hi:a<(Z U).length) (c:xC (Z U)[a]=true) (t:∀ p,p∈out->p.u<U\/p.u=U/\p.i<a) (d:out++(oy U a ((Z U).drop a) l++H6 Z H (U+1))=O) :
  Ca O U a (Z U)[a].e=some (out.length,gg (eR l (Z U)[a].e) (Z U)[a].e)/\out++(oy U (a+1) ((Z U).drop (a+1)) (eR l (Z U)[a].e)++H6 Z H (U+1))=O /\
  ∃ (b j:Nat) (xs:List bM) (y:out.length<O.length) (h:b<xs.length),gg (eR l (Z U)[a].e) (Z U)[a].e=(b:Int)/\O[out.length]=⟨U,j,xs⟩/\gS xs[b] (Z U)[a].e=true/\a<j/\j<=(Z U).length/\∀ k,(hk:k<(Z U).length)->a<k->k<j->(Z U)[k].kind≠4:=by
 rw [A' hi,ac9 (Mn c),ag9 c] at d;have hs:=Ei (out:=out) (rest:=H6 Z H (U+1)) (u:=U) (i:=a) (its:=(Z U).drop (a+1)) (l:=l) t c;rw [d] at hs;refine ⟨hs,d,?_⟩;obtain ⟨j,xs,r,h1,h2,w,⟨ys,s⟩,x⟩:=yX U ((Z U).drop (a+1)) (a+1) (eR l (Z U)[a].e) (gI _ _);have hp:=xz l (Z U)[a].e;obtain ⟨b,h⟩:∃ b:Nat,gg (eR l (Z U)[a].e) (Z U)[a].e=(b:Int):=⟨_,(Int.toNat_of_nonneg hp).symm⟩
 obtain ⟨m,o⟩:=Mu h;rw [h1] at d;have f:out.length<O.length:=by rw [<- d]; simp
 have g:O[out.length]=⟨U,j,xs⟩:=by
  subst d;rw [ct9 (aq9 _)]
  simp
 have q:b<xs.length:=by rw [<- s,af9]; omega
 refine ⟨b,j,xs,f,q,h,g,?_,ad,by rw [bw9] at w; omega,fun k hk z A=>?_⟩
 ·subst s;rw [by9 m];exact o
 ·have:=x (k-(a+1)) (by rw [bw9]; omega) ad
  rw [List.getElem_drop] at this;simp only [show a+1+(k-(a+1))=k from ad] at this;exact this
structure Sh (h2 h':Hp) (I:Nat->List cC) (N:Nat) (R:List Pl) (g n i:Nat):Prop where
 ex:∃ (f:Int × Int->Option Xab) (c:Nat) (out:List Pl) (l:List bM),fx nz (fun v=>v) h' g f c/\O8 f c out l/\(∀ p,p∈out->p.u<n\/p.u=n/\p.i<i)/\out++(oy n i ((I n).drop i) l++H6 I N (n+1))=R
 e:Ext h2 h'
 g:h2.size<=g
def Jf {h:Hp} (pw:eM h) (tb:yO h) (kn:PI h) {su:bU} {us:List cv} (v:xA h su.p su.l us) (sm:H7 us) :
  HC Xaz 5 #[.slice su.p su.l su.c] h fun w h'=>w=.bool true/\Ext h h':=by
 refine bd (args:=[.slice su.p su.l su.c]) mixed Tryz.func5 ax (kA su.p su.l su.c) ?_;unfold gp aY bh bt aI aZ bP bQ bq aF bz aQ cn;refine aK (XT (su:=su) pw tb v sm) ?_;rintro w1 h1 ⟨L,d⟩
 by_cases M:uF us=true
 ·rw [ag9 M] at d;refine ⟨(none,none,false,true,()),d,ao ?_⟩;exact cj rfl (cj rfl (Js kn L))
 rw [ac9 M] at d;have ag:=Bw (us:=us) sm.num;cases O:mP us with
 | error f =>
  rw [O] at d;refine ⟨(none,none,false,true,()),d,ao ?_⟩;exact cj rfl (cj rfl (Js kn L))
 | ok P =>
 rw [O] at d ag;obtain ⟨B,usl,lb,S,gd,b',lb2,st,sd,tw,dw,rfl,bo⟩:=d;refine ⟨(some ⟨B+3,0,none⟩,some ⟨gd,0,none⟩,true,true,()),rfl,ao ?_⟩;refine cg rfl ?_;have p:=bo.prg ag sm v;have rt:=bo.Yg v;have hN:=p.many;have hI:=p.len;obtain ⟨p30,p8⟩:=p.sz;refine aK (p.X0 (pw.an L aj) (tb.an L aj)) ?_;rintro _ h2 ⟨e2,s,pv,rfl,ps,D⟩;refine ⟨((s.p,s.l,s.c),()),rfl,ao ?_⟩;have e12:=L.trans e2;have pl2:pv.length<=2^40:=by have:=as9 List.length D; rw [ab9] at this; omega
 have vp:=ps.vw pl2 (fun q d=>by rw [D] at d; have:=p8 q d; omega);rw [D] at vp;have pr2:=bo.pr.an e2;have rt2:=rt.an e2;have p2:=p.an e2;have apt:=L6 (I:=IU us P) (N:=us.length);generalize hIU:IU us P=I at *;generalize hNN:us.length=N at *;generalize hR:EQ I N=R at *;refine AS (kv:=nz) (en:=fun v=>v) ?_;intro h3 m3 e3 z3;have hT:H6 I N 0=R:=hR;refine aT (cs:=gT) (fun y k h'=>∃ (n:Nat) (f:Int × Int->Option Xab) (c:Nat) (out:List Pl),y.2.1=(n:Int)/\k=N-n/\n<=N/\Ext h2 h'/\fx nz (fun v=>v) h' h2.size f c/\O8 f c out []/\(∀ p,p∈out->p.u<n)/\out++H6 I N n=R) (false,(0:Int),()) N rfl
  ⟨0,_,_,[],rfl,rfl,ad,e3,m3,O8.nil,aj,hT⟩ ?_
 rintro ⟨b9,n10,⟨⟩⟩ k h4 ⟨n,f,c,out,hn,rfl,hnN,Q,m4,E,K,d⟩;simp only at hn;subst hn;refine ao ?_;refine bm rfl ?_;rw [aE];refine az (pr2.an Q).box ((st.p,st.l,st.c),()) (ao ?_);refine aR ?_ ?_<;>intro q
 ·have hn:n<N:=by rw [rt.1] at q; omega
  have hIn:=hI n hn;obtain ⟨ar,t,U,V,vi⟩:=rt2.2 n hn;have htl:=vi.len;rw [Lg hn] at d;refine aT (cs:=gT) (fun y k h'=>∃ i:Nat,y.2.1=(i:Int)/\k=(I n).length-i/\i<=(I n).length/\Sh h2 h' I N R h2.size n i) (b9,(0:Int),()) (I n).length rfl
   ⟨0,rfl,rfl,ad,⟨⟨f,c,out,[],m4,E,fun p g=>.inl (K p g),d⟩,Q,aq9 _⟩⟩ ?_
  clear d E m4 K Q;rintro ⟨o,n16,⟨⟩⟩ k h5 ⟨i,hi,rfl,hil,⟨f,c,out,l,m5,A,K,d⟩,W,_⟩;simp only at hi;subst hi;refine ao ?_;have hwi:=ic i;refine qO pr2 rt2 W hn U V ?_;refine aR ?_ ?_<;>intro q1
  ·have r:i<(I n).length:=ad
   have e15:=e12.trans W;have hs9:=(p2.an W).slot (pw.an e15 aj) (tb.an e15 aj) (n:Int) (i:Int);rw [hIU,hNN] at hs9;obtain ⟨ai,qq,mm,cc,hai,X,Y⟩:=vi.cells i r;have hsl:=RP hn r;rw [hR] at hsl;obtain ⟨o1,o2,o3,m⟩:=Qg (rl I N (n:Int) (i:Int));rw [m] at hs9;refine aK hs9 ?_;rintro _ h6 ⟨e6,rfl⟩;refine ⟨(o1,o2,o3,()),rfl,ao ?_⟩;have e26:=W.trans e6;refine qO pr2 rt2 e26 hn U V ?_;refine bS hai ?_;rw [cr i];have lp:=fun h=>MX (out:=out) (l:=l) r h K d
   rw [A' r] at d;generalize hx:(I n)[i]=x at X Y hsl d;refine ay (x.kind,x.name,x.inst.op,x.inst.a,x.inst.b,x.inst.n,x.inst.form,(qq,mm,cc),(x.e.num:Int),x.n,()) (aM e26 aj _ _ X) (ao ?_);refine aK (Mt (Y.an e26)) ?_;rintro _ h7 ⟨rfl,e7⟩;refine ⟨(xC x,()),rfl,ao ?_⟩;have e27:=e26.trans e7;have e57:=e6.trans e7;have m7:=m5.an e57 aj;have F:∀ p,p∈out->p.u<n\/p.u=n/\p.i<i+1:=fun p g=>(K p g).imp id fun h=>⟨h.1,ad⟩
   cases G:xC x with
   | false =>
    rw [G] at hsl d;rw [hsl] at m;have h3:o3=false:=by
     simp only [Yv,Bool.false_eq_true,if_false,Value.tuple.injEq,Array.mk.injEq,List.cons.injEq,Value.bool.injEq,Value.int.injEq] at m;exact m.2.2.1.symm
    subst h3;refine cg rfl (cj rfl ?_);refine aG (cs:=gT) (o,((i+1:Nat):Int),()) ((I n).length-(i+1)) rfl ad (as9 (fun z=>[Value.bool o,Value.int .i64 z]) hwi) ⟨i+1,rfl,rfl,ad,?_⟩
    by_cases hk:x.kind=4
    ·rw [ag9 hk,ay9,<- ay9] at d;refine ⟨⟨f,c,_,[],m7,A.shut n i,fun p g=>?_,d⟩,e27,aq9 _⟩;rcases ar9.1 g with g | g
     ·exact F p g
     ·unfold shut at g;split at g
      ·exact absurd g aj
      ·rw [ai9.1 g];exact .inr ⟨rfl,fp9 i⟩
    ·rw [ac9 hk] at d;exact ⟨⟨f,c,out,l,m7,A,F,d⟩,e27,aq9 _⟩
   | true =>
    rw [G,ag9 rfl] at hsl;obtain ⟨hs,Z,b,j,xs,ha,hb,H,hRa,C,hij,hjl,hbt⟩:=lp (by rw [hx]; exact G);rw [hx] at hs Z H C;rw [hsl,hs] at m;have h3:(out.length:Int)=o1/\gg (eR l x.e) x.e=o2/\true=o3:=by
     simp only [Yv,Value.tuple.injEq,Array.mk.injEq,List.cons.injEq,Value.bool.injEq,Value.int.injEq] at m;exact ⟨m.1.2,m.2.1.2,m.2.2.1⟩
    obtain ⟨rfl,rfl,rfl⟩:=h3;refine cg rfl (cg rfl ?_);rw [H];refine M0 (pr2.an e27) (rt2.an e27) hn r ad (vp.an e27) ha hRa hb (by rw [hx]; exact C) hij hjl hbt m7 o ?_;intro b81 h8 h9 vv e8 k9 m9;refine aG (cs:=gT) (b81,((i+1:Nat):Int),()) ((I n).length-(i+1)) rfl ad (as9 (fun z=>[Value.bool b81,Value.int .i64 z]) hwi) ⟨i+1,rfl,rfl,ad,⟨⟨_,_,out,_,m9,?_,F,Z⟩,bY (e27.trans e8) k9,aq9 _⟩⟩;rw [<- H];exact A.put x.e vv
  ·have J:i=(I n).length:=ad
   subst J;rw [JX,<- ay9] at d;have hw:=ic n;refine aG (cs:=gT) (o,((n+1:Nat):Int),()) (N-(n+1)) rfl ad (as9 (fun z=>[Value.bool o,Value.int .i64 z]) hw) ⟨n+1,f,c,_,rfl,rfl,ad,W,m5,A.shut n (I n).length,fun p g=>?_,d⟩;rcases ar9.1 g with g | g
   ·rcases K p g with h | h <;> omega
   ·unfold shut at g;split at g
    ·exact absurd g aj
    ·rw [ai9.1 g];exact fp9 n
 ·have J:n=N:=by rw [rt.1] at q; omega
  subst J;rw [U4 (aq9 _),bz9] at d;subst d;have hc:=E.jn;rw [List.length_nil,ek9] at hc;subst hc;exact Lw (vp.an Q) p30 p8 apt m4 kn (e12.trans Q) b9
end Go.Sx.Po
namespace Go.Sx.Ob
open Go.Proofs Go.Proofs.YtmdncdaladplkaaGreatDoor
open Go.ChangeShapes Go.WideShapes Go.ChangeAt Go.WideMaps Go.WideElems Go.RowKit
def wX (P:Program) (t:TypeId):Option (List (TypeId × Nat)):=(P.underlying t).bind fun d=>match d with | .struct a=>some (a.toList.map fun f=>(f.type,f.offset)) | _=>none
section
variable {H:Type} {enc:TypeId × Xab->H} {P:Program} {W:World} {base fuel:Nat} {sp:Nat->Bool} {held:Bool} {t:TypeId} {cs:List Xab} {y:DataW H × List MemPlace}
def gH {l:List (TypeId × Nat)} (a:wX P t=some l) (h:DataW.trod enc P W base sp held fuel t cs=some y) :
  ∃ (xs:List (DataW H × List MemPlace)) (n:Nat),y.1=.agg (xs.map (·.1))/\cs.length=P.cellsOf t/\xs.length=l.length/\∀ (i:Nat) (p:TypeId × Nat),l[i]?=some p->∃ x,xs[i]?=some x/\DataW.trod enc P W base sp held n p.1 ((cs.drop p.2).take (P.cellsOf p.1))=some x:=by
 unfold wX at a;cases e:P.underlying t with
 | none=>rw [e] at a; cases a
 | some d =>
  rw [e] at a;simp only [Option.bind_some] at a;split at a
  ·rename_i j;simp only [Option.some.injEq] at a;obtain ⟨xs,n,_,o,hl,c,q⟩:=DataW.trod_struct e h;refine ⟨xs,n,by rw [o],hl,by rw [<- a,ab9,c,db9],fun i p k=>?_⟩;rw [<- a,ci9,et9] at k;obtain ⟨f,b,rfl⟩:=k;rw [dm9] at b;have h1:=q i f b;cases m:xs[i]? with
   | none =>
    rw [List.getElem?_eq_none_iff] at m
    have:i<j.size:=by
     by_cases g:i<j.size
     ·exact g
     ·rw [cu9 ad] at b;cases b
    omega
   | some x=>rw [m] at h1; exact ⟨x,rfl,h1⟩
  ·cases a
theorem jR {h:Hp} {a:Xax}:∀ (b:List Xab) (i:Nat),(∀ j,(c:j<b.length)->ig h (a.add (i+j))=some b[j])->aH h a i b
 | [],_,_=>trivial
 | v::b,i,d=>⟨by have:=d 0 aj; rw [ek9] at this; exact this,jR b (i+1) fun j c=>by
  have:=d (j+1) (by simpa using c)
  rw [show i+1+j=i+(j+1) from ad];simpa using this⟩
def Xh {a:Xax} {n:Nat} (h:W.cells? base a n=some cs):cs.length=n/\aH W.heap a 0 cs:=by
 unfold World.cells? at h;split at h
 ·have hl:cs.length=n:=by simpa using Lib.mapM_length h
  refine ⟨hl,jR cs 0 fun j d=>?_⟩;obtain ⟨b,c,e⟩:=Lib.mapM_at h j j (dl9 ad);rw [ad9 d] at c;cases c;rw [bu9,<- DL];exact e
 ·cases h
theorem zm {α:Type} (Q:Nat->α->Prop):∀ n,(∀ i,i<n->∃ x,Q i x)->∃ l:List α,l.length=n/\∀ i (hi:i<l.length),Q i l[i]
 | 0,_=>⟨[],rfl,fun i hi=>by simp at hi⟩
 | n+1,h=>by
  obtain ⟨l,hl,c⟩:=zm Q n (fun i hi=>h i ad);obtain ⟨x,d⟩:=h n ad;refine ⟨l++[x],by simp [hl],fun i hi=>?_⟩
  by_cases a:i<l.length
  ·rw [by9 a];exact c i a
  ·have b:i=n:=by simp at hi; omega
   subst b;rw [ct9 ad];simpa using d
def Rp {ds:List (DataW H)} {ks:List Nat} (hl:ds.length=ks.length) (h:∀ i,(hi:i<ks.length)->(a:i<ds.length)->ks[i]=Rows.uptoBulk ds[i]):Rows.uptoBulkAll ds=ks.sum:=by
 induction ds generalizing ks with
 | nil =>
  cases ks with
  | nil=>rfl
  | cons k ks=>simp at hl
 | cons d ds b =>
  cases ks with
  | nil=>simp at hl
  | cons k ks =>
   have h0:=h 0 aj aj;simp only [List.getElem_cons_zero] at h0
   have:=b (ks:=ks) (by simpa using hl) (fun i hi a=>h (i+1) (by simpa using hi) (by simpa using a))
   unfold Rows.uptoBulkAll;rw [this,cn9,h0]
structure Fp {α:Type} (Q:α->List Xab->Nat->Prop) (h:Hp) (sz:Nat) (p:Xac) (l c:Nat) (us:List α) (ks:List Nat):Prop where
 len:l=us.length
 Cs:ks.length=us.length
 cells:∀ i,(hi:i<us.length)->(hk:i<ks.length)->∃ a cs,p=some a/\aH h (a.add (i*sz)) 0 cs/\Q us[i] cs ks[i]
 cap:l<=c
 XQ:c<=maxLen
 nil:p=none->c=0
def open_slice {α:Type} {e:TypeId} {sz:Nat} (C:P.underlying t=some (.slice e)) (hc:P.cellsOf e=sz) (Q:α->List Xab->Nat->Prop)
  (q:∀ (cs:List Xab) (y:DataW H × List MemPlace) (n:Nat),DataW.trod enc P W base sp held n e cs=some y->∃ x:α,Q x cs (Rows.uptoBulk y.1))
  (h:DataW.trod enc P W base sp held fuel t cs=some y) :
  ∃ (p:Xac) (l c:Nat) (us:List α) (ks:List Nat),cs=[.slice p l c]/\Fp Q W.heap sz p l c us ks/\ks.sum+1<=Rows.uptoBulk y.1:=by
 rcases DataW.trod_slice C h with ⟨e0,f⟩ | ⟨a,len,cap,b,rest,n,_,e0,f,r,s,u,g,w,_,_⟩
 ·refine ⟨none,0,0,[],[],e0,⟨rfl,rfl,fun i hi=>by simp at hi,aq9 _,em9 _,fun _=>rfl⟩,?_⟩;rw [f];simp only [Rows.uptoBulk];decide
 ·have j:∀ i,i<len->∃ x:α × Nat,∃ d,aH W.heap (a.add (i*sz)) 0 d/\Q x.1 d x.2/\∃ y,b[i]?=some y/\x.2=Rows.uptoBulk y.1:=by
   intro i hi;have he:=w i hi;cases k:b[i]? with
   | none=>rw [List.getElem?_eq_none_iff] at k; omega
   | some y =>
    rw [k,hc] at he;simp only [Option.bind_eq_some_iff] at he;obtain ⟨d,z,A⟩:=he;obtain ⟨hl,ig⟩:=Xh z;obtain ⟨x,D⟩:=q _ _ _ A;exact ⟨(x,Rows.uptoBulk y.1),d,ig,D,y,rfl,rfl⟩
  obtain ⟨xs,m,o⟩:=zm _ len j;refine ⟨some a,len,cap,xs.map (·.1),xs.map (·.2),e0,⟨by rw [ab9,m],by rw [ab9,ab9],fun i hi hk=>?_,s,u,fun h=>by cases h⟩,?_⟩
  ·rw [ab9] at hi;obtain ⟨d,h1,h2,_⟩:=o i hi;rw [am9,am9];exact ⟨a,d,rfl,h1,h2⟩
  ·have:=Rp (ds:=b.map (·.1)) (ks:=xs.map (·.2)) (by rw [ab9,ab9,g,m]) (fun i hi B=>by
    rw [ab9] at hi B;obtain ⟨d,_,_,y,k,hk⟩:=o i hi;rw [ad9 B] at k;rw [am9,am9,hk,bb9 k])
   rw [f];simp only [Rows.uptoBulk];rw [this];omega
end
variable {H:World}
def Q0 {P:Program} {f:FuncId} {args:Array Xab} {R:Xab->Hp->Prop} (h:HC P f args H.heap R) (c:∀ v h',R v h'->Ext H.heap h'):Calls P f args H fun e w'=>∃ v,e=.returned v/\Below H.heap.size H w'/\R v w'.heap:=by
 refine (h H rfl).mono fun e w' ⟨v,hv,a,b⟩=>⟨v,hv,⟨a.os,a.tape,a.output,(c v _ b).size,fun k hk=>(c v _ b).same k hk aj⟩,b⟩
def I1 {a:World} (c:Below H.heap.size H a) {p:MemPlace} (d:p.block<H.heap.size):H.sameAt a p:=by
 cases p with
 | cell b off =>
  show a.cell? _=H.cell? _;unfold World.cell?;rw [c.block b d]
 | map b=>exact c.block b d
end Go.Sx.Ob
