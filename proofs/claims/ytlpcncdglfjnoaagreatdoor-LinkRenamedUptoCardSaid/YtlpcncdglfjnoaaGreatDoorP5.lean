/- Contracts over heaps, part 5. Condition: as each statement says. -/
import Derived.Test.YtlpcncdglfjnoaaGreatDoorP4
import Derived.Test.YtlpcncdglfjnoaaGreatDoorSxZ
import Derived.RangeFuncNested
import Derived.RangeFuncBound
import Derived.RangeFuncCalls
import Derived.RangeFuncLeaves
import Derived.Shelf.Abstract
import Derived.Shelf.RegionOpen
import Derived.OwnWalkIn
import Derived.TacticsInMore
import Derived.LoopNIn
import Derived.LoopIn
import Derived.Test.YtlpcncdglfjnoaaGreatDoorRows
import Derived.ProofKit
import Derived.LaidMore
import Derived.LaidLaws
import Derived.OpenShut
import Derived.ChangeSame
import Derived.ChangeStays
import Derived.ChangeOld
import Derived.ChangeSlices
import Derived.ChangeMaps5
import Derived.JoinedCond
import Derived.Lib.LaidTab
import Derived.Stop.Joined
import Derived.Test.YtlpcncdglfjnoaaGreatDoorTie
import Derived.Test.YtlpcncdglfjnoaaGreatDoorCards
import Derived.SevenTiedAt
set_option linter.all false
set_option maxRecDepth 100000
set_option maxHeartbeats 4000000
namespace Go.Sx.Lk
open Go.Proofs Go.Sx.Ob
def Rm:Tryz.prog.underlying 22=some (.slice 30):=aw
def TT:(Tryz.prog.info? 30).map (fun i=>(i.zero,i.size,i.bytes))=some (some (.agg #[.slice none 0 0,.slice none 0 0,.slice none 0 0,.slice none 0 0]),4,96):=aw
def RX (a:XC) (b c1:Nat) (c:XC) (d e:Nat) (f:XC) (g c3:Nat) (h:XC) (i k:Nat):Instr.fill (fun j=>some (j*4,4)) ((Array.range (1*4)).map ((Value.agg #[.slice none 0 0,.slice none 0 0,.slice none 0 0,.slice none 0 0]).cells[· % (Value.agg #[.slice none 0 0,.slice none 0 0,.slice none 0 0,.slice none 0 0]).cells.size]!)) [(0,.agg #[.slice a b c1,.slice c d e,.slice f g c3,.slice h i k])]=some ([.slice a b c1,.slice c d e,.slice f g c3,.slice h i k]:List XB).toArray:=aw
def RW (i r:YA) (j:XC) (k l:Nat) (b:XC) (c s:Nat):T :=
   (bq 49 [.slice j k l] true [(false,[.slice 88]),aK,aK] <| fun (m:XC) (n o:Nat) (a d:Int) =>
   cond (d != (0:Int))
    (T.need (eH a c) <|
    T.bd b <| fun (e:YA) =>
    T.ae (e.add (ay a 2)) [.int .i64] <| fun (f:Int) =>
    T.need (eH a c) <|
    T.bd b <| fun (g:YA) =>
    T.ae ((g.add (ay a 2)).add 1) [.string] <| fun (h:XA) =>
    T.az [(((g.add (ay a 2)).add 1),[.string h]),((e.add (ay a 2)),[vI f])] <|
    T.ao i [vI d,vI f,.string h] <|
    T.ae i [.int .i64,.int .i64,.string] <| fun (p q:Int) (Sl:XA) =>
    bI #[.pointer none,.agg #[vI p,vI q,.string Sl]])
    (Q5 i r m n o))
def QY (e c:YA) (w x:XC) (y z:Nat) (A:XC) (B C:Nat) (a:Int) (D:XC) (E F:Nat) (G:XC) (H I:Nat) (J:XC) (K L:Nat) (M:XC) (N O:Nat):T :=
   T.new [aM,aM,aM,aM] 30 <| fun (b:YA) =>
   T.ao b [.slice D E F,.slice G H I,.slice J K L,.slice M N O] <|
   T.new [aM,aM,aM,aM] 30 <| fun (d:YA) =>
   T.ae b [.slice 64] <| fun (P:XC) (Q R:Nat) =>
   bq 45 [.pointer (some c),vI a,.slice P Q R] true [(false,[.slice 64]),(false,[.string]),cj] <| fun (S:XC) (U V:Nat) (W:XA) (X:Bool) =>
   T.ao d [.slice S U V] <|
   cond (!X)
    (T.ao e [vI (23:Int),vI a,.string W] <|
    T.ae e [.int .i64,.int .i64,.string] <| fun (Y Z:Int) (s46:XA) =>
    bI #[.pointer none,.agg #[vI Y,vI Z,.string s46]])
    (T.ae (b.add 1) [.slice 64] <| fun (p44:XC) (l45 l46:Nat) =>
    bq 45 [.pointer (some c),vI a,.slice p44 l45 l46] true [(false,[.slice 64]),(false,[.string]),cj] <| fun (p47:XC) (l48 l49:Nat) (s50:XA) (b51:Bool) =>
    T.ao (d.add 1) [.slice p47 l48 l49] <|
    cond (!b51)
    (T.ao e [vI (23:Int),vI a,.string s50] <|
    T.ae e [.int .i64,.int .i64,.string] <| fun (n52 n53:Int) (s54:XA) =>
    bI #[.pointer none,.agg #[vI n52,vI n53,.string s54]])
    (T.ae (b.add 2) [.slice 88] <| fun (p52:XC) (l53 l54:Nat) =>
    Ru e c a p52 l53 w x y z A B C fun p55 p56 l57 l58 p59 l60 l61 =>
     (T.ae c [.slice 30] <| fun (f:XC) (g h:Nat) =>
     T.ae d [.slice 64,.slice 64,.slice 88,.slice 9] <| fun (i:XC) (j k:Nat) (l:XC) (m n:Nat) (o:XC) (p q:Nat) (r:XC) (s t:Nat) =>
     bR (Instr.buildSlice 22 1 #[(0,.agg #[.slice i j k,.slice l m n,.slice o p q,.slice r s t])]) false [eb] <| fun (p78:XC) (l79 l80:Nat) =>
     T.az [(c,[.slice f g h])] <|
     bR (Builtin.append_ #[22,22] 22 #[.slice f g h,.slice p78 l79 l80]) false [eb] <| fun (p81:XC) (l82 l83:Nat) =>
     T.az [(d,[.slice i j k,.slice l m n,.slice o p q,.slice r s t])] <|
     T.ao c [.slice p81 l82 l83] <|
     T.ae (c.add 6) [.int .i64] <| fun (u:Int) =>
     T.ae b [.slice 64,.slice 64,.slice 88,.slice 9] <| fun (p85:XC) (l86 l87:Nat) (p88:XC) (l89 l90:Nat) (p91:XC) (l92 l93:Nat) (p94:XC) (l95 l96:Nat) =>
     bq 48 [.agg #[.slice p85 l86 l87,.slice p88 l89 l90,.slice p91 l92 l93,.slice p94 l95 l96]] false [aK] <| fun (n97:Int) =>
     T.az [((c.add 6),[vI u])] <|
     T.ao (c.add 6) [vI (bf (u+n97))] <|
     T.again 1 [.pointer p55,.slice p56 l57 l58,.slice p59 l60 l61,vI (bf (a+(1:Int)))])))
variable {U:Nat->km} {H V c:Nat}
def yR {n:Nat} {x:km} (hk:2*n<=H):lQ (kg U H x) n=lQ U n:=by
 unfold lQ;apply V4;intro i hi;have hi:i<n:=Xd.1 hi;unfold xt kg;rw [Vu ad,Vu ad]
section
variable {h h':Hp} {B N M:Nat} {w:LW} {usl lb:cm} {sp:Int} {S:Nat->km}
def pH.add (s:pH h B w usl lb sp N M S) (e:Ext h h') (a:2*N<=M) {x:km} (b:lN h' h.size x):pH h' B w usl lb sp N (M+1) (kg S M x):=by
 have s':=s.ext e;exact ⟨s'.box,s'.maps,s'.vN,by rw [yR a]; exact s'.un,s.wP.add e s.lt b⟩
end
section
variable {h h':Hp} {B N M:Nat} {w:LW} {usl lb:cm} {sp:Int} {S:Nat->km}
def pH.EB {x:Nat} {xs:List XB} (s:pH h B w usl lb sp N M S) (b:bm h x 30 xs) (n:B+4<=x) (a:x∉aG usl.p) (k:Ch [x] h h'):pH h' B w usl lb sp N M S:=by
 have c:∀ {b2 sz:Nat} {e:TypeId} {q:XC} {m d:Nat} {ys:List (List XB)},SL h b2 e sz q m d ys->e≠30->SL h' b2 e sz q m d ys:=fun t l=>t.bH k (fun i hi f=>by
  have:i=x:=by simpa using f
  subst this;exact AN t b l hi)
 exact ⟨s.box.af k (by simp; omega),s.maps.af k (by simp; omega) (by simp; omega) (by simp; omega),c s.vN bJ,s.un.bH k (fun i hi f=>by
  have:i=x:=by simpa using f
  subst this;exact a hi),⟨fun j g=>⟨c (s.wP.sec j g).out bJ,fun u a=>c ((s.wP.sec j g).j4 u a) bJ⟩,s.wP.ap⟩⟩
variable {H:List (XA × cL)}
def BH.EB {x b:Nat} {xs:List XB} {e k:cm} {ks:List Ky} (s:BH h b e k H ks) (bx:bm h x 30 xs) (c:Ch [x] h h'):BH h' b e k H ks:=by
 have f:∀ {b2 sz:Nat} {e:TypeId} {q:XC} {m d:Nat} {ys:List (List XB)},SL h b2 e sz q m d ys->e≠30->SL h' b2 e sz q m d ys:=fun t g=>t.bH c (fun i hi a=>by
  have:i=x:=by simpa using a
  subst this;exact AN t bx g hi)
 obtain ⟨⟨ms,o,a⟩,y⟩:=s;exact ⟨⟨ms,⟨f o.out bJ,fun m a=>f (o.j4 m a) bJ,o.ap,o.dj⟩,a⟩,f y bJ⟩
def BH.eU {b b2 sz:Nat} {q:XC} {m d:Nat} {f:List (List XB)} {e k:cm} {ks:List Ky} (s:BH h b e k H ks) (t:SL h b2 30 sz q m d f) (c:Ch (aG q) h h'):BH h' b e k H ks:=by
 obtain ⟨⟨ms,o,a⟩,y⟩:=s;exact ⟨⟨ms,o.qI t c bJ bJ,a⟩,y.bH c (fun i hi a=>uy t y bJ i a hi)⟩
def BH.P5 {b x:Nat} {e k:cm} {ks:List Ky} (s:BH h b e k H ks) (d:x<b) (c:Ch [x] h h'):BH h' b e k H ks:=by
 obtain ⟨⟨ms,o,a⟩,y⟩:=s;exact ⟨⟨ms,o.af c (fun i hi=>by have:i=x:=(by simpa using hi); omega),a⟩,y.bH c (fun i hi a=>by
  have:i=x:=by simpa using a
  have:=(y.cu hi).1
  omega)⟩
end
variable {I:LW} {Z:bS} {Y a:cm} {O:List (XA × cL)} {b:XC}
def NN {L:Lp} {K:XB->Hp->Prop} {h0 h:Hp} {n:Nat} {usl lb:cm} {sp:Nat} {M td el kl:cm} {ks:List Ky} {d:qK (flat MY)->Nat->Hp->Prop} 
  (hL:2=L.length) (hJ:L[1]?=some (Jl d c)) (pw:iN h0) (tb0:AE h0) (hA:h0.size<=H) (hAB:H<V) (e0:Ext h0 h) (ba:bm h H 37 [vI 0,vI 0,.string ⟨#[]⟩]) (s:pH h V I usl lb (sp:Int) n (2*n) U) (IQ:ND I) (es0:BH h (V+4) el kl O ks)
  (v:jI h0 Y a M td Z) (ge:∀ x,x∈bU Z->DB x) (hr:ee Z=0) (hl1:Z.text.length<=2^20) (hl2:Z.data.length<=2^20) (hl3:Z.aS.length<=2^20) (hD:O.length<=2^20) (hks:ks.length<=2^20) (hn:n<=2^20) (hsp:sp<=2^40)
  (N:∀ h' q,Ext h0 h'->my I n Z=some q->K (Ds 23 n q) h')
  (hk:∀ h' X kl' usl' S',Ext h0 h'->bm h' H 37 [vI 0,vI 0,.string ⟨#[]⟩]->pH h' V I usl' lb ((sp+gK Z.text:Nat):Int) (n+1) (2*(n+1)) S'->BH h' (V+4) X kl' (O++Z.aS.map fun e=>(I.word (n,e.1),I.di n e.2)) (ks++Z.aS.map fun e=>(n,e.1)) ->
   my I n Z=none->(∀ k,k<2*n->S' k=U k)->(S' (2*n)).ws.map (·.2)=Z.text.map (I.ez n)->(S' (2*n+1)).ws.map (·.2)=Z.data.map (I.ez n) ->
   ∃ m',m'<c/\d (b,(X.p,X.l,X.c),(kl'.p,kl'.l,kl'.c),((n+1:Nat):Int),()) m' h') :
  QY ⟨H,0,none⟩ ⟨V+3,0,none⟩ b el.p el.l el.c kl.p kl.l kl.c (n:Int) Y.p Y.l Y.c a.p a.l a.c M.p M.l M.c td.p td.l td.c L K h:=by
 unfold QY bq bR bf bI aM aK cj eb;have l0:=s.lt;have zA:=e0.size;refine br ?_;intro h1 b1' e1 z1;refine bT b1' ?_;intro h2 b2 k2 z2;have b2:bm h2 h.size 30 [Y.v,a.v,M.v,td.v]:=b2;have e02:Ext h h2:=bZ e1 k2;refine br ?_;intro h3 b3 e3 z3;have b23:=b2.af e3 ah;refine av b23 ((Y.p,Y.l,Y.c),()) (ak ?_);have e03:=e02.trans e3;have s3:=s.ext e03;have E3:=e0.trans e03;refine aH (yy (c:=Y.c) (pw.af E3 ah) s3.box s3.maps IQ n (v.af E3).text hl1 (fun x hx=>ge _ (by unfold bU; simp only [List.mem_append]; exact .inl (.inl (VM hx))))) ?_;rintro _ h4 ⟨G,P⟩;have z03:=e03.size;have z4:=G.size;have q3:=b3.lt;cases hb:I.ya n Z.text with
 | some t =>
  rw [hb] at P;subst P;refine ⟨((none,0,0),t,false,()),rfl,ak ?_⟩;refine bT (b3.af G ah) ?_;intro h5 b5 k5 z5;refine cy rfl ?_;have e35:Ext h3 h5\/True:=.inr trivial;have ba5:=((ba.af (e03.trans G) ah).af k5 (by simp; omega))
  refine bT ba5 ?_;intro h6 b6 k6 z6;have b6:bm h6 H 37 [vI 23,vI (n:Int),.string t]:=b6;refine av b6 ((23:Int),(n:Int),t,()) ?_;refine N h6 t ?_ (by unfold my; rw [hb]; rfl);exact Ch.trans (bZ (E3.trans G) k5) k6 (fun i hi hl=>by simp at hi; omega)
 | none =>
  rw [hb] at P;obtain ⟨p4,c4,B4,w4,rfl,lc4,hB4,hw4⟩:=P;refine ⟨((p4,Y.l,c4),(⟨#[]⟩:XA),true,()),rfl,ak ?_⟩;refine bT (b3.af G ah) ?_;intro h5 b5 k5 z5;have b5:bm h5 h2.size 30 [.slice p4 Y.l c4,.slice none 0 0,.slice none 0 0,.slice none 0 0]:=b5;refine bX rfl ?_;have x4:lN h4 h3.size ⟨⟨p4,Y.l,c4⟩,w4⟩:=⟨lc4.out,fun y hy=>(lc4.j4 y hy).mono hB4⟩
  have s4:=s3.add G (VL _) x4;have hu2:h2.size∉aG usl.p:=fun r=>by have:=(s.un.cu r).2; have:=e02.size; omega
  have l2:=e02.size;have s5:=s4.EB (b3.af G ah) ad hu2 k5;have ba5:=(ba.af (e03.trans G) ah).af k5 (by simp; omega);have q2:=b2.lt;have b25:=(b23.af G ah).af k5 (by simp; omega);have E5:Ext h0 h5:=bZ (E3.trans G) k5;have es5:BH h5 (V+4) el kl O ks:=((es0.ext (e03.trans G))).EB (b3.af G ah) k5;rw [ax];refine av b25 ((a.p,a.l,a.c),()) (ak ?_);refine aH (yy (c:=a.c) (pw.af E5 ah) s5.box s5.maps IQ n (v.af E5).data hl2 (fun x hx=>ge _ (by unfold bU; simp only [List.mem_append]; exact .inl (.inr (VM hx))))) ?_;rintro _ h6 ⟨e6,P⟩;have b56:=b5.af e6 ah;have z6:=e6.size;cases Q:I.ya n Z.data with
  | some t =>
   rw [Q] at P;subst P;refine ⟨((none,0,0),t,false,()),rfl,ak ?_⟩;rw [ax];refine bT b56 ?_;intro h7 b7 k7 z7;refine cy rfl ?_;have ba7:=(ba5.af e6 ah).af k7 (by simp; omega);refine bT ba7 ?_;intro h8 b8 k8 z8;have b8:bm h8 H 37 [vI 23,vI (n:Int),.string t]:=b8;refine av b8 ((23:Int),(n:Int),t,()) ?_;refine N h8 t ?_ (by unfold my; rw [hb,Q]; rfl);exact Ch.trans (bZ (E5.trans e6) k7) k8 (fun i hi hl=>by simp at hi; omega)
  | none =>
   rw [Q] at P;obtain ⟨p6,c6,B6,w6,rfl,lc6,hB6,hw6⟩:=P;refine ⟨((p6,a.l,c6),(⟨#[]⟩:XA),true,()),rfl,ak ?_⟩;rw [ax];refine bT b56 ?_;intro h7 b7 k7 z7;have b7:bm h7 h2.size 30 [.slice p4 Y.l c4,.slice p6 a.l c6,.slice none 0 0,.slice none 0 0]:=b7;refine bX rfl ?_;have x6:lN h6 h5.size ⟨⟨p6,a.l,c6⟩,w6⟩:=⟨lc6.out,fun y hy=>(lc6.j4 y hy).mono hB6⟩
   have s6:=s5.add e6 ad x6;have s7:=s6.EB b56 ad hu2 k7;have es7:=(es5.ext e6).EB b56 k7;have ba7:=(ba5.af e6 ah).af k7 (by simp; omega);have b27:=(b25.af e6 ah).af k7 (by simp; omega);have E7:Ext h0 h7:=bZ (E5.trans e6) k7;have QC:=b27;rw [ax];refine av b27 ((M.p,M.l,M.c),()) (ak ?_);refine OQ hL pw hA hAB E7 ba7 s7 IQ es7 v.aS (fun e he=>ge _ (by unfold bU; simp only [List.mem_append]; exact .inr (VM he))) hl3 hD hks (fun h' q e P=>N h' q e (by unfold my; rw [hb,Q]; exact P)) ?_;intro h8 el8 kl8 J E8 ba8 C es8 ke8 hb3;have b78:=ke8 _ _ _ bJ bJ b7;have D3:=ke8 _ _ _ bJ bJ b27;generalize R:kg (kg U (2*n) ⟨⟨p4,Y.l,c4⟩,w4⟩) (2*n+1) ⟨⟨p6,a.l,c6⟩,w6⟩=S2 at C;refine av C.box ((usl.p,usl.l,usl.c),()) (ak ?_);refine av b78 ((p4,Y.l,c4),(p6,a.l,c6),(none,0,0),(none,0,0),()) (ak ?_);have hul:usl.l=n:=by have:=s.un.1; rwa [ko] at this
   have z8':=E8.size;have l8:=C.lt;refine re (vs:=[.slice p4 Y.l c4,.slice p6 a.l c6,.slice none 0 0,.slice none 0 0]) Rm TT rfl ad ad (RX p4 Y.l c4 p6 a.l c6 none 0 0 none 0 0) rfl rfl C.un ad ad ad (fun h' e=>⟨(C.box.af e ah).cells _ rfl,trivial⟩) ?_;intro p9 c9 h9 s9 W hp9;have b79:=b78.af W hu2;have hu1:h.size∉aG usl.p:=fun r=>by have:=(s.un.cu r).2; omega
   have b29:=D3.af W hu1;refine ⟨⟨b79.cells _ rfl,trivial⟩,?_⟩;have g:∀ i,i∈aG usl.p->V+4<=i:=fun i hi=>(C.un.cu hi).1
   have bx9:=C.box.af W (fun r=>by have:=g _ r; omega);have ba9:=ba8.af W (fun r=>by have:=g _ r; omega);have es9:=es8.eU C.un W;have E9:Ext h0 h9:=Ch.trans E8 W (fun i hi hl=>by have:=g _ hi; omega);have m9:=C.maps.af W (fun r=>by have:=g _ r; omega) (fun r=>by have:=g _ r; omega) (fun r=>by have:=g _ r; omega);have lb9:=C.vN.bH W (fun i hi r=>uy C.un C.vN bJ i r hi);have se9:=C.wP.qI C.un W bJ bJ;have z9:=W.size;refine bT bx9 ?_;intro h10 E j z10;have E:Nx h10 (V+3) ⟨p9,usl.l+1,c9⟩ lb V (V+1) (V+2) (sp:Int):=E;have es10:=es9.P5 ad j;have ba10:=ba9.af j (by simp; omega);have m10:=m9.af j ah ah ah;have lb10:=lb9.bH j (fun i hi=>by have:=(lb9.cu hi).1; simp; omega);have se10:=se9.ig j ah;have un10:=s9.bH j (fun i hi=>by have:=(s9.cu hi).1; simp; omega);have E10:Ext h0 h10:=bZ E9 j;have b210:=b29.af j (by simp; omega);rw [ax];refine av E ((sp:Int),()) (ak ?_);refine av b210 ((Y.p,Y.l,Y.c),(a.p,a.l,a.c),(M.p,M.l,M.c),(td.p,td.l,td.c),()) (ak ?_);refine aH (Iw (tb0.af E10 ah) (v.af E10)) ?_;rintro _ h11 ⟨rfl,o⟩;rw [VE hr];refine ⟨(((gK Z.text:Nat):Int),()),rfl,ak ?_⟩;have bx11:=E.af o ah;refine ⟨⟨bx11.cells _ rfl,trivial⟩,?_⟩;have hsl:=yH Z.text;refine bT bx11 ?_;intro h12 F z z12;have hw1:IntKind.wrap .i64 ((sp:Int)+((gK Z.text:Nat):Int))=((sp+gK Z.text:Nat):Int):=by rw [wrap_i64 ad ad]; omega
   rw [hw1] at F;have F:Nx h12 (V+3) ⟨p9,usl.l+1,c9⟩ lb V (V+1) (V+2) ((sp+gK Z.text:Nat):Int):=F;have hw:=lC n;rw [hw];have un11:=un10.af o ah;have lb11:=lb10.af o ah;obtain ⟨m',hm',hI⟩:=hk h12 el8 kl8 ⟨p9,usl.l+1,c9⟩ S2 (bZ (E10.trans o) z) ((ba10.af o ah).af z (by simp; omega))
    ⟨F,(m10.af o ah ah ah).af z ah ah ah,lb11.bH z (fun i hi=>by have:=(lb11.cu hi).1; simp; omega),by
     have:=un11.bH z (fun i hi=>by have:=(un11.cu hi).1; simp; omega)
     rw [<- R,Gq];rw [<- R,yR ad,yR ad] at this;exact this,(se10.ext o).ig z ah⟩
    ((es10.ext o).P5 ad z) (by unfold my; rw [hb,Q]; exact hb3) (fun k hk=>by rw [<- R]; unfold kg; rw [Vu ad,Vu ad]) (by rw [<- R]; unfold kg; rw [Vu ad,VE rfl]; exact hw4) (by rw [<- R]; unfold kg; rw [VE rfl]; exact hw6)
   exact aD (cs:=MY) (b,(el8.p,el8.l,el8.c),(kl8.p,kl8.l,kl8.c),((n+1:Nat):Int),()) m' (by rw [Wb ad]; exact hJ) hm' rfl hI
def jF (us:List bS):Nat:=(us.map fun u=>gK u.text).sum
structure PS (x:km):Prop where
 len:x.ws.length<=2^30
 Sg:∀ u,u∈x.ws->u.2.e.ai.length<=2^40
 sz:∀ u,u∈x.ws->∀ t,t∈u.2.e.ai->t.1.size<=maxLen
def KQ (h0:Hp) (us:List bS) (v:XB) (h':Hp):Prop:=Ext h0 h'/\match jD us with
 | .error f=>v=Ds f.Ar f.unit f.name
 | .ok P=>∃ B usl lb S,h0.size<=B/\v=.tuple #[ptr (B+3),.agg #[vI 0,vI 0,.string ⟨#[]⟩]]/\pH h' B P.w usl lb ((jF us:Nat):Int) us.length (2*us.length) S /\
   (∀ n,(hn:n<us.length)->(S (2*n)).ws.map (·.2)=us[n].text.map (P.ez n)/\(S (2*n+1)).ws.map (·.2)=us[n].data.map (P.ez n))/\∀ k,k<2*us.length->PS (S k)
def Mr {ms:List ei} (ok:EqsOk ms) (het:∀ e,e∈ms->e.x.ai.length<=2^20) {x:cL} (hl:x.ai.length<=2^20) (d:∀ t,t∈x.ai->t.1.size<=maxLen):(fg (dW ms) x).ai.length<=2^40/\∀ t,t∈(fg (dW ms) x).ai->t.1.size<=maxLen:=by
 have c:∀ s y,dW ms s=some y->∃ e,e∈ms/\y=e.x:=by
  intro s y a;unfold dW at a;split at a
  ·next i =>
   obtain ⟨e,b,_,j⟩:=kV ((eP ms s).1 i);exact ⟨e,b,by cases a; exact j⟩
  ·cases a
 refine ⟨?_,fun t f=>?_⟩
 ·have hnf:=jq (dW ms) x;have h1:((fg (dW ms) x).ai.map (·.1)).Nodup:=Wl.2 (hnf.1.imp fun h=>jP h);have h2:=mQ _ ((x.ai.flatMap (tp (dW ms))).map (·.1)) h1 (fun s d=>by
   obtain ⟨t,f,rfl⟩:=Vy.1 d;obtain ⟨p,g,e⟩:=Ig f;exact Vy.2 ⟨p,g,e⟩)
  rw [Vr,Vr] at h2;have h3:=oZ (of:=dW ms) (B:=2^20) bJ (fun s y a=>by
   obtain ⟨e,b,rfl⟩:=c s y a;exact het e b) x.ai
  exact Wi h2 (Wi h3 (Wi (Wq _ hl) bJ))
 ·rcases ue f with ⟨p,g,b,_⟩ | ⟨p,y,u,_,a,k,b⟩
  ·rw [<- b]; exact d p g
  ·obtain ⟨e,l,rfl⟩:=c _ _ a;rw [<- b]; exact ok.ts e l u k
def TR {x:cL} (g:Good x) (h:x.ai.length<=2^20):DB x :=
 ⟨g.nf,g.num,h,fun t a=>by
  have:=Gk (g.K9 t a)
  have b:2000<=maxLen:=bJ
  omega⟩
def Fs.BS {us:List bS} (s:Fs us) (r:GH us) (a:Z∈us) {x:cL} (b:x∈bU Z):DB x :=
 TR (zO (r.right Z a) (s.num Z a) x b) (s.len a b)
def DH {us:List bS} (s:Fs us) (r:GH us) (lb:ND I) {u:bS} (f:u∈us) (i:my I H u=none) {l:List cv} (hl:l=u.text\/l=u.data) {ws:List (cm × cv)} (h:ws.map (·.2)=l.map (I.ez H)):Hb ws/\ws.length<=2^20:=by
 have hb':=AZ i;have h2:=(r.aS f).2;refine ⟨fun y c=>?_,?_⟩
 ·have h1:y.2∈l.map (I.ez H):=by rw [<- h]; exact VM c
  obtain ⟨x,b,j⟩:=Vy.1 h1;have a:I.bad H x.e=none:=by
   rcases hl with rfl | rfl
   ·exact hb'.1 x b
   ·exact hb'.2.1 x b
  have d:x.e∈bU u:=by
   unfold bU;simp only [List.mem_append];rcases hl with rfl | rfl
   ·exact .inl (.inl (VM b))
   ·exact .inl (.inr (VM b))
  have g:=s.BS r f d;have c:y.2.e=I.di H x.e:=by rw [<- j]; rfl
  rw [c];exact ⟨Wi (yu a) g.len,qy g.num,Mi lb a⟩
 ·have:=VO List.length h
  rw [Vr,Vr] at this;rcases hl with rfl | rfl <;> omega
def Kf {es:List ei} (h:es.map jM=O) {i:Nat} (hi:i<es.length) (h1:oM (eZ es) es[i].name) (h2:∀ j,(a:j<i)->¬ oM (eZ es) es[j].name):rR O=some i:=by
 classical
 have b:eZ (rK O)=eZ es:=Fk (by rw [uP,h]);have hl:O.length=es.length:=by rw [<- h,Vr]
 have hn:∀ j,(a:j<es.length)->(O[j]'ad).1=es[j].name:=by
  intro j a;subst h;rw [VD] <;> rfl
 unfold rR;rw [Wj];refine ⟨ad,?_,fun j a=>?_⟩
 ·refine Vw ?_;rw [b,hn i hi];exact h1
 ·intro hd;have hd:=Vv hd;rw [b,hn j ad] at hd;exact h2 j a hd
def JT {es:List ei} (h:es.map jM=O) (h2:∀ v,¬ oM (eZ es) v):rR O=none:=by
 have a:eZ (rK O)=eZ es:=Fk (by rw [uP,h]);unfold rR;rw [Wv];intro x b;rw [decide_eq_false_iff_not,a];exact h2 _
def LV {es ms:List ei} (h:es.map jM=O) (a:ms.map (fun m=>(m.name,m.x))=es.map (fun e=>(e.name,iD es e.name))):dW ms=dW (rK (MU O)):=by
 refine Mx ?_;rw [uP];show ms.map (fun m=>(m.name,m.x))=_;rw [a];unfold MU;have b:iD (rK O)=iD es:=OR (by rw [uP,h]);rw [b,<- h,VN] <;> rfl
def N1 {J0 J1:List XB->Hp->Prop} {h0 h:Hp} {usl lb:cm} {us:List bS} 
  (hA:h0.size<=H) (M:H<V) (e0:Ext h0 h) (X:bm h H 37 [vI 0,vI 0,.string ⟨#[]⟩]) (s:pH h V I usl lb ((jF us:Nat):Int) us.length (2*us.length) U)
  (N:BH h (V+4) Y a (rZ I us) ((eF 0 us).map iY)) (r:GH us) (sm:Fs us) (O:WI I (df 0 us) ((eF 0 us).map iY)) (Z:eS I 0 us=none)
  (hS:∀ n,(hn:n<us.length)->(U (2*n)).ws.map (·.2)=us[n].text.map (I.ez n)/\(U (2*n+1)).ws.map (·.2)=us[n].data.map (I.ez n))
  (t:jD us=match rR (rZ I us) with
    | some i=>.error ⟨24,((eF 0 us).map fun q=>(q.1,q.2.1)).getD i (0,dA) |>.1,((eF 0 us).map fun q=>(q.1,q.2.1)).getD i (0,dA) |>.2⟩
    | none=>.ok ⟨I,us,rZ I us⟩) :
  RW ⟨H,0,none⟩ ⟨V+3,0,none⟩ Y.p Y.l Y.c a.p a.l a.c [J0,J1] (KQ h0 us) h:=by
 unfold RW ay bq eH bI aK;obtain ⟨⟨es,o,e⟩,y⟩:=N;have eo:=QN r sm O Z e;have hl:es.length=(eF 0 us).length:=by
  have:=VO List.length e
  unfold rZ at this;simpa using this
 have hl2:=r.eqs;refine aH (Ei (c:=Y.c) (BN o) eo (fun i hi=>(o.out.cu hi).2) ad) ?_;rintro _ h1 ⟨P,m⟩;rcases P with ⟨i,hi,Q,x,rfl⟩ | ⟨z,p',l',c',ms,rfl,R,C⟩
 ·refine ⟨((none,0,0),(i:Int),(24:Int),()),rfl,ak ?_⟩;refine cy rfl ?_;have y1:=y.af m ah;have hkl:a.l=(eF 0 us).length:=by have:=y.1; rwa [Vr,Vr] at this
  have D:i<(eF 0 us).length:=ad
  obtain ⟨b,ha,hc⟩:=y1.cells (i:=i) (by rw [Vr,Vr]; exact D);rw [VD,VD] at hc;generalize P:(eF 0 us)[i]=q at hc;have hc:aE h1 (b.add (i*2)) 0 [vI (q.1:Int),.string q.2.1]:=hc;refine cC ha ?_;rw [cX i];refine aC ((q.1:Int),()) (eA 1 _ 0 hc) (ak ?_);refine cC ha ?_;have E:aE h1 ((b.add (i*2)).add 1) 0 [.string q.2.1]:=iA _ 1 0 (gg 1 _ 0 hc);refine aC (q.2.1,()) E (ak ?_);refine ⟨⟨E,eA 1 _ 0 hc,trivial⟩,?_⟩;refine bT (X.af m ah) ?_;intro h2 b2 F z2;have b2:bm h2 H 37 [vI 24,vI (q.1:Int),.string q.2.1]:=b2;refine av b2 ((24:Int),(q.1:Int),q.2.1,()) ?_;refine ⟨bZ (e0.trans m) F,?_⟩;rw [t,Kf e hi Q x];have hg:((eF 0 us).map fun q=>(q.1,q.2.1)).getD i (0,dA)=(q.1,q.2.1):=by
   rw [V3,Wa,VC D,P] <;> rfl
  simp only [hg] <;> rfl
 ·refine ⟨((p',l',c'),(0:Int),(0:Int),()),rfl,ak ?_⟩;refine bX rfl ?_;obtain ⟨W,F,k3,k4⟩:=Js eo z C ad;have hmany:=r.many;have f:∀ j,j<2*us.length->Hb (U j).ws/\(U j).ws.length<=2^20:=by
   intro j hj;have hn:j / 2<us.length:=ad
   have hbn:=oX us 0 Z (j / 2) hn;rw [V9] at hbn;have hSn:=hS (j / 2) hn
   by_cases h2:j % 2=0
   ·have:j=2*(j / 2):=ad
    rw [this];exact DH sm r (r.IQ O) (VA hn) hbn (.inl rfl) hSn.1
   ·have:j=2*(j / 2)+1:=ad
    rw [this];exact DH sm r (r.IQ O) (VA hn) hbn (.inr rfl) hSn.2
  refine OJ hA M (e0.trans m) (X.af m ah) (s.ext m) ⟨R,W,F,k3,k4⟩ ad f ?_
  ·intro h' K E' s' d;refine ⟨E',?_⟩;rw [t,JT e z];refine ⟨V,usl,lb,K,ad,rfl,s',fun n hn=>?_,fun k hk=>?_⟩
   rotate_left
   ·have hd:=(d k).2;rw [VE hk] at hd;obtain ⟨L,q2⟩:=f k hk;have hlen:(K k).ws.length=(U k).ws.length:=by
     have:=VO List.length hd
     rwa [Vr,Vr] at this
    have g:∀ u,u∈(K k).ws->∃ v,v∈(U k).ws/\u.2=pZ (dW ms) v.2:=by
     intro u G;have h1:u.2∈(U k).ws.map (fun u=>pZ (dW ms) u.2):=by rw [<- hd]; exact VM G
     obtain ⟨v,hv,J⟩:=Vy.1 h1;exact ⟨v,hv,J.symm⟩
    refine ⟨ad,fun u G=>?_,fun u G=>?_⟩
    ·obtain ⟨v,hv,J⟩:=g u G;rw [J];exact (Mr W F (L v hv).1 (L v hv).2.2).1
    ·obtain ⟨v,hv,J⟩:=g u G;rw [J];exact (Mr W F (L v hv).1 (L v hv).2.2).2
   have hSn:=hS n hn;have hlo:=LV e C;have hd:∀ (k:Nat) (l:List cv),k<2*us.length->(U k).ws.map (·.2)=l.map (I.ez n)->(K k).ws.map (·.2)=l.map ((⟨I,us,rZ I us⟩:LP).ez n):=by
    intro k l hk hl
    have:=(d k).2
    rw [VE hk] at this;rw [this,show (U k).ws.map (fun u=>pZ (dW ms) u.2)=((U k).ws.map (·.2)).map (pZ (dW ms)) by rw [VN]; rfl,hl,VN,hlo] <;> rfl
   exact ⟨hd _ _ ad hSn.1,hd _ _ ad hSn.2⟩
def TN (y z:YA) (B c:XC) (b A:Nat):T :=
   (T.loop [(false,[.pointer 0]),eb,eb,aK] [.pointer B,aM,aM,vI (0:Int)] <| fun (j d:XC) (e f:Nat) (g:XC) (h i:Nat) (a:Int) =>
   bC a b
   (T.need (eH a b) <|
   T.bd c <| fun (k:YA) =>
   T.ae (k.add (ay a 4)) [.slice 64,.slice 64,.slice 88,.slice 9] <| fun (l:XC) (m n:Nat) (o:XC) (p q:Nat) (r:XC) (s t:Nat) (u:XC) (w x:Nat) =>
   QY y z j d e f g h i a l m n o p q r s t u w x)
   (RW y z d e f g h i))
def Mf (w:LW) (us:List bS) (u:bS):rZ w (us++[u])=rZ w us++u.aS.map fun e=>(w.word (us.length,e.1),w.di us.length e.2):=by
 unfold rZ;rw [zj,VB,VN,V9] <;> rfl
def I3 (us:List bS) (u:bS):(eF 0 (us++[u])).map iY=(eF 0 us).map iY++u.aS.map fun e=>(us.length,e.1):=by
 rw [zj,VB,VN,V9] <;> rfl
def Gd (us:List bS) (u:bS):jF (us++[u])=jF us+gK u.text:=by
 unfold jF
 simp
theorem EL:∀ us:List bS,jF us<=ob us
 | []=>by simp [jF,ob]
 | u::us=>by
  have h1:=EL us;have h2:=yH u.text;unfold jF ob at *;simp only [List.map_cons,List.sum_cons];omega
def F7 (us:List bS) (n:Nat):jF (us.take n)<=jF us:=by
 have h:us=us.take n++us.drop n:=(We n us).symm
 conv=>rhs; rw [h]
 unfold jF;rw [VB,List.sum_append];omega
def K7 (us:List bS) (n:Nat):(eF 0 (us.take n)).length<=(eF 0 us).length:=by
 have e:∀ (a b:List bS) (k:Nat),eF k (a++b)=eF k a++eF (k+a.length) b:=by
  intro a
  induction a with
  | nil=>intro b k; simp [eF]
  | cons x a c =>
   intro b k;rw [Xc,eF,eF,c,VW,Wc,show k+1+a.length=k+(a.length+1) from ad]
 have h:=e (us.take n) (us.drop n) 0;rw [We] at h;rw [h,Vs];omega
def NW {J0:List XB->Hp->Prop} {h0 h:Hp} {lb:cm} {us:List bS} {pp:XC} {cc:Nat}
  (pw:iN h0) (L:AE h0) (hA:h0.size<=H) (m:H<V) (e0:Ext h0 h) (o:bm h H 37 [vI 0,vI 0,.string ⟨#[]⟩]) (s:C8 h V nZ lb 0 I)
  (v:Fp h0 pp c us) (r:GH us) (sm:Fs us) (i0:WI I (df 0 us) ((eF 0 us).map iY))
  (f:jD us=match eS I 0 us with
   | some q=>.error ⟨23,q.1,q.2⟩
   | none=>match rR (rZ I us) with
    | some i=>.error ⟨24,((eF 0 us).map fun q=>(q.1,q.2.1)).getD i (0,dA) |>.1,((eF 0 us).map fun q=>(q.1,q.2.1)).getD i (0,dA) |>.2⟩
    | none=>.ok ⟨I,us,rZ I us⟩) :
  TN ⟨H,0,none⟩ ⟨V+3,0,none⟩ none pp c cc [J0] (KQ h0 us) h:=by
 unfold TN bC ay eH aM aK eb;have hll:=v.len;have hmany:=r.many;have hlwb:=r.IQ i0;have s0:pH h V I nZ lb ((0:Nat):Int) 0 (2*0) (fun _=>Ts):=⟨s.box,s.maps,s.vN,SL.nil _ _ _ _,kw.nil _ _ _⟩
 refine aY (cs:=MY) (fun y m' h'=>∃ (n:Nat) (usl t z:cm) (S:Nat->km),y.1=none/\y.2.1=(t.p,t.l,t.c)/\y.2.2.1=(z.p,z.l,z.c)/\y.2.2.2.1=(n:Int)/\n<=us.length/\m'=us.length-n/\Ext h0 h'/\bm h' H 37 [vI 0,vI 0,.string ⟨#[]⟩]/\pH h' V I usl lb ((jF (us.take n):Nat):Int) n (2*n) S /\
   BH h' (V+4) t z (rZ I (us.take n)) ((eF 0 (us.take n)).map iY)/\eS I 0 us=eS I n (us.drop n)/\∀ j,(hj:j<n)->(K:j<us.length)->(S (2*j)).ws.map (·.2)=us[j].text.map (I.ez j)/\(S (2*j+1)).ws.map (·.2)=us[j].data.map (I.ez j))
  (none,(none,0,0),(none,0,0),(0:Int),()) us.length rfl
  ⟨0,nZ,nZ,nZ,fun _=>Ts,rfl,rfl,rfl,rfl,ad,ad,e0,o,by simpa [jF] using s0,⟨⟨[],⟨SL.nil _ _ _ _,ah,List.Pairwise.nil,ah⟩,rfl⟩,SL.nil _ _ _ _⟩,rfl,by intro j hj; omega⟩ ?_
 clear e0 o s s0;rintro ⟨p13,⟨p14,l15,l16⟩,⟨p17,l18,l19⟩,n20,⟨⟩⟩ m' h1 ⟨n,usl,t,z,S,C,D,F,G,hnl,rfl,M,o,s,g,b,hS⟩;simp only [Prod.mk.injEq] at C D F G;obtain ⟨rfl,rfl,rfl⟩:=D;obtain ⟨rfl,rfl,rfl⟩:=F;subst C G;refine ak ?_;refine aQ ?_ ?_<;>intro q
 ·have d:n<us.length:=ad
  obtain ⟨a,N,O,P,Q,ha,hc,hu⟩:=v.cells n d;have hmem:=VA d;have k:us.take (n+1)=us.take n++[us[n]]:=Vt d;have R:(us.take n).length=n:=by rw [VQ]; omega
  rw [oN I us n d] at b;have hre:=r.aS hmem;have hrr:=r.right _ hmem;have hgood:=fun x K=>sm.BS r hmem (x:=x) K
  have hsu:=F7 us n;have hsu2:=EL us;have hit:=sm.items;have hek:=K7 us n;have hek2:=r.eqs;generalize U:us[n]=u at hc hu k b hre hrr hgood;refine cC ha ?_;rw [cX n];refine aC ((N.p,N.l,N.c),(O.p,O.l,O.c),(P.p,P.l,P.c),(Q.p,Q.l,Q.c),()) (bh M ah _ _ hc) (ak ?_);refine NN rfl rfl pw L hA m M o s hlwb g hu hgood hrr ad ad ad (by unfold rZ; rw [Vr]; omega) (by rw [Vr]; omega) ad ad ?_ ?_
  ·intro h' q E hq;refine ⟨E,?_⟩;rw [hq] at b;rw [f,b]
  ·intro h' W X J S' E Y s' Z hb e h1 h2;rw [hb] at b;refine ⟨us.length-(n+1),ad,n+1,J,W,X,S',rfl,rfl,rfl,rfl,ad,rfl,E,Y,?_,?_,b,fun j hj K=>?_⟩
   ·rw [k,Gd];exact s'
   ·rw [k,Mf,I3,R];exact Z
   ·by_cases hjn:j=n
    ·subst hjn;rw [U];exact ⟨h1,h2⟩
    ·rw [e _ ad,e _ ad];exact hS j ad K
 ·have hn:n=us.length:=ad
  subst hn;rw [Xh (VL _)] at b;rw [V0 (VL _)] at s g;have b:eS I 0 us=none:=b;rw [b] at f;exact N1 hA m M o s g r sm i0 b (fun n hn=>hS n hn hn) f
variable {d:Hp}
def Ct (pw:iN d) (F:AE d) {c:Nat} {us:List bS} (v:Fp d b H us) (sm:Fs us):HC YC 14 #[.slice b H c] d (KQ d us):=by
 refine aZ (args:=[.slice b H c]) mixed Tryz.func14 aw (yV b H c) ?_;unfold xR aT bo bC ay dh nU bq aR bR bf ar bI aM ct aK cj eb;have hll:=v.len;have hmany:=v.many;refine br ?_;intro h1 b1 S z1;refine an ?_ ?_<;>intro q
 ·have q:H=0:=by
   have:=Vv q
   omega
  refine bT b1 ?_;intro h2 b2 X z2;have b2:bm h2 d.size 37 [vI 25,vI 0,.string ⟨#[]⟩]:=b2;refine av b2 ((25:Int),(0:Int),(⟨#[]⟩:XA),()) ?_;refine ⟨bZ S X,?_⟩;unfold jD;rw [VE ad] <;> rfl
 have k:¬ us.length=0:=by
  have:=VI q
  omega
 refine an ?_ ?_<;>intro q
 ·have q:=Vv q;refine bT b1 ?_;intro h2 b2 X z2;have b2:bm h2 d.size 37 [vI 4,vI 0,.string ⟨#[]⟩]:=b2;refine av b2 ((4:Int),(0:Int),(⟨#[]⟩:XA),()) ?_;refine ⟨bZ S X,?_⟩;unfold jD;rw [Vu k,VE ad] <;> rfl
 have f:¬ 64<us.length:=by
  have:=VI q
  omega
 have G:∀ n,us.findIdx? (fun u=>decide (ee u≠0))=some n->jD us=.error ⟨31,n,dA⟩:=by
  intro n hn;unfold jD;rw [Vu k,Vu f,hn]
 refine aY (cs:=[(false,[.pointer 0]),(false,[.int .i64])]) (fun y m' h'=>∃ n:Nat,y.1=none/\y.2.1=(n:Int)/\n<=us.length/\m'=us.length-n/\Ext d h'/\bm h' d.size 37 [vI 0,vI 0,.string ⟨#[]⟩]/\∀ j,(m:j<n)->(hx:j<us.length)->ee us[j]=0) (none,(0:Int),()) us.length rfl
  ⟨0,rfl,rfl,ad,ad,S,b1,by intro j m; omega⟩ ?_
 clear S b1;rintro ⟨p2,n3,⟨⟩⟩ m' h2 ⟨n,I,J,hnl,rfl,K,b2,o⟩;simp only at I J;subst I J;refine ak ?_;refine aQ ?_ ?_<;>intro q
 ·have L:n<us.length:=ad
  obtain ⟨a,s,t,x,z,ha,hc,M⟩:=v.cells n L;refine cC ha ?_;rw [cX n];refine aC ((s.p,s.l,s.c),(t.p,t.l,t.c),(x.p,x.l,x.c),(z.p,z.l,z.c),()) (bh K ah _ _ hc) (ak ?_);refine br ?_;intro h3 Y Z z3;refine bT Y ?_;intro h4 b4 k4 z4;have b4:bm h4 h2.size 30 [s.v,t.v,x.v,z.v]:=b4;have N:Ext h2 h4:=bZ Z k4;have e04:=K.trans N;refine av b4 ((s.p,s.l,s.c),(t.p,t.l,t.c),(x.p,x.l,x.c),(z.p,z.l,z.c),()) (ak ?_);refine aH (u6 (F.af e04 ah) (M.af e04)) ?_;rintro _ h5 ⟨rfl,D⟩;refine ⟨(((ee us[n]:Nat):Int),()),rfl,ak ?_⟩;have b5:=b2.af (N.trans D) ah;have e05:=e04.trans D;refine an ?_ ?_<;>intro q
  ·have hne:ee us[n]≠0:=by
    intro h0;rw [h0] at q;exact absurd q bJ
   refine bT b5 ?_;intro h6 E k6 z6;have E:bm h6 d.size 37 [vI 31,vI (n:Int),.string ⟨#[]⟩]:=E;refine av E ((31:Int),(n:Int),(⟨#[]⟩:XA),()) ?_;refine ⟨bZ e05 k6,?_⟩;rw [G n (by
    rw [Wj];exact ⟨L,Vw hne,fun j m=>by rw [o j m ad]; decide⟩)]
   rfl
  ·have hz:ee us[n]=0:=by
    have hb:(((ee us[n]:Nat):Int) != 0)=false:=q
    by_cases h0:ee us[n]=0
    ·exact h0
    ·have:(((ee us[n]:Nat):Int) != 0)=true:=by
      rw [bne_iff_ne];omega
     rw [this] at hb;cases hb
   have hw:=lC n;rw [hw];refine aD (cs:=[(false,[.pointer 0]),(false,[.int .i64])]) (none,((n+1:Nat):Int),()) (us.length-(n+1)) rfl ad rfl ⟨n+1,rfl,rfl,ad,rfl,e05,b5,fun j m hx=>?_⟩
   by_cases hjn:j=n
   ·subst hjn; exact hz
   ·exact o j ad hx
 ·have hn:n=us.length:=ad
  subst hn;have r:GH us:=⟨fun u M=>by
   obtain ⟨j,m,rfl⟩:=VV M;exact o j m m,ad⟩
  have O:us.findIdx? (fun u=>decide (ee u≠0))=none:=by
   rw [Wv];intro u M;rw [r.right u M];decide
  have q2:=b2.lt;refine KD (kv:=NE) (en:=eI) ?_;intro h3 m3 Z z3;refine KD (kv:=NE) (en:=eI) ?_;intro h4 m4 e4 z4;refine xT (en:=eI) ?_;intro h5 m5 D z5;refine br ?_;intro h6 E U z6;have e26:=((Z.trans e4).trans D).trans U;have P:h4.size=h2.size+2:=ad
  have Q:h5.size=h2.size+3:=ad
  rw [z3] at m4;rw [P] at m5;rw [Q,z3,P] at E;rw [Q];have p6:C8 h6 h2.size nZ nZ 0 FR:=⟨E,⟨((m3.af e4 ah).af D ah).af U ah,(m4.af D ah).af U ah,m5.af U ah⟩,SL.nil _ _ _ _⟩
  have v2:=v.af K;have hit:=sm.items;refine aH (FI (c:=c) rfl e26 p6 v2 (by show 0+ob us<=_; omega) ad rfl) ?_;rintro _ h7 ⟨rfl,lb7,p7,e7⟩;refine ⟨(),rfl,ak ?_⟩;refine aH (Im (c:=c) rfl e7 p7 v2 ad) ?_;rintro _ h8 ⟨V,W⟩;have D3:=b2.af V ah;have z8:=V.size;have w0:=K8 r.right;cases R:fZ 0 us (gV 0 us FR) with
  | error q =>
   rw [R] at W;subst W;refine ⟨((22:Int),(q.1:Int),q.2,true,()),rfl,ak ?_⟩;refine br ?_;intro h9 A e9 z9;refine bT A ?_;intro h10 g B z10;have g:bm h10 h8.size 37 [vI 22,vI (q.1:Int),.string q.2]:=g;have e:Ext h8 h10:=bZ e9 B;refine cy rfl ?_;refine av g ((22:Int),(q.1:Int),q.2,()) ?_;refine ⟨⟨g.cells _ rfl,trivial⟩,?_⟩;refine bT (D3.af e ah) ?_;intro h11 C k11 z11;have C:bm h11 d.size 37 [vI 22,vI (q.1:Int),.string q.2]:=C;refine av C ((22:Int),(q.1:Int),q.2,()) ?_;refine ⟨bZ ((K.trans V).trans e) k11,?_⟩;unfold jD;rw [Vu k,Vu f,O];simp only [R] <;> rfl
  | ok w =>
   rw [R] at W;obtain ⟨rfl,p8⟩:=W;refine ⟨((0:Int),(0:Int),(⟨#[]⟩:XA),false,()),rfl,ak ?_⟩;refine br ?_;intro h9 A e9 z9;refine bT A ?_;intro h10 g B z10;have e:Ext h8 h10:=bZ e9 B;refine bX rfl ?_;have e010:=(K.trans V).trans e;refine NW (cc:=c) pw F (VL _) q2 e010 (D3.af e ah) (p8.af e) v r sm (w0.meet R) ?_;unfold jD;rw [Vu k,Vu f,O];simp only [R];cases eS w 0 us with
   | some q=>rfl
   | none =>
    cases rR (rZ w us) with
    | some i=>rfl
    | none=>rfl
structure F9 (h:Hp) (b:Nat) (s:cm) (ws:List (cm × cv)):Prop where
 out:SL h b 64 10 s.p s.l s.c (ws.map fQ)
 j4:∀ u,u∈ws->SL h b 66 2 u.1.p u.1.l u.1.c (u.2.e.ai.map cg)
def F9.vd {b:Nat} {ws:List (cm × cv)} (o:F9 d b Y ws):R6 d Y.p Y.l ws :=
 ⟨by have:=o.out.1; rwa [Vr] at this,fun i hi=>by
  obtain ⟨a,c,hc⟩:=o.out.cells (i:=i) (by simpa using hi);rw [VD] at hc;exact ⟨a,c,hc⟩⟩
def Uq (c:XC) (b d:Nat):T :=
   T.loop [aK] [vI (0:Int)] <| fun (a:Int) =>
   bC a b
    (T.need (eH a b) <|
    T.bd c <| fun (e:YA) =>
    T.ae ((e.add (ay a 10)).add 7) [.slice 66] <| fun (f:XC) (g h:Nat) =>
    bq 54 [.slice f g h] false [(false,[.slice 66])] <| fun (i:XC) (j k:Nat) =>
    T.need (eH a b) <|
    T.bd c <| fun (l:YA) =>
    T.ao ((l.add (ay a 10)).add 7) [.slice i j k] <|
    T.again 0 [vI (bf (a+(1:Int)))])
    (T.ret (.slice c b d))
def wq (h:Hp) (us:List cv) (v:XB) (h':Hp):Prop:=Ext h h'/\∃ s ws,v=cm.v s/\F9 h' h.size s ws/\ws.map (·.2)=us
def Qw {h0 h:Hp} {b0:Nat} {s:cm} {ws:List (cm × cv)} (e0:Ext h0 h) (o:SL h h0.size 64 10 s.p s.l s.c (ws.map fQ)) (hin:∀ u,u∈ws->SL h0 b0 66 2 u.1.p u.1.l u.1.c (u.2.e.ai.map cg)) (hl:ws.length<=2^30) (ht:∀ u,u∈ws->u.2.e.ai.length<=2^40) :
  Uq s.p s.l s.c [] (wq h0 (ws.map (·.2))) h:=by
 unfold Uq bC ay bq bf eH aK;have J:s.l=ws.length:=by have:=o.1; rwa [Vr] at this
 have z0:=e0.size
 refine aY (cs:=cU) (fun y G h'=>∃ (i:Nat) (b:List (cm × cv)),y.1=(i:Int)/\i<=ws.length/\G=ws.length-i/\Ext h0 h'/\SL h' h0.size 64 10 s.p s.l s.c (b.map fQ)/\b.length=ws.length /\
   ∀ m,(f:m<ws.length)->(r:m<b.length)->b[m].2=ws[m].2/\if m<i then SL h' h0.size 66 2 b[m].1.p b[m].1.l b[m].1.c (b[m].2.e.ai.map cg) else b[m]=ws[m]) ((0:Int),()) ws.length rfl
  ⟨0,ws,rfl,ad,ad,e0,o,rfl,fun m f r=>⟨rfl,by rw [Vu ad]⟩⟩ ?_
 clear e0 o z0;rintro ⟨K,⟨⟩⟩ G h1 ⟨i,b,hi,L,rfl,B,o,t,dS⟩;simp only at hi;subst hi;refine ak ?_;have z1:=B.size;refine aQ ?_ ?_<;>intro q
 ·have n:i<ws.length:=ad
  have d:i<b.length:=ad
  have hi:=(dS i n d).2;rw [Vu ad] at hi;obtain ⟨a,D,hc⟩:=o.cells (i:=i) (by simpa using d);rw [VD,hi] at hc;have hin:=hin ws[i] (VA n);have ht:=ht ws[i] (VA n);generalize C:ws[i]=u at hin hc ht;refine cC D ?_;rw [cX i];refine aC ((u.1.p,u.1.l,u.1.c),()) (eA 1 [_,_,_] 0 (iA _ 7 0 (gg 7 _ 0 hc))) (ak ?_);refine aH (Fe (c:=u.1.c) (vZ (hin.af B ah)) ht) ?_;rintro _ h2 ⟨⟨p',l',c',rfl,H⟩,E⟩;refine ⟨((p',l',c'),()),rfl,ak ?_⟩;refine cC D ?_;have o2:=o.af E ah;refine SL.part (P:=YC) o2 (i:=i) (by rw [Vr]; exact d) (o:=7) ah (by simp [cO]) D ?_;intro M I F z3;have w:(b.map fQ).set i (gW ((b.map fQ)[i]'(by rw [Vr]; exact d)) 7 [.slice p' l' c'])=(b.set i (⟨p',l',c'⟩,u.2)).map fQ:=by
   rw [WR,VD,hi,C] <;> rfl
  rw [w] at I;have hw:=lC i;rw [hw];refine aD (cs:=cU) (((i+1:Nat):Int),()) (ws.length-(i+1)) rfl ad rfl ?_;refine ⟨i+1,_,rfl,ad,rfl,Ch.trans (B.trans E) F (fun j x hl=>by have:=(o2.cu x).1; omega),I,by rw [WJ]; exact t,fun m f r=>?_⟩
  by_cases z:m=i
  ·subst z;rw [VE ad,List.getElem_set_self,C];exact ⟨rfl,(H.bH F (fun j x f=>uy o2 H bJ j f x)).mono z1⟩
  ·have g:m<b.length:=ad
   have:=dS m f g
   rw [List.getElem_set_ne (Ne.symm z)];refine ⟨this.1,?_⟩;have this:=this.2
   by_cases k:m<i
   ·rw [VE k] at this;rw [VE ad]
    have:=this.af E ah
    exact this.bH F (fun j x f=>uy o2 this bJ j f x)
   ·rw [Vu k] at this;rw [Vu ad];exact this
 ·have hi:i=ws.length:=ad
  subst hi;refine ⟨B,s,b,rfl,⟨o,fun u C=>?_⟩,?_⟩
  ·obtain ⟨m,f,rfl⟩:=VV C
   have:=(dS m ad f).2
   rwa [VE ad] at this
  ·refine List.ext_getElem (by rw [Vr,Vr]; exact t) fun m A g=>?_
   rw [Vr] at A g;rw [VD,VD];exact (dS m g A).1
section
variable {h:Hp} {B N M:Nat} {w:LW} {usl lb:cm} {sp:Int} {S:Nat->km}
def uV (s:pH h B w usl lb sp N M S):wA YC 19 [ptr (B+3)] h (vI sp):=by
 refine eC mixed Tryz.func19 aw (mq (some ⟨B+3,0,none⟩)) ?_;unfold iU;refine bk rfl ?_;rw [ax];refine av s.box (sp,()) ?_;exact ⟨rfl,rfl⟩
def sM (S:Nat->km) (N:Nat) (n k:Int):List cv:=if 0<=n/\n<N/\(k=0\/k=1) then (S (2*n.toNat+k.toNat)).ws.map (·.2) else []
def oE (h:Hp):wq h [] (.slice none 0 0) h:=⟨Ch.refl _ _,nZ,[],rfl,⟨SL.nil _ _ _ _,ah⟩,rfl⟩
def Kx (s:pH h B w usl lb sp N M S) (K:2*N<=M) (L:N<=2^30) (hs:∀ k,k<2*N->(S k).ws.length<=2^30/\∀ u,u∈(S k).ws->u.2.e.ai.length<=2^40) (n k:Int) (hn:-9223372036854775808<=n/\n<=9223372036854775807) :
  HC YC 17 #[ptr (B+3),vI n,vI k] h (wq h (sM S N n k)):=by
 refine aZ (args:=[ptr (B+3),vI n,vI k]) mixed Tryz.func17 aw (mn (some ⟨B+3,0,none⟩) n k) ?_;unfold iL aT bo bC ay bq aM aK;have D:usl.l=N:=by have:=s.un.1; rwa [ko] at this
 have d:¬ (0<=n/\n<N/\(k=0\/k=1))->sM S N n k=[]:=fun h=>by unfold sM; rw [Vu h]
 refine an ?_ ?_<;>intro q
 ·have q:=Vv q;rw [d ad];exact oE h
 have q1:=VI q;refine bk rfl ?_;refine av s.box ((usl.p,usl.l,usl.c),()) (ak ?_);refine an ?_ ?_<;>intro q
 ·have q:=Vv q;rw [d ad];exact oE h
 have q2:=VI q;refine an ?_ ?_<;>intro q
 ·have q:=Vv q;rw [d ad];exact oE h
 have q3:=VI q;refine an ?_ ?_<;>intro q
 ·have q:=Vv q;rw [d ad];exact oE h
 have q4:=VI q;have o:n.toNat<N:=ad
 obtain ⟨a,C,hc⟩:=s.un.cells (i:=n.toNat) (by rw [ko]; exact o);rw [BA] at hc;generalize A:n.toNat=m at hc o;have g:∀ j,j<2->∃ f:cm,f=(S (2*m+j)).s/\R6 h f.p f.l (S (2*m+j)).ws:=by
  intro j E;have hs:=s.wP.sec (2*m+j) ad;exact ⟨_,rfl,F9.vd (b:=B+4) ⟨hs.out,hs.j4⟩⟩
 have hit:k=0\/k=1->sM S N n k=(S (2*m+k.toNat)).ws.map (·.2):=fun hk=>by
  unfold sM;rw [VE ⟨ad,ad,hk⟩,A]
 refine bk rfl ?_;refine av s.box ((usl.p,usl.l,usl.c),()) (ak ?_);refine cC C ?_;obtain ⟨f,r,F⟩:=g 0 ad;obtain ⟨x,y,G⟩:=g 1 ad;have hc:aE h (a.add (m*4)) 0 [f.v,x.v,nZ.v,nZ.v]:=by rw [r,y]; exact hc
 refine aC ((f.p,f.l,f.c),()) (eA 1 _ 0 hc) (ak ?_);have z:∀ (j:Nat) (t:cm),j<2->t=(S (2*m+j)).s->R6 h t.p t.l (S (2*m+j)).ws->(T.call YC 53 [.slice t.p t.l t.c] false [(false,[.slice 64])] fun p l c=>Uq p l c) [] (wq h ((S (2*m+j)).ws.map (·.2))) h:=by
  intro j t E O H;have hsz:=hs (2*m+j) ad;have se:=s.wP.sec (2*m+j) ad;refine aH (BE (c:=t.c) H hsz.1) ?_;rintro _ h1 ⟨⟨p',c',rfl,I⟩,J⟩;refine ⟨((p',t.l,c'),()),rfl,ak ?_⟩;exact Qw (s:=⟨p',t.l,c'⟩) J I se.j4 hsz.1 hsz.2
 refine an ?_ ?_<;>intro q
 ·have hk:k=1:=by simpa using q
  rw [hit (.inr hk),hk];refine bk rfl ?_;refine av s.box ((usl.p,usl.l,usl.c),()) (ak ?_);refine cC C ?_;refine aC ((x.p,x.l,x.c),()) (eA 1 [_,_,_] 0 (iA _ 1 0 (gg 1 _ 0 hc))) (ak ?_);exact z 1 x ad y G
 ·have hk:k=0:=by
   have:¬ k=1:=by
    intro h;rw [h] at q;exact absurd q bJ
   omega
  rw [hit (.inl hk),hk];exact z 0 f ad r F
variable {H:XC}
def Q8 {h:Hp} {b:Nat} {e:TypeId} {sz l c:Nat} {xs:List (List XB)} (s:SL h b e sz H l c xs):(H=none/\xs=[])\/∃ a,H=some a/\aE h a 0 xs.flatten:=by
 cases H with
 | none=>exact .inl ⟨rfl,s.2.2.2⟩
 | some a =>
  refine .inr ⟨a,rfl,?_⟩
  have:=kK (h:=h) (a:=a) (sz:=sz) xs 0 s.2.1 (fun i hi=>by
   obtain ⟨a',d,hc⟩:=s.cells hi;cases d;rw [V9];exact hc)
  rwa [Nat.zero_mul] at this
def Gy (a:List Lb):(a.map CM).flatten.all cO=true:=by
 rw [VT];intro v hv;obtain ⟨x,b,hv⟩:=Xt.1 hv;obtain ⟨t,_,rfl⟩:=Vy.1 b;simp only [CM,List.mem_cons,List.not_mem_nil,or_false] at hv;rcases hv with rfl | rfl | rfl | rfl <;> rfl
def Iy (a:List Lb):∀ y,y∈a.map CM->y.length=4:=by
 intro y b;obtain ⟨u,_,rfl⟩:=Vy.1 b;rfl
def IU {h:Hp} {b l c:Nat} {d:List Lb} (s:SL h b 76 4 H l c (d.map CM)) (hl:d.length<=2^30) :
  HC YC 55 #[.slice H l c] h fun w h'=>(∃ p' c',w=.slice p' l c'/\SL h' h.size 76 4 p' l c' (d.map CM))/\Ext h h':=by
 refine aZ (args:=[.slice H l c]) mixed Tryz.func55 aw (fc H l c) ?_;unfold dy aR aM;have f:l=d.length:=by have:=s.1; rwa [Vr] at this
 cases H with
 | none =>
  refine cy rfl ?_;have h2:d=[]:=by simpa using s.2.2.2
  subst h2;subst f;exact ⟨⟨none,0,rfl,SL.nil _ _ _ _⟩,Ch.refl _ _⟩
 | some a =>
  refine bX rfl ?_;refine tC (e:=76) (z:=.agg #[vI 0,vI 0,vI 0,.string ⟨#[]⟩]) (sz:=4) (by':=40) PP SP rfl (Q8 s) (by simpa using f) (Iy d) (Gy d) ad ad ?_;intro p' c' h' i j;exact ⟨⟨p',c',rfl,i⟩,j⟩
def nD (s:pH h B w usl lb sp N M S) (hl:w.lb.length<=2^30):HC YC 18 #[ptr (B+3)] h fun v h'=>Ext h h'/\∃ p l c,v=.slice p l c/\SL h' h.size 76 4 p l c (w.lb.map CM):=by
 refine aZ (args:=[ptr (B+3)]) mixed Tryz.func18 aw (lI (some ⟨B+3,0,none⟩)) ?_;unfold gY bq;refine bk rfl ?_;rw [ax];refine av s.box ((lb.p,lb.l,lb.c),()) (ak ?_);refine aH (IU (c:=lb.c) s.vN hl) ?_;rintro _ h1 ⟨⟨p',c',rfl,a⟩,b⟩;exact ⟨((p',lb.l,c'),()),rfl,b,p',lb.l,c',rfl,a⟩
end
end Go.Sx.Lk
namespace Go.Sx.Ob
open Go.Proofs
structure UO where
 kind:Nat
 items:List cv
 name:XA
 e:cL
 sec:Nat
def T7 (k:Nat):List UInt8:=(tX k).data.toList
structure UR where
 text:List cv
 data:List cv
 aS:List jn
 names:List XA
 aJ:List (XA × Nat)
 sec:Nat
def TC (w:UR) (Iv:XA) (t:UO):Prop:=(Iv≠dA/\fH w.names Iv=true)\/(t.kind=3/\(fH w.names t.name=true\/t.name=Iv))
instance (w:UR) (Iv:XA) (t:UO):Decidable (TC w Iv t):=by unfold TC; infer_instance
end Go.Sx.Ob
namespace Go.Sx.Lk
open Go.Proofs Go.Sx.Ob
def F9.vw {h:Hp} {b:Nat} {s:cm} {ws:List (cm × cv)} (o:F9 h b s ws) (hl:ws.length<=2^60) (c:∀ x,x∈ws.map (·.2)->x.name.size<=maxLen/\Sm x.inst.op/\x.e.ai.length<=2^60/\∀ t,t∈x.e.ai->t.1.size<=maxLen):Ai h s.p s.l (ws.map (·.2)) :=
 ⟨by have:=o.out.1; rw [Vr] at this ⊢; exact this,by rw [Vr]; exact hl,fun i hi=>by
  rw [Vr] at hi;obtain ⟨a,d,hc⟩:=o.out.cells (i:=i) (by simpa using hi);rw [VD] at hc;rw [VD];have h1:=c ws[i].2 (VM (VA hi));exact ⟨a,_,_,_,d,hc,⟨vZ (o.j4 _ (VA hi)),h1.2.2.1,h1.2.2.2⟩,h1.1,h1.2.1⟩⟩
section
variable {L:Lp} {K:XB->Hp->Prop}
end
section
variable {h0 h h':Hp} {us:List bS} {su:cm} {P:LP} {B:Nat} {usl lb:cm} {S:Nat->km} {g b':Nat} {lb2 st sd:cm} {tw dw:List (cm × List (cm × cv))}
structure One (h0 h':Hp) (us:List bS) (P:LP) (B:Nat) (usl lb:cm) (S:Nat->km):Prop where
 le:h0.size<=B
 pg:pH h' B P.w usl lb ((jF us:Nat):Int) us.length (2*us.length) S
 Tr:∀ n,(hn:n<us.length)->(S (2*n)).ws.map (·.2)=us[n].text.map (P.ez n)/\(S (2*n+1)).ws.map (·.2)=us[n].data.map (P.ez n)
 sz:∀ k,k<2*us.length->PS (S k)
def One.ext (b:One h0 h us P B usl lb S) (e:Ext h h'):One h0 h' us P B usl lb S:=⟨b.le,b.pg.ext e,b.Tr,b.sz⟩
def lM (u:bS) (j:Nat):List cv:=if j=0 then u.text else u.data
def One.sec (b:One h0 h us P B usl lb S) {n j:Nat} (hn:n<us.length) (a:j<2):(S (2*n+j)).ws.map (·.2)=(lM us[n] j).map (P.ez n):=by
 unfold lM
 by_cases h:j=0
 ·rw [VE h,h]; exact (b.Tr n hn).1
 ·rw [Vu h,show j=1 from ad]; exact (b.Tr n hn).2
def One.item (b:One h0 h us P B usl lb S) {n j:Nat} (hn:n<us.length) (a:j<2):sM S us.length (n:Int) (j:Int)=(lM us[n] j).map (P.ez n):=by
 unfold sM;rw [VE ⟨ad,ad,ad⟩];rw [show ((n:Int)).toNat=n from ad,show ((j:Int)).toNat=j from ad];exact b.sec hn a
variable {H:XC}
def One.ok (b:One h0 h us P B usl lb S) {hv:Hp} {l:Nat} (v:Fp hv H l us) {n j:Nat} (hn:n<us.length) (r:j<2):∀ x,x∈(lM us[n] j).map (P.ez n)->x.name.size<=maxLen/\Sm x.inst.op/\x.e.ai.length<=2^60/\∀ t,t∈x.e.ai->t.1.size<=maxLen:=by
 intro x f;obtain ⟨y,c,rfl⟩:=Vy.1 f;have hz:=b.sz (2*n+j) ad;rw [<- b.sec hn r] at f;obtain ⟨w,k,s⟩:=Vy.1 f;have h1:=hz.Sg w k;have h2:=hz.sz w k;rw [s] at h1 h2;obtain ⟨a,sa,sb,sc,u,C,hc,o⟩:=v.cells n hn;have hi:lZ hv none 0 y\/(y.name.size<=maxLen/\Sm y.inst.op):=by
  right
  have d:∀ {q:XC} {m:Nat} {xs:List cv},Ai hv q m xs->y∈xs->y.name.size<=maxLen/\Sm y.inst.op:=by
   intro q m xs z A;obtain ⟨i,hi,rfl⟩:=VV A;obtain ⟨_,_,_,_,_,_,it⟩:=z.cells i hi;exact ⟨it.name,it.op⟩
  unfold lM at c
  by_cases h:j=0
  ·rw [VE h] at c; exact d o.text c
  ·rw [Vu h] at c; exact d o.data c
 have hi:y.name.size<=maxLen/\Sm y.inst.op:=hi.elim (fun it=>⟨it.name,it.op⟩) id;exact ⟨hi.1,hi.2,ad,h2⟩
def One.many (b:One h0 h us P B usl lb S) {n j:Nat} (hn:n<us.length) (a:j<2):(lM us[n] j).length<=2^30:=by
 have h1:=(b.sz (2*n+j) ad).len;have h2:=VO List.length (b.sec hn a);rw [Vr,Vr] at h2;omega
def One.out (b:One h0 h us P B usl lb S) (f:us.length<=2^20) {hv:Hp} {l:Nat} (v:Fp hv H l us) {n j:Nat} (hn:n<us.length) (d:j<2) :
  HC YC 17 #[ptr (B+3),vI (n:Int),vI (j:Int)] h fun w h'=>Ext h h'/\∃ t ws,w=cm.v t/\F9 h' h.size t ws/\ws.map (·.2)=(lM us[n] j).map (P.ez n)/\Ai h' t.p t.l ((lM us[n] j).map (P.ez n)):=by
 have hit:=Kx b.pg (VL _) ad (fun k hk=>⟨(b.sz k hk).len,(b.sz k hk).Sg⟩) n j ad;rw [b.item hn d] at hit;refine HC.mono hit fun w h' i=>?_
 obtain ⟨e,t,ws,m,o,c⟩:=i;refine ⟨e,t,ws,m,o,c,?_⟩;have hmn:=b.many hn d;have a:ws.length<=2^60:=by
  have:=VO List.length c
  rw [Vr,Vr] at this;omega
 have:=o.vw a (by rw [c]; exact b.ok v hn d)
 rwa [c] at this
end
end Go.Sx.Lk
namespace Go.Sx.Cr
open Go.Proofs Go.MapKept Go.WideAt Go.WideMaps Go.Maps Go.RowKit Go.WideElems Go.Sort Go.Shelf
variable {H:Hp}
def FZ {q b:Nat} {D:List (XA × XB)} {cs:Array XB} {e:TypeId} {f:Nat × Nat} (u:H[q]?=some (.cells cs e f)) (hc:cs[0]?=some (.map (some b))) (m:eJ H b D) (hl:D.length<=1024) :
  HC YC 108 #[.func (.func 124) #[] #[.pointer (some ⟨q,0,none⟩)]] H fun v h'=>∃ a:List (List UInt8),a.Perm (D.map fun p=>p.1.data.toList)/\(v=.slice none 0 0↔a=[])/\Ext H h' /\
   a.length=((a.mergeSort fun x y=>decide (x<=y)).map encStr).length /\
   ((v=.slice none 0 0/\a.length=0)\/∃ g cap iV,v=.slice (some ⟨g,0,none⟩) a.length cap/\H.size<=g/\h'[g]?=some (.cells iV 9 (0,0))/\a.length<=cap/\cap<=maxLen/\iV.size=cap*1/\iV.toList.take (a.length*1)=(a.mergeSort fun x y=>decide (x<=y)).map encStr):=by
 intro W w;subst w;obtain ⟨k,l,j,c⟩:=eJ.owns m (by unfold maxLen; omega);have jr:W.cell? ⟨q,0,none⟩=some (.map (some b)):=by
  unfold World.cell?;rw [u];exact hc
 have n:SeqGives Fence.wide 2 YC 124 #[.pointer (some ⟨q,0,none⟩)] encStr (fun a=>a.Perm (strKeys k)) (Maps.size k) W :=
  AnyZ.keys_gives (ρ:=Tryz.qx) { Tryz.B3 with } Fence.wide _ trivial rfl ad q b D.length k _ (fq u) jr l
 have o:Maps.size k<=maxLen:=by rw [c]; unfold maxLen; omega
 have d:Maps.size k*16<=140737488355328:=by rw [c]; omega
 have:=AnyZ.sorted_in Tryz.A7 Fence.wide 5 trivial trivial trivial trivial rfl ad (Tryz.DZ _) (enters_of Tryz.func123 aw rfl) 124 #[.pointer (some ⟨q,0,none⟩)] trivial (enters_of Tryz.func124 aw rfl) _ _ o d _ n
 refine (callsIn_wide.1 this).mono fun e w' z=>?_
 obtain ⟨v,a,A,B,r,s,t⟩:=z;obtain ⟨h1,h2⟩:=r;exact ⟨v,A,⟨t.os,t.tape,t.output⟩,a,B.trans j,s,⟨t.size,fun i hi _=>t.block i hi⟩,by rw [h1]; simp,h2⟩
theorem vR (x:XA):∀ l,(CV x l).Perm (x::l)
 | []=>Xn _
 | y::l=>by
  unfold CV;split
  ·exact Xn _
  ·exact ((vR x l).cons y).trans (List.Perm.swap x y l)
theorem zJ:∀ l,(qm l).Perm l
 | []=>Xn _
 | x::l=>(vR x (qm l)).trans ((zJ l).cons x)
theorem xI (x:XA):∀ l:List XA,(l.Pairwise fun a b=>a.data.toList<=b.data.toList)->((CV x l).Pairwise fun a b=>a.data.toList<=b.data.toList)
 | [],_=>by simp [CV]
 | y::l,h=>by
  rw [Wt] at h;unfold CV;rw [Proofs.bytesLess_eq]
  by_cases c:x.data.toList<y.data.toList
  ·rw [Vw c];have e:x.data.toList<=y.data.toList:=List.le_of_lt c;refine Wt.2 ⟨fun b d=>?_,Wt.2 h⟩;rcases VK.1 d with rfl | d
   ·exact e
   ·exact List.le_trans e (h.1 b d)
  ·rw [Vx c];refine Wt.2 ⟨fun b d=>?_,xI x l h.2⟩;rcases VK.1 ((vR x l).mem_iff.1 d) with rfl | d
   ·exact List.not_lt.1 c
   ·exact h.1 b d
theorem tR:∀ l,(qm l).Pairwise fun a b=>a.data.toList<=b.data.toList
 | []=>List.Pairwise.nil
 | x::l=>xI x _ (tR l)
def GW {ss:List (List UInt8)} {ks:List XA} (d:ss.Perm (ks.map fun k=>k.data.toList)):(ss.mergeSort fun x y=>decide (x<=y)).map encStr=(qm ks).map Value.string:=by
 have h1:ss.mergeSort (fun x y=>decide (x<=y))=(qm ks).map fun k=>k.data.toList:=by
  have e:∀ a b c:List UInt8,decide (a<=b)=true->decide (b<=c)=true->decide (a<=c)=true:=fun a b c h1 h2=>by simp only [decide_eq_true_eq] at *; exact List.le_trans h1 h2
  have f:∀ a b:List UInt8,(decide (a<=b) || decide (b<=a))=true:=fun a b=>by simp only [Bool.or_eq_true,decide_eq_true_eq]; exact List.le_total a b
  refine List.Perm.eq_of_pairwise (le:=fun a b=>decide (a<=b)=true) (fun a b _ _ h1 h2=>?_) (List.pairwise_mergeSort e f ss) ?_ ((List.mergeSort_perm ss _).trans (d.trans ((zJ ks).map _).symm))
  ·simp only [decide_eq_true_eq] at h1 h2;exact List.le_antisymm h1 h2
  ·rw [Wl];exact (tR ks).imp fun h=>by simpa using h
 rw [h1,VN];refine V4 fun k _=>?_
 show encStr k.data.toList=.string k;unfold encStr
 congr 1
noncomputable def UG (a:List XB):Cx:=⟨YC,110,110,0,108,124,144,3,fun | 0=>some a | _=>none⟩
def Rl:Tryz.prog.cellsOf 9=1:=aw
def Rp (c:List XB):Ok (UG c) where
 kt k hk:=by
  have hk:(Nat.beq k 110 || Nat.beq k 110)=true:=hk;rw [Bool.or_eq_true] at hk;have e:k=110:=hk.elim VF VF;subst e;exact Ob.TW
 ki k hk:=by cases (show false=true from hk)
 idx x n h K hk:=by
  show aI YC (GM 144 #[.string x,.int .u8 n]) h K;refine EA (e:=Extern.BytealgIndexByte.indexByte) Tryz.func144 Qk PE PQ P' ?_;rw [qa];exact hk
 PW h q b D cs e f z hc m hl:=by
  show HC YC 108 #[.func (.func 124) #[] #[.pointer (some ⟨q,0,none⟩)]] h _;refine HC.mono (FZ z hc m hl) fun v h' A=>?_
  obtain ⟨d,w,i,j,y,l⟩:=A;refine ⟨j,?_⟩;have a:d.length=D.length:=by rw [w.length_eq]; simp
  cases D with
  | nil =>
   have:d=[]:=Wk (by rw [a]; rfl)
   exact i.2 this
  | cons p D =>
   rcases l with ⟨_,h0⟩ | ⟨g,cap,iV,hv,B,o,t,r,u,s⟩
   ·rw [a] at h0; simp at h0
   ·have hk:=GW (ss:=d) (ks:=(p::D).map (·.1)) (by rw [VN]; exact w);rw [hk] at s;refine ⟨g,iV.toList.drop d.length,cap,B,by rw [<- a]; exact hv,by unfold maxLen at r; omega,?_,by rw [<- a]; exact t,?_⟩
    ·have C:iV.toList.length=cap*1:=by rw [Wy]; exact u
     rw [show (UG c).P.cellsOf 9=1 from Rl,V6,C,<- a]; omega
    ·unfold bm;rw [o,<- s,Nat.mul_one,We]
open Go.Proofs
def opsV:List XB:=Ob.kr Ob.tX Ob.vi
noncomputable def cx:Cx:=UG opsV
def PN:Ok cx:=Rp opsV
def IX:opsV.all (fm 9)=true:=aw
def Tf (a:∃ e f,H[0]?=some (.cells opsV.toArray e f)):∀ b c,cx.ro b=some c->b<cx.ng/\∃ cs e f,H[b]?=some (.cells cs e f)/\∀ (i:Nat) (v:XB),c[i]?=some v->cs[i]?=some v/\fm 9 v=true:=by
 obtain ⟨e,f,a⟩:=a;intro b c d;cases b with
 | succ b=>cases (show none=some c from d)
 | zero =>
  cases (show some opsV=some c from d);refine ⟨show 0<3 from ad,opsV.toArray,e,f,a,fun i v hv=>⟨by rw [W4]; exact hv,?_⟩⟩;exact VT.1 IX v (List.mem_of_getElem? hv)
noncomputable def PD:Code:=Tryz.f9.body.getD .skip
noncomputable def Vc:CS:=⟨qf cx.ng .nil,cx.ng⟩
def M8:Tryz.f9.body=some PD:=aw
def NQ:M1 cx (R3 cx 60) Tryz.f9 (.bool true) PD .nil Vc=true:=aw
def Ku (b:∃ e f,H[0]?=some (.cells opsV.toArray e f)):HC YC 9 #[] H fun v h'=>v=.bool true/\Ext H h' :=
 L8 (C:=cx) Tryz.func9 M8 fun c a d g=>NM PN mixed (NO PN mixed 60) rfl NQ _ c a H (Jm (Tf b)) d g
end Go.Sx.Cr
namespace Go.Sx.Lk
open Go.Proofs Go.Sx.Ob
variable {H:Hp}
def KO {h0:Hp} (a:∃ e f,h0[0]?=some (.cells Cr.opsV.toArray e f)) (e0:Ext h0 H):HC YC 9 #[] H fun v h'=>v=.bool true/\Ext h0 h':=by
 refine HC.mono (Cr.Ku ?_) fun v h' b=>⟨b.1,e0.trans b.2⟩
 obtain ⟨e,f,c⟩:=a;exact ⟨e,f,e0.get c ah⟩
def Va (h:Hp) (u:bS) (a:List XB):Prop:=∃ sa sb sc sd:cm,a=[sa.v,sb.v,sc.v,sd.v]/\jI h sa sb sc sd u
variable {I O U:Nat} {Y:XC}
def R8 {e:TypeId} {xs:List (List XB)} {us:List bS} (s:SL H I e 4 Y O U xs) (hl:xs.length=us.length) (d:us.length<=2^60) (f:∀ i,(hi:i<us.length)->(g:i<xs.length)->Va H us[i] xs[i]):Fp H Y O us :=
 ⟨by have:=s.1; omega,d,fun i hi=>by
  obtain ⟨a,j,hc⟩:=SL.cells s (i:=i) ad;obtain ⟨sa,sb,sc,sd,e,k⟩:=f i hi ad;rw [e] at hc;exact ⟨a,sa,sb,sc,sd,j,hc,k⟩⟩
def Q3:Tryz.prog.underlying 22=some (.slice 30):=aw
def Tw:(Tryz.prog.info? 30).map (fun i=>(i.zero,i.size,i.bytes))=some (some (.agg #[.slice none 0 0,.slice none 0 0,.slice none 0 0,.slice none 0 0]),4,96):=aw
open Cr in
open Cr in
open Cr in
open Cr in
def Rf (a b c d:cm):Instr.fill (fun j=>some (j*4,4)) ((Array.range (1*4)).map ((Value.agg #[.slice none 0 0,.slice none 0 0,.slice none 0 0,.slice none 0 0]).cells[· % (Value.agg #[.slice none 0 0,.slice none 0 0,.slice none 0 0,.slice none 0 0]).cells.size]!)) [(0,.agg #[.slice a.p a.l a.c,.slice b.p b.l b.c,.slice c.p c.l c.c,.slice d.p d.l d.c])]=some ([a.v,b.v,c.v,d.v]:List XB).toArray:=aw
def LO {x : cv} (h : bY x I = true) : x.name.size <= 32 := by
  by_cases hk : x.kind = 1
  · have := (mS (BV h hk)).2
    simpa using this
  · have a : z1 x = true := by
      unfold bY at h;rw [Vu hk] at h
      repeat' split at h
      all_goals first
        | (simp only [Bool.and_eq_true] at h
           first
             | exact h.1.2
             | exact h.1.1.2
             | exact h.1.1.1.2)
        | cases h
    unfold z1 at a;rw [Vv a];show (0 : Nat) <= 32;omega
def Fc {us:List bS} {u:bS} (a:u∈us):u.text.length+u.data.length+u.aS.length+u.aJ.length<=ob us:=by
 unfold ob
 induction us with
 | nil=>cases a
 | cons y us b =>
  rw [VY,Wg];rcases VK.1 a with rfl | a
  ·omega
  ·have:=b a; omega
variable {Z a b:cm}
def Rq {d:cm} {us:List bS} {u:bS} (sm:Fs us) (j:u∈us) (k:jI H Z a b d u) (r:ee u=0):P2 u:=by
 have h0:=Fc j;have h1:=sm.items;obtain ⟨m,n,o,_,t⟩:=Gi r;have f:∀ {p:XC} {l:Nat} {xs:List cv},Ai H p l xs->∀ x,x∈xs->Sm x.inst.op:=fun v x e=>by
  obtain ⟨i,hi,rfl⟩:=VV e;obtain ⟨_,_,_,_,_,_,hv⟩:=v.cells i hi;exact hv.op
 have g:∀ {s:XA},cn s.data.toList=true->s.size<=32:=fun H=>by
  have:=(mS H).2
  simpa using this
 refine ⟨ad,ad,ad,ad,fun x e=>⟨by have:=sm.len j e; omega,Ot (zO r (sm.num u j) x e)⟩,fun x e=>?_,fun x e=>?_,fun s q=>g (wu r s (Db r s q))⟩
 ·rcases e with e | e
  ·exact ⟨LO (m x e),f k.text x e⟩
  ·exact ⟨LO (n x e),f k.data x e⟩
 ·have:=o x e
  unfold yd at this;rw [VJ] at this;exact g this.1
def Kc {us:List bS} (sm:Fs us):Fs (us.map cq):=by
 refine ⟨by rw [Vr]; exact sm.many,?_,fun v hv y a=>?_,?_⟩
 ·have e:ob (us.map cq)=ob us:=by
   unfold ob;rw [VN]
   congr 1
   refine V4 fun u _=>?_
   show (u.text.map _).length+(u.data.map _).length+(u.aS.map _).length+u.aJ.length=_;rw [Vr,Vr,Vr]
  rw [e];exact sm.items
 ·obtain ⟨u,b,rfl⟩:=Vy.1 hv;rw [rB] at a;obtain ⟨x,c,rfl⟩:=Vy.1 a
  have:=sm.num u b x c
  refine ⟨this.1,fun t d=>?_⟩;obtain ⟨z,f,rfl⟩:=qS.1 (show t∈fV (eM u) x.ai from d);exact this.2 z f
 ·have e:(((us.map cq).flatMap bU).flatMap (·.ai)).length=((us.flatMap bU).flatMap (·.ai)).length:=by
   simp only [List.length_flatMap,List.flatMap_assoc,List.map_map];clear sm
   induction us with
   | nil=>rfl
   | cons u us g =>
    rw [VY,VY,Wg,Wg,g]
    congr 1
    simp only [Function.comp_apply,rB,List.map_map]
    congr 1
    refine V4 fun x _=>?_
    exact Dw u x
  rw [e];exact sm.ai
def Jd (us:List bS):jF (us.map cq)=jF us:=by
 unfold jF;rw [VN]
 congr 1
 refine V4 fun u _=>?_
 show gK (u.text.map (dx u))=gK u.text;unfold gK;rw [List.filter_map,Vr] <;> rfl
def Ps (u:bS):(cd u).length<=u.text.length+u.data.length+u.aS.length:=by
 unfold cd;rw [Vs,Vs,Vr];have a:∀ l:List cv,(dM l).length<=l.length:=by
  intro l;unfold dM;rw [Vr];exact WT _ _
 have:=a u.text
 have:=a u.data
 omega
variable {V d:LP} {c:Nat->km}
def One.tl {h0:Hp} {us:List bS} {usl lb:cm} (b:One h0 H us V I usl lb c) (hn:O<us.length) (d:U<2):∀ z,z∈(lM us[O] U).map (V.ez O)->z.e.ai.length<=2^40:=by
 intro z a;rw [<- b.sec hn d] at a;obtain ⟨w,f,rfl⟩:=Vy.1 a;exact (b.sz (2*O+U) ad).Sg w f
def H7 {L:Lp} {K:XB->Hp->Prop} {hb h:Hp} {us i:List bS} {lb:cm} {SB:Nat->km} (x:One H h us V I Z a c) (y:One hb h i d O b lb SB) (hu:us.length<=2^20) (hv:i.length<=2^20)
  {q:XC} {m:Nat} (vu:Fp h Y U us) (vv:Fp h q m i) {n j:Nat} (hn:n<us.length) (hm:n<i.length) (hj:j<2) (u:(lM us[n] j).length<=2^20) (w:(lM i[n] j).length<=2^20)
  (C:∀ z,z∈(lM us[n] j).map (V.ez n)->z.e.ai.length<=2^40) (D:∀ z,z∈(lM i[n] j).map (d.ez n)->z.e.ai.length<=2^40)
  (he:((lM us[n] j).map (V.ez n)).map yz=((lM i[n] j).map (d.ez n)).map yz) {k:Bool->T} (hk:∀ h',Ext h h'->k true L K h') :
  T.call YC 17 [.pointer (some ⟨I+3,0,none⟩),vI (n:Int),vI (j:Int)] false [(false,[.slice 64])] (fun (E:XC) (F G:Nat) =>
   T.call YC 16 [.slice E F G] false [(false,[.slice 64])] <| fun (J:XC) (M N:Nat) =>
   T.call YC 17 [.pointer (some ⟨O+3,0,none⟩),vI (n:Int),vI (j:Int)] false [(false,[.slice 64])] <| fun (R:XC) (S W:Nat) =>
   T.call YC 16 [.slice R S W] false [(false,[.slice 64])] <| fun (X:XC) (l33 l34:Nat) =>
    T.call YC 15 [.slice J M N,.slice X l33 l34] false [(false,[.bool])] k) L K h:=by
 refine aH (x.out hu vu hn hj) ?_;rintro _ h1 ⟨e1,s,ws,rfl,o,hm1,v1⟩;refine ⟨((s.p,s.l,s.c),()),rfl,ak ?_⟩;refine aH (yO (c:=s.c) v1 (by rw [Vr]; exact u) C) ?_;rintro _ h2 ⟨e2,q1,d1,rfl,w1⟩;refine ⟨((q1,s.l,d1),()),rfl,ak ?_⟩;have e12:=e1.trans e2;refine aH ((y.ext e12).out hv (vv.af e12) hm hj) ?_;rintro _ h3 ⟨e3,t,ws2,rfl,o2,hm2,v2⟩;refine ⟨((t.p,t.l,t.c),()),rfl,ak ?_⟩;refine aH (yO (c:=t.c) v2 (by rw [Vr]; exact w) D) ?_;rintro _ h4 ⟨e4,q2,d2,rfl,w2⟩;refine ⟨((q2,t.l,d2),()),rfl,ak ?_⟩;refine aH (Cq (c:=d1) (d:=d2) (w1.af (e3.trans e4)) w2) ?_;rintro _ h5 ⟨r,rfl,hr,e5⟩;refine ⟨(r,()),rfl,?_⟩;obtain rfl:r=true:=hr.2 he;exact hk h5 ((e12.trans (e3.trans e4)).trans e5)
def RJ {us:List bS} (hn:I<us.length) (hit:∀ x:cv,x.e∈bU us[I]->(d.ez I (dx us[I] x)).e=(V.ez I x).e):∀ j,j<2->(c:I<(us.map cq).length)->((lM us[I] j).map (V.ez I)).map yz=((lM (us.map cq)[I] j).map (d.ez I)).map yz:=by
 intro j f c;rw [VD];have a:∀ l:List cv,(∀ x,x∈l->x.e∈bU us[I])->(l.map (V.ez I)).map yz=((l.map (dx us[I])).map (d.ez I)).map yz:=by
  intro l hl;rw [VN,VN,VN];refine V4 fun x b=>?_
  have:=hit x (hl x b)
  show yz (V.ez I x)=yz (d.ez I (dx us[I] x));unfold yz LP.ez at *;simp only at this ⊢;rw [<- this] <;> rfl
 unfold lM
 by_cases h:j=0
 ·rw [VE h,VE h];exact a _ fun x b=>GQ b
 ·rw [Vu h,Vu h];exact a _ fun x b=>Gm b
def Pf (pw:iN H) (tb0:AE H) (tab:∃ e f,H[0]?=some (.cells Cr.opsV.toArray e f)) {su:cm} {us:List bS} (v:Fp H su.p su.l us) (sm:Fs us) :
  HC YC 3 #[.slice su.p su.l su.c] H fun w h'=>w=.bool true/\Ext H h':=by
 refine aZ (args:=[.slice su.p su.l su.c]) mixed Tryz.func3 aw (jb su.p su.l su.c) ?_;unfold ft aT bo bC ay aP dh bq aR Ju bz aM ct aK cj eb;have m:∀ {L:Lp} {h1:Hp},Ext H h1->(T.call YC 9 [] false [(false,[.bool])] fun (W:Bool)=>T.ret (.bool W)) L (fun w h'=>w=.bool true/\Ext H h') h1:=by
  intro L h1 V;refine aH (KO tab V) ?_;rintro _ h2 ⟨rfl,e2⟩;exact ⟨(true,()),rfl,rfl,e2⟩
 have hul:=v.len;have hmany:=sm.many;refine aF (J6 (c:=su.c) v) ?_;refine an (fun q=>m (Ch.refl _ _)) (fun q=>?_);refine aY (cs:=S4) (fun y k h'=>∃ (n:Nat) (q:XC) (d:Nat) (o:List (List XB)),y.2.1=(q,n,d)/\y.2.2.1=(n:Int)/\k=us.length-n/\n<=us.length/\Ext H h'/\SL h' H.size 30 4 q n d o/\o.length=n/\(∀ i,(hi:i<us.length)->(hr:i<o.length)->∃ A B C D:cm,o[i]=[A.v,B.v,C.v,D.v]/\DE h' A B C D (cq us[i]))/\∀ i,(hi:i<us.length)->i<n->lH us[i]/\P2 us[i]) (false,(none,0,0),(0:Int),()) us.length rfl
  ⟨0,none,0,[],rfl,rfl,rfl,ad,Ch.refl _ _,SL.nil _ _ _ _,rfl,fun i _ hr=>absurd hr ah,fun i _ N=>absurd N ad⟩ ?_
 rintro ⟨b2,⟨p3,l4,c5⟩,n6,⟨⟩⟩ k h1 ⟨n,q3,d3,o,hq3,hn6,rfl,hnl,V,sr,hrl,hro,O⟩;simp only [Prod.mk.injEq] at hq3 hn6;obtain ⟨rfl,rfl,rfl⟩:=hq3;subst hn6;refine ak ?_;refine aQ ?_ ?_<;>intro g
 ·have hn:l4<us.length:=ad
  have hum:=VA hn;obtain ⟨a,sa,sb,sc,sd,ha,hc,va⟩:=v.cells l4 hn;have hL:=Fc hum;have hL2:=sm.items;have hsmu:∀ {x:cL},x∈bU us[l4]->x.ai.length<=2^20:=fun hx=>sm.len hum hx
  have rd:∀ {h3:Hp} {K:XB->Hp->Prop} {Lq:Lp} {kk:XC->Nat->Nat->XC->Nat->Nat->XC->Nat->Nat->XC->Nat->Nat->T},Ext H h3->kk sa.p sa.l sa.c sb.p sb.l sb.c sc.p sc.l sc.c sd.p sd.l sd.c Lq K h3 ->
    T.need (((0:Int)<=(l4:Int))/\((l4:Int)<(su.l:Int))) (T.bd su.p <| fun (a15:YA)=>T.ae (a15.add ((Int.toNat (l4:Int))*4)) [.slice 64,.slice 64,.slice 88,.slice 9] kk) Lq K h3:=by
   intro h3 K Lq kk e3 hk;refine cC ha ?_;rw [cX l4];exact aC ((sa.p,sa.l,sa.c),(sb.p,sb.l,sb.c),(sc.p,sc.l,sc.c),(sd.p,sd.l,sd.c),()) (bh e3 ah _ _ hc) hk
  refine rd V ?_;refine aH (IM (va.af V)) ?_;rintro _ h2 ⟨rfl,e2⟩;refine ⟨((ee us[l4]:Int),()),rfl,ak ?_⟩;have e02:=V.trans e2;refine an (fun g1=>m e02) (fun g1=>?_);have G:ee us[l4]=0:=by have:((ee us[l4]:Nat):Int)=0:=(by simpa using g1); omega
  have ub:=Rq sm hum va G;refine rd e02 ?_;refine aH (LI (va.af e02) ub.t ub.d ub.e) ?_;rintro _ h3 ⟨pA,lA,cA,rfl,sA,e3⟩;refine ⟨((pA,lA,cA),()),rfl,ak ?_⟩;have e03:=e02.trans e3;have hal:=Ps us[l4];have hlA:=SN.len sA;refine aY (cs:=fK) (fun y k h'=>∃ j:Nat,y.2.1=(j:Int)/\k=(cd us[l4]).length-j/\j<=(cd us[l4]).length/\h3=h'/\∀ i,(hi:i<(cd us[l4]).length)->i<j->(cd us[l4])[i].data.toList.length<=28/\Aj (cd us[l4])[i]) (b2,(0:Int),()) (cd us[l4]).length rfl
   ⟨0,rfl,rfl,ad,rfl,fun i _ N=>absurd N ad⟩ ?_
  rintro ⟨J,n38,⟨⟩⟩ k h' ⟨j,hj,rfl,hjl,rfl,hnm⟩;simp only at hj;subst hj;refine ak ?_;refine aQ ?_ ?_<;>intro g2
  ·have hjA:j<(cd us[l4]).length:=ad
   obtain ⟨aj,haj,hcj⟩:=SN.cell sA hjA;have hsz:(cd us[l4])[j].data.toList.length=(cd us[l4])[j].size:=ah
   have Y:(cd us[l4])[j].data.toList.length<=28->Aj (cd us[l4])[j]->∀ i,(hi:i<(cd us[l4]).length)->i<j+1->(cd us[l4])[i].data.toList.length<=28/\Aj (cd us[l4])[i]:=fun h1 h2 i hi N=>by
    by_cases e:i=j
    ·subst e; exact ⟨h1,h2⟩
    ·exact hnm i hi ad
   have rdn:∀ {K:XB->Hp->Prop} {Lq:Lp} {kk:XA->T},kk (cd us[l4])[j] Lq K h3->T.need (((0:Int)<=(j:Int))/\((j:Int)<(lA:Int))) (T.bd pA <| fun (a15:YA)=>T.ae (a15.add ((Int.toNat (j:Int))*1)) [.string] kk) Lq K h3:=by
    intro K Lq kk hk;refine cC haj ?_;rw [cX j];exact aC ((cd us[l4])[j],()) hcj hk
   have hw:=lC j;refine rdn ?_;refine an (fun g3=>m e03) (fun g3=>?_);have g3:=VI g3;refine rdn ?_;refine aQ ?_ ?_<;>intro g4
   ·refine rdn ?_;refine jl ⟨ad,ad,ad⟩ ?_;refine an (fun g5=>m e03) (fun g5=>?_);exact aD (cs:=fK) (J,((j+1:Nat):Int),()) ((cd us[l4]).length-(j+1)) rfl ad (VO (fun z=>[Value.bool J,Value.int .i64 z]) hw) ⟨j+1,rfl,rfl,ad,rfl,Y ad (B2 fun _=>g5)⟩
   ·exact aD (cs:=fK) (J,((j+1:Nat):Int),()) ((cd us[l4]).length-(j+1)) rfl ad (VO (fun z=>[Value.bool J,Value.int .i64 z]) hw) ⟨j+1,rfl,rfl,ad,rfl,Y ad (B2 fun H=>ad)⟩
  ·have hje:j=(cd us[l4]).length:=ad
   refine rd e03 ?_;refine aH (F0 (va.af e03) ub.t ub.d ub.e (fun x hx=>by have:=hsmu hx; omega)) ?_;rintro _ h4 ⟨Z,hw4⟩;have e04:=e03.trans Z;rcases hw4 with rfl | ⟨rfl,htk⟩
   ·refine ⟨(true,()),rfl,ak ?_⟩;exact cy rfl (m e04)
   refine ⟨(false,()),rfl,ak ?_⟩;refine bX rfl ?_;have rn:lH us[l4]:=⟨G,fun s hs=>by
    obtain ⟨i,hi,rfl⟩:=VV hs;exact hnm i hi ad,htk⟩
   refine rd e04 ?_;refine aH (Co (cA:=cA) (va.af e04) rn ub (A5.U4 (Sx.SL.bH sA Z ah) ad)) ?_;rintro _ h5 ⟨e5,A,B,C,D,rfl,ow⟩;refine ⟨((A.p,A.l,A.c),(B.p,B.l,B.c),(C.p,C.l,C.c),(D.p,D.l,D.c),()),rfl,ak ?_⟩;have e15:Ext h1 h5:=((e2.trans e3).trans Z).trans e5;have sr5:=Sx.SL.bH sr e15 ah;have e05:=V.trans e15;have z5:=e05.size;refine lO (b:=H.size) (vs:=[A.v,B.v,C.v,D.v]) Q3 Tw rfl ad ad (Rf A B C D) rfl rfl sr5 ad ad ad ?_;intro p6 c6 h6 s6 k6 _;have hW:∀ i,i∈aG p3->∃ ys,bm h5 i 30 ys:=SL.fO sr5
   have hge:=fun i hi=>sr5.cu (i:=i) hi
   have e06:Ext H h6:=Ch.trans e05 k6 (fun i hi hl=>by have:=(hge i hi).1; omega);have hw:=lC l4;refine aD (cs:=S4) (J,(p6,l4+1,c6),((l4+1:Nat):Int),()) (us.length-(l4+1)) rfl ad (VO (fun z=>[Value.bool J,Value.slice p6 (l4+1) c6,Value.int .i64 z]) hw) ⟨l4+1,p6,c6,_,rfl,rfl,rfl,ad,e06,s6,by rw [Vs,hrl]; rfl,fun i hi hr=>?_,fun i hi N=>?_⟩
   ·by_cases hir:i<o.length
    ·obtain ⟨A',B',C',D',R,ow'⟩:=hro i hi hir;rw [WZ hir];exact ⟨A',B',C',D',R,(ow'.af e15 ah).af k6 hW⟩
    ·have hie:i=l4:=by rw [Vs,List.length_singleton] at hr; omega
     subst hie;rw [WS ad];simp only [hrl,Nat.sub_self,List.getElem_cons_zero];exact ⟨A,B,C,D,rfl,ow.af k6 hW⟩
   ·by_cases hil:i<l4
    ·exact O i hi hil
    ·have hie:i=l4:=ad
     subst hie;exact ⟨rn,ub⟩
 ·have hne:l4=us.length:=ad
  have hR:∀ u,u∈us->lH u:=fun u hu=>by
   obtain ⟨i,hi,rfl⟩:=VV hu;exact (O i hi ad).1
  have sm':=Kc sm;have vt:Fp h1 p3 l4 (us.map cq):=by
   refine R8 sr (by rw [Vr]; omega) (by rw [Vr]; omega) fun i hi hxi=>?_
   rw [Vr] at hi;obtain ⟨A,B,C,D,R,ow⟩:=hro i hi hxi;rw [VD];exact ⟨A,B,C,D,R,ow.at (P2.JY (O i hi ad).1 (O i hi ad).2)⟩
  have rp:=AD hR sm;have ag:=zw (us:=us) sm.num;have ag':=zw (us:=us.map cq) sm'.num;refine aH (Ct (c:=su.c) (pw.af V ah) (tb0.af V ah) (v.af V) sm) ?_;rintro w4 h4 ⟨Z,hl⟩;have e04:=V.trans Z;have I:∀ {h4 h5 h6:Hp} {x:Nat},Ext h4 h5->Ch [x] h5 h6->h4.size=x->Ext h4 h6:=fun e k hx=>bZ e k
  cases hlp:jD us with
  | error f =>
   rw [hlp] at hl rp ag;have hl:w4=Ds f.Ar f.unit f.name:=hl;subst hl;refine ⟨(none,(f.Ar:Int),(f.unit:Int),f.name,()),rfl,ak ?_⟩;refine br ?_;intro h5 b5 e5 z5;refine bT b5 ?_;intro h6 W k6 z6;have W:bm h6 h4.size 37 [vI (f.Ar:Int),vI (f.unit:Int),.string f.name]:=W;have e46:=I e5 k6 rfl;have e06:=e04.trans e46;refine aH (Ct (c:=c5) (pw.af e06 ah) (tb0.af e06 ah) (vt.af (Z.trans e46)) sm') ?_;rintro w7 h7 ⟨e7,E⟩;cases U:jD (us.map cq) with
   | ok Q=>rw [U] at rp; exact rp.elim
   | error M =>
    rw [U] at E rp;have E:w7=Ds M.Ar M.unit M.name:=E;subst E;obtain ⟨r1,r2⟩:=rp;refine ⟨(none,(M.Ar:Int),(M.unit:Int),M.name,()),rfl,ak ?_⟩;refine br ?_;intro h8 b8 e8 z8;refine bT b8 ?_;intro h9 X k9 z9;have X:bm h9 h7.size 37 [vI (M.Ar:Int),vI (M.unit:Int),.string M.name]:=X;have e79:=I e8 k9 rfl;have b69:=W.af (e7.trans e79) ah;refine av b69 ((f.Ar:Int),()) (ak ?_);refine av X ((M.Ar:Int),()) (ak ?_);refine bX (by rw [r1]; simp) ?_;simp only [ax];refine av b69 ((f.unit:Int),()) (ak ?_);refine av X ((M.unit:Int),()) (ak ?_);refine bX (by rw [r2]; simp) (bX rfl (cy rfl ?_));exact m (e06.trans (e7.trans e79))
  | ok P =>
   rw [hlp] at hl rp ag;obtain ⟨B,usl,lb,S,hB,rfl,pg,Tr,hz⟩:=hl;obtain ⟨_,h64,_,_,AA,_,_,_⟩:=ag;refine ⟨(some ⟨B+3,0,none⟩,(0:Int),(0:Int),(⟨#[]⟩:XA),()),rfl,ak ?_⟩;refine br ?_;intro h5 b5 e5 z5;refine bT b5 ?_;intro h6 W k6 z6;have W:bm h6 h4.size 37 [vI (0:Int),vI (0:Int),.string ⟨#[]⟩]:=W;have e46:=I e5 k6 rfl;have e06:=e04.trans e46;refine aH (Ct (c:=c5) (pw.af e06 ah) (tb0.af e06 ah) (vt.af (Z.trans e46)) sm') ?_;rintro w7 h7 ⟨e7,E⟩;cases U:jD (us.map cq) with
   | error M=>rw [U] at rp; exact rp.elim
   | ok Q =>
    rw [U] at E rp ag';obtain ⟨_,_,_,_,BB,_,_,_⟩:=ag';obtain ⟨B',usl',lb',S',hB',rfl,pg',its',hz'⟩:=E;obtain ⟨hlb,hit⟩:=rp;refine ⟨(some ⟨B'+3,0,none⟩,(0:Int),(0:Int),(⟨#[]⟩:XA),()),rfl,ak ?_⟩;refine br ?_;intro h8 b8 e8 z8;refine bT b8 ?_;intro h9 X k9 z9;have X:bm h9 h7.size 37 [vI (0:Int),vI (0:Int),.string ⟨#[]⟩]:=X;have e79:=I e8 k9 rfl;have e69:=e7.trans e79;have b69:=W.af e69 ah;refine av b69 ((0:Int),()) (ak ?_);refine av X ((0:Int),()) (ak ?_);refine bX rfl ?_;simp only [ax];refine av b69 ((0:Int),()) (ak ?_);refine av X ((0:Int),()) (ak ?_);refine bX rfl (bX rfl (bX rfl ?_));have e09:=e06.trans e69;have o1:One h1 h9 us P B usl lb S:=⟨hB,pg.ext (e46.trans e69),Tr,hz⟩
    have o2:One h6 h9 (us.map cq) Q B' usl' lb' S':=⟨hB',pg'.ext e79,its',hz'⟩
    have v9:=v.af e09;have vt9:=vt.af ((Z.trans e46).trans e69);refine aY (cs:=fK) (fun y k h'=>∃ n:Nat,y.2.1=(n:Int)/\k=us.length-n/\n<=us.length/\Ext h9 h') (b2,(0:Int),()) us.length rfl
     ⟨0,rfl,rfl,ad,Ch.refl _ _⟩ ?_
    rintro ⟨b21,n22,⟨⟩⟩ k h10 ⟨n,hn22,rfl,hnle,F⟩;simp only at hn22;subst hn22;refine ak ?_;have hlm:(us.map cq).length=us.length:=Vr _;refine aQ ?_ ?_<;>intro gq
    ·have hn:n<us.length:=ad
     have hm:n<(us.map cq).length:=ad
     have hse:=RJ hn (hit n hn);have ub:=(O n hn ad).2;have hl1:∀ j,(lM us[n] j).length<=2^20:=fun j=>by
      unfold lM;split
      ·exact ub.t
      ·exact ub.d
     have hl2:∀ j,(lM (us.map cq)[n] j).length<=2^20:=fun j=>by
      rw [VD];unfold lM cq;split
      ·rw [Vr]; exact ub.t
      ·rw [Vr]; exact ub.d
     have hw:=lC n;refine H7 (j:=0) (o1.ext F) (o2.ext F) hmany ad (v9.af F) (vt9.af F) hn hm ad (hl1 0) (hl2 0) (o1.tl hn ad) (o2.tl hm ad) (hse 0 ad hm) ?_;intro h11 e11;refine bX rfl ?_;have e911:=F.trans e11;refine H7 (j:=1) (o1.ext e911) (o2.ext e911) hmany ad (v9.af e911) (vt9.af e911) hn hm ad (hl1 1) (hl2 1) (o1.tl hn ad) (o2.tl hm ad) (hse 1 ad hm) ?_;intro h12 e12;refine bX rfl ?_;exact aD (cs:=fK) (b21,((n+1:Nat):Int),()) (us.length-(n+1)) rfl ad (VO (fun z=>[Value.bool b21,Value.int .i64 z]) hw) ⟨n+1,rfl,rfl,ad,e911.trans e12⟩
    ·have r:GH us:=⟨AA.right,h64⟩
     have hLl:=r.dM;have hlbw:P.w.lb=df 0 us:=AA.wi.lb;have hpl:P.w.lb.length<=2^30:=by rw [hlbw]; omega
     refine aH (nD (o1.ext F).pg hpl) ?_;rintro _ h11 ⟨e11,p23,l24,c25,rfl,s23⟩;refine ⟨((p23,l24,c25),()),rfl,ak ?_⟩;have e911:=F.trans e11;refine aH (nD (o2.ext e911).pg (by rw [hlb]; exact hpl)) ?_;rintro _ h12 ⟨e12,p26,l27,Un,rfl,s26⟩;refine ⟨((p26,l27,Un),()),rfl,ak ?_⟩;have e912:=e911.trans e12;have hl1:=s23.1;have hl2:=s26.1;rw [Vr] at hl1 hl2;refine cy (by rw [hl1,hl2,hlb]; simp) ?_;refine lj (uV (o1.ext e912).pg) ?_;refine lj (uV (o2.ext e912).pg) ?_;refine cy (by rw [Jd]; simp) ?_;exact m (e09.trans e912)
end Go.Sx.Lk
namespace Go.Sx.Ob
open Go.Proofs Go.Proofs.YtlpcncdglfjnoaaGreatDoor
open Go.ChangeShapes Go.WideShapes Go.ChangeAt Go.WideMaps Go.WideElems Go.RowKit
def uW (P:Program) (t:TypeId):Option (List (TypeId × Nat)):=(P.underlying t).bind fun d=>match d with | .struct a=>some (a.toList.map fun f=>(f.type,f.offset)) | _=>none
section
variable {H:Type} {enc:TypeId × XB->H} {P:Program} {W:World} {base fuel:Nat} {sp:Nat->Bool} {held:Bool} {t:TypeId} {cs:List XB} {y:DataW H × List MemPlace}
def fI {l:List (TypeId × Nat)} (a:uW P t=some l) (h:DataW.trod enc P W base sp held fuel t cs=some y) :
  ∃ (xs:List (DataW H × List MemPlace)) (n:Nat),y.1=.agg (xs.map (·.1))/\cs.length=P.cellsOf t/\xs.length=l.length/\∀ (i:Nat) (p:TypeId × Nat),l[i]?=some p->∃ x,xs[i]?=some x/\DataW.trod enc P W base sp held n p.1 ((cs.drop p.2).take (P.cellsOf p.1))=some x:=by
 unfold uW at a;cases e:P.underlying t with
 | none=>rw [e] at a; cases a
 | some d =>
  rw [e] at a;simp only [Option.bind_some] at a;split at a
  ·rename_i j;simp only [Option.some.injEq] at a;obtain ⟨xs,n,_,o,hl,c,q⟩:=DataW.trod_struct e h;refine ⟨xs,n,by rw [o],hl,by rw [<- a,Vr,c,Wy],fun i p k=>?_⟩;rw [<- a,Wa,W2] at k;obtain ⟨f,b,rfl⟩:=k;rw [WE] at b;have h1:=q i f b;cases m:xs[i]? with
   | none =>
    rw [List.getElem?_eq_none_iff] at m
    have:i<j.size:=by
     by_cases g:i<j.size
     ·exact g
     ·rw [Wp ad] at b;cases b
    omega
   | some x=>rw [m] at h1; exact ⟨x,rfl,h1⟩
  ·cases a
theorem iZ {h:Hp} {a:YA}:∀ (b:List XB) (i:Nat),(∀ j,(c:j<b.length)->jr h (a.add (i+j))=some b[j])->aE h a i b
 | [],_,_=>trivial
 | v::b,i,d=>⟨by have:=d 0 ah; rw [Xy] at this; exact this,iZ b (i+1) fun j c=>by
  have:=d (j+1) (by simpa using c)
  rw [show i+1+j=i+(j+1) from ad];simpa using this⟩
def RL {a:YA} {n:Nat} (h:W.cells? base a n=some cs):cs.length=n/\aE W.heap a 0 cs:=by
 unfold World.cells? at h;split at h
 ·have hl:cs.length=n:=by simpa using Lib.mapM_length h
  refine ⟨hl,iZ cs 0 fun j d=>?_⟩;obtain ⟨b,c,e⟩:=Lib.mapM_at h j j (W0 ad);rw [VC d] at c;cases c;rw [V9,<- I7];exact e
 ·cases h
theorem xE {α:Type} (Q:Nat->α->Prop):∀ n,(∀ i,i<n->∃ x,Q i x)->∃ l:List α,l.length=n/\∀ i (hi:i<l.length),Q i l[i]
 | 0,_=>⟨[],rfl,fun i hi=>by simp at hi⟩
 | n+1,h=>by
  obtain ⟨l,hl,c⟩:=xE Q n (fun i hi=>h i ad);obtain ⟨x,d⟩:=h n ad;refine ⟨l++[x],by simp [hl],fun i hi=>?_⟩
  by_cases a:i<l.length
  ·rw [WZ a];exact c i a
  ·have b:i=n:=by simp at hi; omega
   subst b;rw [WS ad];simpa using d
def M9 {ds:List (DataW H)} {ks:List Nat} (hl:ds.length=ks.length) (h:∀ i,(hi:i<ks.length)->(a:i<ds.length)->ks[i]=Rows.uptoBulk ds[i]):Rows.uptoBulkAll ds=ks.sum:=by
 induction ds generalizing ks with
 | nil =>
  cases ks with
  | nil=>rfl
  | cons k ks=>simp at hl
 | cons d ds b =>
  cases ks with
  | nil=>simp at hl
  | cons k ks =>
   have h0:=h 0 ah ah;simp only [List.getElem_cons_zero] at h0
   have:=b (ks:=ks) (by simpa using hl) (fun i hi a=>h (i+1) (by simpa using hi) (by simpa using a))
   unfold Rows.uptoBulkAll;rw [this,Wg,h0]
structure CN {α:Type} (Q:α->List XB->Nat->Prop) (h:Hp) (sz:Nat) (p:XC) (l c:Nat) (us:List α) (ks:List Nat):Prop where
 len:l=us.length
 Ak:ks.length=us.length
 cells:∀ i,(hi:i<us.length)->(hk:i<ks.length)->∃ a cs,p=some a/\aE h (a.add (i*sz)) 0 cs/\Q us[i] cs ks[i]
 cap:l<=c
 Sw:c<=maxLen
 nil:p=none->c=0
def open_slice {α:Type} {e:TypeId} {sz:Nat} (C:P.underlying t=some (.slice e)) (hc:P.cellsOf e=sz) (Q:α->List XB->Nat->Prop)
  (q:∀ (cs:List XB) (y:DataW H × List MemPlace) (n:Nat),DataW.trod enc P W base sp held n e cs=some y->∃ x:α,Q x cs (Rows.uptoBulk y.1))
  (h:DataW.trod enc P W base sp held fuel t cs=some y) :
  ∃ (p:XC) (l c:Nat) (us:List α) (ks:List Nat),cs=[.slice p l c]/\CN Q W.heap sz p l c us ks/\ks.sum+1<=Rows.uptoBulk y.1:=by
 rcases DataW.trod_slice C h with ⟨e0,f⟩ | ⟨a,len,cap,b,rest,n,_,e0,f,r,s,u,g,w,_,_⟩
 ·refine ⟨none,0,0,[],[],e0,⟨rfl,rfl,fun i hi=>by simp at hi,VL _,WG _,fun _=>rfl⟩,?_⟩;rw [f];simp only [Rows.uptoBulk];decide
 ·have j:∀ i,i<len->∃ x:α × Nat,∃ d,aE W.heap (a.add (i*sz)) 0 d/\Q x.1 d x.2/\∃ y,b[i]?=some y/\x.2=Rows.uptoBulk y.1:=by
   intro i hi;have he:=w i hi;cases k:b[i]? with
   | none=>rw [List.getElem?_eq_none_iff] at k; omega
   | some y =>
    rw [k,hc] at he;simp only [Option.bind_eq_some_iff] at he;obtain ⟨d,z,A⟩:=he;obtain ⟨hl,jr⟩:=RL z;obtain ⟨x,D⟩:=q _ _ _ A;exact ⟨(x,Rows.uptoBulk y.1),d,jr,D,y,rfl,rfl⟩
  obtain ⟨xs,m,o⟩:=xE _ len j;refine ⟨some a,len,cap,xs.map (·.1),xs.map (·.2),e0,⟨by rw [Vr,m],by rw [Vr,Vr],fun i hi hk=>?_,s,u,fun h=>by cases h⟩,?_⟩
  ·rw [Vr] at hi;obtain ⟨d,h1,h2,_⟩:=o i hi;rw [VD,VD];exact ⟨a,d,rfl,h1,h2⟩
  ·have:=M9 (ds:=b.map (·.1)) (ks:=xs.map (·.2)) (by rw [Vr,Vr,g,m]) (fun i hi B=>by
    rw [Vr] at hi B;obtain ⟨d,_,_,y,k,hk⟩:=o i hi;rw [VC B] at k;rw [VD,VD,hk,VP k])
   rw [f];simp only [Rows.uptoBulk];rw [this];omega
end
variable {Z:Program} {Y:FuncId} {V:World}
def MM {args:Array XB} {R:XB->Hp->Prop} (h:HC Z Y args V.heap R) (c:∀ v h',R v h'->Ext V.heap h'):Calls Z Y args V fun e w'=>∃ v,e=.returned v/\Below V.heap.size V w'/\R v w'.heap:=by
 refine (h V rfl).mono fun e w' ⟨v,hv,a,b⟩=>⟨v,hv,⟨a.os,a.tape,a.output,(c v _ b).size,fun k hk=>(c v _ b).same k hk ah⟩,b⟩
def Ga {a:World} (c:Below V.heap.size V a) {p:MemPlace} (d:p.block<V.heap.size):V.sameAt a p:=by
 cases p with
 | cell b off =>
  show a.cell? _=V.cell? _;unfold World.cell?;rw [c.block b d]
 | map b=>exact c.block b d
def Up:ownKnob Tryz.prog.godebug=none:=aw
def u9:Tryz.prog.underlying 9=some .string:=aw
def u4:Tryz.prog.underlying 4=some .bool:=aw
def u3:Tryz.prog.underlying 3=some (.int .i64):=aw
def u5:Tryz.prog.underlying 5=some (.int .u8):=aw
def Ud:Tryz.prog.underlying 193=some (.array 43 165):=aw
def Tt:Tryz.prog.cellsOf 165=3:=aw
def Uw:Tryz.prog.cellsOf 193=129:=aw
def c9:Tryz.prog.cellsOf 9=1:=aw
def c5:Tryz.prog.cellsOf 5=1:=aw
def c3:Tryz.prog.cellsOf 3=1:=aw
def UH:uW YC 165=some [(9,0),(5,1),(3,2)]:=aw
def C1:List (DataW Unit):=match (Rows.laid_spandrel_isa_table:DataW Unit) with | .agg l=>l | _=>[]
def Lc:DataW Unit->Int
 | .agg [_,_,.lit (.int _ n)]=>n
 | _=>0
def Ov:(Rows.laid_spandrel_isa_table:DataW Unit)=.agg C1:=aw
def LN:C1.map Lc=(List.range 43).map fun k=>((mZ.getD k 0:Nat):Int):=aw
theorem Dm {α β:Type} (f:α->List β) (m:Nat) (a:∀ x,(f x).length=m):∀ l:List α,(l.flatMap f).length=l.length*m
 | []=>ah
 | x::l=>by rw [Wh,Vs,a,Dm f m a l,Wc,Nat.succ_mul,Nat.add_comm]
def Cb (nm:Nat->XA) (by_:Nat->Int):(kr nm by_).length=129:=by
 unfold kr;rw [Dm _ 3 (fun x=>rfl),List.length_range]
def RE:DataW Unit->List UInt8
 | .agg [.lit (.string s),_,_]=>s
 | _=>[]
def RH:DataW Unit->Int
 | .agg [_,.lit (.int _ n),_]=>n
 | _=>0
def NR:C1.map RE=(List.range 43).map fun k=>T7 k:=aw
def OK:C1.map RH=(List.range 43).map fun k=>vi k:=aw
variable {H U:Nat}
def Bl {enc:TypeId × XB->Unit} {base:Nat} {sp:Nat->Bool} {g:Bool} {cs:List XB} {p:List MemPlace}
  (h:DataW.trod enc YC V base sp g H 193 cs=some (Rows.laid_spandrel_isa_table,p)):cs=kr tX vi:=by
 obtain ⟨xs,m,_,F,hl,B,G⟩:=DataW.trod_array Ud h;rw [Uw] at hl;have r:xs.map (·.1)=C1:=by
  have:=VO Prod.fst F
  rw [show (Rows.laid_spandrel_isa_table,p).1=DataW.agg C1 from Ov] at this;simpa using this.symm
 have l:∀ i,i<43->(cs.drop (i*3)).take 3=[.string (tX i),.int .u8 (vi i),vI ((mZ.getD i 0:Nat):Int)]:=by
  intro i hi;have h1:=G i hi;rw [Tt] at h1;rw [VC ad] at h1;obtain ⟨I,n,t,o,u,f⟩:=fI UH h1;obtain ⟨J,K,C⟩:=f 0 _ rfl;obtain ⟨L,M,D⟩:=f 1 _ rfl;obtain ⟨N,O,E⟩:=f 2 _ rfl;rw [Tt] at o;generalize hc:(cs.drop (i*3)).take 3=c at *
  match c,o with
  | [S,U,X],_ =>
   rw [show Tryz.prog.cellsOf (9,0).1=1 from c9] at C;rw [show Tryz.prog.cellsOf (5,1).1=1 from c5] at D;rw [show Tryz.prog.cellsOf (3,2).1=1 from c3] at E;obtain ⟨s,e0,w,_⟩:=DataW.trod_string u9 C;obtain ⟨b,P,y,_⟩:=DataW.trod_int u5 D;obtain ⟨k,Q,z,_⟩:=DataW.trod_int u3 E;cases e0; cases P; cases Q;have d:I=[J,L,N]:=by
    apply WA;intro j
    match j with
    | 0=>exact K
    | 1=>exact M
    | 2=>exact O
    | j+3=>rw [V5 (by rw [u]; simp),V5 ah]
   have h2:(xs.map (·.1))[i]?=some (xs[i]'ad).1:=by rw [Wa,VC ad]; rfl
   rw [r] at h2;have hk:k=((mZ.getD i 0:Nat):Int):=by
    have e:(C1.map Lc)[i]?=some (Lc (xs[i]'ad).1):=by rw [Wa,h2]; rfl
    rw [LN,Wa,W0 hi] at e;rw [t,d,w,y,z] at e;exact (VP e).symm
   have q:b=vi i:=by
    have e:(C1.map RH)[i]?=some (RH (xs[i]'ad).1):=by rw [Wa,h2]; rfl
    rw [OK,Wa,W0 hi] at e;rw [t,d,w,y,z] at e;exact (VP e).symm
   have R:s=tX i:=by
    have e:(C1.map RE)[i]?=some (RE (xs[i]'ad).1):=by rw [Wa,h2]; rfl
    rw [NR,Wa,W0 hi] at e;rw [t,d,w,y,z] at e;exact BR (VP e).symm
   rw [hk,q,R]
 apply WA;intro j
 by_cases Y:j<129
 ·obtain ⟨a,b,A,q⟩:∃ a b,j=a*3+b/\b<3:=⟨j / 3,j % 3,ad,ad⟩
  subst A;unfold kr;rw [vf (fun k=>[Value.string (tX k),.int .u8 (vi k),vI (mZ.getD k 0:Nat)]) 3 (fun x=>rfl) _ a b q,W0 ad];show cs[a*3+b]?=[Value.string (tX a),.int .u8 (vi a),vI ((mZ.getD a 0:Nat):Int)][b]?
  have:=l a ad
  rw [<- this,W3,VE q,WW]
 ·have Z:(kr tX vi).length=129:=Cb _ _;rw [V5 ad,V5 ad]
def B7 {name:String} {cs:Array XB} (a:Z.globalNamed name=some H) (hv:V.var? Z name=some cs):∃ e f,V.heap[H]?=some (.cells cs e f):=by
 unfold World.var? at hv;rw [a] at hv;have hv:(match (V.heap[H]?:Option Obj) with | some (.cells cs _ _)=>some cs | _=>none)=some cs:=hv;split at hv
 ·rename_i b e f c;cases hv;exact ⟨e,f,c⟩
 ·cases hv
def G7 (h:laidMetH YC Rows.linkNumbersRow.laid V):AE V.heap/\Go.Sx.iN V.heap:=by
 rw [MakeChecks.laidMetH_plain _ _ _ aw] at h;obtain ⟨ps,⟨G,H,q,I,p0,J,r,s,t,u,⟨K,L,w,M,N,O,x,y,z,A,⟨P,Q,B,R,S,U,a,c,d,f,⟨X,Y,C,Z,p3,q3,b,g,i,j,_,_⟩,_⟩,_⟩,_⟩,_,_⟩:=h;obtain rfl:=VP ((show Tryz.prog.globalNamed _=some 1 from aw).symm.trans a);obtain rfl:=VP ((show Tryz.prog.globalNamed _=some 0 from aw).symm.trans b);have h2:(Tryz.prog.globals[1]?).map (·.type)=some 228:=aw
 obtain rfl:=VP (h2.symm.trans c);have D:(Tryz.prog.globals[0]?).map (·.type)=some 193:=aw
 obtain rfl:=VP (D.symm.trans g);have hc:=Lib.cells_of_tab (n:=20) (e:=207) (k:=.u64) (zs:=Lib.pow10Tab) aw aw aw aw f;have hr:=Bl j;obtain ⟨E,l,m⟩:=B7 a d;obtain ⟨F,o,p⟩:=B7 b i;refine ⟨⟨tX,vi,F,o,?_⟩,⟨E,l,?_⟩⟩
 ·rw [p,<- hr]
 ·rw [m,<- hc]
def MZ (os:Os) (args:Array XB):laidMetH YC Rows.linkNumbersRow.laid ((World.doorLaid YC 400 os).forCall (fun _ _=>0) ⟨#[],args,[]⟩).memory :=
 laidMetH_of_parts3 (fuel:=8) (laidMet_of_run' 8 aw aw) aw aw
def Te:Kids YC (·<Tryz.prog.types.size):=kids_rows aw aw
def sliceB:((List.range Tryz.prog.types.size).all fun t=>match Tryz.prog.underlying t with | some (.slice e)=>decide (0<Tryz.prog.cellsOf e) | _=>true)=true:=aw
def Q4 {t e:TypeId} (a:t<Tryz.prog.types.size) (b:Tryz.prog.underlying t=some (.slice e)):0<Tryz.prog.cellsOf e:=by
 have:=VT.1 sliceB t (Xd.2 a)
 rw [b] at this;exact Vv this
theorem sI {H:Type} {enc:TypeId × XB->H} {W e:World} {sp:Nat->Bool} (f:Below W.heap.size W e):∀ {ts:List TypeId} {g:List XB} {i:List (DataW H)} {ps:List MemPlace},(∀ t∈ts,t<Tryz.prog.types.size) ->
  DataW.TrodAll enc YC W 0 (fun _=>true) true ts g i ps->(∀ p∈ps,p.block<W.heap.size)->(∀ p∈ps,sp p.block=true)->DataW.TrodAll enc YC e 0 sp true ts g i ps
 | [],_,_,_,_,h,_,_=>by
  obtain ⟨rfl,rfl,rfl⟩:=trodAll_nil h;exact trodAll_mk0
 | t::ts,_,_,_,j,h,hl,k=>by
  obtain ⟨v,l,d,m,a,b,rfl,rfl,rfl,⟨n,h1⟩,h2⟩:=trodAll_cons h;exact ⟨a,b,⟨n,DataW.trod_stays Te (fun h o=>Q4 h o) (fun h=>by cases h) (j t (WH ..)) h1 (fun p c=>Ga f (hl p (V7 _ c))) (fun p c=>k p (V7 _ c))⟩,
   sI f (fun t h=>j t (Vz _ h)) h2 (fun p c=>hl p (Wd _ c)) (fun p c=>k p (Wd _ c)),rfl⟩
def Lt {H:Type} {enc:TypeId × XB->H} {f:Func} {s:ChangeSpec} {apart fresh handsOn:Bool} {W':World} {args:Array XB} {v:XB} {c g:List (DataW H)} {before:List MemPlace} (d:s.vars=[])
  (i:DataW.Whole enc YC f.params.toList s.vars apart V args.toList c g before)
  (e:∀ (b:Nat) (sp:Nat->Bool) (m:Bool),DataW.TrodAll enc YC W' b sp m f.resultTypes.toList (v.resultList f.resultTypes.size) (s.fn H (c++g)).results [])
  (a:(s.fn H (c++g)).args=c) (dS:(s.fn H (c++g)).vars=[]) (j:∀ t∈f.params.toList,t<Tryz.prog.types.size) (k:Below V.heap.size V W') :
  s.post enc YC f apart fresh handsOn false V args v W':=by
 have hlt:=i.lt;have hW':=i;obtain ⟨p,q,n,l,rfl,r,hn⟩:=i;rw [d] at l;obtain ⟨rfl,rfl⟩:=trodVars_none l;rw [Wr] at hlt hW';refine ⟨c,[],p,[],p,[],hW',e _ _ _,?_,?_,k.frame _,fun h=>by cases h⟩
 ·rw [a];exact sI k j n hlt (fun p o=>Vw (hlt p o))
 ·rw [dS,d] <;> rfl
variable {a:OpenSpec}
def KM {H:Type} {enc:TypeId × XB->H} {b:Assume} {C:Checked} {os:Os} {fn:Func} {k:(H:Type)->List (DataW H)->Bool} (hk:a.cond=some k) {F:Stop.Interp} {conds:List PathCond} {apart fresh handsOn again:Bool} {X:World->Array XB->Prop}
  (z:∀ (w w':World) (args:Array XB),w.heap=w'.heap->X w args->X w' args)
  (own:ownKnob C.prog.godebug=none) (started:os.Started) (d:C.prog.inits.idxOf? Y=none) (p:C.prog.funcs[Y]?=some fn)
  (witness:∃ (w:World) (tape:Tape) (i:Input),w.os=os/\(w.forCall tape i).Shaped C.prog/\i.vars=[]/\Input.okWide C.prog (w.forCall tape i) .any w.heap.size Y i /\
   ((a.pre enc C.prog fn conds apart (w.forCall tape i).memory i.args/\X (w.forCall tape i).memory i.args)/\sizedMet enc C.prog fn a apart (w.forCall tape i).memory i.args)/\b.holds C.prog (lone (Frame.enter C.prog Y i.args .normal) [] (w.forCall tape i)))
  (c:∀ (W:World) (base:Nat) (args:Array XB) (m n:List (DataW H)) (before:List MemPlace),
   (∀ (j:Nat) t v,fn.params[j]?=some t->args[j]?=some v->Value.okWide C.prog W .any base t v) ->
   DataW.Whole enc C.prog fn.params.toList a.vars apart W args.toList m n before->k H (m++n)=true->X W args ->
   Calls C.prog Y args W fun e y=>∃ v,e=.returned v/\(a.at F).post enc C.prog fn apart fresh handsOn again W args v y) :
  ReturnsInHanded b C os Y .any (fun w args=>(a.pre enc C.prog fn conds apart w args/\X w args)/\sizedMet enc C.prog fn a apart w args) ((a.at F).post enc C.prog fn apart fresh handsOn again):=by
 refine returnsInHanded_of_calls own started d witness ?_;intro w tape i _ _ _ q g o;obtain ⟨_,_,_,r,h,_,_,_,_,l⟩:=q;have e:r=fn:=VP (h.symm.trans p);subst e;obtain ⟨⟨u,A⟩,E⟩:=g;obtain ⟨m,n,before,B,hc,x⟩:=(OpenSpec.pre_some hk conds apart _ _).1 u;have hw':=DataW.Whole.of_heap (w':=w.forCall tape i) (by rfl) B;refine (c (w.forCall tape i) w.heap.size i.args m n before l hw' x (z _ _ _ (by rfl) A)).mono fun e y ⟨v,D,u⟩=>?_
 subst D;exact ChangeSpec.post_blind u
def FD {H:Type} {enc:TypeId × XB->H} {C:Checked} {os:Os} {fn:Func} {k:(H:Type)->List (DataW H)->Bool} (hk:a.cond=some k) {apart:Bool} {X:World->Array XB->Prop} (c:World) (args:Array XB) (b:Nat) (e:c.os=os)
  (g:(c.forCall (fun _ _=>0) ⟨#[],args,[]⟩).Shaped C.prog)
  (d:Input.okWideB C.prog (c.forCall (fun _ _=>0) ⟨#[],args,[]⟩) Y ⟨#[],args,[]⟩=true)
  {x:List (DataW H) × List (DataW H) × List MemPlace} (l:DataW.whole enc C.prog (c.forCall (fun _ _=>0) ⟨#[],args,[]⟩).memory fn.params.toList a.vars apart args.toList b=some x) (h:k H (x.1++x.2.1)=true)
  (j:a.bare.sizedB enc C.prog fn apart (c.forCall (fun _ _=>0) ⟨#[],args,[]⟩).memory args b=true)
  (m:X (c.forCall (fun _ _=>0) ⟨#[],args,[]⟩).memory args) :
  ∃ (w:World) (tape:Tape) (i:Input),w.os=os/\(w.forCall tape i).Shaped C.prog/\i.vars=[]/\Input.okWide C.prog (w.forCall tape i) .any w.heap.size Y i /\
   ((a.pre enc C.prog fn [] apart (w.forCall tape i).memory i.args/\X (w.forCall tape i).memory i.args)/\sizedMet enc C.prog fn a apart (w.forCall tape i).memory i.args)/\({}:Assume).holds C.prog (lone (Frame.enter C.prog Y i.args .normal) [] (w.forCall tape i)) :=
 ⟨c,fun _ _=>0,⟨#[],args,[]⟩,e,g,(Input.okWide_of_okWideB (base:=0) d).1,(Input.okWide_of_okWideB d).2,
  ⟨⟨(OpenSpec.pre_some hk [] apart _ _).2 ⟨x.1,x.2.1,x.2.2,DataW.Whole_of_whole l,rfl,h⟩,m⟩,sizedMet_of_sizedB j⟩,by
  simp only [Assume.holds];exact ⟨ah,ah,ah,ah,ah⟩⟩
structure wy (x:cL):Prop where
 En:∀ t,t∈x.ai->t.2<4294967296
 num:x.num<4294967296
structure Rv (u:bS):Prop where
 text:∀ x,x∈u.text->wy x.e
 data:∀ x,x∈u.data->wy x.e
 aS:∀ x,x∈u.aS->wy x.2
def UX:Tryz.prog.underlying 58=some (.int .u32):=aw
def U6:Tryz.prog.underlying 21=some (.int .i32):=aw
def U7:Tryz.prog.underlying 57=some (.slice 66):=aw
def U1:Tryz.prog.cellsOf 66=2:=aw
def T4:Tryz.prog.cellsOf 60=2:=aw
def Vp:Tryz.prog.cellsOf 57=1:=aw
def US:Tryz.prog.cellsOf 58=1:=aw
def Vb:Tryz.prog.cellsOf 21=1:=aw
def UY:Tryz.prog.cellsOf 62=5:=aw
def Uv:Tryz.prog.cellsOf 64=10:=aw
def UZ:Tryz.prog.cellsOf 88=3:=aw
def UJ:Tryz.prog.cellsOf 26=1:=aw
def U3:Tryz.prog.cellsOf 27=1:=aw
def Un:Tryz.prog.cellsOf 28=1:=aw
def UT:Tryz.prog.cellsOf 30=4:=aw
def T5:uW YC 66=some [(9,0),(58,1)]:=aw
def Vl:uW YC 60=some [(57,0),(58,1)]:=aw
def Ve:uW YC 62=some [(3,0),(3,1),(3,2),(21,3),(3,4)]:=aw
def Uj:uW YC 64=some [(3,0),(9,1),(62,2),(60,7),(3,9)]:=aw
def Sr:uW YC 88=some [(9,0),(60,1)]:=aw
def TY:uW YC 30=some [(26,0),(26,1),(27,2),(28,3)]:=aw
section
variable {H:Type} {enc:TypeId × XB->H} {W:World} {base n:Nat} {sp:Nat->Bool} {held:Bool} {cs:List XB} {y:DataW H × List MemPlace}
def Kb {α:Type} {c:List α} {a b:α} (hl:c.length=2) (h0:c[0]?=some a) (h1:c[1]?=some b):c=[a,b]:=by
 match c,hl with
 | [x,y],_ =>
  simp only [List.getElem?_cons_zero,List.getElem?_cons_succ,Option.some.injEq] at h0 h1;subst h0 h1;rfl
def QT (t:XA × Nat) (cs:List XB) (k:Nat):Prop:=cs=cg t/\t.1.size<=maxLen/\t.2<4294967296/\k=t.1.size+3
def JG (h:DataW.trod enc YC W base sp held n 66 cs=some y):∃ t,QT t cs (Rows.uptoBulk y.1):=by
 obtain ⟨p,m,e,hl,b,a⟩:=fI T5 h;obtain ⟨q,f,c⟩:=a 0 _ rfl;obtain ⟨r,g,d⟩:=a 1 _ rfl;have hys2:=Kb b f g;rw [U1] at hl
 match cs,hl with
 | [v,u],_ =>
  rw [show Tryz.prog.cellsOf (9,0).1=1 from c9] at c;rw [show Tryz.prog.cellsOf (58,1).1=1 from US] at d;obtain ⟨s,e0,i,j⟩:=DataW.trod_string u9 c;obtain ⟨k,l,o,hk⟩:=DataW.trod_int UX d;have hb:=bounds_u32 hk;cases e0; cases l;refine ⟨(s,k.toNat),?_,j,by show k.toNat<_; omega,?_⟩
  ·unfold cg;simp only [List.cons.injEq,Value.int.injEq,true_and,and_true];omega
  ·rw [e,hys2,i,o];simp only [List.map_cons,List.map_nil,Rows.uptoBulk,Rows.uptoBulkAll];rw [Wy];show s.data.size+1+(1+0)+1=s.data.size+3;omega
structure Ka (h:Hp) (p:XC) (l c:Nat) (x:cL) (k:Nat):Prop where
 vw:iW h p l x.ai
 names:∀ t,t∈x.ai->t.1.size<=maxLen
 num:wy x
 many:3*x.ai.length<=k
 size:(qn x).length<=2*k
 cap:l<=c
theorem zP:∀ (ts:dt) (ks:List Nat),ks.length=ts.length->(∀ i,(hi:i<ts.length)->(hk:i<ks.length)->ks[i]=ts[i].1.size+3)->(ts.flatMap Ex).length=2*ks.sum-(ts.map (·.1.size)).sum/\(ts.map (·.1.size)).sum+3*ts.length=ks.sum
 | [],ks,hl,_=>by
  have:ks=[]:=List.length_eq_zero_iff.1 hl
  subst this
  simp
 | t::ts,[],hl,_=>by simp at hl
 | t::ts,k::ks,hl,h=>by
  have h0:=h 0 ah ah;simp only [List.getElem_cons_zero] at h0;obtain ⟨a,c⟩:=zP ts ks (by simpa using hl) (fun i hi hk=>h (i+1) (by simpa using hi) (by simpa using hk));have b:(Ex t).length=t.1.size+6:=by
   unfold Ex iK;simp only [List.length_append,dr]
   have:t.1.data.toList.length=t.1.size:=ah
   omega
  rw [Wh,Vs,Wg,VY,Wg,Wc,b,a];omega
def E4 (h:DataW.trod enc YC W base sp held n 60 cs=some y) :
  ∃ p l c x,cs=[.slice p l c,.int .u32 ((x:cL).num:Int)]/\Ka W.heap p l c x (Rows.uptoBulk y.1):=by
 obtain ⟨L,m,w,hl,e,b⟩:=fI Vl h;obtain ⟨z,A,q⟩:=b 0 _ rfl;obtain ⟨M,B,r⟩:=b 1 _ rfl;have hys2:=Kb e A B;rw [T4] at hl
 match cs,hl with
 | [v,u],_ =>
  rw [show Tryz.prog.cellsOf (57,0).1=1 from Vp] at q;rw [show Tryz.prog.cellsOf (58,1).1=1 from US] at r;obtain ⟨p,l,c,us,ks,e0,d,s⟩:=open_slice U7 U1 QT (fun cs y n h=>JG h) q;obtain ⟨k,C,D,hk⟩:=DataW.trod_int UX r;have hb:=bounds_u32 hk;cases e0; cases C;have f:((k.toNat:Nat):Int)=k:=ad
  have g:Rows.uptoBulk y.1=Rows.uptoBulk z.1+2:=by
   rw [w,hys2,D];simp only [List.map_cons,List.map_nil,Rows.uptoBulk,Rows.uptoBulkAll]
  have j:∀ i,(hi:i<us.length)->(hk:i<ks.length)->us[i].1.size<=maxLen/\us[i].2<4294967296/\ks[i]=us[i].1.size+3:=by
   intro i hi hk;obtain ⟨a,cs,_,_,_,E,F,G⟩:=d.cells i hi hk;exact ⟨E,F,G⟩
  have hkl:=d.Ak;obtain ⟨I,N⟩:=zP us ks hkl (fun i hi hk=>(j i hi hk).2.2);refine ⟨p,l,c,⟨us,k.toNat⟩,by rw [show ((⟨us,k.toNat⟩:cL).num:Int)=k from f],⟨d.len,fun i hi=>?_⟩,?_,⟨?_,by show k.toNat<_; omega⟩,?_,?_,d.cap⟩
  ·have hi:i<us.length:=hi;obtain ⟨a,cs,J,hc,K,_⟩:=d.cells i hi ad;rw [K] at hc;exact ⟨a,J,hc⟩
  ·intro t (o:t∈us);obtain ⟨i,hi,rfl⟩:=VV o;exact (j i hi ad).1
  ·intro t (o:t∈us);obtain ⟨i,hi,rfl⟩:=VV o;exact (j i hi ad).2.1
  ·show 3*us.length<=_;omega
  ·show (tx us.length 2++(us.flatMap Ex++tx k.toNat 4)).length<=_;rw [Vs,Vs,dr,dr,I];omega
def Qb {α:Type} {f:List α} {a b c d e:α} (hl:f.length=5) (h0:f[0]?=some a) (h1:f[1]?=some b) (h2:f[2]?=some c) (g:f[3]?=some d) (h:f[4]?=some e):f=[a,b,c,d,e]:=by
 match f,hl with
 | [i,j,k,l,m],_ =>
  simp only [List.getElem?_cons_zero,List.getElem?_cons_succ,Option.some.injEq] at h0 h1 h2 g h;subst h0 h1 h2 g h;rfl
def S8 {α:Type} {e:List α} {a b c d:α} (hl:e.length=4) (h0:e[0]?=some a) (h1:e[1]?=some b) (h2:e[2]?=some c) (f:e[3]?=some d):e=[a,b,c,d]:=by
 match e,hl with
 | [g,h,i,j],_ =>
  simp only [List.getElem?_cons_zero,List.getElem?_cons_succ,Option.some.injEq] at h0 h1 h2 f;subst h0 h1 h2 f;rfl
def KG (h:DataW.trod enc YC W base sp held n 62 cs=some y):∃ i:Ins,cs=nK i/\Sm i.op/\Rows.uptoBulk y.1=6:=by
 obtain ⟨J,m,j,hl,b,a⟩:=fI Ve h;obtain ⟨K,k,c⟩:=a 0 _ rfl;obtain ⟨L,l,d⟩:=a 1 _ rfl;obtain ⟨M,o,e⟩:=a 2 _ rfl;obtain ⟨N,p,f⟩:=a 3 _ rfl;obtain ⟨O,q,g⟩:=a 4 _ rfl;have hys5:=Qb b k l o p q;rw [UY] at hl
 match cs,hl with
 | [P,Q,R,S,U],_ =>
  rw [show Tryz.prog.cellsOf (3,0).1=1 from c3] at c;rw [show Tryz.prog.cellsOf (3,1).1=1 from c3] at d;rw [show Tryz.prog.cellsOf (3,2).1=1 from c3] at e;rw [show Tryz.prog.cellsOf (21,3).1=1 from Vb] at f;rw [show Tryz.prog.cellsOf (3,4).1=1 from c3] at g;obtain ⟨r,e0,s,t⟩:=DataW.trod_int u3 c;obtain ⟨u,w,x,V⟩:=DataW.trod_int u3 d;obtain ⟨z,A,B,X⟩:=DataW.trod_int u3 e;obtain ⟨C,D,E,Y⟩:=DataW.trod_int U6 f;obtain ⟨F,G,I,Z⟩:=DataW.trod_int u3 g;cases e0; cases w; cases A; cases D; cases G;refine ⟨⟨r,u,z,C,F⟩,rfl,bounds_i64 t,?_⟩;rw [j,hys5,s,x,B,E,I];simp only [List.map_cons,List.map_nil,Rows.uptoBulk,Rows.uptoBulkAll]
def QI (h:Hp) (x:cv) (cs:List XB) (k:Nat):Prop:=∃ p l c b,cs=encI p l c x/\Ka h p l c x.e b/\x.name.size<=maxLen/\Sm x.inst.op/\k=x.name.size+b+10
def AQ (h:DataW.trod enc YC W base sp held n 64 cs=some y):∃ x,QI W.heap x cs (Rows.uptoBulk y.1):=by
 obtain ⟨N,m,o,hl,b,a⟩:=fI Uj h;obtain ⟨O,q,d⟩:=a 0 _ rfl;obtain ⟨P,r,e⟩:=a 1 _ rfl;obtain ⟨Q,t,f⟩:=a 2 _ rfl;obtain ⟨g,u,j⟩:=a 3 _ rfl;obtain ⟨R,w,k⟩:=a 4 _ rfl;have hys5:=Qb b q r t u w;rw [Uv] at hl
 match cs,hl with
 | [S,U,V,X,Y,Z,v6,v7,v8,v9],_ =>
  rw [show Tryz.prog.cellsOf (3,0).1=1 from c3] at d;rw [show Tryz.prog.cellsOf (9,1).1=1 from c9] at e;rw [show Tryz.prog.cellsOf (62,2).1=5 from UY] at f;rw [show Tryz.prog.cellsOf (60,7).1=2 from T4] at j;rw [show Tryz.prog.cellsOf (3,9).1=1 from c3] at k;obtain ⟨z,e0,A,w0⟩:=DataW.trod_int u3 d;obtain ⟨s,B,C,D⟩:=DataW.trod_string u9 e;obtain ⟨i,E,F,G⟩:=KG f;obtain ⟨p,l,c,x,I,J⟩:=E4 j;obtain ⟨K,L,M,w4⟩:=DataW.trod_int u3 k;cases e0; cases B; cases E; cases I; cases L;refine ⟨⟨z,s,i,x,K⟩,p,l,c,_,rfl,J,D,F,?_⟩;rw [o,hys5,A,C,M];simp only [List.map_cons,List.map_nil,Rows.uptoBulk,Rows.uptoBulkAll,G];rw [Wy];show 1+(s.data.size+1+(6+(Rows.uptoBulk g.1+(1+0))))+1=s.data.size+Rows.uptoBulk g.1+10;omega
def QE (h:Hp) (x:jn) (cs:List XB) (k:Nat):Prop:=∃ p l c b,cs=ET p l c x/\Ka h p l c x.2 b/\x.1.size<=maxLen/\k=x.1.size+b+2
def MF (h:DataW.trod enc YC W base sp held n 88 cs=some y):∃ x,QE W.heap x cs (Rows.uptoBulk y.1):=by
 obtain ⟨u,m,g,hl,b,a⟩:=fI Sr h;obtain ⟨w,i,d⟩:=a 0 _ rfl;obtain ⟨e,j,f⟩:=a 1 _ rfl;have hys2:=Kb b i j;rw [UZ] at hl
 match cs,hl with
 | [z,A,B],_ =>
  rw [show Tryz.prog.cellsOf (9,0).1=1 from c9] at d;rw [show Tryz.prog.cellsOf (60,1).1=2 from T4] at f;obtain ⟨s,k,o,q⟩:=DataW.trod_string u9 d;obtain ⟨p,l,c,x,r,t⟩:=E4 f;cases k; cases r;refine ⟨(s,x),p,l,c,_,rfl,t,q,?_⟩;rw [g,hys2,o];simp only [List.map_cons,List.map_nil,Rows.uptoBulk,Rows.uptoBulkAll];rw [Wy];show (s.data.size+1+(Rows.uptoBulk e.1+0))+1=s.data.size+Rows.uptoBulk e.1+2;omega
def QS (x:XA) (cs:List XB) (k:Nat):Prop:=cs=[.string x]/\x.size<=maxLen/\k=x.size+1
def KS (h:DataW.trod enc YC W base sp held n 9 cs=some y):∃ x,QS x cs (Rows.uptoBulk y.1):=by
 obtain ⟨s,a,b,c⟩:=DataW.trod_string u9 h;refine ⟨s,a,c,?_⟩;rw [b];simp only [Rows.uptoBulk];rw [Wy] <;> rfl
theorem gz {α:Type} (f:α->Nat) (m:Nat):∀ (us:List α) (ks:List Nat),ks.length=us.length->(∀ i,(hi:i<us.length)->(hk:i<ks.length)->f us[i]<=m*ks[i])->(us.map f).sum<=m*ks.sum
 | [],ks,hl,_=>ah
 | u::us,[],hl,_=>by simp at hl
 | u::us,k::ks,hl,h=>by
  have h0:=h 0 ah ah;simp only [List.getElem_cons_zero] at h0;have ih:=gz f m us ks (by simpa using hl) (fun i hi hk=>h (i+1) (by simpa using hi) (by simpa using hk));rw [VY,Wg,Wg,Nat.mul_add];omega
variable {I:Hp}
def LZ {x:cv} {cs:List XB} {k:Nat} (q:QI I x cs k):(GV x).length<=2*k:=by
 obtain ⟨p,l,c,b,_,a,_,_,rfl⟩:=q;have h1:=a.size;have d:(iK x.name).length=x.name.size+2:=by
  unfold iK;rw [Vs,dr]
  have:x.name.data.toList.length=x.name.size:=ah
  omega
 have hi:∀ (n:Int) (w:Nat),(BW n w).length=w:=fun n w=>by unfold BW; rw [dr]
 unfold GV;rw [Vs,hi];split
 ·omega
 ·split
  ·rw [Vs,Vs,Vs,Vs,hi,hi,hi,hi];split
   ·omega
   ·simp
    omega
  ·split
   ·rw [hi]; omega
   ·split
    ·omega
    ·split
     ·rw [hi]; omega
     ·simp
      omega
def KN {x:jn} {cs:List XB} {k:Nat} (q:QE I x cs k):(Ks x).length<=2*k:=by
 obtain ⟨p,l,c,b,_,a,_,rfl⟩:=q;have h1:=a.size;unfold Ks iK;rw [Vs,Vs,dr]
 have:x.1.data.toList.length=x.1.size:=ah
 omega
def Ik {x:XA} {cs:List XB} {k:Nat} (q:QS x cs k):(iK x).length<=2*k:=by
 obtain ⟨_,_,rfl⟩:=q;unfold iK;rw [Vs,dr]
 have:x.data.toList.length=x.size:=ah
 omega
def Gw {α:Type} (f:α->Bt) (us:List α):(us.flatMap f).length=(us.map fun u=>(f u).length).sum:=by rw [Xb]
end
theorem q8:∀ (ks:List Nat) (i:Nat) (h:i<ks.length),ks[i]<=ks.sum
 | k::ks,0,_=>ah
 | k::ks,i+1,h=>by
  have:=q8 ks i (by simpa using h)
  simp only [List.getElem_cons_succ,List.sum_cons];omega
theorem jE {α:Type}:∀ us:List α,(us.map fun _=>1).sum=us.length
 | []=>rfl
 | u::us=>by rw [VY,Wg,jE us,Wc,Nat.add_comm]
def uA {α:Type} {P:α->Prop} {us:List α} (h:∀ i,(hi:i<us.length)->P us[i]):∀ x,x∈us->P x:=fun x a=>by
 obtain ⟨i,hi,rfl⟩:=VV a;exact h i hi
variable {I:Hp} {O:XC}
def Ka.at {c:Nat} {x:cL} {k:Nat} (q:Ka I O H c x k) (hk:k<=2^60):nH I O H x:=⟨q.vw,by have:=q.many; omega,q.names⟩
def G4 {us:List cv} {ks:List Nat} (s:CN (QI I) I 10 O H U us ks) (k:ks.sum<=2^58):Ai I O H us/\(∀ x,x∈us->wy x.e)/\(us.flatMap GV).length<=2*ks.sum:=by
 have hl:=s.Ak;have q:∀ i,(hi:i<us.length)->∃ a cs,O=some a/\aE I (a.add (i*10)) 0 cs/\QI I us[i] cs ks[i]:=fun i hi=>s.cells i hi ad
 have one:∀ i,(hi:i<us.length)->1<=1*ks[i]:=fun i hi=>by
  obtain ⟨_,_,_,_,_,_,_,_,_,_,_,_,hk⟩:=q i hi;omega
 have m:us.length<=ks.sum:=by
  have:=gz (fun _=>1) 1 us ks hl (fun i hi hk=>one i hi)
  rw [jE] at this;omega
 refine ⟨⟨s.len,ad,fun i hi=>?_⟩,uA fun i hi=>?_,?_⟩
 ·obtain ⟨a,cs,d,hc,p',l',c',b,rfl,f,hn,g,hk⟩:=q i hi
  have:=q8 ks i ad
  exact ⟨a,p',l',c',d,hc,f.at ad,hn,g⟩
 ·obtain ⟨a,cs,d,hc,p',l',c',b,rfl,f,hn,g,hk⟩:=q i hi;exact f.num
 ·rw [Gw];refine gz _ 2 us ks hl (fun i hi hk=>?_);obtain ⟨a,cs,d,hc,j⟩:=q i hi;exact LZ j
def Pm {us:List jn} {ks:List Nat} (s:CN (QE I) I 3 O H U us ks) (g:ks.sum<=2^58):Ah I O H us/\(∀ x,x∈us->wy x.2)/\(us.flatMap Ks).length<=2*ks.sum:=by
 have hl:=s.Ak;have q:∀ i,(hi:i<us.length)->∃ a cs,O=some a/\aE I (a.add (i*3)) 0 cs/\QE I us[i] cs ks[i]:=fun i hi=>s.cells i hi ad
 have one:∀ i,(hi:i<us.length)->1<=1*ks[i]:=fun i hi=>by
  obtain ⟨_,_,_,_,_,_,_,_,_,_,_,hk⟩:=q i hi;omega
 have j:us.length<=ks.sum:=by
  have:=gz (fun _=>1) 1 us ks hl (fun i hi hk=>one i hi)
  rw [jE] at this;omega
 refine ⟨⟨s.len,ad,fun i hi=>?_⟩,uA fun i hi=>?_,?_⟩
 ·obtain ⟨a,cs,d,hc,p',l',c',b,rfl,e,hn,hk⟩:=q i hi
  have:=q8 ks i ad
  exact ⟨a,p',l',c',d,hc,e.at ad,hn⟩
 ·obtain ⟨a,cs,d,hc,p',l',c',b,rfl,e,hn,hk⟩:=q i hi;exact e.num
 ·rw [Gw];refine gz _ 2 us ks hl (fun i hi hk=>?_);obtain ⟨a,cs,d,hc,f⟩:=q i hi;exact KN f
def Pq {us:List XA} {ks:List Nat} (s:CN QS I 1 O H U us ks) (e:ks.sum<=2^58):NF I O H us/\(us.flatMap iK).length<=2*ks.sum:=by
 have hl:=s.Ak;have q:∀ i,(hi:i<us.length)->∃ a cs,O=some a/\aE I (a.add (i*1)) 0 cs/\QS us[i] cs ks[i]:=fun i hi=>s.cells i hi ad
 have one:∀ i,(hi:i<us.length)->1<=1*ks[i]:=fun i hi=>by
  obtain ⟨_,_,_,_,_,_,hk⟩:=q i hi;omega
 have f:us.length<=ks.sum:=by
  have:=gz (fun _=>1) 1 us ks hl (fun i hi hk=>one i hi)
  rw [jE] at this;omega
 refine ⟨⟨s.len,ad,fun i hi=>?_⟩,?_⟩
 ·obtain ⟨a,cs,b,hc,rfl,hn,hk⟩:=q i hi;exact ⟨a,b,hc,hn⟩
 ·rw [Gw];refine gz _ 2 us ks hl (fun i hi hk=>?_);obtain ⟨a,cs,b,hc,d⟩:=q i hi;exact Ik d
def wx {us:List cv} {ks:List Nat} (s:CN (QI I) I 10 O H U us ks):(∀ x,x∈us->x.e.ai.length<=ks.sum)/\us.length<=ks.sum:=by
 have hl:=s.Ak;have q:∀ i,(hi:i<us.length)->∃ a cs,O=some a/\aE I (a.add (i*10)) 0 cs/\QI I us[i] cs ks[i]:=fun i hi=>s.cells i hi ad
 refine ⟨uA fun i hi=>?_,?_⟩
 ·obtain ⟨a,cs,f,hc,p',l',c',b,rfl,d,hn,g,hk⟩:=q i hi
  have:=q8 ks i ad
  have:=d.many
  omega
 ·have:=gz (fun _=>1) 1 us ks hl (fun i hi hk=>by
   obtain ⟨_,_,_,_,_,_,_,_,_,_,_,_,hk⟩:=q i hi;omega)
  rw [jE] at this;omega
theorem RB {α:Type} (g:α->Nat):∀ us:List α,(us.map fun x=>3*g x).sum=3*(us.map g).sum
 | []=>rfl
 | u::us=>by rw [VY,Wg,VY,Wg,RB g us,Nat.mul_add]
def La {us:List cv} {ks:List Nat} (s:CN (QI I) I 10 O H U us ks):(us.map fun x=>3*x.e.ai.length).sum<=ks.sum:=by
 have:=gz (fun x:cv=>3*x.e.ai.length) 1 us ks s.Ak (fun i hi hk=>by
  obtain ⟨a,cs,f,hc,p',l',c',b,_,d,hn,g,hk⟩:=s.cells i hi hk
  have:=d.many
  omega)
 omega
def QB {us:List jn} {ks:List Nat} (s:CN (QE I) I 3 O H U us ks):(us.map fun x=>3*x.2.ai.length).sum<=ks.sum:=by
 have:=gz (fun x:jn=>3*x.2.ai.length) 1 us ks s.Ak (fun i hi hk=>by
  obtain ⟨a,cs,e,hc,p',l',c',b,_,d,hn,hk⟩:=s.cells i hi hk
  have:=d.many
  omega)
 omega
def F3 {us:List jn} {ks:List Nat} (s:CN (QE I) I 3 O H U us ks):(∀ x,x∈us->x.2.ai.length<=ks.sum)/\us.length<=ks.sum:=by
 have hl:=s.Ak;have q:∀ i,(hi:i<us.length)->∃ a cs,O=some a/\aE I (a.add (i*3)) 0 cs/\QE I us[i] cs ks[i]:=fun i hi=>s.cells i hi ad
 refine ⟨uA fun i hi=>?_,?_⟩
 ·obtain ⟨a,cs,e,hc,p',l',c',b,rfl,d,hn,hk⟩:=q i hi
  have:=q8 ks i ad
  have:=d.many
  omega
 ·have:=gz (fun _=>1) 1 us ks hl (fun i hi hk=>by
   obtain ⟨_,_,_,_,_,_,_,_,_,_,_,hk⟩:=q i hi;omega)
  rw [jE] at this;omega
def M0 {us:List XA} {ks:List Nat} (s:CN QS I 1 O H U us ks):us.length<=ks.sum:=by
 have hl:=s.Ak;have q:∀ i,(hi:i<us.length)->∃ a cs,O=some a/\aE I (a.add (i*1)) 0 cs/\QS us[i] cs ks[i]:=fun i hi=>s.cells i hi ad
 have:=gz (fun _=>1) 1 us ks hl (fun i hi hk=>by
  obtain ⟨_,_,_,_,_,_,hk⟩:=q i hi;omega)
 rw [jE] at this;omega
structure HX (h:Hp) (a b c d:cm) (u:bS) (N:Nat):Prop where
 at_:jI h a b c d u
 num:Rv u
 size:(T' u).length<=2*N+13
 small:(∀ x,x∈u.text->x.e.ai.length<=N)/\(∀ x,x∈u.data->x.e.ai.length<=N)/\(∀ x,x∈u.aS->x.2.ai.length<=N)/\u.aJ.length<=N/\u.text.length<=N/\u.data.length<=N/\u.aS.length<=N
 cap:a.l<=a.c
 Sg:3*((Lk.bU u).flatMap (·.ai)).length<=N
 jd:u.text.length+u.data.length+u.aS.length+u.aJ.length<=N
 pos:1<=N
def Qt {a b c d:cm} {u:bS} {N:Nat} (s:HX I a b c d u N):1<=N:=s.pos
section
variable {H:Type} {enc:TypeId × XB->H} {W:World} {base n:Nat} {sp:Nat->Bool} {held:Bool} {cs:List XB} {y:DataW H × List MemPlace}
def xY (h:DataW.trod enc YC W base sp held n 30 cs=some y) (hN:Rows.uptoBulk y.1<=2^50):∃ a b c d u,cs=[cm.v a,cm.v b,cm.v c,cm.v d]/\HX W.heap a b c d u (Rows.uptoBulk y.1):=by
 obtain ⟨ys,m,z,hl,p,f⟩:=fI TY h;obtain ⟨A,B,r⟩:=f 0 _ rfl;obtain ⟨C,D,s⟩:=f 1 _ rfl;obtain ⟨E,F,t⟩:=f 2 _ rfl;obtain ⟨G,I,w⟩:=f 3 _ rfl;have hys4:=S8 p B D F I;rw [UT] at hl
 match cs,hl with
 | [v0,v1,v2,v3],_ =>
  rw [show Tryz.prog.cellsOf (26,0).1=1 from UJ] at r;rw [show Tryz.prog.cellsOf (26,1).1=1 from UJ] at s;rw [show Tryz.prog.cellsOf (27,2).1=1 from U3] at t;rw [show Tryz.prog.cellsOf (28,3).1=1 from Un] at w;obtain ⟨p0,l0,J,g,b0,e0,s0,m0⟩:=open_slice Qo Uv (QI W.heap) (fun cs y n h=>AQ h) r;obtain ⟨K,L,M,i,b1,N,k,m1⟩:=open_slice Qo Uv (QI W.heap) (fun cs y n h=>AQ h) s;obtain ⟨O,P,Q,j,b2,R,l,m2⟩:=open_slice Qa UZ (QE W.heap) (fun cs y n h=>MF h) t;obtain ⟨S,U,V,u3,b3,X,q,m3⟩:=open_slice xp c9 QS (fun cs y n h=>KS h) w;cases e0; cases N; cases R; cases X;have hb:Rows.uptoBulk y.1=Rows.uptoBulk A.1+Rows.uptoBulk C.1+Rows.uptoBulk E.1+Rows.uptoBulk G.1+1:=by
   rw [z,hys4];simp only [List.map_cons,List.map_nil,Rows.uptoBulk,Rows.uptoBulkAll];omega
  obtain ⟨Y,Z,w0⟩:=G4 s0 ad;obtain ⟨x1,n1,w1⟩:=G4 k ad;obtain ⟨x2,n2,w2⟩:=Pm l ad;obtain ⟨x3,w3⟩:=Pq q ad;refine ⟨⟨p0,l0,J⟩,⟨K,L,M⟩,⟨O,P,Q⟩,⟨S,U,V⟩,⟨g,i,j,u3⟩,rfl,⟨Y,x1,x2,x3⟩,⟨Z,n1,n2⟩,?_,⟨fun x o=>by have:=(wx s0).1 x o; omega,fun x o=>by have:=(wx k).1 x o; omega,fun x o=>by have:=(F3 l).1 x o; omega,by have:=M0 q; show u3.length<=_; omega,by have:=(wx s0).2; show g.length<=_; omega,by have:=(wx k).2; show i.length<=_; omega,by have:=(F3 l).2; show j.length<=_; omega⟩,s0.cap,?_,?_,ad⟩
  ·show (Ml++(BL GV g++(BL GV i++(BL Ks j++BL iK u3)))).length<=_;unfold BL;simp only [List.length_append,dr];rw [show Ml.length=5 from rfl];omega
  ·show 3*((Lk.bU ⟨g,i,j,u3⟩).flatMap (·.ai)).length<=_;have i0:=La s0;have i1:=La k;have i2:=QB l;rw [RB] at i0 i1 i2;unfold Lk.bU;rw [Xa,Xa,Vs,Vs,List.flatMap_map,List.flatMap_map,List.flatMap_map,Xb,Xb,Xb];show 3*((g.map fun x=>x.e.ai.length).sum+(i.map fun x=>x.e.ai.length).sum+(j.map fun x=>x.2.ai.length).sum)<=_;omega
  ·have i0:=(wx s0).2;have i1:=(wx k).2;have i2:=(F3 l).2;have i3:=M0 q;show g.length+i.length+j.length+u3.length<=_;omega
def Li:Tryz.prog.underlying 22=some (.slice 30):=aw
def QU (h:Hp) (u:bS) (cs:List XB) (k:Nat):Prop:=k<=2^50->∃ a b c d,cs=[cm.v a,cm.v b,cm.v c,cm.v d]/\HX h a b c d u k
def Mo (h:DataW.trod enc YC W base sp held n 30 cs=some y):∃ u,QU W.heap u cs (Rows.uptoBulk y.1):=by
 by_cases hk:Rows.uptoBulk y.1<=2^50
 ·obtain ⟨a,b,c,d,u,h1,h2⟩:=xY h hk;exact ⟨u,fun _=>⟨a,b,c,d,h1,h2⟩⟩
 ·exact ⟨⟨[],[],[],[]⟩,fun h=>absurd h hk⟩
structure SH (h:Hp) (p:XC) (l c:Nat) (us:List bS) (N:Nat):Prop where
 vw:Fp h p l us
 sm:N<=2^20->Lk.Fs us
 Sg:3*((us.flatMap Lk.bU).flatMap (·.ai)).length<=N
 cap:l<=c
 Sw:c<=maxLen
 nil:p=none->c=0
def Gx {b0:Nat} {v:XB} {d:DataW H} {ps:List MemPlace} (j:Value.okWide YC W .any b0 22 v) (h:DataW.Trod enc YC W base sp held 22 v d ps) (z:Rows.uptoBulk d<=2^50) :
  ∃ p l c us,v=.slice p l c/\SH W.heap p l c us (Rows.uptoBulk d):=by
 obtain ⟨p,l,c,rfl⟩:=okWide_slice Li j;obtain ⟨m,h⟩:=h;have f:(Value.slice p l c).cells.toList=[.slice p l c]:=rfl;rw [f] at h;obtain ⟨p',l',c',us,ks,e0,s,o⟩:=open_slice Li UT (QU W.heap) (fun cs y n h=>Mo h) h;cases e0;have hl:=s.Ak;have o:ks.sum+1<=Rows.uptoBulk d:=o;have q:∀ i,(hi:i<us.length)->∃ a sa sb sc sd,p=some a/\aE W.heap (a.add (i*4)) 0 [cm.v sa,cm.v sb,cm.v sc,cm.v sd]/\HX W.heap sa sb sc sd us[i] (ks[i]'ad):=by
  intro i hi;obtain ⟨a,cs,g,hc,r⟩:=s.cells i hi ad
  have:=q8 ks i ad
  obtain ⟨sa,sb,sc,sd,rfl,b⟩:=r ad;exact ⟨a,sa,sb,sc,sd,g,hc,b⟩
 have pos:∀ i,(hi:i<us.length)->1<=ks[i]'ad:=by
  intro i hi;obtain ⟨a,sa,sb,sc,sd,g,hc,b⟩:=q i hi;exact Qt b
 have A:us.length<=ks.sum:=by
  have:=gz (fun _=>1) 1 us ks hl (fun i hi hk=>by have:=pos i hi; omega)
  rw [jE] at this;omega
 have t:3*((us.flatMap Lk.bU).flatMap (·.ai)).length<=ks.sum:=by
  have:=gz (fun u:bS=>3*((Lk.bU u).flatMap (·.ai)).length) 1 us ks hl (fun i hi hk=>by
   obtain ⟨a,sa,sb,sc,sd,g,hc,b⟩:=q i hi
   have:=b.Sg
   omega)
  rw [RB] at this;rw [List.flatMap_assoc,Xb];omega
 refine ⟨p,l,c,us,rfl,⟨⟨s.len,ad,fun i hi=>?_⟩,fun w=>⟨ad,?_,?_,ad⟩,ad,s.cap,s.Sw,s.nil⟩⟩
 ·obtain ⟨a,sa,sb,sc,sd,g,hc,b⟩:=q i hi;exact ⟨a,sa,sb,sc,sd,g,hc,b.at_⟩
 ·have:=gz (fun u:bS=>u.text.length+u.data.length+u.aS.length+u.aJ.length) 1 us ks hl (fun i hi hk=>by
   obtain ⟨a,sa,sb,sc,sd,g,hc,b⟩:=q i hi
   have:=b.jd
   omega)
  unfold Lk.ob;omega
 ·refine uA fun i hi=>?_
  obtain ⟨a,sa,sb,sc,sd,g,hc,b⟩:=q i hi;intro x k;unfold Lk.bU at k;simp only [List.mem_append,List.mem_map] at k;rcases k with (⟨y,e,rfl⟩ | ⟨y,e,rfl⟩) | ⟨y,e,rfl⟩
  ·exact ⟨(b.num.text y e).num,(b.num.text y e).En⟩
  ·exact ⟨(b.num.data y e).num,(b.num.data y e).En⟩
  ·exact ⟨(b.num.aS y e).num,(b.num.aS y e).En⟩
end
def J4 (h:laidMetH YC Rows.linkNumbersRow.laid V):∃ e f,V.heap[0]?=some (.cells Cr.opsV.toArray e f):=by
 rw [MakeChecks.laidMetH_plain _ _ _ aw] at h;obtain ⟨ps,⟨C,D,j,E,p0,F,k,l,m,n,⟨G,H,o,I,J,K,p,q,r,s,⟨L,M,t,N,O,P,u,w,x,y,⟨Q,R,z,S,U,X,a,b,c,d,_,_⟩,_⟩,_⟩,_⟩,_,_⟩:=h;obtain rfl:=VP ((show Tryz.prog.globalNamed _=some 0 from aw).symm.trans a);have A:(Tryz.prog.globals[0]?).map (·.type)=some 193:=aw
 obtain rfl:=VP (A.symm.trans b);have hr:=Bl d;obtain ⟨B,g,i⟩:=B7 a c;exact ⟨B,g,by rw [i,show Cr.opsV=kr tX vi from rfl,<- hr]⟩
open Go.ChangeMaps
def uF:(Tryz.f3.params.toList.all fun t=>decide (t<Tryz.prog.types.size))=true:=aw
def uq:Tryz.prog.inPlace 3=Rows.linkRenamedUptoRow.inPlace:=aw
def uS:Tryz.prog.unfollowed 3=Rows.linkRenamedUptoRow.unfollowed:=aw
def uU:Tryz.prog.recurses 3=Rows.linkRenamedUptoRow.recurses:=aw
def uY:Tryz.prog.varsNamed 3=Rows.linkRenamedUptoRow.named:=aw
def vM:joinedFacts YC 3 Tryz.f3 (Rows.OpenSpec.upto Rows.linkRenamedSpec).bare Rows.linkRenamedUptoRow=true:=by
 unfold joinedFacts;rw [uq,uS,uU,uY]
 kernel_rfl
def sU (os:Os) (started:os.Started) (H:Type) (enc:TypeId × XB->H) (F:Stop.Interp) :
  ReturnsInHanded {} Tryz.checked os 3 .any (fun w args=>((Rows.OpenSpec.upto Rows.linkRenamedSpec).pre enc YC Tryz.f3 [] false w args/\laidMetH YC Rows.linkRenamedUptoRow.laid w)/\sizedMet enc YC Tryz.f3 (Rows.OpenSpec.upto Rows.linkRenamedSpec) false w args)
   (((Rows.OpenSpec.upto Rows.linkRenamedSpec).at F).post enc YC Tryz.f3 false true false false):=by
 refine KM (k:=Rows.uptoSmall) rfl (C:=Tryz.checked) (X:=fun w _=>laidMetH YC Rows.linkRenamedUptoRow.laid w) (fun _ _ _ n h=>h.of_heap n) Up started aw Tryz.func3
  (FD (k:=Rows.uptoSmall) rfl (C:=Tryz.checked) (os:=os) (X:=fun w _=>laidMetH YC Rows.linkRenamedUptoRow.laid w) (World.doorLaid YC 400 os) #[.slice none 0 0] 8 rfl (World.shaped_of_RefB aw aw) aw (x:=([.nil],[],[])) aw rfl aw (MZ os _)) ?_
 intro W base args o J before a l hk f;have b:∀ (j:Nat) t v,Tryz.f3.params[j]?=some t->args[j]?=some v->Value.okWide YC W .any base t v:=a
 have hW':=l;obtain ⟨p,q,c,r,rfl,s,u⟩:=l;have m:DataW.TrodAll enc YC W 0 (fun _=>true) true Tryz.f3.params.toList args.toList o p:=c;have g:Tryz.f3.params=#[22]:=aw
 rw [g] at m b;clear c a;obtain ⟨y,z,K,A,p0,L,d,rfl,rfl,B,i⟩:=trodAll_cons m;obtain ⟨rfl,rfl,rfl⟩:=trodAll_nil i;obtain ⟨args⟩:=args;simp only at d;subst d;have hk:=Vv hk;have hkb:=hk;simp only [List.append_nil,nA,cA] at hkb;obtain ⟨rfl,rfl⟩:=trodVars_none r;obtain ⟨D,l0,c0,M,rfl,h0⟩:=Gx (b 0 22 y rfl rfl) B (by simp only [Rows.uptoBulkAll] at hkb; omega);simp only [List.append_nil] at hW';simp only [List.append_nil,List.nil_append,List.cons_append,Rows.uptoBulkAll] at hk;refine (MM (Lk.Pf (G7 f).2 (G7 f).1 (J4 f) (su:=⟨D,l0,c0⟩) h0.vw (h0.sm ad)) (fun _ _ h=>h.2)).mono fun e N ⟨v,E,G,hv,_⟩=>?_
 subst E hv;exact ⟨_,rfl,Lt rfl hW' (fun _ _ _=>trodAll_mk1 (shut_bool u4 _)) rfl rfl (fun t I=>Vv (VT.1 uF t I)) G⟩
def vp:Rows.LinkRenamedUptoSaid :=
 OpenClaim.holds_of_cond 3 Tryz.f3 rfl rfl rfl rfl rfl rfl rfl ⟨rfl,rfl,rfl,rfl,rfl⟩ rfl rfl rfl rfl rfl aw Tryz.func3 vM
  (Vv aw) (by unfold Func.isWrapper; first | (rw [VE (by decide +kernel)]; kernel_rfl) | (rw [Vu (by decide +kernel)]; exact ⟨rfl,rfl⟩))
  (fun os started H enc _ F=>sU os started H enc F)
end Go.Sx.Ob
