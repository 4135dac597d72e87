/- Contracts over heaps, part 6. Condition: as each statement says. -/
import Derived.Test.YtmdncdaladplkaaGreatDoorP5
import Derived.Test.YtmdncdaladplkaaGreatDoorSxV
import Derived.Test.YtmdncdaladplkaaGreatDoorRows
import Derived.ProofKit
import Derived.LaidMore
import Derived.LaidLaws
import Derived.OpenShut
import Derived.ChangeSame
import Derived.ChangeStays
import Derived.ChangeOld
import Derived.ChangeSlices
import Derived.ChangeMaps5
import Derived.JoinedCond
import Derived.Lib.LaidTab
import Derived.Stop.Joined
set_option linter.all false
set_option maxRecDepth 100000
set_option maxHeartbeats 4000000
namespace Go.Sx.Lk
open Go.Proofs Go.Sx.Ob
def WA:Tryz.prog.underlying 32=some (.slice 70):=av
def Y8:(Tryz.prog.info? 70).map (fun i=>(i.zero,i.size,i.bytes))=some (some (.agg #[.slice none 0 0,.slice none 0 0,.slice none 0 0,.slice none 0 0]),4,96):=av
def Xf (a:Xac) (b c:Nat) (d:Xac) (e f:Nat) (g:Xac) (h c3:Nat) (i:Xac) (k l:Nat):Instr.fill (fun j=>some (j*4,4)) ((Array.range (1*4)).map ((Value.agg #[.slice none 0 0,.slice none 0 0,.slice none 0 0,.slice none 0 0]).cells[· % (Value.agg #[.slice none 0 0,.slice none 0 0,.slice none 0 0,.slice none 0 0]).cells.size]!)) [(0,.agg #[.slice a b c,.slice d e f,.slice g h c3,.slice i k l])]=some ([.slice a b c,.slice d e f,.slice g h c3,.slice i k l]:List Xab).toArray:=av
def Xe (i r:Xax) (j:Xac) (k l:Nat) (b:Xac) (c s:Nat):T :=
   (bM 37 [.slice j k l] true [(false,[.slice 116]),aM,aM] <| fun (m:Xac) (n o:Nat) (a d:Int) =>
   cond (d != (0:Int))
    (T.need (fI a c) <|
    T.bi b <| fun (e:Xax) =>
    T.af (e.add (aH a 2)) [.int .i64] <| fun (f:Int) =>
    T.need (fI a c) <|
    T.bi b <| fun (g:Xax) =>
    T.af ((g.add (aH a 2)).add 1) [.string] <| fun (h:Xaa) =>
    T.bh [(((g.add (aH a 2)).add 1),[.string h]),((e.add (aH a 2)),[vI f])] <|
    T.ax i [vI d,vI f,.string h] <|
    T.af i [.int .i64,.int .i64,.string] <| fun (p q:Int) (Vd:Xaa) =>
    bj #[.pointer none,.agg #[vI p,vI q,.string Vd]])
    (We i r m n o))
def V0 (e c:Xax) (w x:Xac) (y z:Nat) (A:Xac) (B C:Nat) (a:Int) (D:Xac) (E F:Nat) (G:Xac) (H I:Nat) (J:Xac) (K L:Nat) (M:Xac) (N O:Nat):T :=
   T.new [aZ,aZ,aZ,aZ] 70 <| fun (b:Xax) =>
   T.ax b [.slice D E F,.slice G H I,.slice J K L,.slice M N O] <|
   T.new [aZ,aZ,aZ,aZ] 70 <| fun (d:Xax) =>
   T.af b [.slice 55] <| fun (P:Xac) (Q R:Nat) =>
   bM 33 [.pointer (some c),vI a,.slice P Q R] true [(false,[.slice 55]),(false,[.string]),ct] <| fun (S:Xac) (U V:Nat) (W:Xaa) (X:Bool) =>
   T.ax d [.slice S U V] <|
   cond (!X)
    (T.ax e [vI (23:Int),vI a,.string W] <|
    T.af e [.int .i64,.int .i64,.string] <| fun (Y Z:Int) (s46:Xaa) =>
    bj #[.pointer none,.agg #[vI Y,vI Z,.string s46]])
    (T.af (b.add 1) [.slice 55] <| fun (p44:Xac) (l45 l46:Nat) =>
    bM 33 [.pointer (some c),vI a,.slice p44 l45 l46] true [(false,[.slice 55]),(false,[.string]),ct] <| fun (p47:Xac) (l48 l49:Nat) (s50:Xaa) (b51:Bool) =>
    T.ax (d.add 1) [.slice p47 l48 l49] <|
    cond (!b51)
    (T.ax e [vI (23:Int),vI a,.string s50] <|
    T.af e [.int .i64,.int .i64,.string] <| fun (n52 n53:Int) (s54:Xaa) =>
    bj #[.pointer none,.agg #[vI n52,vI n53,.string s54]])
    (T.af (b.add 2) [.slice 116] <| fun (p52:Xac) (l53 l54:Nat) =>
    WL e c a p52 l53 w x y z A B C fun p55 p56 l57 l58 p59 l60 l61 =>
     (T.af c [.slice 70] <| fun (f:Xac) (g h:Nat) =>
     T.af d [.slice 55,.slice 55,.slice 116,.slice 9] <| fun (i:Xac) (j k:Nat) (l:Xac) (m n:Nat) (o:Xac) (p q:Nat) (r:Xac) (s t:Nat) =>
     bR (Instr.buildSlice 32 1 #[(0,.agg #[.slice i j k,.slice l m n,.slice o p q,.slice r s t])]) false [cR] <| fun (p78:Xac) (l79 l80:Nat) =>
     T.bh [(c,[.slice f g h])] <|
     bR (Builtin.append_ #[32,32] 32 #[.slice f g h,.slice p78 l79 l80]) false [cR] <| fun (p81:Xac) (l82 l83:Nat) =>
     T.bh [(d,[.slice i j k,.slice l m n,.slice o p q,.slice r s t])] <|
     T.ax c [.slice p81 l82 l83] <|
     T.af (c.add 6) [.int .i64] <| fun (u:Int) =>
     T.af b [.slice 55,.slice 55,.slice 116,.slice 9] <| fun (p85:Xac) (l86 l87:Nat) (p88:Xac) (l89 l90:Nat) (p91:Xac) (l92 l93:Nat) (p94:Xac) (l95 l96:Nat) =>
     bM 36 [.agg #[.slice p85 l86 l87,.slice p88 l89 l90,.slice p91 l92 l93,.slice p94 l95 l96]] false [aM] <| fun (n97:Int) =>
     T.bh [((c.add 6),[vI u])] <|
     T.ax (c.add 6) [vI (bn (u+n97))] <|
     T.again 1 [.pointer p55,.slice p56 l57 l58,.slice p59 l60 l61,vI (bn (a+(1:Int)))])))
variable {V:Nat->kZ} {H Y e:Nat}
def AL {n:Nat} {x:kZ} (hk:2*n<=H):nE (lP V H x) n=nE V n:=by
 unfold nE;apply ci9;intro i hi;have hi:i<n:=du9.1 hi;unfold yH lP;rw [ac9 ad,ac9 ad]
section
variable {h h':Hp} {B N M:Nat} {w:LW} {usl lb:bI} {sp:Int} {S:Nat->kZ}
def rz.add (s:rz h B w usl lb sp N M S) (e:Ext h h') (a:2*N<=M) {x:kZ} (b:nB h' h.size x):rz h' B w usl lb sp N (M+1) (lP S M x):=by
 have s':=s.ext e;exact ⟨s'.box,s'.maps,s'.qW,by rw [AL a]; exact s'.un,s.yc.add e s.lt b⟩
end
section
variable {h h':Hp} {B N M:Nat} {w:LW} {usl lb:bI} {sp:Int} {S:Nat->kZ}
def rz.Hh {x:Nat} {xs:List Xab} (s:rz h B w usl lb sp N M S) (b:br h x 70 xs) (o:B+4<=x) (a:x∉aG usl.p) (k:Ch [x] h h'):rz h' B w usl lb sp N M S:=by
 have c:∀ {g sz:Nat} {e:TypeId} {q:Xac} {m d:Nat} {ys:List (List Xab)},SL h g e sz q m d ys->e≠70->SL h' g e sz q m d ys:=fun t n=>t.bF k (fun i hi f=>by
  have:i=x:=by simpa using f
  subst this;exact CQ t b n hi)
 exact ⟨s.box.aj k (by simp; omega),s.maps.aj k (by simp; omega) (by simp; omega) (by simp; omega),c s.qW bQ,s.un.bF k (fun i hi f=>by
  have:i=x:=by simpa using f
  subst this;exact a hi),⟨fun j l=>⟨c (s.yc.sec j l).out bQ,fun u a=>c ((s.yc.sec j l).fx u a) bQ⟩,s.yc.ap⟩⟩
variable {H:List (Xaa × bJ)}
def DT.Hh {x b:Nat} {xs:List Xab} {e k:bI} {ks:List Ky} (s:DT h b e k H ks) (bx:br h x 70 xs) (c:Ch [x] h h'):DT h' b e k H ks:=by
 have f:∀ {g sz:Nat} {e:TypeId} {q:Xac} {m d:Nat} {ys:List (List Xab)},SL h g e sz q m d ys->e≠70->SL h' g e sz q m d ys:=fun t j=>t.bF c (fun i hi a=>by
  have:i=x:=by simpa using a
  subst this;exact CQ t bx j hi)
 obtain ⟨⟨ms,o,a⟩,y⟩:=s;exact ⟨⟨ms,⟨f o.out bQ,fun m a=>f (o.fx m a) bQ,o.ap,o.dj⟩,a⟩,f y bQ⟩
def DT.kN {b f sz:Nat} {q:Xac} {m d:Nat} {ys:List (List Xab)} {e k:bI} {ks:List Ky} (s:DT h b e k H ks) (t:SL h f 70 sz q m d ys) (c:Ch (aG q) h h'):DT h' b e k H ks:=by
 obtain ⟨⟨ms,o,a⟩,y⟩:=s;exact ⟨⟨ms,o.sM t c bQ bQ,a⟩,y.bF c (fun i hi a=>wo t y bQ i a hi)⟩
def DT.U4 {b x:Nat} {e k:bI} {ks:List Ky} (s:DT h b e k H ks) (d:x<b) (c:Ch [x] h h'):DT h' b e k H ks:=by
 obtain ⟨⟨ms,o,a⟩,y⟩:=s;exact ⟨⟨ms,o.aj c (fun i hi=>by have:i=x:=(by simpa using hi); omega),a⟩,y.bF c (fun i hi a=>by
  have:i=x:=by simpa using a
  have:=(y.cw hi).1
  omega)⟩
end
variable {O:LW} {b:cg} {Z c:bI} {U:List (Xaa × bJ)} {d:Xac}
def RX {L:Lp} {K:Xab->Hp->Prop} {h0 h:Hp} {n:Nat} {usl lb:bI} {sp:Nat} {M td el kl:bI} {ks:List Ky} {I:qH (flat Q4)->Nat->Hp->Prop} 
  (hL:2=L.length) (hJ:L[1]?=some (Jl I e)) (pw:eH h0) (tb0:yx h0) (hA:h0.size<=H) (hAB:H<Y) (e0:Ext h0 h) (ba:br h H 77 [vI 0,vI 0,.string ⟨#[]⟩]) (s:rz h Y O usl lb (sp:Int) n (2*n) V) (Ku:QQ O) (es0:DT h (Y+4) el kl U ks)
  (v:uA h0 Z c M td b) (ge:∀ x,x∈cO b->Gg x) (hr:ft b=0) (hl1:b.text.length<=2^20) (hl2:b.data.length<=2^20) (hl3:b.bg.length<=2^20) (hD:U.length<=2^20) (hks:ks.length<=2^20) (hn:n<=2^20) (hsp:sp<=2^40)
  (N:∀ h' q,Ext h0 h'->sq O n b=some q->K (Ka 23 n q) h')
  (hk:∀ h' X kl' usl' S',Ext h0 h'->br h' H 77 [vI 0,vI 0,.string ⟨#[]⟩]->rz h' Y O usl' lb ((sp+km b.text:Nat):Int) (n+1) (2*(n+1)) S'->DT h' (Y+4) X kl' (U++b.bg.map fun a=>(O.word (n,a.1),O.lin n a.2)) (ks++b.bg.map fun a=>(n,a.1)) ->
   sq O n b=none->(∀ k,k<2*n->S' k=V k)->(S' (2*n)).ws.map (·.2)=b.text.map (O.fy n)->(S' (2*n+1)).ws.map (·.2)=b.data.map (O.fy n) ->
   ∃ m',m'<e/\I (d,(X.p,X.l,X.c),(kl'.p,kl'.l,kl'.c),((n+1:Nat):Int),()) m' h') :
  V0 ⟨H,0,none⟩ ⟨Y+3,0,none⟩ d el.p el.l el.c kl.p kl.l kl.c (n:Int) Z.p Z.l Z.c c.p c.l c.c M.p M.l M.c td.p td.l td.c L K h:=by
 unfold V0 bM bR bn bj aZ aM ct cR;have l0:=s.lt;have zA:=e0.size;refine bm ?_;intro h1 b1' e1 z1;refine bP b1' ?_;intro h2 b2 k2 z2;have b2:br h2 h.size 70 [Z.v,c.v,M.v,td.v]:=b2;have e02:Ext h h2:=bU e1 k2;refine bm ?_;intro h3 b3 e3 z3;have b23:=b2.aj e3 ai;refine aw b23 ((Z.p,Z.l,Z.c),()) (ak ?_);have e03:=e02.trans e3;have s3:=s.ext e03;have E3:=e0.trans e03;refine aE (Ao (c:=Z.c) (pw.aj E3 ai) s3.box s3.maps Ku n (v.aj E3).text hl1 (fun x hx=>ge _ (by unfold cO; simp only [List.mem_append]; exact .inl (.inl (bc9 hx))))) ?_;rintro _ h4 ⟨G,P⟩;have z03:=e03.size;have z4:=G.size;have q3:=b3.lt;cases hb:O.zJ n b.text with
 | some t =>
  rw [hb] at P;subst P;refine ⟨((none,0,0),t,false,()),rfl,ak ?_⟩;refine bP (b3.aj G ai) ?_;intro h5 b5 k5 z5;refine bX rfl ?_;have e35:Ext h3 h5\/True:=.inr trivial;have ba5:=((ba.aj (e03.trans G) ai).aj k5 (by simp; omega))
  refine bP ba5 ?_;intro h6 b6 k6 z6;have b6:br h6 H 77 [vI 23,vI (n:Int),.string t]:=b6;refine aw b6 ((23:Int),(n:Int),t,()) ?_;refine N h6 t ?_ (by unfold sq; rw [hb]; rfl);exact Ch.trans (bU (E3.trans G) k5) k6 (fun i hi hl=>by simp at hi; omega)
 | none =>
  rw [hb] at P;obtain ⟨p4,c4,B4,w4,rfl,lc4,hB4,hw4⟩:=P;refine ⟨((p4,Z.l,c4),(⟨#[]⟩:Xaa),true,()),rfl,ak ?_⟩;refine bP (b3.aj G ai) ?_;intro h5 b5 k5 z5;have b5:br h5 h2.size 70 [.slice p4 Z.l c4,.slice none 0 0,.slice none 0 0,.slice none 0 0]:=b5;refine cv rfl ?_;have x4:nB h4 h3.size ⟨⟨p4,Z.l,c4⟩,w4⟩:=⟨lc4.out,fun y hy=>(lc4.fx y hy).mono hB4⟩
  have s4:=s3.add G (au9 _) x4;have hu2:h2.size∉aG usl.p:=fun r=>by have:=(s.un.cw r).2; have:=e02.size; omega
  have l2:=e02.size;have s5:=s4.Hh (b3.aj G ai) ad hu2 k5;have ba5:=(ba.aj (e03.trans G) ai).aj k5 (by simp; omega);have q2:=b2.lt;have b25:=(b23.aj G ai).aj k5 (by simp; omega);have E5:Ext h0 h5:=bU (E3.trans G) k5;have es5:DT h5 (Y+4) el kl U ks:=((es0.ext (e03.trans G))).Hh (b3.aj G ai) k5;rw [ay];refine aw b25 ((c.p,c.l,c.c),()) (ak ?_);refine aE (Ao (c:=c.c) (pw.aj E5 ai) s5.box s5.maps Ku n (v.aj E5).data hl2 (fun x hx=>ge _ (by unfold cO; simp only [List.mem_append]; exact .inl (.inr (bc9 hx))))) ?_;rintro _ h6 ⟨e6,P⟩;have b56:=b5.aj e6 ai;have z6:=e6.size;cases Q:O.zJ n b.data with
  | some t =>
   rw [Q] at P;subst P;refine ⟨((none,0,0),t,false,()),rfl,ak ?_⟩;rw [ay];refine bP b56 ?_;intro h7 b7 k7 z7;refine bX rfl ?_;have ba7:=(ba5.aj e6 ai).aj k7 (by simp; omega);refine bP ba7 ?_;intro h8 b8 k8 z8;have b8:br h8 H 77 [vI 23,vI (n:Int),.string t]:=b8;refine aw b8 ((23:Int),(n:Int),t,()) ?_;refine N h8 t ?_ (by unfold sq; rw [hb,Q]; rfl);exact Ch.trans (bU (E5.trans e6) k7) k8 (fun i hi hl=>by simp at hi; omega)
  | none =>
   rw [Q] at P;obtain ⟨p6,c6,B6,w6,rfl,lc6,hB6,hw6⟩:=P;refine ⟨((p6,c.l,c6),(⟨#[]⟩:Xaa),true,()),rfl,ak ?_⟩;rw [ay];refine bP b56 ?_;intro h7 b7 k7 z7;have b7:br h7 h2.size 70 [.slice p4 Z.l c4,.slice p6 c.l c6,.slice none 0 0,.slice none 0 0]:=b7;refine cv rfl ?_;have x6:nB h6 h5.size ⟨⟨p6,c.l,c6⟩,w6⟩:=⟨lc6.out,fun y hy=>(lc6.fx y hy).mono hB6⟩
   have s6:=s5.add e6 ad x6;have s7:=s6.Hh b56 ad hu2 k7;have es7:=(es5.ext e6).Hh b56 k7;have ba7:=(ba5.aj e6 ai).aj k7 (by simp; omega);have b27:=(b25.aj e6 ai).aj k7 (by simp; omega);have E7:Ext h0 h7:=bU (E5.trans e6) k7;have VH:=b27;rw [ay];refine aw b27 ((M.p,M.l,M.c),()) (ak ?_);refine Tx hL pw hA hAB E7 ba7 s7 Ku es7 v.bg (fun a he=>ge _ (by unfold cO; simp only [List.mem_append]; exact .inr (bc9 he))) hl3 hD hks (fun h' q a P=>N h' q a (by unfold sq; rw [hb,Q]; exact P)) ?_;intro h8 el8 kl8 J E8 ba8 C es8 ke8 hb3;have b78:=ke8 _ _ _ bQ bQ b7;have b28:=ke8 _ _ _ bQ bQ b27;generalize R:lP (lP V (2*n) ⟨⟨p4,Z.l,c4⟩,w4⟩) (2*n+1) ⟨⟨p6,c.l,c6⟩,w6⟩=S2 at C;refine aw C.box ((usl.p,usl.l,usl.c),()) (ak ?_);refine aw b78 ((p4,Z.l,c4),(p6,c.l,c6),(none,0,0),(none,0,0),()) (ak ?_);have hul:usl.l=n:=by have:=s.un.1; rwa [jS] at this
   have z8':=E8.size;have l8:=C.lt;refine gz (vs:=[.slice p4 Z.l c4,.slice p6 c.l c6,.slice none 0 0,.slice none 0 0]) WA Y8 rfl ad ad (Xf p4 Z.l c4 p6 c.l c6 none 0 0 none 0 0) rfl rfl C.un ad ad ad (fun h' a=>⟨(C.box.aj a ai).cells _ rfl,trivial⟩) ?_;intro p9 c9 h9 s9 W hp9;have b79:=b78.aj W hu2;have hu1:h.size∉aG usl.p:=fun r=>by have:=(s.un.cw r).2; omega
   have b29:=b28.aj W hu1;refine ⟨⟨b79.cells _ rfl,trivial⟩,?_⟩;have g:∀ i,i∈aG usl.p->Y+4<=i:=fun i hi=>(C.un.cw hi).1
   have bx9:=C.box.aj W (fun r=>by have:=g _ r; omega);have ba9:=ba8.aj W (fun r=>by have:=g _ r; omega);have es9:=es8.kN C.un W;have E9:Ext h0 h9:=Ch.trans E8 W (fun i hi hl=>by have:=g _ hi; omega);have m9:=C.maps.aj W (fun r=>by have:=g _ r; omega) (fun r=>by have:=g _ r; omega) (fun r=>by have:=g _ r; omega);have lb9:=C.qW.bF W (fun i hi r=>wo C.un C.qW bQ i r hi);have se9:=C.yc.sM C.un W bQ bQ;have z9:=W.size;refine bP bx9 ?_;intro h10 E j z10;have E:RL h10 (Y+3) ⟨p9,usl.l+1,c9⟩ lb Y (Y+1) (Y+2) (sp:Int):=E;have es10:=es9.U4 ad j;have ba10:=ba9.aj j (by simp; omega);have m10:=m9.aj j ai ai ai;have lb10:=lb9.bF j (fun i hi=>by have:=(lb9.cw hi).1; simp; omega);have se10:=se9.nH j ai;have un10:=s9.bF j (fun i hi=>by have:=(s9.cw hi).1; simp; omega);have E10:Ext h0 h10:=bU E9 j;have b210:=b29.aj j (by simp; omega);rw [ay];refine aw E ((sp:Int),()) (ak ?_);refine aw b210 ((Z.p,Z.l,Z.c),(c.p,c.l,c.c),(M.p,M.l,M.c),(td.p,td.l,td.c),()) (ak ?_);refine aE (LL (tb0.aj E10 ai) (v.aj E10)) ?_;rintro _ h11 ⟨rfl,o⟩;rw [af9 hr];refine ⟨(((km b.text:Nat):Int),()),rfl,ak ?_⟩;have bx11:=E.aj o ai;refine ⟨⟨bx11.cells _ rfl,trivial⟩,?_⟩;have hsl:=AG b.text;refine bP bx11 ?_;intro h12 F z z12;have hw1:IntKind.wrap .i64 ((sp:Int)+((km b.text:Nat):Int))=((sp+km b.text:Nat):Int):=by rw [wrap_i64 ad ad]; omega
   rw [hw1] at F;have F:RL h12 (Y+3) ⟨p9,usl.l+1,c9⟩ lb Y (Y+1) (Y+2) ((sp+km b.text:Nat):Int):=F;have hw:=hY n;rw [hw];have un11:=un10.aj o ai;have lb11:=lb10.aj o ai;obtain ⟨m',hm',hI⟩:=hk h12 el8 kl8 ⟨p9,usl.l+1,c9⟩ S2 (bU (E10.trans o) z) ((ba10.aj o ai).aj z (by simp; omega))
    ⟨F,(m10.aj o ai ai ai).aj z ai ai ai,lb11.bF z (fun i hi=>by have:=(lb11.cw hi).1; simp; omega),by
     have:=un11.bF z (fun i hi=>by have:=(un11.cw hi).1; simp; omega)
     rw [<- R,Jh];rw [<- R,AL ad,AL ad] at this;exact this,(se10.ext o).nH z ai⟩
    ((es10.ext o).U4 ad z) (by unfold sq; rw [hb,Q]; exact hb3) (fun k hk=>by rw [<- R]; unfold lP; rw [ac9 ad,ac9 ad]) (by rw [<- R]; unfold lP; rw [ac9 ad,af9 rfl]; exact hw4) (by rw [<- R]; unfold lP; rw [af9 rfl]; exact hw6)
   exact aD (cs:=Q4) (d,(el8.p,el8.l,el8.c),(kl8.p,kl8.l,kl8.c),((n+1:Nat):Int),()) m' (by rw [bt9 ad]; exact hJ) hm' rfl hI
def mT (us:List cg):Nat:=(us.map fun u=>km u.text).sum
structure O7 (x:kZ):Prop where
 len:x.ws.length<=2^30
 Yr:∀ u,u∈x.ws->u.2.e.ah.length<=2^40
 sz:∀ u,u∈x.ws->∀ t,t∈u.2.e.ah->t.1.size<=maxLen
def Oz (h0:Hp) (us:List cg) (v:Xab) (h':Hp):Prop:=Ext h0 h'/\match mP us with
 | .error f=>v=Ka f.rA f.unit f.name
 | .ok P=>∃ B usl lb S,h0.size<=B/\v=.tuple #[ptr (B+3),.agg #[vI 0,vI 0,.string ⟨#[]⟩]]/\rz h' B P.w usl lb ((mT us:Nat):Int) us.length (2*us.length) S /\
   (∀ n,(hn:n<us.length)->(S (2*n)).ws.map (·.2)=us[n].text.map (P.fy n)/\(S (2*n+1)).ws.map (·.2)=us[n].data.map (P.fy n))/\∀ k,k<2*us.length->O7 (S k)
def Qk {ms:List cT} (ok:EqsOk ms) (het:∀ e,e∈ms->e.x.ah.length<=2^20) {x:bJ} (hl:x.ah.length<=2^20) (d:∀ t,t∈x.ah->t.1.size<=maxLen):(dr (cD ms) x).ah.length<=2^40/\∀ t,t∈(dr (cD ms) x).ah->t.1.size<=maxLen:=by
 have c:∀ s y,cD ms s=some y->∃ e,e∈ms/\y=e.x:=by
  intro s y a;unfold cD at a;split at a
  ·next g =>
   obtain ⟨e,b,_,i⟩:=kG ((dQ ms s).1 g);exact ⟨e,b,by cases a; exact i⟩
  ·cases a
 refine ⟨?_,fun t ht=>?_⟩
 ·have hnf:=eM (cD ms) x;have h1:((dr (cD ms) x).ah.map (·.1)).Nodup:=cp9.2 (hnf.1.imp fun h=>jT h);have h2:=kb _ ((x.ah.flatMap (sE (cD ms))).map (·.1)) h1 (fun s d=>by
   obtain ⟨t,ht,rfl⟩:=an9.1 d;obtain ⟨p,f,e⟩:=Fx ht;exact an9.2 ⟨p,f,e⟩)
  rw [ab9,ab9] at h2;have h3:=qR (of:=cD ms) (B:=2^20) bQ (fun s y a=>by
   obtain ⟨e,b,rfl⟩:=c s y a;exact het e b) x.ah
  exact cn9 h2 (cn9 h3 (cn9 (cu9 _ hl) bQ))
 ·rcases pY ht with ⟨p,f,b,_⟩ | ⟨p,y,u,_,a,j,b⟩
  ·rw [<- b]; exact d p f
  ·obtain ⟨e,k,rfl⟩:=c _ _ a;rw [<- b]; exact ok.ts e k u j
def Y7 {x:bJ} (g:Good x) (h:x.ah.length<=2^20):Gg x :=
 ⟨g.nf,g.num,h,fun t ht=>by
  have:=Bs (g.Kr t ht)
  have a:2000<=maxLen:=bQ
  omega⟩
def H3.pV {us:List cg} (s:H3 us) (r:Fj us) (a:b∈us) {x:bJ} (c:x∈cO b):Gg x :=
 Y7 (BP (r.right b a) (s.num b a) x c) (s.len a c)
def Gl {us:List cg} (s:H3 us) (r:Fj us) (lb:QQ O) {u:cg} (f:u∈us) (i:sq O H u=none) {l:List cz} (hl:l=u.text\/l=u.data) {ws:List (bI × cz)} (h:ws.map (·.2)=l.map (O.fy H)):J7 ws/\ws.length<=2^20:=by
 have hb':=xQ i;have h2:=(r.bg f).2;refine ⟨fun y c=>?_,?_⟩
 ·have h1:y.2∈l.map (O.fy H):=by rw [<- h]; exact bc9 c
  obtain ⟨x,b,j⟩:=an9.1 h1;have a:O.bad H x.e=none:=by
   rcases hl with rfl | rfl
   ·exact hb'.1 x b
   ·exact hb'.2.1 x b
  have d:x.e∈cO u:=by
   unfold cO;simp only [List.mem_append];rcases hl with rfl | rfl
   ·exact .inl (.inl (bc9 b))
   ·exact .inl (.inr (bc9 b))
  have g:=s.pV r f d;have c:y.2.e=O.lin H x.e:=by rw [<- j]; rfl
  rw [c];exact ⟨cn9 (Ak a) g.len,jc g.num,P8 lb a⟩
 ·have:=aq9 List.length h
  rw [ab9,ab9] at this;rcases hl with rfl | rfl <;> omega
def NV {es:List cT} (h:es.map fD=U) {i:Nat} (hi:i<es.length) (h1:kV (dA es) es[i].name) (h2:∀ j,(a:j<i)->¬ kV (dA es) es[j].name):ma U=some i:=by
 classical
 have b:dA (eY U)=dA es:=Cd (by rw [qx,h]);have hl:U.length=es.length:=by rw [<- h,ab9]
 have hn:∀ j,(a:j<es.length)->(U[j]'ad).1=es[j].name:=by
  intro j a;subst h;rw [am9] <;> rfl
 unfold ma;rw [be9];refine ⟨ad,?_,fun j a=>?_⟩
 ·refine ai9 ?_;rw [b,hn i hi];exact h1
 ·intro hd;have hd:=ah9 hd;rw [b,hn j ad] at hd;exact h2 j a hd
def Nv {es:List cT} (h:es.map fD=U) (h2:∀ v,¬ kV (dA es) v):ma U=none:=by
 have a:dA (eY U)=dA es:=Cd (by rw [qx,h]);unfold ma;rw [bu9];intro x b;rw [decide_eq_false_iff_not,a];exact h2 _
def PG {es ms:List cT} (h:es.map fD=U) (a:ms.map (fun m=>(m.name,m.x))=es.map (fun e=>(e.name,fl es e.name))):cD ms=cD (eY (jg U)):=by
 refine Hd ?_;rw [qx];show ms.map (fun m=>(m.name,m.x))=_;rw [a];unfold jg;have b:fl (eY U)=fl es:=KO (by rw [qx,h]);rw [b,<- h,bf9] <;> rfl
def Si {J0 J1:List Xab->Hp->Prop} {h0 h:Hp} {usl lb:bI} {us:List cg} 
  (hA:h0.size<=H) (L:H<Y) (e0:Ext h0 h) (W:br h H 77 [vI 0,vI 0,.string ⟨#[]⟩]) (s:rz h Y O usl lb ((mT us:Nat):Int) us.length (2*us.length) V)
  (M:DT h (Y+4) Z c (oo O us) ((eF 0 us).map jo)) (r:Fj us) (sm:H3 us) (i0:WI O (cm 0 us) ((eF 0 us).map jo)) (X:fK O 0 us=none)
  (hS:∀ n,(hn:n<us.length)->(V (2*n)).ws.map (·.2)=us[n].text.map (O.fy n)/\(V (2*n+1)).ws.map (·.2)=us[n].data.map (O.fy n))
  (t:mP us=match ma (oo O us) with
    | some i=>.error ⟨24,((eF 0 us).map fun q=>(q.1,q.2.1)).getD i (0,dS) |>.1,((eF 0 us).map fun q=>(q.1,q.2.1)).getD i (0,dS) |>.2⟩
    | none=>.ok ⟨O,us,oo O us⟩) :
  Xe ⟨H,0,none⟩ ⟨Y+3,0,none⟩ Z.p Z.l Z.c c.p c.l c.c [J0,J1] (Oz h0 us) h:=by
 unfold Xe aH bM fI bj aM;obtain ⟨⟨es,o,e⟩,y⟩:=M;have eo:=VT r sm i0 X e;have hl:es.length=(eF 0 us).length:=by
  have:=aq9 List.length e
  unfold oo at this;simpa using this
 have hl2:=r.eqs;refine aE (G2 (c:=Z.c) (D2 o) eo (fun i hi=>(o.out.cw hi).2) ad) ?_;rintro _ h1 ⟨N,m⟩;rcases N with ⟨i,hi,P,x,rfl⟩ | ⟨z,p',l',c',ms,rfl,Q,C⟩
 ·refine ⟨((none,0,0),(i:Int),(24:Int),()),rfl,ak ?_⟩;refine bX rfl ?_;have y1:=y.aj m ai;have hkl:c.l=(eF 0 us).length:=by have:=y.1; rwa [ab9,ab9] at this
  have D:i<(eF 0 us).length:=ad
  obtain ⟨a,ha,hc⟩:=y1.cells (i:=i) (by rw [ab9,ab9]; exact D);rw [am9,am9] at hc;generalize N:(eF 0 us)[i]=q at hc;have hc:aF h1 (a.add (i*2)) 0 [vI (q.1:Int),.string q.2.1]:=hc;refine bK ha ?_;rw [cr i];refine ar ((q.1:Int),()) (eW 1 _ 0 hc) (ak ?_);refine bK ha ?_;have E:aF h1 ((a.add (i*2)).add 1) 0 [.string q.2.1]:=jn _ 1 0 (ic 1 _ 0 hc);refine ar (q.2.1,()) E (ak ?_);refine ⟨⟨E,eW 1 _ 0 hc,trivial⟩,?_⟩;refine bP (W.aj m ai) ?_;intro h2 R F z2;have R:br h2 H 77 [vI 24,vI (q.1:Int),.string q.2.1]:=R;refine aw R ((24:Int),(q.1:Int),q.2.1,()) ?_;refine ⟨bU (e0.trans m) F,?_⟩;rw [t,NV e hi P x];have hg:((eF 0 us).map fun q=>(q.1,q.2.1)).getD i (0,dS)=(q.1,q.2.1):=by
   rw [cf9,ch9,ad9 D,N] <;> rfl
  simp only [hg] <;> rfl
 ·refine ⟨((p',l',c'),(0:Int),(0:Int),()),rfl,ak ?_⟩;refine cv rfl ?_;obtain ⟨U,F,k3,k4⟩:=MW eo z C ad;have hmany:=r.many;have f:∀ j,j<2*us.length->J7 (V j).ws/\(V j).ws.length<=2^20:=by
   intro j hj;have hn:j / 2<us.length:=ad
   have hbn:=jZ us 0 X (j / 2) hn;rw [bv9] at hbn;have hSn:=hS (j / 2) hn
   by_cases h2:j % 2=0
   ·have:j=2*(j / 2):=ad
    rw [this];exact Gl sm r (r.Ku i0) (al9 hn) hbn (.inl rfl) hSn.1
   ·have:j=2*(j / 2)+1:=ad
    rw [this];exact Gl sm r (r.Ku i0) (al9 hn) hbn (.inr rfl) hSn.2
  refine Tj hA L (e0.trans m) (W.aj m ai) (s.ext m) ⟨Q,U,F,k3,k4⟩ ad f ?_
  ·intro h' J E' s' d;refine ⟨E',?_⟩;rw [t,Nv e z];refine ⟨Y,usl,lb,J,ad,rfl,s',fun n hn=>?_,fun k hk=>?_⟩
   rotate_left
   ·have hd:=(d k).2;rw [af9 hk] at hd;obtain ⟨K,q2⟩:=f k hk;have hlen:(J k).ws.length=(V k).ws.length:=by
     have:=aq9 List.length hd
     rwa [ab9,ab9] at this
    have g:∀ u,u∈(J k).ws->∃ v,v∈(V k).ws/\u.2=rQ (cD ms) v.2:=by
     intro u G;have h1:u.2∈(V k).ws.map (fun u=>rQ (cD ms) u.2):=by rw [<- hd]; exact bc9 G
     obtain ⟨v,hv,I⟩:=an9.1 h1;exact ⟨v,hv,I.symm⟩
    refine ⟨ad,fun u G=>?_,fun u G=>?_⟩
    ·obtain ⟨v,hv,I⟩:=g u G;rw [I];exact (Qk U F (K v hv).1 (K v hv).2.2).1
    ·obtain ⟨v,hv,I⟩:=g u G;rw [I];exact (Qk U F (K v hv).1 (K v hv).2.2).2
   have hSn:=hS n hn;have hlo:=PG e C;have hd:∀ (k:Nat) (l:List cz),k<2*us.length->(V k).ws.map (·.2)=l.map (O.fy n)->(J k).ws.map (·.2)=l.map ((⟨O,us,oo O us⟩:LP).fy n):=by
    intro k l hk hl
    have:=(d k).2
    rw [af9 hk] at this;rw [this,show (V k).ws.map (fun u=>rQ (cD ms) u.2)=((V k).ws.map (·.2)).map (rQ (cD ms)) by rw [bf9]; rfl,hl,bf9,hlo] <;> rfl
   exact ⟨hd _ _ ad hSn.1,hd _ _ ad hSn.2⟩
def Y1 (y z:Xax) (B c:Xac) (b A:Nat):T :=
   (T.loop [(false,[.pointer 0]),cR,cR,aM] [.pointer B,aZ,aZ,vI (0:Int)] <| fun (j d:Xac) (e f:Nat) (g:Xac) (h i:Nat) (a:Int) =>
   bq a b
   (T.need (fI a b) <|
   T.bi c <| fun (k:Xax) =>
   T.af (k.add (aH a 4)) [.slice 55,.slice 55,.slice 116,.slice 9] <| fun (l:Xac) (m n:Nat) (o:Xac) (p q:Nat) (r:Xac) (s t:Nat) (u:Xac) (w x:Nat) =>
   V0 y z j d e f g h i a l m n o p q r s t u w x)
   (Xe y z d e f g h i))
def P4 (w:LW) (us:List cg) (u:cg):oo w (us++[u])=oo w us++u.bg.map fun e=>(w.word (us.length,e.1),w.lin us.length e.2):=by
 unfold oo;rw [sg,ao9,bf9,bv9] <;> rfl
def Mw (us:List cg) (u:cg):(eF 0 (us++[u])).map jo=(eF 0 us).map jo++u.bg.map fun e=>(us.length,e.1):=by
 rw [sg,ao9,bf9,bv9] <;> rfl
def I1 (us:List cg) (u:cg):mT (us++[u])=mT us+km u.text:=by
 unfold mT
 simp
theorem Hu:∀ us:List cg,mT us<=vN us
 | []=>by simp [mT,vN]
 | u::us=>by
  have h1:=Hu us;have h2:=AG u.text;unfold mT vN at *;simp only [List.map_cons,List.sum_cons];omega
def IR (us:List cg) (n:Nat):mT (us.take n)<=mT us:=by
 have h:us=us.take n++us.drop n:=(ce9 n us).symm
 conv=>rhs; rw [h]
 unfold mT;rw [ao9,List.sum_append];omega
def OT (us:List cg) (n:Nat):(eF 0 (us.take n)).length<=(eF 0 us).length:=by
 have e:∀ (a b:List cg) (k:Nat),eF k (a++b)=eF k a++eF (k+a.length) b:=by
  intro a
  induction a with
  | nil=>intro b k; simp [eF]
  | cons x a c =>
   intro b k;rw [ez9,eF,eF,c,bb9,ck9,show k+1+a.length=k+(a.length+1) from ad]
 have h:=e (us.take n) (us.drop n) 0;rw [ce9] at h;rw [h,ae9];omega
def Se {J0:List Xab->Hp->Prop} {h0 h:Hp} {lb:bI} {us:List cg} {pp:Xac} {cc:Nat}
  (pw:eH h0) (L:yx h0) (hA:h0.size<=H) (o:H<Y) (e0:Ext h0 h) (t:br h H 77 [vI 0,vI 0,.string ⟨#[]⟩]) (s:FH h Y nv lb 0 O)
  (v:xt h0 pp e us) (r:Fj us) (sm:H3 us) (i0:WI O (cm 0 us) ((eF 0 us).map jo))
  (g:mP us=match fK O 0 us with
   | some q=>.error ⟨23,q.1,q.2⟩
   | none=>match ma (oo O us) with
    | some i=>.error ⟨24,((eF 0 us).map fun q=>(q.1,q.2.1)).getD i (0,dS) |>.1,((eF 0 us).map fun q=>(q.1,q.2.1)).getD i (0,dS) |>.2⟩
    | none=>.ok ⟨O,us,oo O us⟩) :
  Y1 ⟨H,0,none⟩ ⟨Y+3,0,none⟩ none pp e cc [J0] (Oz h0 us) h:=by
 unfold Y1 bq aH fI aZ aM cR;have hll:=v.len;have hmany:=r.many;have hlwb:=r.Ku i0;have s0:rz h Y O nv lb ((0:Nat):Int) 0 (2*0) (fun _=>YI):=⟨s.box,s.maps,s.qW,SL.nil _ _ _ _,lV.nil _ _ _⟩
 refine aQ (cs:=Q4) (fun y m' h'=>∃ (n:Nat) (usl z C:bI) (S:Nat->kZ),y.1=none/\y.2.1=(z.p,z.l,z.c)/\y.2.2.1=(C.p,C.l,C.c)/\y.2.2.2.1=(n:Int)/\n<=us.length/\m'=us.length-n/\Ext h0 h'/\br h' H 77 [vI 0,vI 0,.string ⟨#[]⟩]/\rz h' Y O usl lb ((mT (us.take n):Nat):Int) n (2*n) S /\
   DT h' (Y+4) z C (oo O (us.take n)) ((eF 0 (us.take n)).map jo)/\fK O 0 us=fK O n (us.drop n)/\∀ j,(hj:j<n)->(K:j<us.length)->(S (2*j)).ws.map (·.2)=us[j].text.map (O.fy j)/\(S (2*j+1)).ws.map (·.2)=us[j].data.map (O.fy j))
  (none,(none,0,0),(none,0,0),(0:Int),()) us.length rfl
  ⟨0,nv,nv,nv,fun _=>YI,rfl,rfl,rfl,rfl,ad,ad,e0,t,by simpa [mT] using s0,⟨⟨[],⟨SL.nil _ _ _ _,ai,List.Pairwise.nil,ai⟩,rfl⟩,SL.nil _ _ _ _⟩,rfl,by intro j hj; omega⟩ ?_
 clear e0 t s s0;rintro ⟨p13,⟨p14,l15,l16⟩,⟨p17,l18,l19⟩,n20,⟨⟩⟩ m' h1 ⟨n,usl,z,C,S,D,F,G,I,hnl,rfl,M,t,s,k,b,hS⟩;simp only [Prod.mk.injEq] at D F G I;obtain ⟨rfl,rfl,rfl⟩:=F;obtain ⟨rfl,rfl,rfl⟩:=G;subst D I;refine ak ?_;refine aK ?_ ?_<;>intro q
 ·have d:n<us.length:=ad
  obtain ⟨a,N,P,Q,R,ha,hc,hu⟩:=v.cells n d;have hmem:=al9 d;have m:us.take (n+1)=us.take n++[us[n]]:=ag9 d;have U:(us.take n).length=n:=by rw [az9]; omega
  rw [By O us n d] at b;have hre:=r.bg hmem;have hrr:=r.right _ hmem;have hgood:=fun x K=>sm.pV r hmem (x:=x) K
  have hsu:=IR us n;have hsu2:=Hu us;have hit:=sm.items;have hek:=OT us n;have hek2:=r.eqs;generalize V:us[n]=u at hc hu m b hre hrr hgood;refine bK ha ?_;rw [cr n];refine ar ((N.p,N.l,N.c),(P.p,P.l,P.c),(Q.p,Q.l,Q.c),(R.p,R.l,R.c),()) (aI M ai _ _ hc) (ak ?_);refine RX rfl rfl pw L hA o M t s hlwb k hu hgood hrr ad ad ad (by unfold oo; rw [ab9]; omega) (by rw [ab9]; omega) ad ad ?_ ?_
  ·intro h' q E hq;refine ⟨E,?_⟩;rw [hq] at b;rw [g,b]
  ·intro h' W X J S' E Z s' es' hb f h1 h2;rw [hb] at b;refine ⟨us.length-(n+1),ad,n+1,J,W,X,S',rfl,rfl,rfl,rfl,ad,rfl,E,Z,?_,?_,b,fun j hj K=>?_⟩
   ·rw [m,I1];exact s'
   ·rw [m,P4,Mw,U];exact es'
   ·by_cases hjn:j=n
    ·subst hjn;rw [V];exact ⟨h1,h2⟩
    ·rw [f _ ad,f _ ad];exact hS j ad K
 ·have hn:n=us.length:=ad
  subst hn;rw [ep9 (au9 _)] at b;rw [bw9 (au9 _)] at s k;have b:fK O 0 us=none:=b;rw [b] at g;exact Si hA o M t s k r sm i0 b (fun n hn=>hS n hn hn) g
variable {a:Hp}
def Tm (pw:eH a) (G:yx a) {c:Nat} {us:List cg} (v:xt a d H us) (sm:H3 us):HC Xaz 21 #[.slice d H c] a (Oz a us):=by
 refine aX (args:=[.slice d H c]) mixed Tryz.func21 av (AP d H c) ?_;unfold zj aR aY bq aH cE eE bM bd bR bn aC bj aZ bZ aM ct cR;have hll:=v.len;have hmany:=v.many;refine bm ?_;intro h1 U V z1;refine ao ?_ ?_<;>intro q
 ·have q:H=0:=by
   have:=ah9 q
   omega
  refine bP U ?_;intro h2 f Z z2;have f:br h2 a.size 77 [vI 25,vI 0,.string ⟨#[]⟩]:=f;refine aw f ((25:Int),(0:Int),(⟨#[]⟩:Xaa),()) ?_;refine ⟨bU V Z,?_⟩;unfold mP;rw [af9 ad] <;> rfl
 have m:¬ us.length=0:=by
  have:=ar9 q
  omega
 refine ao ?_ ?_<;>intro q
 ·have q:=ah9 q;refine bP U ?_;intro h2 f Z z2;have f:br h2 a.size 77 [vI 4,vI 0,.string ⟨#[]⟩]:=f;refine aw f ((4:Int),(0:Int),(⟨#[]⟩:Xaa),()) ?_;refine ⟨bU V Z,?_⟩;unfold mP;rw [ac9 m,af9 ad] <;> rfl
 have g:¬ 64<us.length:=by
  have:=ar9 q
  omega
 have I:∀ n,us.findIdx? (fun u=>decide (ft u≠0))=some n->mP us=.error ⟨31,n,dS⟩:=by
  intro n hn;unfold mP;rw [ac9 m,ac9 g,hn]
 refine aQ (cs:=[(false,[.pointer 0]),(false,[.int .i64])]) (fun y m' h'=>∃ n:Nat,y.1=none/\y.2.1=(n:Int)/\n<=us.length/\m'=us.length-n/\Ext a h'/\br h' a.size 77 [vI 0,vI 0,.string ⟨#[]⟩]/\∀ j,(o:j<n)->(hx:j<us.length)->ft us[j]=0) (none,(0:Int),()) us.length rfl
  ⟨0,rfl,rfl,ad,ad,V,U,by intro j o; omega⟩ ?_
 clear V U;rintro ⟨p2,n3,⟨⟩⟩ m' h2 ⟨n,J,K,hnl,rfl,L,f,s⟩;simp only at J K;subst J K;refine ak ?_;refine aK ?_ ?_<;>intro q
 ·have M:n<us.length:=ad
  obtain ⟨b,t,x,z,A,ha,hc,N⟩:=v.cells n M;refine bK ha ?_;rw [cr n];refine ar ((t.p,t.l,t.c),(x.p,x.l,x.c),(z.p,z.l,z.c),(A.p,A.l,A.c),()) (aI L ai _ _ hc) (ak ?_);refine bm ?_;intro h3 b3' e3 z3;refine bP b3' ?_;intro h4 b4 k4 z4;have b4:br h4 h2.size 70 [t.v,x.v,z.v,A.v]:=b4;have O:Ext h2 h4:=bU e3 k4;have e04:=L.trans O;refine aw b4 ((t.p,t.l,t.c),(x.p,x.l,x.c),(z.p,z.l,z.c),(A.p,A.l,A.c),()) (ak ?_);refine aE (wW (G.aj e04 ai) (N.aj e04)) ?_;rintro _ h5 ⟨rfl,E⟩;refine ⟨(((ft us[n]:Nat):Int),()),rfl,ak ?_⟩;have b5:=f.aj (O.trans E) ai;have e05:=e04.trans E;refine ao ?_ ?_<;>intro q
  ·have hne:ft us[n]≠0:=by
    intro h0;rw [h0] at q;exact absurd q bQ
   refine bP b5 ?_;intro h6 F k6 z6;have F:br h6 a.size 77 [vI 31,vI (n:Int),.string ⟨#[]⟩]:=F;refine aw F ((31:Int),(n:Int),(⟨#[]⟩:Xaa),()) ?_;refine ⟨bU e05 k6,?_⟩;rw [I n (by
    rw [be9];exact ⟨M,ai9 hne,fun j o=>by rw [s j o ad]; decide⟩)]
   rfl
  ·have hz:ft us[n]=0:=by
    have hb:(((ft us[n]:Nat):Int) != 0)=false:=q
    by_cases h0:ft us[n]=0
    ·exact h0
    ·have:(((ft us[n]:Nat):Int) != 0)=true:=by
      rw [bne_iff_ne];omega
     rw [this] at hb;cases hb
   have hw:=hY n;rw [hw];refine aD (cs:=[(false,[.pointer 0]),(false,[.int .i64])]) (none,((n+1:Nat):Int),()) (us.length-(n+1)) rfl ad rfl ⟨n+1,rfl,rfl,ad,rfl,e05,b5,fun j o hx=>?_⟩
   by_cases hjn:j=n
   ·subst hjn; exact hz
   ·exact s j ad hx
 ·have hn:n=us.length:=ad
  subst hn;have r:Fj us:=⟨fun u N=>by
   obtain ⟨j,o,rfl⟩:=bg9 N;exact s j o o,ad⟩
  have P:us.findIdx? (fun u=>decide (ft u≠0))=none:=by
   rw [bu9];intro u N;rw [r.right u N];decide
  have q2:=f.lt;refine Ee (kv:=Fi) (en:=eI) ?_;intro h3 m3 e3 z3;refine Ee (kv:=Fi) (en:=eI) ?_;intro h4 m4 e4 z4;refine zp (en:=eI) ?_;intro h5 m5 E z5;refine bm ?_;intro h6 F W z6;have e26:=((e3.trans e4).trans E).trans W;have Q:h4.size=h2.size+2:=ad
  have R:h5.size=h2.size+3:=ad
  rw [z3] at m4;rw [Q] at m5;rw [R,z3,Q] at F;rw [R];have p6:FH h6 h2.size nv nv 0 UE:=⟨F,⟨((m3.aj e4 ai).aj E ai).aj W ai,(m4.aj E ai).aj W ai,m5.aj W ai⟩,SL.nil _ _ _ _⟩
  have v2:=v.aj L;have hit:=sm.items;refine aE (Ii (c:=c) rfl e26 p6 v2 (by show 0+vN us<=_; omega) ad rfl) ?_;rintro _ h7 ⟨rfl,lb7,p7,e7⟩;refine ⟨(),rfl,ak ?_⟩;refine aE (LA (c:=c) rfl e7 p7 v2 ad) ?_;rintro _ h8 ⟨X,Y⟩;have b28:=f.aj X ai;have z8:=X.size;have w0:=UJ r.right;cases S:ly 0 us (nU 0 us UE) with
  | error q =>
   rw [S] at Y;subst Y;refine ⟨((22:Int),(q.1:Int),q.2,true,()),rfl,ak ?_⟩;refine bm ?_;intro h9 B e9 z9;refine bP B ?_;intro h10 k C z10;have k:br h10 h8.size 77 [vI 22,vI (q.1:Int),.string q.2]:=k;have e:Ext h8 h10:=bU e9 C;refine bX rfl ?_;refine aw k ((22:Int),(q.1:Int),q.2,()) ?_;refine ⟨⟨k.cells _ rfl,trivial⟩,?_⟩;refine bP (b28.aj e ai) ?_;intro h11 D k11 z11;have D:br h11 a.size 77 [vI 22,vI (q.1:Int),.string q.2]:=D;refine aw D ((22:Int),(q.1:Int),q.2,()) ?_;refine ⟨bU ((L.trans X).trans e) k11,?_⟩;unfold mP;rw [ac9 m,ac9 g,P];simp only [S] <;> rfl
  | ok w =>
   rw [S] at Y;obtain ⟨rfl,p8⟩:=Y;refine ⟨((0:Int),(0:Int),(⟨#[]⟩:Xaa),false,()),rfl,ak ?_⟩;refine bm ?_;intro h9 B e9 z9;refine bP B ?_;intro h10 k C z10;have e:Ext h8 h10:=bU e9 C;refine cv rfl ?_;have e010:=(L.trans X).trans e;refine Se (cc:=c) pw G (au9 _) q2 e010 (b28.aj e ai) (p8.aj e) v r sm (w0.meet S) ?_;unfold mP;rw [ac9 m,ac9 g,P];simp only [S];cases fK w 0 us with
   | some q=>rfl
   | none =>
    cases ma (oo w us) with
    | some i=>rfl
    | none=>rfl
structure Cs (h:Hp) (b:Nat) (s:bI) (ws:List (bI × cz)):Prop where
 out:SL h b 55 10 s.p s.l s.c (ws.map tY)
 fx:∀ u,u∈ws->SL h b 64 2 u.1.p u.1.l u.1.c (u.2.e.ah.map df)
def Cs.vd {b:Nat} {ws:List (bI × cz)} (o:Cs a b Z ws):Xj a Z.p Z.l ws :=
 ⟨by have:=o.out.1; rwa [ab9] at this,fun i hi=>by
  obtain ⟨c,d,hc⟩:=o.out.cells (i:=i) (by simpa using hi);rw [am9] at hc;exact ⟨c,d,hc⟩⟩
def ZJ (c:Xac) (b d:Nat):T :=
   T.loop [aM] [vI (0:Int)] <| fun (a:Int) =>
   bq a b
    (T.need (fI a b) <|
    T.bi c <| fun (e:Xax) =>
    T.af ((e.add (aH a 10)).add 7) [.slice 64] <| fun (f:Xac) (g h:Nat) =>
    bM 65 [.slice f g h] false [(false,[.slice 64])] <| fun (i:Xac) (j k:Nat) =>
    T.need (fI a b) <|
    T.bi c <| fun (l:Xax) =>
    T.ax ((l.add (aH a 10)).add 7) [.slice i j k] <|
    T.again 0 [vI (bn (a+(1:Int)))])
    (T.ret (.slice c b d))
def xP (h:Hp) (us:List cz) (v:Xab) (h':Hp):Prop:=Ext h h'/\∃ s ws,v=bI.v s/\Cs h' h.size s ws/\ws.map (·.2)=us
def VB {h0 h:Hp} {b0:Nat} {s:bI} {ws:List (bI × cz)} (e0:Ext h0 h) (o:SL h h0.size 55 10 s.p s.l s.c (ws.map tY)) (hin:∀ u,u∈ws->SL h0 b0 64 2 u.1.p u.1.l u.1.c (u.2.e.ah.map df)) (hl:ws.length<=2^30) (ht:∀ u,u∈ws->u.2.e.ah.length<=2^40) :
  ZJ s.p s.l s.c [] (xP h0 (ws.map (·.2))) h:=by
 unfold ZJ bq aH bM bn fI aM;have J:s.l=ws.length:=by have:=o.1; rwa [ab9] at this
 have z0:=e0.size
 refine aQ (cs:=cF) (fun y G h'=>∃ (i:Nat) (b:List (bI × cz)),y.1=(i:Int)/\i<=ws.length/\G=ws.length-i/\Ext h0 h'/\SL h' h0.size 55 10 s.p s.l s.c (b.map tY)/\b.length=ws.length /\
   ∀ m,(f:m<ws.length)->(r:m<b.length)->b[m].2=ws[m].2/\if m<i then SL h' h0.size 64 2 b[m].1.p b[m].1.l b[m].1.c (b[m].2.e.ah.map df) else b[m]=ws[m]) ((0:Int),()) ws.length rfl
  ⟨0,ws,rfl,ad,ad,e0,o,rfl,fun m f r=>⟨rfl,by rw [ac9 ad]⟩⟩ ?_
 clear e0 o z0;rintro ⟨K,⟨⟩⟩ G h1 ⟨i,b,hi,L,rfl,B,o,t,ep⟩;simp only at hi;subst hi;refine ak ?_;have z1:=B.size;refine aK ?_ ?_<;>intro q
 ·have n:i<ws.length:=ad
  have d:i<b.length:=ad
  have hi:=(ep i n d).2;rw [ac9 ad] at hi;obtain ⟨a,D,hc⟩:=o.cells (i:=i) (by simpa using d);rw [am9,hi] at hc;have hin:=hin ws[i] (al9 n);have ht:=ht ws[i] (al9 n);generalize C:ws[i]=u at hin hc ht;refine bK D ?_;rw [cr i];refine ar ((u.1.p,u.1.l,u.1.c),()) (eW 1 [_,_,_] 0 (jn _ 7 0 (ic 7 _ 0 hc))) (ak ?_);refine aE (HR (c:=u.1.c) (xG (hin.aj B ai)) ht) ?_;rintro _ h2 ⟨⟨p',l',c',rfl,H⟩,E⟩;refine ⟨((p',l',c'),()),rfl,ak ?_⟩;refine bK D ?_;have o2:=o.aj E ai;refine SL.part (P:=Xaz) o2 (i:=i) (by rw [ab9]; exact d) (o:=7) ai (by simp [dl]) D ?_;intro M I F z3;have w:(b.map tY).set i (lN ((b.map tY)[i]'(by rw [ab9]; exact d)) 7 [.slice p' l' c'])=(b.set i (⟨p',l',c'⟩,u.2)).map tY:=by
   rw [fd9,am9,hi,C] <;> rfl
  rw [w] at I;have hw:=hY i;rw [hw];refine aD (cs:=cF) (((i+1:Nat):Int),()) (ws.length-(i+1)) rfl ad rfl ?_;refine ⟨i+1,_,rfl,ad,rfl,Ch.trans (B.trans E) F (fun j x hl=>by have:=(o2.cw x).1; omega),I,by rw [cx9]; exact t,fun m f r=>?_⟩
  by_cases z:m=i
  ·subst z;rw [af9 ad,List.getElem_set_self,C];exact ⟨rfl,(H.bF F (fun j x f=>wo o2 H bQ j f x)).mono z1⟩
  ·have g:m<b.length:=ad
   have:=ep m f g
   rw [List.getElem_set_ne (Ne.symm z)];refine ⟨this.1,?_⟩;have this:=this.2
   by_cases k:m<i
   ·rw [af9 k] at this;rw [af9 ad]
    have:=this.aj E ai
    exact this.bF F (fun j x f=>wo o2 this bQ j f x)
   ·rw [ac9 k] at this;rw [ac9 ad];exact this
 ·have hi:i=ws.length:=ad
  subst hi;refine ⟨B,s,b,rfl,⟨o,fun u C=>?_⟩,?_⟩
  ·obtain ⟨m,f,rfl⟩:=bg9 C
   have:=(ep m ad f).2
   rwa [af9 ad] at this
  ·refine fp9 (by rw [ab9,ab9]; exact t) fun m A g=>?_
   rw [ab9] at A g;rw [am9,am9];exact (ep m g A).1
section
variable {h:Hp} {B N M:Nat} {w:LW} {usl lb:bI} {sp:Int} {S:Nat->kZ}
def Oc (s:rz h B w usl lb sp N M S):uo Xaz 39 [ptr (B+3)] h (vI (N:Int)):=by
 refine eX mixed Tryz.func39 av (oh (some ⟨B+3,0,none⟩)) ?_;unfold jw;refine bf rfl ?_;refine aw s.box ((usl.p,usl.l,usl.c),()) ?_;have a:usl.l=N:=by have:=s.un.1; rwa [jS] at this
 exact ⟨by rw [<- a],rfl⟩
def uD (S:Nat->kZ) (N:Nat) (n k:Int):List cz:=if 0<=n/\n<N/\(k=0\/k=1) then (S (2*n.toNat+k.toNat)).ws.map (·.2) else []
def qn (h:Hp):xP h [] (.slice none 0 0) h:=⟨Ch.refl _ _,nv,[],rfl,⟨SL.nil _ _ _ _,ai⟩,rfl⟩
def Od (s:rz h B w usl lb sp N M S) (K:2*N<=M) (L:N<=2^30) (hs:∀ k,k<2*N->(S k).ws.length<=2^30/\∀ u,u∈(S k).ws->u.2.e.ah.length<=2^40) (n k:Int) (hn:-9223372036854775808<=n/\n<=9223372036854775807) :
  HC Xaz 40 #[ptr (B+3),vI n,vI k] h (xP h (uD S N n k)):=by
 refine aX (args:=[ptr (B+3),vI n,vI k]) mixed Tryz.func40 av (nQ (some ⟨B+3,0,none⟩) n k) ?_;unfold jz aR aY bq aH bM aZ aM;have D:usl.l=N:=by have:=s.un.1; rwa [jS] at this
 have d:¬ (0<=n/\n<N/\(k=0\/k=1))->uD S N n k=[]:=fun h=>by unfold uD; rw [ac9 h]
 refine ao ?_ ?_<;>intro q
 ·have q:=ah9 q;rw [d ad];exact qn h
 have q1:=ar9 q;refine bf rfl ?_;refine aw s.box ((usl.p,usl.l,usl.c),()) (ak ?_);refine ao ?_ ?_<;>intro q
 ·have q:=ah9 q;rw [d ad];exact qn h
 have q2:=ar9 q;refine ao ?_ ?_<;>intro q
 ·have q:=ah9 q;rw [d ad];exact qn h
 have q3:=ar9 q;refine ao ?_ ?_<;>intro q
 ·have q:=ah9 q;rw [d ad];exact qn h
 have q4:=ar9 q;have o:n.toNat<N:=ad
 obtain ⟨a,C,hc⟩:=s.un.cells (i:=n.toNat) (by rw [jS]; exact o);rw [DM] at hc;generalize A:n.toNat=m at hc o;have g:∀ j,j<2->∃ f:bI,f=(S (2*m+j)).s/\Xj h f.p f.l (S (2*m+j)).ws:=by
  intro j E;have hs:=s.yc.sec (2*m+j) ad;exact ⟨_,rfl,Cs.vd (b:=B+4) ⟨hs.out,hs.fx⟩⟩
 have hit:k=0\/k=1->uD S N n k=(S (2*m+k.toNat)).ws.map (·.2):=fun hk=>by
  unfold uD;rw [af9 ⟨ad,ad,hk⟩,A]
 refine bf rfl ?_;refine aw s.box ((usl.p,usl.l,usl.c),()) (ak ?_);refine bK C ?_;obtain ⟨f,r,F⟩:=g 0 ad;obtain ⟨x,y,G⟩:=g 1 ad;have hc:aF h (a.add (m*4)) 0 [f.v,x.v,nv.v,nv.v]:=by rw [r,y]; exact hc
 refine ar ((f.p,f.l,f.c),()) (eW 1 _ 0 hc) (ak ?_);have z:∀ (j:Nat) (t:bI),j<2->t=(S (2*m+j)).s->Xj h t.p t.l (S (2*m+j)).ws->(T.call Xaz 57 [.slice t.p t.l t.c] false [(false,[.slice 55])] fun p l c=>ZJ p l c) [] (xP h ((S (2*m+j)).ws.map (·.2))) h:=by
  intro j t E ht H;have hsz:=hs (2*m+j) ad;have se:=s.yc.sec (2*m+j) ad;refine aE (DP (c:=t.c) H hsz.1) ?_;rintro _ h1 ⟨⟨p',c',rfl,I⟩,J⟩;refine ⟨((p',t.l,c'),()),rfl,ak ?_⟩;exact VB (s:=⟨p',t.l,c'⟩) J I se.fx hsz.1 hsz.2
 refine ao ?_ ?_<;>intro q
 ·have hk:k=1:=by simpa using q
  rw [hit (.inr hk),hk];refine bf rfl ?_;refine aw s.box ((usl.p,usl.l,usl.c),()) (ak ?_);refine bK C ?_;refine ar ((x.p,x.l,x.c),()) (eW 1 [_,_,_] 0 (jn _ 1 0 (ic 1 _ 0 hc))) (ak ?_);exact z 1 x ad y G
 ·have hk:k=0:=by
   have:¬ k=1:=by
    intro h;rw [h] at q;exact absurd q bQ
   omega
  rw [hit (.inl hk),hk];exact z 0 f ad r F
end
def Vr:Xab:=.tuple #[.pointer none,.pointer none,.bool false,.bool true]
def Q8 (us:List cg) (P:LP) (F:cg->List cz) (tw:List (bI × List (bI × cz))):Prop :=
 tw.length=us.length/\∀ n u x,us[n]?=some u->tw[n]?=some x->x.2.map (·.2)=(F u).map (P.fy n)
structure Cy (h0 h':Hp) (us:List cg) (su:bI) (P:LP) (B:Nat) (usl lb:bI) (S:Nat->kZ) (g b':Nat) (lb2 st sd:bI) (tw dw:List (bI × List (bI × cz))):Prop where
 le:h0.size<=B
 pg:rz h' B P.w usl lb ((mT us:Nat):Int) us.length (2*us.length) S
 its:∀ n,(hn:n<us.length)->(S (2*n)).ws.map (·.2)=us[n].text.map (P.fy n)/\(S (2*n+1)).ws.map (·.2)=us[n].data.map (P.fy n)
 sz:∀ k,k<2*us.length->O7 (S k)
 pr:Dv h' g su lb2 st sd (cm 0 us)
 tx:we h' b' st tw
 dx:we h' b' sd dw
 ti:Q8 us P (·.text) tw
 di:Q8 us P (·.data) dw
def Z5 (h0:Hp) (us:List cg) (su:bI) (v:Xab) (h':Hp):Prop:=Ext h0 h' /\
 if uC us=true then v=Vr else match mP us with
 | .error _=>v=Vr
 | .ok P=>∃ B usl lb S g b' lb2 st sd tw dw,v=.tuple #[ptr (B+3),ptr g,.bool true,.bool true]/\Cy h0 h' us su P B usl lb S g b' lb2 st sd tw dw
def Ql {us:List cg} {P:LP} (d:Fu us (.ok P)) (sm:H3 us) {ms:List cT} (f:ms.map fD=(dR us (cm 0 us) us).map fun y=>(y.1,fl (eY (dR us (cm 0 us) us)) y.1)) {F:cg->List cz} (g:∀ u x,x∈F u->x.e∈cO u)
  {tw:List (bI × List (bI × cz))} (t:zt us (cm 0 us) ms F us.length tw):Q8 us P F tw:=by
 obtain ⟨z1,m,o,h,i,c,j,p⟩:=d;refine ⟨t.1,fun n u x b k=>?_⟩;rw [t.2 n u x b k];refine ci9 fun y l=>?_
 have hn:=(ax9.1 b).1;have hyl:=g u y l;have a:P.w.bad n y.e=none:=by
  have h1:=jZ us 0 c n hn;rw [bv9,(ax9.1 b).2,x8,cw9] at h1;exact h1 _ hyl
 have e1:=i.put c j hn a (sm.num u (cm9 b) _ hyl).1 f;unfold LP.fy xK;rw [h,e1]
def XF (pw:eH a) (H:yx a) {su:bI} {us:List cg} (v:xt a su.p su.l us) (sm:H3 us):HC Xaz 11 #[.slice su.p su.l su.c] a (Z5 a us su):=by
 refine aX (args:=[.slice su.p su.l su.c]) mixed Tryz.func11 av (sT su.p su.l su.c) ?_;unfold nC aT bM bj bZ;refine aJ (NG (c:=su.c) v) ?_;refine ao ?_ ?_<;>intro q
 ·refine ⟨Ch.refl _ _,?_⟩;rw [af9 q] <;> rfl
 ·have G:∀ (w:Xab) (h':Hp),(Ext a h'/\match mP us with
    | .error _=>w=Vr
    | .ok P=>∃ B usl lb S g b' lb2 st sd tw dw,w=.tuple #[ptr (B+3),ptr g,.bool true,.bool true]/\Cy a h' us su P B usl lb S g b' lb2 st sd tw dw)->Z5 a us su w h':=by
   intro w h' Q;refine ⟨Q.1,?_⟩;rw [ac9 (by rw [q]; simp)];exact Q.2
  have ag:=Bn sm.num;refine aE (Tm (c:=su.c) pw H v sm) ?_;rintro _ h1 ⟨I,hl⟩;have v1:=v.aj I;cases t:mP us with
  | error f =>
   rw [t] at hl ag G;have hl:_=Ka f.rA f.unit f.name:=hl;subst hl;obtain ⟨y,m⟩:=ag;refine ⟨(none,(f.rA:Int),(f.unit:Int),f.name,()),rfl,ak ?_⟩;refine bm ?_;intro h2 J K z2;refine bP J ?_;intro h3 n L z3;have n:br h3 h1.size 77 [vI (f.rA:Int),vI (f.unit:Int),.string f.name]:=n;have j:Ext h1 h3:=bU K L;have R:(fO us).rA=0->Pn us (EU us):=by
    intro o;rcases m with m | ⟨_,⟨r,w,A,U⟩,_⟩
    ·rw [m] at o;exact absurd o y
    ·exact G5 sm r A U
   refine aE (CN (v1.aj j) R) ?_;rintro V z ⟨C,k⟩;have D:V=Value.tuple #[.pointer none,RM f]:=by
    unfold DN at k;rcases m with m | ⟨o,_,i,x,s,hi,rfl⟩
    ·rw [af9 (by rw [m]; exact y),m] at k;exact k
    ·rw [ac9 ad] at k;rcases k with ⟨W,X,b,E,D⟩ | ⟨_,_,_,_,_,_,_,_,b,_⟩
     ·rw [s] at b;cases b;rw [hi] at E;cases E;exact D
     ·rw [s] at b;cases b
   subst D;refine ⟨(none,(f.rA:Int),(f.unit:Int),f.name,()),rfl,ak ?_⟩;refine bm ?_;intro Y M N Z;refine bP M ?_;intro h6 e O z6;have e:br h6 z.size 91 [vI (f.rA:Int),vI (f.unit:Int),.string f.name]:=e;have d:Ext z h6:=bU N O;have b36:=n.aj (C.trans d) ai;have e06:=((I.trans j).trans C).trans d;refine aw b36 ((f.rA:Int),()) (ak ?_);refine aw e ((f.rA:Int),()) (ak ?_);refine bX ai ?_;rw [ay,ay];refine aw b36 ((f.unit:Int),()) (ak ?_);refine aw e ((f.unit:Int),()) (ak ?_);refine bX ai ?_;rw [ay,ay];refine aw b36 (f.name,()) (ak ?_);refine aw e (f.name,()) (ak ?_);refine bX ai ?_;refine aw e ((f.rA:Int),()) (ak ?_);have o:((f.rA:Int)==(0:Int))=false:=by
    have:¬ (f.rA:Int)=0:=ad
    simpa using this
   rw [o];refine bX rfl ?_;exact G _ _ ⟨e06,rfl⟩
  | ok P =>
   rw [t] at hl ag G;obtain ⟨B,usl,lb,S,hB,hv,pg,its,o⟩:=hl;subst hv;have ag':=ag;obtain ⟨z1,r,u1,d1,A1,b1,c1,f1⟩:=ag;refine ⟨(some ⟨B+3,0,none⟩,(0:Int),(0:Int),(⟨#[]⟩:Xaa),()),rfl,ak ?_⟩;refine bm ?_;intro h2 J K z2;refine bP J ?_;intro h3 n L z3;have n:br h3 h1.size 77 [vI 0,vI 0,.string ⟨#[]⟩]:=n;have j:Ext h1 h3:=bU K L;refine aE (CN (v1.aj j) (fun _=>G5 sm r A1 b1)) ?_;rintro _ z ⟨C,k⟩;unfold DN at k;rw [ac9 ad] at k;rcases k with ⟨W,X,b,_⟩ | ⟨g,b',lb2,st,sd,tw,dw,ms,_,D,F,pr,tx,dx,ti,di⟩
   ·rw [f1] at b;cases b
   subst D;refine ⟨(some ⟨g,0,none⟩,(0:Int),(0:Int),(⟨#[]⟩:Xaa),()),rfl,ak ?_⟩;refine bm ?_;intro Y M N Z;refine bP M ?_;intro h6 e O z6;have e:br h6 z.size 91 [vI 0,vI 0,.string ⟨#[]⟩]:=e;have d:Ext z h6:=bU N O;have b36:=n.aj (C.trans d) ai;have e16:=(j.trans C).trans d;refine aw b36 ((0:Int),()) (ak ?_);refine aw e ((0:Int),()) (ak ?_);refine bX rfl ?_;rw [ay,ay];refine aw b36 ((0:Int),()) (ak ?_);refine aw e ((0:Int),()) (ak ?_);refine bX rfl ?_;rw [ay,ay];refine aw b36 ((⟨#[]⟩:Xaa),()) (ak ?_);refine aw e ((⟨#[]⟩:Xaa),()) (ak ?_);refine bX ai ?_;refine aw e ((0:Int),()) (ak ?_);refine bX rfl ?_;refine G _ _ ⟨I.trans e16,B,usl,lb,S,g,b',lb2,st,sd,tw,dw,rfl,hB,pg.ext e16,its,o,pr.aj d,tx.ext d,dx.ext d,?_,?_⟩
   ·exact Ql ag' sm F (fun u x s=>bh9 _ (bh9 _ (bc9 s))) ti
   ·exact Ql ag' sm F (fun u x s=>bh9 _ (bp9 _ (bc9 s))) di
end Go.Sx.Lk
namespace Go.Sx
open Go.Proofs
def CF {h:Hp} {p q:Xac} {l m c d:Nat} {x y:bJ} (v:ik h p l x.ah) (w:ik h q m y.ah) (hl:x.ah.length<=2^60) :
  HC Xaz 16 #[gU p l c x,gU q m d y] h fun r h'=>r=.bool (jq x y)/\Ext h h':=by
 refine aX (args:=[.agg #[.slice p l c,.int .u32 x.num],.agg #[.slice q m d,.int .u32 y.num]]) mixed Tryz.func16 av (qd p l c x.num q m d y.num) ?_;unfold lf aR aY bq aH eZ aC bH dX aM ct;refine bm ?_;intro h1 b1 F z1;refine bm ?_;intro h2 A B z2;have b1:=b1.aj B ai;have e02:=F.trans B;have v:=v.aj e02 ai;have w:=w.aj e02 ai;have hv:=v.len;have hw:=w.len;rw [ay,ay];refine aw b1 ((x.num:Int),()) (ak ?_);refine aw A ((y.num:Int),()) (ak ?_);refine ao ?_ ?_<;>intro f
 ·have f:¬ x.num=y.num:=by have:¬ (x.num:Int)=y.num:=(by simpa using f); omega
  refine ⟨?_,e02⟩;unfold jq;rw [aj9 f] <;> rfl
 ·have f:x.num=y.num:=by have:(x.num:Int)=y.num:=(by simpa using f); omega
  have G:jq x y=decide (x.ah=y.ah):=by
   unfold jq;rw [ai9 f] <;> rfl
  rw [G];refine aw b1 ((p,l,c),()) (ak ?_);refine aw A ((q,m,d),()) (ak ?_);refine ao ?_ ?_<;>intro g
  ·have g:¬ (l:Int)=(m:Int):=by simpa using g
   exact ⟨by rw [aj9 (fun e=>by rw [e] at hv; omega)],e02⟩
  ·have g:(l:Int)=(m:Int):=by simpa using g
   refine aQ (cs:=jP) (fun z n h'=>∃ (i:Nat),z.2.1=(i:Int)/\i<=x.ah.length/\n=x.ah.length-i/\h2=h'/\(x.ah=y.ah↔x.ah.drop i=y.ah.drop i)) (false,(0:Int),()) x.ah.length rfl
    ⟨0,rfl,ad,ad,rfl,Iff.rfl⟩ ?_
   rintro ⟨C,n8,⟨⟩⟩ n H ⟨i,hi,D,rfl,rfl,E⟩;simp only at hi;subst hi;refine ak ?_;refine aw b1 ((p,l,c),()) (ak ?_);refine aK ?_ ?_<;>intro g
   ·have j:i<x.ah.length:=ad
    have k:i<y.ah.length:=ad
    obtain ⟨a,rfl,hc⟩:=v.cells i j;obtain ⟨a',rfl,o⟩:=w.cells i k;have hst:=xi j k;have hno:=Bo j k;generalize x.ah[i]=t at hc hst hno;generalize y.ah[i]=u at o hst hno;refine aw b1 ((some a,l,c),()) (ak ?_);refine bK rfl ?_;rw [cr i];refine ar (t.1,(t.2:Int),()) hc (ak ?_);refine aw A ((some a',m,d),()) (ak ?_);refine bK rfl ?_;refine ar (u.1,(u.2:Int),()) o (ak ?_);refine wI (b:=decide (t≠u)) (fun I hk=>Qw _ _ _ _ _ _ _ _ (by rw [NT]; exact hk)) ?_;refine ⟨⟨A.cells _ rfl,b1.cells _ rfl,trivial⟩,?_⟩;refine ao ?_ ?_<;>intro s
    ·exact ⟨by rw [aj9 (hno (ah9 s))],e02⟩
    ·have s:t=u:=by simpa using s
     have hw:=hY i;exact aD (cs:=jP) (C,((i+1:Nat):Int),()) (x.ah.length-(i+1)) rfl ad (aq9 (fun z=>[Value.bool C,Value.int .i64 z]) hw) ⟨i+1,rfl,ad,rfl,rfl,E.trans (hst s)⟩
   ·refine ⟨?_,e02⟩;rw [ai9 (E.2 (by rw [cc9 ad,cc9 ad]))]
end Go.Sx
namespace Go.Sx.Po
open Go.Proofs Go.Sx.Ob Go.Sx.Lk
def zr (x:cz):Bool:=x.kind==2 && ((dq x.inst.op:Nat):Int)==11
variable {O:Hp} {V b:Xac} {H U Z c:Nat} {a:cz}
def Da (v:iM O V H a):HC Xaz 15 #[.agg (encI V H U a).toArray] O fun w h'=>w=.bool (zr a)/\Ext O h':=by
 refine aX (args:=[.agg (encI V H U a).toArray]) mixed Tryz.func15 av (pu a.kind a.name a.inst.op a.inst.a a.inst.b a.inst.n a.inst.form V H U a.e.num a.n) ?_;unfold kf cE aC bH;refine bm ?_;intro h1 d f z1;have d:br h1 O.size 55 (encI V H U a):=d;rw [ay];refine aw d (a.kind,()) (ak ?_);unfold zr;cases i:a.kind==(2:Int) with
 | false=>exact cv rfl ⟨rfl,f⟩
 | true =>
  refine bX rfl ?_;refine aw d (a.inst.op,()) (ak ?_);refine aE (oR h1 a.inst.op v.op) ?_;rintro _ h2 ⟨rfl,g⟩;refine ⟨(((dq a.inst.op:Nat):Int),()),rfl,?_⟩;exact ⟨rfl,f.trans g⟩
structure VW (h:Hp) (p:Xac) (l:Nat) (xs:List bJ):Prop where
 len:l=xs.length
 many:xs.length<=2^40
 cells:∀ i,(hi:i<xs.length)->∃ a q m d,p=some a/\aF h (a.add (i*2)) 0 [.slice q m d,.int .u32 (xs[i].num:Int)]/\mY h q m xs[i]
def kP (xs:List bJ) (x:bJ):Int:=match xs.findIdx? fun y=>jq y x with
 | some k=>(k:Int)
 | none=>-1
def Fs {xs:List bJ} {p:bJ->Bool} {i:Nat} (hi:i<xs.length) (h:∀ j,(a:j<xs.length)->j<i->p xs[j]=false) (ht:p xs[i]=true):xs.findIdx? p=some i:=by
 rw [be9];exact ⟨hi,ht,fun j a=>by rw [h j ad a]; simp⟩
variable {d:bJ}
def HQ {xs:List bJ} (v:VW O V H xs) (w:mY O b Z d) :
  HC Xaz 25 #[.slice V H U,.agg #[.slice b Z c,.int .u32 (d.num:Int)]] O fun z h'=>z=vI (kP xs d)/\Ext O h':=by
 refine aX (args:=[.slice V H U,.agg #[.slice b Z c,.int .u32 (d.num:Int)]]) mixed Tryz.func25 av (oq V H U b Z c (d.num:Int)) ?_;unfold js aR aY bq aH aT aC aM;have hl:=v.len;have hm:=v.many;refine bm ?_;intro h1 D E z1;refine aQ (cs:=fH) (fun y k h'=>∃ i:Nat,y.2.1=(i:Int)/\k=H-i/\i<=H/\Ext h1 h'/\∀ j,(f:j<xs.length)->j<i->jq xs[j] d=false) ((0:Int),(0:Int),()) H rfl ⟨0,rfl,rfl,ad,Ch.refl _ _,fun j f o=>ad⟩ ?_;rintro ⟨u,K,⟨⟩⟩ k h2 ⟨i,hi,rfl,A,r,e⟩;simp only at hi;subst hi;refine ak ?_;have e02:=E.trans r;refine aK ?_ ?_<;>intro g
 ·have n:i<xs.length:=ad
  obtain ⟨a,F,G,B,I,hc,hv⟩:=v.cells i n;refine bK I ?_;rw [cr i];refine ar ((F,G,B),(xs[i].num:Int),()) (aI e02 ai _ _ hc) (ak ?_);refine aw (D.aj r ai) ((b,Z,c),(d.num:Int),()) (ak ?_);refine aE (CF (c:=B) (d:=c) (hv.aj e02).vw (w.aj e02).vw hv.many) ?_;rintro _ L ⟨rfl,C⟩;refine ⟨(jq xs[i] d,()),rfl,ak ?_⟩;refine ao ?_ ?_<;>intro t
  ·refine ⟨?_,e02.trans C⟩;unfold kP;rw [Fs n e t]
  ·have hw:=hY i;exact aD (cs:=fH) (u,((i+1:Nat):Int),()) (H-(i+1)) rfl ad (aq9 (fun z=>[Value.int .i64 u,Value.int .i64 z]) hw) ⟨i+1,rfl,rfl,ad,r.trans C,fun j f o=>by
    by_cases s:j=i
    ·subst s; exact t
    ·exact e j f ad⟩
 ·refine ⟨?_,e02⟩;unfold kP;rw [bu9.2 fun y J=>by
   obtain ⟨j,f,rfl⟩:=bg9 J;rw [e j f ad]]
structure Pl where
 u:Nat
 i:Nat
 l:List bJ
def jk (l:List bJ) (x:bJ):List bJ:=if kP l x<0 then l++[x] else l
def shut (u i:Nat) (l:List bJ):List Pl:=if l.length=0 then [] else [⟨u,i,l⟩]
def pP (u:Nat):Nat->List cz->List bJ->List Pl
 | i,[],l=>shut u i l
 | i,x::xs,l=>if x.kind=4 then shut u i l++pP u (i+1) xs [] else pP u (i+1) xs (if zr x then jk l x.e else l)
def uU (I:Nat->List cz) (N:Nat):List Pl:=(List.range N).flatMap fun u=>pP u 0 (I u) []
def FY (h:Hp) (st:bI) (N:Nat) (F:Nat->List cz):Prop:=st.l=N/\∀ n,n<N->∃ (a:Xax) (t:bI),st.p=some a/\aF h (a.add (n*1)) 0 [t.v]/\FD h t.p t.l (F n)
structure kH (h0 h:Hp) (b:Nat) (s:bI) (xs:List bJ):Prop where
 ex:∃ cs:List (List Xab),SL h b 53 2 s.p s.l s.c cs/\cs.length=xs.length/\∀ i,(hi:i<xs.length)->(hc:i<cs.length)->∃ q m d,cs[i]=[.slice q m d,.int .u32 (xs[i].num:Int)]/\mY h0 q m xs[i]
def kH.nil (h0 h:Hp) (b:Nat):kH h0 h b ⟨none,0,0⟩ []:=⟨⟨[],SL.nil _ _ _ _,rfl,fun i hi=>absurd hi ai⟩⟩
variable {Y:bI}
def kH.len {h0:Hp} {xs:List bJ} (v:kH h0 O H Y xs):Y.l=xs.length:=by
 obtain ⟨cs,sl,hl,_⟩:=v.ex;rw [<- hl];exact sl.1
variable {e:List Nat}
def kH.aj {h0 h':Hp} {xs:List bJ} (v:kH h0 O H Y xs) (k:Ch e O h') (a:∀ i,i∈aG Y.p->i∉e):kH h0 h' H Y xs:=by
 obtain ⟨cs,sl,hl,c⟩:=v.ex;exact ⟨⟨cs,sl.bF k a,hl,c⟩⟩
def kH.kN {h0 h h':Hp} {b:Nat} {s:bI} {xs:List bJ} (v:kH h0 h b s xs) {W:List Nat} (k:Ch W h h') {a:TypeId} (c:∀ i,i∈W->∃ ys,br h i a ys) (d:53≠a):kH h0 h' b s xs:=by
 obtain ⟨cs,sl,hl,e⟩:=v.ex;exact ⟨⟨cs,SL.kN sl k c d,hl,e⟩⟩
def kH.vw {h0:Hp} {xs:List bJ} (v:kH h0 O H Y xs) (e:Ext h0 O) (c:xs.length<=2^40):VW O Y.p Y.l xs:=by
 obtain ⟨cs,sl,hl,f⟩:=v.ex;refine ⟨v.len,c,fun i hi=>?_⟩;obtain ⟨a,g,hc⟩:=SL.cells sl (i:=i) ad;obtain ⟨q,m,d,j,hv⟩:=f i hi ad;rw [j] at hc;exact ⟨a,q,m,d,g,hc,hv.aj e⟩
variable {f:TypeId}
def jY {sz:Nat} {zs:List (List Xab)} (s:SL O H f sz V U Z zs):∀ i,i∈aG V->∃ ys,br O i f ys:=SL.zu s
def Pe {sz:Nat} {zs:List (List Xab)} (s:SL O H f sz V U Z zs):∀ i,i∈aG V->i<O.size:=fun i hi=>by
 obtain ⟨ys,a⟩:=SL.zu s i hi;exact a.lt
def kH.cw {h0 h:Hp} {b:Nat} {s:bI} {xs:List bJ} (v:kH h0 h b s xs):∀ i,i∈aG s.p->b<=i/\i<h.size:=by
 obtain ⟨cs,sl,hl,a⟩:=v.ex;exact fun i hi=>⟨(sl.cw hi).1,Pe sl i hi⟩
def Xo (x:Pl × bI):List Xab:=[vI (x.1.u:Int),vI (x.1.i:Int),x.2.v]
structure nu (h0 h:Hp) (b bl:Nat) (s:bI) (pw:List (Pl × bI)):Prop where
 sl:SL h b 94 3 s.p s.l s.c (pw.map Xo)
 lits:∀ x,x∈pw->kH h0 h h0.size x.2 x.1.l/\∀ i,i∈aG x.2.p->i<bl
def Xx:Tryz.prog.underlying 38=some (.slice 94):=av
def Yd:(Tryz.prog.info? 94).map (fun i=>(i.zero,i.size,i.bytes))=some (some (.agg #[vI 0,vI 0,.slice none 0 0]),3,40):=av
def Ox:Tryz.prog.underlying 28=some (.slice 53):=av
def Qg:(Tryz.prog.info? 53).map (fun i=>(i.zero,i.size,i.bytes))=some (some (.agg #[.slice none 0 0,.int .u32 0]),2,32):=av
def WH (u i:Int) (p:Xac) (l c:Nat):Instr.fill (fun j=>some (j*3,3)) ((Array.range (1*3)).map ((Value.agg #[vI 0,vI 0,.slice none 0 0]).cells[· % (Value.agg #[vI 0,vI 0,.slice none 0 0]).cells.size]!)) [(0,.agg #[vI u,vI i,.slice p l c])]=some ([vI u,vI i,.slice p l c]:List Xab).toArray:=av
def Oi (p:Xac) (l c:Nat) (n:Int):Instr.fill (fun j=>some (j*2,2)) ((Array.range (1*2)).map ((Value.agg #[.slice none 0 0,.int .u32 0]).cells[· % (Value.agg #[.slice none 0 0,.int .u32 0]).cells.size]!)) [(0,.agg #[.slice p l c,.int .u32 n])]=some ([.slice p l c,.int .u32 n]:List Xab).toArray:=av
section
variable {L:Lp} {K:Xab->Hp->Prop} {h0 h:Hp}
variable {H:Xac->Nat->Nat->T} {O:bI}
def O5 {bl:Nat} {xs:List bJ} {q:Xac} {m d:Nat} {x:bJ} (v:kH h0 h bl O xs) (t:bl<=h.size) (w:xs.length<=2^30) (u:mY h0 q m x)
  (hk:∀ a h',kH h0 h' bl a (xs++[x])->Ch (aG O.p) h h'->H a.p a.l a.c L K h') :
  T.ef Xaz (Instr.buildSlice 28 1 #[(0,.agg #[.slice q m d,.int .u32 (x.num:Int)])]) false [(false,[.slice 0])] (fun (g:Xac) (j n:Nat)=>T.ef Xaz (Builtin.append_ #[28,28] 28 #[.slice O.p O.l O.c,.slice g j n]) false [(false,[.slice 0])] H) L K h:=by
 have hl:=v.len;obtain ⟨cs,sl,e,o⟩:=v.ex;refine fg (b:=bl) (vs:=[.slice q m d,.int .u32 (x.num:Int)]) Ox Qg rfl ad ad (Oi q m d x.num) rfl rfl sl t ad ad ?_;intro p' c' h' a k' _;refine hk ⟨p',O.l+1,c'⟩ h' ⟨⟨_,a,by simp [e],fun i hi hc=>?_⟩⟩ k'
 by_cases f:i<xs.length
 ·rw [ca9 (show i<cs.length from ad),ca9 f];exact o i f ad
 ·have r:i=xs.length:=by simp at hi; omega
  subst r;rw [cs9 (show cs.length<=xs.length from ad),cs9 (au9 _)];simp only [e,Nat.sub_self,List.getElem_cons_zero];exact ⟨q,m,d,rfl,u⟩
def Lz {bl:Nat} {t:bI} {pw:List (Pl × bI)} {u i:Nat} {xs:List bJ} (ps:nu h0 h h0.size bl O pw) (v:kH h0 h bl t xs) (e:h0.size<=bl) (w:bl<=h.size) (y:pw.length<=2^30)
  (hk:∀ a h',nu h0 h' h0.size h'.size a (pw++[(⟨u,i,xs⟩,t)])->Ch (aG O.p) h h'->H a.p a.l a.c L K h') :
  T.ef Xaz (Instr.buildSlice 38 1 #[(0,.agg #[vI (u:Int),vI (i:Int),.slice t.p t.l t.c])]) false [(false,[.slice 0])] (fun (f:Xac) (g m:Nat)=>T.ef Xaz (Builtin.append_ #[38,38] 38 #[.slice O.p O.l O.c,.slice f g m]) false [(false,[.slice 0])] H) L K h:=by
 have hl:O.l=pw.length:=by have:=ps.sl.1; rwa [ab9] at this
 refine fg (b:=h0.size) (vs:=[vI (u:Int),vI (i:Int),.slice t.p t.l t.c]) Xx Yd rfl ad ad (WH u i t.p t.l t.c) rfl rfl ps.sl ad ad ad ?_;intro p' c' h' a k' _;have hbx:=jY ps.sl;have z:=k'.size;refine hk ⟨p',O.l+1,c'⟩ h' ⟨by rw [ao9]; exact a,fun x d=>?_⟩ k';rcases as9.1 d with d | d
 ·obtain ⟨h1,h2⟩:=ps.lits x d;exact ⟨h1.kN k' hbx bQ,fun j n=>by have:=(h1.cw j n).2; omega⟩
 ·rw [ak9.1 d];have hv:=v.cw;obtain ⟨cs,sl,o,q⟩:=v.ex;have r:kH h0 h h0.size t xs:=⟨⟨cs,sl.mono e,o,q⟩⟩
  exact ⟨r.kN k' hbx bQ,fun j n=>by have:=(hv j n).2; omega⟩
end
def Ey {its:List cz} {l:List bJ} (h:U<its.length):pP H U (its.drop U) l=if its[U].kind=4 then shut H U l++pP H (U+1) (its.drop (U+1)) [] else pP H (U+1) (its.drop (U+1)) (if zr its[U] then jk l its[U].e else l):=by
 rw [aw9 h] <;> rfl
def JT {its:List cz} {l:List bJ}:pP H its.length (its.drop its.length) l=shut H its.length l:=by
 rw [de9] <;> rfl
def FC (I:Nat->List cz) (N n:Nat):List Pl:=((List.range N).drop n).flatMap fun u=>pP u 0 (I u) []
variable {g:Nat->List cz}
def La (h:U<H):FC g H U=pP U 0 ((g U).drop 0) []++FC g H (U+1):=by
 unfold FC;rw [aw9 (by simpa using h),cd9]
 simp
def UO (h:H<=U):FC g H U=[]:=by
 unfold FC;rw [ep9 (by simpa using h)] <;> rfl
def nu.Lo {h0 h':Hp} {bl:Nat} {pw:List (Pl × bI)} (v:nu h0 O H bl Y pw) (k:Ch e O h') (c:∀ i,i∈e->∃ ys,br O i 53 ys) (d:∀ i,i∈e->bl<=i):nu h0 h' H bl Y pw :=
 ⟨SL.kN v.sl k c bQ,fun x a=>⟨(v.lits x a).1.aj k fun i hi f=>by have:=(v.lits x a).2 i hi; have:=d i f; omega,(v.lits x a).2⟩⟩
def nu.ext {h0 h':Hp} {bl:Nat} {pw:List (Pl × bI)} (v:nu h0 O H bl Y pw) (e:Ext O h'):nu h0 h' H bl Y pw:=v.Lo e ai ai
def nu.nil (h0 h:Hp) (b bl:Nat):nu h0 h b bl ⟨none,0,0⟩ []:=⟨SL.nil _ _ _ _,ai⟩
def RE (u i:Nat) (l:List bJ):(shut u i l).length<=1:=by
 unfold shut;split <;> simp
variable {h:List Lb}
def DE {su lb st sd : bI} (pr : Dv O H su lb st sd h) {N : Nat} {I : Nat -> List cz} (hN : N <= 2 ^ 29) (rt : FY O st N I) (hI : ∀ n, n < N -> (I n).length <= 2 ^ 29) (hR : (uU I N).length <= 2 ^ 30) :
    HC Xaz 14 #[.pointer (some ⟨H, 0, none⟩)] O fun v h' => Ext O h' /\ ∃ s pw, v = bI.v s /\ nu O h' O.size h'.size s pw /\ pw.map (·.1) = uU I N := by
  refine aX (args := [.pointer (some ⟨H, 0, none⟩)]) mixed Tryz.func14 av (ob (some ⟨H, 0, none⟩)) ?_;unfold jy aR aY bq aH aT cE bd aC aZ aM cR;have hT : FC I N 0 = uU I N := rfl;generalize uU I N = R at hT hR
  refine aQ (cs := kA) (fun y k h' => ∃ (n : Nat) (s : bI) (pw : List (Pl × bI)) (bl : Nat), y.1 = (s.p, s.l, s.c) /\ y.2.1 = (n : Int) /\ k = N - n /\ n <= N /\ Ext O h' /\ nu O h' O.size bl s pw /\ O.size <= bl /\ bl <= h'.size /\ pw.map (·.1) ++ FC I N n = R) ((none, 0, 0), (0 : Int), ()) N rfl
    ⟨0, ⟨none, 0, 0⟩, [], O.size, rfl, rfl, rfl, ad, Ch.refl _ _, nu.nil _ _ _ _, au9 _, au9 _, hT⟩ ?_
  rintro ⟨⟨p1, l2, c3⟩, n4, ⟨⟩⟩ k h1 ⟨n, s, pw, bl, S, hn, rfl, hle, e1, ps, f, M, d⟩;simp only [Prod.mk.injEq] at S hn;obtain ⟨rfl, rfl, rfl⟩ := S;subst hn;refine ak ?_;refine bf rfl ?_;rw [ay];refine aw (pr.aj e1).box ((st.p, st.l, st.c), ()) (ak ?_);rw [rt.1];refine aK (fun q => ?_) (fun q => ?_)
  · have hn : n < N :=ad
    have hIn := hI n hn;rw [La hn] at d;obtain ⟨a, t, ha, hc, vi⟩ := rt.2 n hn;have htl := vi.len
    have rd : ∀ {h3 : Hp} {K : Xab -> Hp -> Prop} {Lq : Lp} {kk : Xac -> Nat -> Nat -> T}, Ext O h3 -> kk t.p t.l t.c Lq K h3 -> T.bi (some (⟨H, 0, none⟩ : Xax)) (fun (a11 : Xax) => T.af (a11.add 2) [.slice 46] <| fun (U : Xac) (V l14:Nat) =>
        T.need (((0 : Int) <= (n : Int)) /\ ((n : Int) < (V : Int))) <| T.bi U <| fun (a15 : Xax) => T.af (a15.add ((Int.toNat (n : Int)) * 1)) [.slice 55] kk) Lq K h3 := by
      intro h3 K Lq kk B hk;refine bf rfl ?_;rw [ay];refine aw (pr.aj B).box ((st.p, st.l, st.c), ()) (ak ?_);refine dy ⟨ad, by rw [rt.1]; omega⟩ (bf ha ?_);rw [cr n];exact ar ((t.p, t.l, t.c), ()) (aI B ai _ _ hc) hk
    refine aQ (cs := AJ) (fun y k h' => ∃ (i : Nat) (s w : bI) (pw : List (Pl × bI)) (xs : List bJ) (bl : Nat), y.1 = (s.p, s.l, s.c) /\ y.2.1 = (w.p, w.l, w.c) /\ y.2.2.1 = (i : Int) /\ k = (I n).length + 1 - i /\ i <= (I n).length + 1 /\ Ext O h' /\ nu O h' O.size bl s pw /\ kH O h' bl w xs /\ O.size <= bl /\ bl <= h'.size /\ xs.length <= i /\
        pw.map (·.1) ++ ((if i <= (I n).length then pP n i ((I n).drop i) xs else []) ++ FC I N (n + 1)) = R) ((s.p, s.l, s.c), (none, 0, 0), (0 : Int), ()) ((I n).length + 1) rfl
      ⟨0, s, ⟨none, 0, 0⟩, pw, [], bl, rfl, rfl, rfl, rfl, ad, e1, ps, kH.nil _ _ _, f, M, au9 _, by rw [af9 ad]; exact d⟩ ?_
    clear d ps f M pw bl e1;rintro ⟨⟨p9, l10, c11⟩, ⟨U, V, c14⟩, n15, ⟨⟩⟩ k h2 ⟨i, s, w, pw, xs, bl, S, hw, hi, rfl, hil, o, ps, v, f, M, hxs, d⟩;simp only [Prod.mk.injEq] at S hw hi;obtain ⟨rfl, rfl, rfl⟩ := S;obtain ⟨rfl, rfl, rfl⟩ := hw;subst hi;refine ak ?_
    have hpl : pw.length <= 2 ^ 30 := by
      have := aq9 List.length d;rw [ae9, ab9] at this;omega
    have hwl := v.len;have hwi := hY i;refine rd o ?_;refine aK (fun q1 => ?_) (fun q1 => ?_)
    · have W : i <= (I n).length :=ad
      rw [af9 W] at d;refine rd o ?_
      -- closing a pool
      have close : (if i + 1 <= (I n).length then pP n (i + 1) ((I n).drop (i + 1)) [] else []) = (if i + 1 <= (I n).length then pP n (i + 1) ((I n).drop (i + 1)) [] else []) -> ∀ rest : List Pl, pw.map (·.1) ++ (shut n i xs ++ rest) = R -> rest = (if i + 1 <= (I n).length then pP n (i + 1) ((I n).drop (i + 1)) [] else []) ++ FC I N (n + 1) -> ∀ X, (cond (decide ((w.l : Int) > (0 : Int)))
          (T.ef Xaz (Instr.buildSlice 38 1 #[(0, .agg #[vI (n : Int), vI (i : Int), .slice w.p w.l w.c])]) false [(false, [.slice 0])] <| fun (p32 : Xac) (l33 l34:Nat) =>
          T.ef Xaz (Builtin.append_ #[38, 38] 38 #[.slice s.p s.l s.c, .slice p32 l33 l34]) false [(false, [.slice 0])] <| fun (p35 : Xac) (l36 l37:Nat) =>
          T.again 1 [.slice p35 l36 l37, .slice none 0 0, vI (IntKind.wrap .i64 ((i : Int) + (1 : Int)))])
          (T.again 1 [.slice s.p s.l s.c, .slice none 0 0, vI (IntKind.wrap .i64 ((i : Int) + (1 : Int)))])) ([X] ++ [Jl (cs := AJ) (fun y k h' => ∃ (i : Nat) (s w : bI) (pw : List (Pl × bI)) (xs : List bJ) (bl : Nat), y.1 = (s.p, s.l, s.c) /\ y.2.1 = (w.p, w.l, w.c) /\ y.2.2.1 = (i : Int) /\ k = (I n).length + 1 - i /\ i <= (I n).length + 1 /\ Ext O h' /\ nu O h' O.size bl s pw /\ kH O h' bl w xs /\ O.size <= bl /\ bl <= h'.size /\ xs.length <= i /\
            pw.map (·.1) ++ ((if i <= (I n).length then pP n i ((I n).drop i) xs else []) ++ FC I N (n + 1)) = R) ((I n).length + 1 - i)]) (fun v h' => Ext O h' /\ ∃ s pw, v = bI.v s /\ nu O h' O.size h'.size s pw /\ pw.map (·.1) = R) h2 := by
        intro _ rest d r X;refine aK (fun E => ?_) (fun E => ?_)
        · refine Lz (u := n) (i := i) (xs := xs) ps v f M hpl ?_
          intro m h3 ps3 k3;have B : Ext O h3 := Ch.trans o k3 (fun j F hl => by have := (ps.sl.cw F).1; omega);have z := k3.size;have G : shut n i xs = [⟨n, i, xs⟩] := by unfold shut; rw [ac9 ad]
          rw [G, r] at d
          exact aD (cs := AJ) ((m.p, m.l, m.c), (none, 0, 0), ((i + 1 : Nat) : Int), ()) ((I n).length + 1 - (i + 1)) rfl ad (aq9 (fun z => [Value.slice m.p m.l m.c, Value.slice none 0 0, Value.int .i64 z]) hwi)
            ⟨i + 1, m, ⟨none, 0, 0⟩, _, [], h3.size, rfl, rfl, rfl, rfl, ad, B, ps3, kH.nil _ _ _, ad, au9 _, ai, by rw [ao9, bb9]; exact d⟩
        · have hx0 : xs = [] := bs9 ad
          have G : shut n i xs = [] := by unfold shut; rw [af9 (by rw [hx0]; rfl)]
          rw [G, r] at d
          exact aD (cs := AJ) ((s.p, s.l, s.c), (none, 0, 0), ((i + 1 : Nat) : Int), ()) ((I n).length + 1 - (i + 1)) rfl ad (aq9 (fun z => [Value.slice s.p s.l s.c, Value.slice none 0 0, Value.int .i64 z]) hwi)
            ⟨i + 1, s, ⟨none, 0, 0⟩, pw, [], bl, rfl, rfl, rfl, rfl, ad, o, ps, kH.nil _ _ _, f, M, ai, d⟩
      refine ao (fun E => ?_) (fun E => ?_)
      · have E : (i : Int) = (t.l : Int) := eq_of_beq E
        have Y : i = (I n).length :=ad
        refine close rfl (FC I N (n + 1)) ?_ ?_ _
        · rw [Y, JT] at d
          rw [Y];exact d
        · rw [ac9 ad]
          rfl
      have E : ¬ (i : Int) = (t.l : Int) := ex9 E;have Z : i < (I n).length :=ad
      rw [Ey Z] at d;obtain ⟨aa, P, mm, Q, C, hcc, hv⟩ := vi.cells i Z;generalize (I n)[i] = x at d hcc hv;refine rd o ?_;refine bK C ?_;rw [cr i];have A : ∀ {h3 : Hp}, Ext O h3 -> aF h3 (aa.add (i * 10)) 0 (encI P mm Q x) := fun e => aI e ai _ _ hcc
      refine ar (x.kind, ()) ⟨(A o).1, trivial⟩ (ak ?_);refine ao (fun J => ?_) (fun J => ?_)
      · have J : x.kind = 4 := eq_of_beq J
        rw [af9 J, bb9] at d;refine close rfl _ d ?_ _;rw [af9 ad]
      have J : ¬ x.kind = 4 := ex9 J;rw [ac9 J] at d;refine rd o ?_;refine bK C ?_;refine ar (x.kind, x.name, x.inst.op, x.inst.a, x.inst.b, x.inst.n, x.inst.form, (P, mm, Q), (x.e.num : Int), x.n, ()) (A o) (ak ?_);refine aE (Da (hv.aj o)) ?_;rintro _ h3 ⟨rfl, B⟩;refine ⟨(zr x, ()), rfl, ak ?_⟩;have e03 := o.trans B
      have hE : ∀ {h5 : Hp}, Ext O h5 -> aF h5 ((aa.add (i * 10)).add 7) 0 [.slice P mm Q, .int .u32 (x.e.num : Int)] := fun e => by
        have := (A e).2.2.2.2.2.2.2;exact dT [.slice P mm Q, .int .u32 (x.e.num : Int)] 7 0 ⟨this.1, this.2.1, trivial⟩
      have D : ∀ (h5 : Hp) (e : Ext h2 h5) X, pw.map (·.1) ++ (pP n (i + 1) ((I n).drop (i + 1)) xs ++ FC I N (n + 1)) = R -> T.again 1 [.slice s.p s.l s.c, .slice w.p w.l w.c, vI (IntKind.wrap .i64 ((i : Int) + (1 : Int)))] ([X] ++ [Jl (cs := AJ) (fun y k h' => ∃ (i : Nat) (s w : bI) (pw : List (Pl × bI)) (xs : List bJ) (bl : Nat), y.1 = (s.p, s.l, s.c) /\ y.2.1 = (w.p, w.l, w.c) /\ y.2.2.1 = (i : Int) /\ k = (I n).length + 1 - i /\ i <= (I n).length + 1 /\ Ext O h' /\ nu O h' O.size bl s pw /\ kH O h' bl w xs /\ O.size <= bl /\ bl <= h'.size /\ xs.length <= i /\
            pw.map (·.1) ++ ((if i <= (I n).length then pP n i ((I n).drop i) xs else []) ++ FC I N (n + 1)) = R) ((I n).length + 1 - i)]) (fun v h' => Ext O h' /\ ∃ s pw, v = bI.v s /\ nu O h' O.size h'.size s pw /\ pw.map (·.1) = R) h5 := by
        intro h5 e X d;have z := e.size
        exact aD (cs := AJ) ((s.p, s.l, s.c), (w.p, w.l, w.c), ((i + 1 : Nat) : Int), ()) ((I n).length + 1 - (i + 1)) rfl ad (aq9 (fun z => [Value.slice s.p s.l s.c, Value.slice w.p w.l w.c, Value.int .i64 z]) hwi)
          ⟨i + 1, s, w, pw, xs, bl, rfl, rfl, rfl, rfl, ad, o.trans e, ps.ext e, v.aj e ai, f, ad, ad, by rw [af9 ad]; exact d⟩
      cases hld : zr x with
      | false =>
        refine cv rfl ?_;rw [hld] at d;exact D h3 B _ d
      | true =>
        refine bX rfl ?_;rw [hld, af9 rfl] at d;refine rd e03 ?_;refine bK C ?_;refine ar ((P, mm, Q), (x.e.num : Int), ()) (hE e03) (ak ?_);refine aE (HQ ((v.aj B ai).vw e03 ad) (hv.lin.aj e03)) ?_;rintro _ h4 ⟨rfl, e4⟩;refine ⟨(kP xs x.e, ()), rfl, ak ?_⟩;have e24 := B.trans e4;have e04 := o.trans e24;unfold jk at d;refine aK (fun q4 => ?_) (fun q4 => ?_)
        · rw [af9 q4] at d
          refine rd e04 ?_;refine bK C ?_;refine ar ((P, mm, Q), (x.e.num : Int), ()) (hE e04) (ak ?_);have z4 := e24.size;have v4 := v.aj e24 ai;refine O5 v4 ad ad hv.lin ?_;intro m h5 v5 k5;have hbk := v4.cw;have e05 : Ext O h5 := Ch.trans e04 k5 (fun j F hl => by have := hbk j F; omega);have z5 := k5.size
          have ps5 := (ps.ext e24).Lo k5 (by
            obtain ⟨cs, sl, _, _⟩ := v4.ex;exact jY sl) (fun j F => (hbk j F).1)
          exact aD (cs := AJ) ((s.p, s.l, s.c), (m.p, m.l, m.c), ((i + 1 : Nat) : Int), ()) ((I n).length + 1 - (i + 1)) rfl ad (aq9 (fun z => [Value.slice s.p s.l s.c, Value.slice m.p m.l m.c, Value.int .i64 z]) hwi)
            ⟨i + 1, s, m, pw, _, bl, rfl, rfl, rfl, rfl, ad, e05, ps5, v5, f, ad, by simp; omega, by rw [af9 ad]; exact d⟩
        · rw [ac9 q4] at d
          exact D h4 e24 _ d
    · rw [ac9 ad, dc9] at d
      have hw := hY n;exact aD (cs := kA) ((s.p, s.l, s.c), ((n + 1 : Nat) : Int), ()) (N - (n + 1)) rfl ad (aq9 (fun z => [Value.slice s.p s.l s.c, Value.int .i64 z]) hw) ⟨n + 1, s, pw, bl, rfl, rfl, rfl, ad, o, ps, f, M, d⟩
  · rw [UO ad, bz9] at d
    refine ⟨e1, s, pw, rfl, ⟨ps.sl, fun x hx => ⟨(ps.lits x hx).1, fun j F => by have := (ps.lits x hx).2 j F; omega⟩⟩, d⟩
def zm (R:List Pl) (u i:Nat) (x:bJ):Option (Nat × Int):=match R.findIdx? fun p=>p.u==u && decide (i<p.i) with
 | some k=>some (k,kP (R[k]?.map (·.l) |>.getD []) x)
 | none=>none
def jI (I:Nat->List cz) (N:Nat) (u i:Int):Option (Nat × Int) :=
 if u<0\/(N:Int)<=u\/i<0 then none else match (I u.toNat)[i.toNat]? with
 | some x=>if zr x then zm (uU I N) u.toNat i.toNat x.e else none
 | none=>none
def Yg:Option (Nat × Int)->Xab
 | none=>.tuple #[vI 0,vI 0,.bool false]
 | some q=>.tuple #[vI (q.1:Int),vI q.2,.bool true]
def U' {h0:Hp} {bl:Nat} {pw:List (Pl × bI)} (v:nu h0 O H bl Y pw) (hk:U<pw.length):∃ a,Y.p=some a/\aF O (a.add (U*3)) 0 [vI (pw[U].1.u:Int),vI (pw[U].1.i:Int),pw[U].2.v]/\kH h0 O h0.size pw[U].2 pw[U].1.l:=by
 obtain ⟨a,c,hc⟩:=SL.cells v.sl (i:=U) (by rw [ab9]; exact hk);rw [am9] at hc;exact ⟨a,c,hc,(v.lits _ (al9 hk)).1⟩
def HU {α:Type} {xs:List α} {p:α->Bool} {i:Nat} (hi:i<xs.length) (h:∀ j,(a:j<xs.length)->j<i->p xs[j]=false) (ht:p xs[i]=true):xs.findIdx? p=some i:=by
 rw [be9];exact ⟨hi,ht,fun j a=>by rw [h j ad a]; simp⟩
def NN {α:Type} {xs:List α} {p:α->Bool} (h:∀ j,(a:j<xs.length)->p xs[j]=false):xs.findIdx? p=none:=by
 rw [bu9];intro y b;obtain ⟨j,a,rfl⟩:=bg9 b;rw [h j a]
def RH {su lb st sd:bI} (pr:Dv O H su lb st sd h) {N:Nat} {I:Nat->List cz} (hN:N<=2^29) (M:FY O st N I) (hI:∀ n,n<N->(I n).length<=2^29) (hR:(uU I N).length<=2^30) (hl:∀ p,p∈uU I N->p.l.length<=2^40) (u i:Int) :
  HC Xaz 12 #[.pointer (some ⟨H,0,none⟩),vI u,vI i] O fun v h'=>Ext O h'/\v=Yg (jI I N u i):=by
 refine aX (args:=[.pointer (some ⟨H,0,none⟩),vI u,vI i]) mixed Tryz.func12 av (pF (some ⟨H,0,none⟩) u i) ?_;unfold ka aR aY bq aH aT cE bM aC bj aM ct;have no:∀ {h':Hp},Ext O h'->jI I N u i=none->(T.ret (.tuple #[vI (0:Int),vI (0:Int),.bool false])) [] (fun v h'=>Ext O h'/\v=Yg (jI I N u i)) h':=fun e hq=>⟨e,by rw [hq]; rfl⟩
 have top:∀ {h3:Hp} {K:Xab->Hp->Prop} {E:Lp} {F:Xac->Nat->Nat->T},Ext O h3->F st.p N st.c E K h3->T.bi (some (⟨H,0,none⟩:Xax)) (fun (a11:Xax)=>T.af (a11.add 2) [.slice 46] F) E K h3:=by
  intro h3 K E F P hk;refine bf rfl ?_;rw [ay];refine aw (pr.aj P).box ((st.p,st.l,st.c),()) (ak ?_);rw [M.1];exact hk
 refine ao ?_ ?_<;>intro q
 ·have q:=ah9 q;exact no (Ch.refl _ _) (by unfold jI; rw [af9 (.inl q)])
 have q:=ar9 q;refine top (Ch.refl _ _) ?_;refine ao ?_ ?_<;>intro q1
 ·have q1:=ah9 q1;exact no (Ch.refl _ _) (by unfold jI; rw [af9 (.inr (.inl ad))])
 have q1:=ar9 q1;refine ao ?_ ?_<;>intro q2
 ·have q2:=ah9 q2;exact no (Ch.refl _ _) (by unfold jI; rw [af9 (.inr (.inr q2))])
 have q2:=ar9 q2;obtain ⟨n,rfl⟩:∃ n:Nat,u=(n:Int):=⟨u.toNat,ad⟩
 obtain ⟨j,rfl⟩:∃ j:Nat,i=(j:Int):=⟨i.toNat,ad⟩
 have hn:n<N:=ad
 have d:jI I N (n:Int) (j:Int)=match (I n)[j]? with
   | some x=>if zr x then zm (uU I N) n j x.e else none
   | none=>none:=by
  unfold jI;rw [ac9 ad] <;> rfl
 obtain ⟨a,t,ha,hc,vi⟩:=M.2 n hn;have htl:=vi.len;have row:∀ {h3:Hp} {K:Xab->Hp->Prop} {E:Lp} {F:Xac->Nat->Nat->T},Ext O h3->F t.p t.l t.c E K h3->T.need (((0:Int)<=(n:Int))/\((n:Int)<(N:Int))) (T.bi st.p <| fun (a15:Xax)=>T.af (a15.add ((Int.toNat (n:Int))*1)) [.slice 55] F) E K h3:=by
  intro h3 K E F P hk;refine bK ha ?_;rw [cr n];exact ar ((t.p,t.l,t.c),()) (aI P ai _ _ hc) hk
 refine top (Ch.refl _ _) (row (Ch.refl _ _) ?_);refine ao ?_ ?_<;>intro q3
 ·have q3:=ah9 q3;exact no (Ch.refl _ _) (by rw [d,bq9 ad])
 have q3:=ar9 q3;have hj:j<(I n).length:=ad
 rw [ad9 hj] at d;obtain ⟨aa,S,mm,U,V,G,hv⟩:=vi.cells j hj;generalize (I n)[j]=x at d G hv;simp only at d;refine top (Ch.refl _ _) (row (Ch.refl _ _) ?_);refine bK V ?_;rw [cr j];have W:∀ {h3:Hp},Ext O h3->aF h3 (aa.add (j*10)) 0 (encI S mm U x):=fun e=>aI e ai _ _ G
 refine ar (x.kind,x.name,x.inst.op,x.inst.a,x.inst.b,x.inst.n,x.inst.form,(S,mm,U),(x.e.num:Int),x.n,()) G (ak ?_);refine aE (Da hv) ?_;rintro _ h1 ⟨rfl,X⟩;refine ⟨(zr x,()),rfl,ak ?_⟩;cases Y:zr x with
 | false =>
  rw [Y] at d;exact bX rfl (no X d)
 | true =>
 rw [Y,af9 rfl] at d;refine cv rfl ?_;refine aE (DE (pr.aj X) hN ⟨M.1,fun n hn=>by
  obtain ⟨a,t,ha,hc,hv⟩:=M.2 n hn;exact ⟨a,t,ha,aI X ai _ _ hc,hv.aj X⟩⟩ hI hR) ?_
 rintro _ h2 ⟨e2,s,pw,rfl,ps,hpw⟩;refine ⟨((s.p,s.l,s.c),()),rfl,ak ?_⟩;have e02:=X.trans e2;have hsl:s.l=pw.length:=by have:=ps.sl.1; rwa [ab9] at this
 have hpl:pw.length=(uU I N).length:=by rw [<- hpw,ab9]
 have C:∀ k,(hk:k<pw.length)->(hk2:k<(uU I N).length)->pw[k].1=(uU I N)[k]:=by
  intro k hk hk2
  have:=am9 (l:=pw) (f:=(·.1)) (i:=k) (h:=by rw [ab9]; exact hk)
  rw [<- this]
  congr 1
 generalize uU I N=R at d hR hl hpl C;refine aQ (cs:=V') (fun y m h'=>∃ k:Nat,y.2.2.2.1=(k:Int)/\m=s.l-k/\k<=s.l/\h'=h2/\∀ e,(Q:e<R.length)->e<k->(R[e].u==n && decide (j<R[e].i))=false) ((0:Int),(0:Int),false,(0:Int),()) s.l rfl ⟨0,rfl,rfl,ad,rfl,fun e Q hlt=>ad⟩ ?_;rintro ⟨o,r,w,n43,⟨⟩⟩ m h2 ⟨k,hk,rfl,hkl,rfl,J⟩;simp only at hk;subst hk;refine ak ?_;have hw:=hY k;refine aK ?_ ?_<;>intro g1
 ·have Z:k<pw.length:=ad
  have A:k<R.length:=ad
  obtain ⟨b,hb,B,D⟩:=U' ps Z;rw [C k Z A] at B D;have go:(R[k].u==n && decide (j<R[k].i))=false->∀ e,(Q:e<R.length)->e<k+1->(R[e].u==n && decide (j<R[e].i))=false:=by
   intro hf e Q hlt
   by_cases hek:e=k
   ·subst hek; exact hf
   ·exact J e Q ad
  refine bK hb ?_;rw [cr k];refine ar ((R[k].u:Int),()) ⟨B.1,trivial⟩ (ak ?_);refine ao ?_ ?_<;>intro g2
  ·have g2:(R[k].u:Int)=(n:Int):=eq_of_beq g2;refine bK hb ?_;refine ar ((R[k].i:Int),()) (dT [vI (R[k].i:Int)] 1 0 ⟨B.2.1,trivial⟩) (ak ?_);refine aK ?_ ?_<;>intro g3
   ·refine bK hb ?_;have h2c:aF h2 ((b.add (k*3)).add 2) 0 [pw[k].2.v]:=dT [pw[k].2.v] 2 0 ⟨B.2.2.1,trivial⟩;refine ar ((pw[k].2.p,pw[k].2.l,pw[k].2.c),()) h2c (ak ?_);refine bf rfl ?_;rw [ay];refine aw (pr.aj e02).box ((st.p,st.l,st.c),()) (ak ?_);rw [M.1];refine bK ha ?_;rw [cr n];refine ar ((t.p,t.l,t.c),()) (aI e02 ai _ _ hc) (ak ?_);refine bK V ?_;have hE:∀ {h5:Hp},Ext O h5->aF h5 ((aa.add (j*10)).add 7) 0 [.slice S mm U,.int .u32 (x.e.num:Int)]:=fun e=>by
     have:=(W e).2.2.2.2.2.2.2
     exact dT [.slice S mm U,.int .u32 (x.e.num:Int)] 7 0 ⟨this.1,this.2.1,trivial⟩
    refine ar ((S,mm,U),(x.e.num:Int),()) (hE e02) (ak ?_);refine aE (HQ (D.vw e2 (hl _ (al9 A))) (hv.lin.aj e02)) ?_;rintro _ h3 ⟨rfl,P⟩;refine ⟨(kP R[k].l x.e,()),rfl,ak ?_⟩;have e03:=e02.trans P;have s1:=aI e03 ai _ _ hc;have s2:=(pr.aj e03).box.cells (off:=0+2) [.slice st.p st.l st.c] rfl;rw [M.1] at s2;refine ⟨⟨s1,s2,trivial⟩,⟨hE e03,s1,s2,aI P ai _ _ h2c,trivial⟩,e03,?_⟩;rw [d];unfold zm;rw [HU A J (by simp; omega)];simp only [List.getElem?_eq_getElem A,Option.map_some,Option.getD_some] <;> rfl
   ·exact aD (cs:=V') (o,r,w,((k+1:Nat):Int),()) (s.l-(k+1)) rfl ad (aq9 (fun z=>[Value.int .i64 o,Value.int .i64 r,Value.bool w,Value.int .i64 z]) hw) ⟨k+1,rfl,rfl,ad,rfl,go (by simp; omega)⟩
  ·have g2:¬ (R[k].u:Int)=(n:Int):=ex9 g2;exact aD (cs:=V') (o,r,w,((k+1:Nat):Int),()) (s.l-(k+1)) rfl ad (aq9 (fun z=>[Value.int .i64 o,Value.int .i64 r,Value.bool w,Value.int .i64 z]) hw) ⟨k+1,rfl,rfl,ad,rfl,go (by simp; omega)⟩
 ·refine no e02 ?_;rw [d];unfold zm;rw [NN fun e Q=>J e Q ad]
def MP (j:yx O) (v:iM O V H a):HC Xaz 41 #[.agg (encI V H U a).toArray] O fun w h'=>w=.bool (zr a)/\Ext O h':=by
 refine aX (args:=[.agg (encI V H U a).toArray]) mixed Tryz.func41 av (zD a.kind a.name a.inst.op a.inst.a a.inst.b a.inst.n a.inst.form V H U a.e.num a.n) ?_;unfold wa bM aC bH bZ ct;refine bm ?_;intro h1 d f z1;have d:br h1 O.size 55 (encI V H U a):=d;rw [ay];refine aw d (a.inst.op,()) (ak ?_);refine aE (KV (j.aj f ai) a.inst.op v.op.1 v.op.2) ?_;rintro _ h2 ⟨s,b,rfl,k⟩;refine ⟨(s,b,((dq a.inst.op:Nat):Int),decide (dq a.inst.op≠0),()),rfl,ak ?_⟩;refine bm ?_;intro r m o z3;refine bP m ?_;intro h4 g p z4;have g:br h4 h2.size 171 [.string s,.int .u8 b,vI ((dq a.inst.op:Nat):Int)]:=g;have i:Ext h2 h4:=bU o p;have e14:=k.trans i;refine aw (d.aj e14 ai) (a.kind,()) (ak ?_);unfold zr;cases t:a.kind==(2:Int) with
 | false=>exact cv rfl ⟨rfl,f.trans e14⟩
 | true =>
  refine bX rfl ?_;rw [ay];refine aw g (((dq a.inst.op:Nat):Int),()) ?_;exact ⟨rfl,f.trans e14⟩
structure Wh (h:Hp) (p:Xac) (l:Nat) (ps:List Pl):Prop where
 len:l=ps.length
 many:ps.length<=2^40
 cells:∀ i,(hi:i<ps.length)->∃ (a:Xax) (w:bI),p=some a/\aF h (a.add (i*3)) 0 [vI (ps[i].u:Int),vI (ps[i].i:Int),.slice w.p w.l w.c]/\VW h w.p w.l ps[i].l
def VW.aj {h h':Hp} {p:Xac} {l:Nat} {xs:List bJ} (v:VW h p l xs) (e:Ext h h'):VW h' p l xs :=
 ⟨v.len,v.many,fun i hi=>by
  obtain ⟨a,q,m,d,b,hc,hv⟩:=v.cells i hi;exact ⟨a,q,m,d,b,aI e ai _ _ hc,hv.aj e⟩⟩
def Wh.aj {h h':Hp} {p:Xac} {l:Nat} {ps:List Pl} (v:Wh h p l ps) (e:Ext h h'):Wh h' p l ps :=
 ⟨v.len,v.many,fun i hi=>by
  obtain ⟨a,w,b,hc,hv⟩:=v.cells i hi;exact ⟨a,w,b,aI e ai _ _ hc,hv.aj e⟩⟩
def nu.vw {h0 h:Hp} {b bl:Nat} {s:bI} {pw:List (Pl × bI)} (v:nu h0 h b bl s pw) (e:Ext h0 h) (c:pw.length<=2^40) (hl:∀ p,p∈pw.map (·.1)->p.l.length<=2^40):Wh h s.p s.l (pw.map (·.1)) :=
 ⟨by have:=v.sl.1; rw [ab9] at this; rw [ab9]; exact this,by rw [ab9]; exact c,fun i hi=>by
  rw [ab9] at hi;obtain ⟨a,d,hc,hv⟩:=U' v hi;rw [am9];exact ⟨a,pw[i].2,d,hc,hv.vw e (hl _ (bc9 (al9 hi)))⟩⟩
def Mu {ps:List Pl} (v:Wh O V H ps) (w:Wh O b U ps):HC Xaz 13 #[.slice V H Z,.slice b U c] O fun z h'=>z=.bool true/\Ext O h':=by
 refine aX (args:=[.slice V H Z,.slice b U c]) mixed Tryz.func13 av (pB V H Z b U c) ?_;unfold j9 aR aY bq aH aT aC bH dX aM ct;have hl:=v.len;have hm:=w.len;have hmany:=v.many;refine cv (by simp; omega) ?_;refine aQ (cs:=jP) (fun y k h'=>∃ i:Nat,y.2.1=(i:Int)/\k=H-i/\i<=H/\Ext O h') (false,(0:Int),()) H rfl ⟨0,rfl,rfl,ad,Ch.refl _ _⟩ ?_;rintro ⟨W,n3,⟨⟩⟩ k h1 ⟨i,hi,rfl,X,E⟩;simp only at hi;subst hi;refine ak ?_;refine aK ?_ ?_<;>intro g
 ·have r:i<ps.length:=ad
  obtain ⟨a,s,A,hc,hv⟩:=(v.aj E).cells i r;obtain ⟨f,t,F,G,hw⟩:=(w.aj E).cells i r;generalize ps[i]=x at hc hv G hw;refine bK A ?_;rw [cr i];refine ar ((x.u:Int),()) ⟨hc.1,trivial⟩ (ak ?_);refine bK F ?_;refine ar ((x.u:Int),()) ⟨G.1,trivial⟩ (ak ?_);refine cv ai ?_;refine bK A ?_;refine ar ((x.i:Int),()) (dT [vI (x.i:Int)] 1 0 ⟨hc.2.1,trivial⟩) (ak ?_);refine bK F ?_;refine ar ((x.i:Int),()) (dT [vI (x.i:Int)] 1 0 ⟨G.2.1,trivial⟩) (ak ?_);refine cv ai ?_;have I:∀ {B:Hp},Ext h1 B->aF B ((a.add (i*3)).add 2) 0 [.slice s.p s.l s.c]:=fun e=>aI e ai _ _ (dT [.slice s.p s.l s.c] 2 0 ⟨hc.2.2.1,trivial⟩)
  have J:∀ {B:Hp},Ext h1 B->aF B ((f.add (i*3)).add 2) 0 [.slice t.p t.l t.c]:=fun e=>aI e ai _ _ (dT [.slice t.p t.l t.c] 2 0 ⟨G.2.2.1,trivial⟩)
  refine bK A ?_;refine ar ((s.p,s.l,s.c),()) (I (Ch.refl _ _)) (ak ?_);refine bK F ?_;refine ar ((t.p,t.l,t.c),()) (J (Ch.refl _ _)) (ak ?_);have hsl:=hv.len;have htl:=hw.len;have hsm:=hv.many;refine cv (by simp; omega) ?_;refine aQ (cs:=jP) (fun y k h'=>∃ j:Nat,y.2.1=(j:Int)/\k=s.l-j/\j<=s.l/\Ext h1 h') (W,(0:Int),()) s.l rfl ⟨0,rfl,rfl,ad,Ch.refl _ _⟩ ?_;rintro ⟨n,Y,⟨⟩⟩ k h2 ⟨j,Q,rfl,hjl,o⟩;simp only at Q;subst Q;refine ak ?_;refine bK A ?_;refine ar ((s.p,s.l,s.c),()) (I o) (ak ?_);refine aK ?_ ?_<;>intro g1
  ·have C:j<x.l.length:=ad
   obtain ⟨a2,q2,m2,R,K,L,D⟩:=(hv.aj o).cells j C;obtain ⟨b3,q3,m3,S,M,N,P⟩:=(hw.aj o).cells j C;refine bK A ?_;refine ar ((s.p,s.l,s.c),()) (I o) (ak ?_);refine bK K ?_;rw [cr j];refine ar ((q2,m2,R),(x.l[j].num:Int),()) L (ak ?_);refine bK F ?_;refine ar ((t.p,t.l,t.c),()) (J o) (ak ?_);refine bK M ?_;refine ar ((q3,m3,S),(x.l[j].num:Int),()) N (ak ?_);refine aE (CF (c:=R) (d:=S) D.vw P.vw D.many) ?_;rintro _ h3 ⟨rfl,e3⟩;refine ⟨(jq x.l[j] x.l[j],()),rfl,ak ?_⟩;have e13:=o.trans e3;refine ⟨⟨J e13,I e13,trivial⟩,?_⟩;rw [xA];refine cv rfl ?_;have hw:=hY j;exact aD (cs:=jP) (n,((j+1:Nat):Int),()) (s.l-(j+1)) rfl ad (aq9 (fun z=>[Value.bool n,Value.int .i64 z]) hw) ⟨j+1,rfl,rfl,ad,e13⟩
  ·have hw:=hY i;exact aD (cs:=jP) (n,((i+1:Nat):Int),()) (H-(i+1)) rfl ad (aq9 (fun z=>[Value.bool n,Value.int .i64 z]) hw) ⟨i+1,rfl,rfl,ad,E.trans o⟩
 ·exact ⟨rfl,E⟩
def Mf {y:bJ} (a:Good d) (b:Good y) (h:fA d=fA y):d=y:=by
 have h1:=(CJ a).2;have h2:=(CJ b).2;rw [h] at h1;rw [h1] at h2;cases h2;rfl
def M6 {xs:List bJ} {x:bJ} (a:∀ y,y∈xs->Good y) (b:Good x):(xs.findIdx? fun y=>decide (fA y=fA x))=xs.findIdx? fun y=>jq y x:=by
 induction xs with
 | nil=>rfl
 | cons y xs c =>
  have d:decide (fA y=fA x)=jq y x:=by
   rw [ec9];unfold jq;simp only [decide_eq_true_eq,Bool.and_eq_true];constructor
   ·intro h
    have:=Mf (a y ai) b h
    rw [this];exact ⟨rfl,rfl⟩
   ·rintro ⟨h1,h2⟩;obtain ⟨f,g⟩:=y;obtain ⟨i,j⟩:=x;simp only at h1 h2;subst h1 h2;rfl
  rw [List.findIdx?_cons,List.findIdx?_cons,d,c fun z e=>a z (ap9 _ e)]
end Go.Sx.Po
namespace Go.Sx.Ob
open Go.Proofs
def Oq (b:Bool) (n:Int) (s:Xaa) (h:Hp) (K:Unit->Hp->Prop):aP Xaz (Instr.checkKey b 10000 131 (.agg #[vI n,.string s])) h K=K () h:=av
def Ng:Tryz.prog.underlying 131=some (.struct (vP Xaz 131)):=av
def VN:Tryz.prog.stoodInHeld 131=false:=av
def YC (n m:Int) (s t:Xaa):(vP Xaz 131).all (okF Xaz #[vI n,.string s] #[vI m,.string t])=true:=av
def Wb (n m:Int) (s t:Xaa):(vP Xaz 131).all (HW #[vI n,.string s] #[vI m,.string t])=(n==m && (s==t && true)):=by
 rw [<- dd9]
 kernel_rfl
def Zw:xV Xaz 131 Fi where
 check b a h K hk:=by rw [show Fi a=.agg #[vI (a.1:Int),.string a.2] from rfl,Oq]; exact hk
 kind:=⟨_,Ng,fun a b=>rfl⟩
 eqv a b h K hk:=by
  show aP Xaz (Op.equal 131 (.agg #[vI (a.1:Int),.string a.2]) (.agg #[vI (b.1:Int),.string b.2])) h K;rw [gH Ng VN (YC _ _ _ _),Wb];have e:decide (a=b)=(((a.1:Nat):Int)==((b.1:Nat):Int) && (a.2==b.2 && true)):=by
   obtain ⟨c,d⟩:=a;obtain ⟨f,g⟩:=b;show decide ((c,d)=(f,g))=(((c:Nat):Int)==((f:Nat):Int) && (d==g && true));rw [r7,dg9,ec9];simp only [Prod.mk.injEq,decide_eq_true_eq,Bool.and_eq_true,beq_iff_eq];constructor <;> exact fun ⟨x,y⟩=>⟨ad,y⟩
  rw [<- e];exact hk
 bits a:=by
  show ((2:Nat)==2 && _)=true;simp [Instr.sameBits,Fi,r7]
 inj a b h:=by
  obtain ⟨c,d⟩:=a;obtain ⟨f,g⟩:=b;simp only [Fi,Value.agg.injEq,Array.mk.injEq,List.cons.injEq,Value.int.injEq,Value.string.injEq,and_true,true_and] at h;rw [Prod.mk.injEq];exact ⟨ad,h.2⟩
def HO (b:Bool) (n m:Int) (h:Hp) (K:Unit->Hp->Prop):aP Xaz (Instr.checkKey b 10000 89 (.agg #[vI n,vI m])) h K=K () h:=av
def Fh:Tryz.prog.underlying 89=some (.struct (vP Xaz 89)):=av
def Rl:Tryz.prog.stoodInHeld 89=false:=av
def UR (n m s t:Int):(vP Xaz 89).all (okF Xaz #[vI n,vI s] #[vI m,vI t])=true:=av
def O0 (n m s t:Int):(vP Xaz 89).all (HW #[vI n,vI s] #[vI m,vI t])=(n==m && (s==t && true)):=by
 rw [<- dd9]
 kernel_rfl
def kiT:xV Xaz 89 Cr.GC where
 check b a h K hk:=by rw [show Cr.GC a=.agg #[vI (a.1:Int),vI (a.2:Int)] from rfl,HO]; exact hk
 kind:=⟨_,Fh,fun a b=>rfl⟩
 eqv a b h K hk:=by
  show aP Xaz (Op.equal 89 (.agg #[vI (a.1:Int),vI (a.2:Int)]) (.agg #[vI (b.1:Int),vI (b.2:Int)])) h K;rw [gH Fh Rl (UR _ _ _ _),O0];have e:decide (a=b)=(((a.1:Nat):Int)==((b.1:Nat):Int) && (((a.2:Nat):Int)==((b.2:Nat):Int) && true)):=by
   obtain ⟨c,d⟩:=a;obtain ⟨f,g⟩:=b;show decide ((c,d)=(f,g))=(((c:Nat):Int)==((f:Nat):Int) && (((d:Nat):Int)==((g:Nat):Int) && true));rw [dg9,ec9];simp only [Prod.mk.injEq,decide_eq_true_eq,Bool.and_eq_true,beq_iff_eq];omega
  rw [<- e];exact hk
 bits a:=by
  show ((2:Nat)==2 && _)=true;simp [Instr.sameBits,Cr.GC]
 inj a b h:=by
  obtain ⟨c,d⟩:=a;obtain ⟨f,g⟩:=b;simp only [Cr.GC,Value.agg.injEq,Array.mk.injEq,List.cons.injEq,Value.int.injEq,and_true,true_and] at h;rw [Prod.mk.injEq];omega
end Go.Sx.Ob
namespace Go.Sx.Lk
open Go.Proofs Go.Sx.Ob
def Cs.vw {h:Hp} {b:Nat} {s:bI} {ws:List (bI × cz)} (o:Cs h b s ws) (hl:ws.length<=2^60) (c:∀ x,x∈ws.map (·.2)->x.name.size<=maxLen/\Sm x.inst.op/\x.e.ah.length<=2^60/\∀ t,t∈x.e.ah->t.1.size<=maxLen):FD h s.p s.l (ws.map (·.2)) :=
 ⟨by have:=o.out.1; rw [ab9] at this ⊢; exact this,by rw [ab9]; exact hl,fun i hi=>by
  rw [ab9] at hi;obtain ⟨a,d,hc⟩:=o.out.cells (i:=i) (by simpa using hi);rw [am9] at hc;rw [am9];have h1:=c ws[i].2 (bc9 (al9 hi));exact ⟨a,_,_,_,d,hc,⟨xG (o.fx _ (al9 hi)),h1.2.2.1,h1.2.2.2⟩,h1.1,h1.2.1⟩⟩
section
variable {h0 h h':Hp} {us:List cg} {su:bI} {P:LP} {B:Nat} {usl lb:bI} {S:Nat->kZ} {g b':Nat} {lb2 st sd:bI} {tw dw:List (bI × List (bI × cz))}
structure One (h0 h':Hp) (us:List cg) (P:LP) (B:Nat) (usl lb:bI) (S:Nat->kZ):Prop where
 le:h0.size<=B
 pg:rz h' B P.w usl lb ((mT us:Nat):Int) us.length (2*us.length) S
 its:∀ n,(hn:n<us.length)->(S (2*n)).ws.map (·.2)=us[n].text.map (P.fy n)/\(S (2*n+1)).ws.map (·.2)=us[n].data.map (P.fy n)
 sz:∀ k,k<2*us.length->O7 (S k)
def One.ext (b:One h0 h us P B usl lb S) (e:Ext h h'):One h0 h' us P B usl lb S:=⟨b.le,b.pg.ext e,b.its,b.sz⟩
def Cy.one (b:Cy h0 h us su P B usl lb S g b' lb2 st sd tw dw):One h0 h us P B usl lb S:=⟨b.le,b.pg,b.its,b.sz⟩
def zZ (u:cg) (j:Nat):List cz:=if j=0 then u.text else u.data
def One.sec (b:One h0 h us P B usl lb S) {n j:Nat} (hn:n<us.length) (a:j<2):(S (2*n+j)).ws.map (·.2)=(zZ us[n] j).map (P.fy n):=by
 unfold zZ
 by_cases h:j=0
 ·rw [af9 h,h]; exact (b.its n hn).1
 ·rw [ac9 h,show j=1 from ad]; exact (b.its n hn).2
def One.item (b:One h0 h us P B usl lb S) {n j:Nat} (hn:n<us.length) (a:j<2):uD S us.length (n:Int) (j:Int)=(zZ us[n] j).map (P.fy n):=by
 unfold uD;rw [af9 ⟨ad,ad,ad⟩];rw [show ((n:Int)).toNat=n from ad,show ((j:Int)).toNat=j from ad];exact b.sec hn a
variable {H:Xac}
def One.ok (b:One h0 h us P B usl lb S) {hv:Hp} {l:Nat} (v:xt hv H l us) {n j:Nat} (hn:n<us.length) (r:j<2):∀ x,x∈(zZ us[n] j).map (P.fy n)->x.name.size<=maxLen/\Sm x.inst.op/\x.e.ah.length<=2^60/\∀ t,t∈x.e.ah->t.1.size<=maxLen:=by
 intro x f;obtain ⟨y,c,rfl⟩:=an9.1 f;have hz:=b.sz (2*n+j) ad;rw [<- b.sec hn r] at f;obtain ⟨w,k,s⟩:=an9.1 f;have h1:=hz.Yr w k;have h2:=hz.sz w k;rw [s] at h1 h2;obtain ⟨a,sa,sb,sc,u,C,hc,o⟩:=v.cells n hn;have hi:iM hv none 0 y\/(y.name.size<=maxLen/\Sm y.inst.op):=by
  right
  have d:∀ {q:Xac} {m:Nat} {xs:List cz},FD hv q m xs->y∈xs->y.name.size<=maxLen/\Sm y.inst.op:=by
   intro q m xs z A;obtain ⟨i,hi,rfl⟩:=bg9 A;obtain ⟨_,_,_,_,_,_,it⟩:=z.cells i hi;exact ⟨it.name,it.op⟩
  unfold zZ at c
  by_cases h:j=0
  ·rw [af9 h] at c; exact d o.text c
  ·rw [ac9 h] at c; exact d o.data c
 have hi:y.name.size<=maxLen/\Sm y.inst.op:=hi.elim (fun it=>⟨it.name,it.op⟩) id;exact ⟨hi.1,hi.2,ad,h2⟩
def One.many (b:One h0 h us P B usl lb S) {n j:Nat} (hn:n<us.length) (a:j<2):(zZ us[n] j).length<=2^30:=by
 have h1:=(b.sz (2*n+j) ad).len;have h2:=aq9 List.length (b.sec hn a);rw [ab9,ab9] at h2;omega
def One.out (b:One h0 h us P B usl lb S) (f:us.length<=2^20) {hv:Hp} {l:Nat} (v:xt hv H l us) {n j:Nat} (hn:n<us.length) (d:j<2) :
  HC Xaz 40 #[ptr (B+3),vI (n:Int),vI (j:Int)] h fun w h'=>Ext h h'/\∃ t ws,w=bI.v t/\Cs h' h.size t ws/\ws.map (·.2)=(zZ us[n] j).map (P.fy n)/\FD h' t.p t.l ((zZ us[n] j).map (P.fy n)):=by
 have hit:=Od b.pg (au9 _) ad (fun k hk=>⟨(b.sz k hk).len,(b.sz k hk).Yr⟩) n j ad;rw [b.item hn d] at hit;refine HC.mono hit fun w h' i=>?_
 obtain ⟨e,t,ws,m,o,c⟩:=i;refine ⟨e,t,ws,m,o,c,?_⟩;have hmn:=b.many hn d;have a:ws.length<=2^60:=by
  have:=aq9 List.length c
  rw [ab9,ab9] at this;omega
 have:=o.vw a (by rw [c]; exact b.ok v hn d)
 rwa [c] at this
end
end Go.Sx.Lk
namespace Go.Sx.Po
open Go.Proofs Go.Sx.Ob Go.Sx.Lk
def zS (k:Int × Int):Xab:=.agg #[vI k.1,vI k.2]
def Zj:xV Xaz 89 zS where
 check b a h K hk:=by rw [show zS a=.agg #[vI a.1,vI a.2] from rfl,HO]; exact hk
 kind:=⟨_,Fh,fun a b=>rfl⟩
 eqv a b h K hk:=by
  show aP Xaz (Op.equal 89 (.agg #[vI a.1,vI a.2]) (.agg #[vI b.1,vI b.2])) h K;rw [gH Fh Rl (UR _ _ _ _),O0];have e:decide (a=b)=(a.1==b.1 && (a.2==b.2 && true)):=by
   obtain ⟨c,d⟩:=a;obtain ⟨f,g⟩:=b;show decide ((c,d)=(f,g))=(c==f && (d==g && true));rw [dg9,ec9];simp only [Prod.mk.injEq,decide_eq_true_eq,Bool.and_eq_true,beq_iff_eq]
  rw [<- e];exact hk
 bits a:=by
  show ((2:Nat)==2 && _)=true;simp [Instr.sameBits,zS]
 inj a b h:=by
  obtain ⟨c,d⟩:=a;obtain ⟨f,g⟩:=b;simp only [zS,Value.agg.injEq,Array.mk.injEq,List.cons.injEq,Value.int.injEq,and_true,true_and] at h;rw [Prod.mk.injEq];exact h
def Wl (q:Nat × Nat):Xab:=.agg #[vI (q.1:Int),vI (q.2:Int)]
def Zc (n:Nat):Xab:=vI (n:Int)
def OW:Tryz.prog.underlying 81=some (.map 89 86):=av
def uL:Tryz.prog.underlying 126=some (.map 131 3):=av
def V3:(Tryz.prog.info? 3).bind (·.zero)=some (vI 0):=av
def TV:(Tryz.prog.info? 86).bind (·.zero)=some (.agg #[vI 0,vI 0]):=av
section
variable {L:Lp} {K:Xab->Hp->Prop} {h:Hp}
variable {H O:Nat}
def NK {f:Ky->Option Nat} (m:gZ Fi Zc h H f O) (s:Ky) {k:Int->Bool->T} (hk:k (((f s).getD 0:Nat):Int) (f s).isSome L K h) :
  T.ef Xaz (Instr.lookup 126 (.map (some H)) (Fi s) true) true [(false,[.int .i64]),(false,[.bool])] k L K h:=by
 obtain ⟨D,m,a,_⟩:=m;show aP _ _ _ _;refine oT Zw uL V3 m s true _ ?_;rw [af9 rfl,oH,a];refine ⟨((((f s).getD 0:Nat):Int),(f s).isSome,()),?_,hk⟩
 all_goals (cases f s <;> rfl)
def Ph {f:Int × Int->Option (Nat × Nat)} (m:gZ zS Wl h H f O) (s:Int × Int) {k:Int->Int->Bool->T} (hk:k ((((f s).getD (0,0)).1:Nat):Int) ((((f s).getD (0,0)).2:Nat):Int) (f s).isSome L K h) :
  T.ef Xaz (Instr.lookup 81 (.map (some H)) (zS s) true) true [(true,[.int .i64,.int .i64]),(false,[.bool])] k L K h:=by
 obtain ⟨D,m,a,_⟩:=m;show aP _ _ _ _;refine oT Zj OW TV m s true _ ?_;rw [af9 rfl,oH,a];refine ⟨(((((f s).getD (0,0)).1:Nat):Int),((((f s).getD (0,0)).2:Nat):Int),(f s).isSome,()),?_,hk⟩
 all_goals (cases f s <;> rfl)
end
variable {e:List bJ}
def Q3 {m:List bJ} {x:bJ} (h:0<=kP e x):kP (e++m) x=kP e x:=by
 unfold kP at *;rw [dz9];cases a:e.findIdx? fun y=>jq y x with
 | none=>rw [a] at h; exact absurd h bQ
 | some k=>rfl
def MN {x:bJ} (h:kP e x<0):kP (e++[x]) x=(e.length:Int):=by
 unfold kP at *;rw [dz9];cases a:e.findIdx? fun y=>jq y x with
 | some k=>rw [a] at h; simp at h; omega
 | none=>simp [xA]
def F4 (l:List bJ) (x:bJ):kP (jk l x) x=if kP l x<0 then (l.length:Int) else kP l x:=by
 unfold jk;split
 ·next h=>exact MN h
 ·rfl
def Fw (l:List bJ) (x:bJ):0<=kP (jk l x) x:=by
 rw [F4];split <;> omega
def iA (l:List bJ) (x:bJ):jk l x≠[]:=by
 intro h
 have:=Fw l x
 rw [h] at this;have h2:kP [] x=-1:=rfl;omega
def T1 (l:List bJ) (x:bJ):l <+: jk l x:=by
 unfold jk;split
 ·exact ⟨[x],rfl⟩
 ·exact et9 _
theorem Bl (u:Nat):∀ (its:List cz) (i:Nat) (l:List bJ),l≠[]->∃ j l' r,pP u i its l=⟨u,j,l'⟩::r/\i<=j/\l <+: l'
 | [],i,l,h=>⟨i,l,[],by
   unfold pP shut;rw [ac9 (fun a=>h (bs9 a))],au9 _,et9 _⟩
 | x::its,i,l,h=>by
  unfold pP
  by_cases hk:x.kind=4
  ·rw [af9 hk];unfold shut;rw [ac9 (fun a=>h (bs9 a))];exact ⟨i,l,_,rfl,au9 _,et9 _⟩
  ·rw [ac9 hk]
   by_cases hl:zr x=true
   ·rw [af9 hl];obtain ⟨j,l',r,h1,h2,b⟩:=Bl u its (i+1) (jk l x.e) (iA _ _);exact ⟨j,l',r,h1,ad,(T1 l x.e).trans b⟩
   ·rw [ac9 hl];obtain ⟨j,l',r,h1,h2,b⟩:=Bl u its (i+1) l h;exact ⟨j,l',r,h1,ad,b⟩
def J8 {out rest:List Pl} {u i:Nat} {x:cz} {its:List cz} {l:List bJ} (d:∀ p,p∈out->p.u<u\/p.u=u/\p.i<i) (hl:zr x=true) :
  zm (out++(pP u (i+1) its (jk l x.e)++rest)) u i x.e=some (out.length,kP (jk l x.e) x.e):=by
 obtain ⟨j,l',r,h1,h2,f⟩:=Bl u its (i+1) (jk l x.e) (iA _ _);rw [h1];have a:out.length<(out++((⟨u,j,l'⟩::r)++rest)).length:=ai
 have b:(out++((⟨u,j,l'⟩::r)++rest))[out.length]=⟨u,j,l'⟩:=by
  rw [cs9 (au9 _)]
  simp
 unfold zm;rw [HU a (fun e g c=>?_) (by rw [b]; simp; omega)]
 ·simp only [List.getElem?_eq_getElem a,b,Option.map_some,Option.getD_some];obtain ⟨m,rfl⟩:=f;rw [Q3 (Fw _ _)]
 ·rw [ca9 c];rcases d _ (al9 c) with h | ⟨h,h'⟩
  ·have:((out[e].u==u)=false):=by simp; omega
   rw [this]; rfl
  ·have:decide (i<out[e].i)=false:=by simp; omega
   rw [this,fb9]
def zB (I:Nat->List cz) (N:Nat) (k:Int × Int):Option (Nat × Nat):=(jI I N k.1 k.2).map fun q=>(q.1,q.2.toNat)
structure tZ (h:Hp) (W:List Nat) (bl:Nat):Prop where
 t:∀ i,i∈W->∀ ys,¬ br h i 64 ys
 m:∀ i,i∈W->∀ ys,¬ br h i 55 ys
 l:∀ i,i∈W->bl<=i\/∀ ys,¬ br h i 53 ys
variable {O:Hp} {H V a d i j:Nat} {f:TypeId}
def oa {e':TypeId} {ys zs:List Xab} (a:br O H f ys) (b:br O H e' zs):f=e':=by
 have:=ay9 (Eq.trans (Eq.symm a) b)
 injection this
variable {Y:List Nat}
def tZ.box {bl:Nat} {e:TypeId} (c:∀ i,i∈Y->∃ ys,br O i e ys) (h1:e≠64) (h2:e≠55) (d:e≠53):tZ O Y bl :=
 ⟨fun i hi ys a=>by obtain ⟨zs,b⟩:=c i hi; exact h1 (oa b a),fun i hi ys a=>by obtain ⟨zs,b⟩:=c i hi; exact h2 (oa b a),fun i hi=>.inr fun ys a=>by obtain ⟨zs,b⟩:=c i hi; exact d (oa b a)⟩
def tZ.lit {bl:Nat} (c:∀ i,i∈Y->∃ ys,br O i 53 ys) (a:∀ i,i∈Y->bl<=i):tZ O Y bl :=
 ⟨fun i hi ys a=>by obtain ⟨zs,b⟩:=c i hi; exact absurd (oa b a) bQ,fun i hi ys a=>by obtain ⟨zs,b⟩:=c i hi; exact absurd (oa b a) bQ,fun i hi=>.inl (a i hi)⟩
def tZ.map {α β:Type} [DecidableEq α] {kv:α->Xab} {en:β->Xab} {bl:Nat} {f:α->Option β} {n:Nat} (m:gZ kv en O H f n):tZ O [H] bl:=by
 obtain ⟨D,⟨es,cl,b,_⟩,_⟩:=m;have no:∀ i,i∈[H]->∀ e ys,¬ br O i e ys:=by
  intro i hi e ys a;rw [ak9.1 hi] at a
  have:=ay9 (Eq.trans (Eq.symm b) a)
  cases this
 exact ⟨fun i hi=>no i hi 64,fun i hi=>no i hi 55,fun i hi=>.inr (no i hi 53)⟩
def tZ.nil (h:Hp) (bl:Nat):tZ h [] bl:=⟨ai,ai,ai⟩
structure Vx (x:bJ):Prop where
 many:x.ah.length<=2^60
 names:∀ t,t∈x.ah->t.1.size<=maxLen
structure kY (h:Hp) (b:Nat) (s:bI) (xs:List bJ):Prop where
 ex:∃ (cs:List (List Xab)) (ts:List bI),SL h b 53 2 s.p s.l s.c cs/\cs.length=xs.length/\ts.length=xs.length/\∀ i,(hi:i<xs.length)->(hc:i<cs.length)->(ht:i<ts.length)->cs[i]=[ts[i].v,.int .u32 (xs[i].num:Int)]/\SL h 0 64 2 ts[i].p ts[i].l ts[i].c (xs[i].ah.map df)/\Vx xs[i]
def kY.nil (h:Hp) (b:Nat):kY h b ⟨none,0,0⟩ []:=⟨⟨[],[],SL.nil _ _ _ _,rfl,rfl,fun i hi=>absurd hi ai⟩⟩
variable {U c:bI}
def kY.len {xs:List bJ} (v:kY O H U xs):U.l=xs.length:=by
 obtain ⟨cs,ts,sl,hl,_⟩:=v.ex;rw [<- hl];exact sl.1
def kY.cw {h:Hp} {b:Nat} {s:bI} {xs:List bJ} (v:kY h b s xs):∀ i,i∈aG s.p->b<=i/\i<h.size:=by
 obtain ⟨cs,ts,sl,_⟩:=v.ex;exact fun i hi=>⟨(sl.cw hi).1,Pe sl i hi⟩
def kY.box {xs:List bJ} (v:kY O H U xs):∀ i,i∈aG U.p->∃ ys,br O i 53 ys:=by
 obtain ⟨cs,ts,sl,_⟩:=v.ex;exact jY sl
def wN {h':Hp} {t:bI} {zs:List (List Xab)} {bl:Nat} (s:SL O H 64 2 t.p t.l t.c zs) (k:Ch Y O h') (o:tZ O Y bl):SL h' H 64 2 t.p t.l t.c zs :=
 s.bF k fun i hi a=>by
  obtain ⟨ys,d⟩:=jY s i hi;exact o.t i a ys d
def kY.aj {h':Hp} {xs:List bJ} (v:kY O H U xs) {bl:Nat} (k:Ch Y O h') (o:tZ O Y bl) (d:∀ i,i∈aG U.p->i∉Y):kY h' H U xs:=by
 obtain ⟨cs,ts,sl,hl,ht,c⟩:=v.ex;exact ⟨⟨cs,ts,sl.bF k d,hl,ht,fun i hi hc a=>⟨(c i hi hc a).1,wN (c i hi hc a).2.1 k o,(c i hi hc a).2.2⟩⟩⟩
def kY.Pj {h':Hp} {xs:List bJ} (v:kY O H U xs) {bl:Nat} (k:Ch Y O h') (o:tZ O Y bl) (a:∀ i,i∈aG U.p->i<bl):kY h' H U xs :=
 v.aj k o fun i hi c=>by
  rcases o.l i c with h1 | h1
  ·have:=a i hi; omega
  ·obtain ⟨ys,d⟩:=v.box i hi;exact h1 ys d
def kY.vw {xs:List bJ} (v:kY O H U xs) (c:xs.length<=2^40):VW O U.p U.l xs:=by
 obtain ⟨cs,ts,sl,hl,ht,d⟩:=v.ex;refine ⟨v.len,c,fun i hi=>?_⟩;obtain ⟨a,e,hc⟩:=SL.cells sl (i:=i) ad;obtain ⟨f,g,ok⟩:=d i hi ad ad;rw [f] at hc;exact ⟨a,_,_,_,e,hc,⟨Sx.SL.Nt g,ok.many,ok.names⟩⟩
structure xH (h:Hp) (b bl:Nat) (s:bI) (pw:List (Pl × bI)):Prop where
 sl:SL h b 84 3 s.p s.l s.c (pw.map Xo)
 lits:∀ x,x∈pw->kY h 0 x.2 x.1.l/\∀ i,i∈aG x.2.p->b<=i/\i<bl
def xH.aj {h':Hp} {bl:Nat} {pw:List (Pl × bI)} (v:xH O H bl U pw) (k:Ch Y O h') (o:tZ O Y bl) (c:∀ i,i∈aG U.p->i∉Y):xH h' H bl U pw :=
 ⟨v.sl.bF k c,fun x a=>⟨(v.lits x a).1.Pj k o fun i hi=>((v.lits x a).2 i hi).2,(v.lits x a).2⟩⟩
def xH.nil (h:Hp) (b bl:Nat):xH h b bl ⟨none,0,0⟩ []:=⟨SL.nil _ _ _ _,ai⟩
def Xz:Tryz.prog.underlying 80=some (.slice 84):=av
def Yl:(Tryz.prog.info? 84).map (fun i=>(i.zero,i.size,i.bytes))=some (some (.agg #[vI 0,vI 0,.slice none 0 0]),3,40):=av
section
variable {L:Lp} {K:Xab->Hp->Prop} {h:Hp}
variable {H:Xac->Nat->Nat->T} {O:bI}
def LZ {bl:Nat} {t:bI} {xs:List bJ} {x:bJ} (v:kY h bl O xs) (u:bl<=h.size) (z:xs.length<=2^30) (w:SL h 0 64 2 t.p t.l t.c (x.ah.map df)) (ok:Vx x)
  (hk:∀ a h',kY h' bl a (xs++[x])->Ch (aG O.p) h h'->H a.p a.l a.c L K h') :
  T.ef Xaz (Instr.buildSlice 28 1 #[(0,.agg #[.slice t.p t.l t.c,.int .u32 (x.num:Int)])]) false [(false,[.slice 0])] (fun (j:Xac) (m n:Nat)=>T.ef Xaz (Builtin.append_ #[28,28] 28 #[.slice O.p O.l O.c,.slice j m n]) false [(false,[.slice 0])] H) L K h:=by
 have hl:=v.len;have hbx:=v.box;have hbk:=v.cw;obtain ⟨cs,ts,sl,d,f,q⟩:=v.ex;refine fg (b:=bl) (vs:=[.slice t.p t.l t.c,.int .u32 (x.num:Int)]) Ox Qg rfl ad ad (Oi t.p t.l t.c x.num) rfl rfl sl u ad ad ?_;intro p' c' h' a k' _;have o:tZ h (aG O.p) bl:=tZ.lit hbx fun i hi=>(hbk i hi).1
 refine hk ⟨p',O.l+1,c'⟩ h' ⟨⟨_,ts++[t],a,by simp [d],by simp [f],fun i hi hc ht=>?_⟩⟩ k'
 by_cases g:i<xs.length
 ·rw [ca9 (show i<cs.length from ad),ca9 (show i<ts.length from ad)];have e:(xs++[x])[i]=xs[i]:=ca9 g;rw [e];obtain ⟨h1,h2,y⟩:=q i g ad ad;exact ⟨h1,wN h2 k' o,y⟩
 ·have r:i=xs.length:=by simp at hi; omega
  subst r;rw [cs9 (show cs.length<=xs.length from ad),cs9 (show ts.length<=xs.length from ad)];have e:(xs++[x])[xs.length]=x:=ai
  rw [e];simp only [d,f,Nat.sub_self,List.getElem_cons_zero];exact ⟨rfl,wN w k' o,ok⟩
def RD (u i:Int) (p:Xac) (l c:Nat):Instr.fill (fun j=>some (j*3,3)) ((Array.range (1*3)).map ((Value.agg #[vI 0,vI 0,.slice none 0 0]).cells[· % (Value.agg #[vI 0,vI 0,.slice none 0 0]).cells.size]!)) [(0,.agg #[vI u,vI i,.slice p l c])]=some ([vI u,vI i,.slice p l c]:List Xab).toArray:=av
def I0 {b bl:Nat} {t:bI} {pw:List (Pl × bI)} {u i:Nat} {xs:List bJ} (ps:xH h b bl O pw) (v:kY h bl t xs) (r:b<=bl) (F:bl<=h.size) (q:pw.length<=2^30)
  (hk:∀ e h',xH h' b h'.size e (pw++[(⟨u,i,xs⟩,t)])->Ch (aG O.p) h h'->(e.p=O.p\/∃ a,e.p=some a/\h.size<=a.block)->H e.p e.l e.c L K h') :
  T.ef Xaz (Instr.buildSlice 80 1 #[(0,.agg #[vI (u:Int),vI (i:Int),.slice t.p t.l t.c])]) false [(false,[.slice 0])] (fun (g:Xac) (m n:Nat)=>T.ef Xaz (Builtin.append_ #[80,80] 80 #[.slice O.p O.l O.c,.slice g m n]) false [(false,[.slice 0])] H) L K h:=by
 have hl:O.l=pw.length:=by have:=ps.sl.1; rwa [ab9] at this
 refine fg (b:=b) (vs:=[vI (u:Int),vI (i:Int),.slice t.p t.l t.c]) Xz Yl rfl ad ad (RD u i t.p t.l t.c) rfl rfl ps.sl ad ad ad ?_;intro p' c' h' e k' w;have o:tZ h (aG O.p) bl:=tZ.box (jY ps.sl) bQ bQ bQ;have z:=k'.size;refine hk ⟨p',O.l+1,c'⟩ h' ⟨by rw [ao9]; exact e,fun x f=>?_⟩ k' w;rcases as9.1 f with f | f
 ·obtain ⟨h1,h2⟩:=ps.lits x f;refine ⟨h1.Pj k' o fun j d=>(h2 j d).2,fun j d=>⟨(h2 j d).1,?_⟩⟩
  have:=(h1.cw j d).2
  omega
 ·rw [ak9.1 f];have hv:=v.cw;have hbx:=v.box;obtain ⟨cs,ts,sl,y,A,B⟩:=v.ex;have C:kY h 0 t xs:=⟨⟨cs,ts,sl.mono (ek9 _),y,A,B⟩⟩
  refine ⟨C.aj k' o fun j d q=>?_,fun j d=>⟨by have:=(hv j d).1; omega,by have:=(hv j d).2; omega⟩⟩;obtain ⟨ys,D⟩:=hbx j d;obtain ⟨zs,E⟩:=jY ps.sl j q;exact absurd (oa D E) bQ
end
def iC (I:Nat->List cz) (N n i:Nat) (k:Int × Int):Option (Nat × Nat):=if 0<=k.1/\0<=k.2/\(k.1<n\/k.1=n/\k.2<i) then zB I N k else none
section
variable {I:Nat->List cz} {N n i:Nat}
def WY (h:zB I N ((n:Int),(i:Int))=none):iC I N n (i+1)=iC I N n i:=by
 funext k
 obtain ⟨a,b⟩:=k;unfold iC;simp only
 by_cases e:a=(n:Int)/\b=(i:Int)
 ·obtain ⟨rfl,rfl⟩:=e;rw [af9 ad,ac9 ad,h]
 ·by_cases h1:0<=a/\0<=b/\(a<(n:Int)\/a=(n:Int)/\b<(i:Int))
  ·rw [af9 h1,af9 ad]
  ·rw [ac9 h1,ac9 ad]
def Lj {v:Nat × Nat} (h:zB I N ((n:Int),(i:Int))=some v):iC I N n (i+1)=tR (iC I N n i) ((n:Int),(i:Int)) v:=by
 funext k
 obtain ⟨a,b⟩:=k;unfold iC tR;simp only [Prod.mk.injEq]
 by_cases e:a=(n:Int)/\b=(i:Int)
 ·rw [af9 e];obtain ⟨rfl,rfl⟩:=e;rw [af9 ad,h]
 ·rw [ac9 e]
  by_cases h1:0<=a/\0<=b/\(a<(n:Int)\/a=(n:Int)/\b<(i:Int))
  ·rw [af9 h1,af9 ad]
  ·rw [ac9 h1,ac9 ad]
def J9 {u j:Nat} (h:(I u).length<=j):zB I N ((u:Int),(j:Int))=none:=by
 unfold zB jI;simp only;split
 ·rfl
 ·rw [cr u,cr j,bq9 h] <;> rfl
def SA {k:Int × Int} (h:k.1<0\/(N:Int)<=k.1\/k.2<0):zB I N k=none:=by
 unfold zB jI;rw [af9 h] <;> rfl
def P' {u j:Nat} (b:u<N) (a:j<(I u).length):zB I N ((u:Int),(j:Int))=if zr (I u)[j] then (zm (uU I N) u j (I u)[j].e).map (fun q=>(q.1,q.2.toNat)) else none:=by
 unfold zB jI;simp only;rw [ac9 ad,cr u,cr j,ad9 a];simp only;split <;> rfl
def OO {m:Nat} (h:(I n).length<=m):iC I N n m=iC I N (n+1) 0:=by
 funext k
 obtain ⟨a,b⟩:=k;unfold iC;simp only
 by_cases h1:0<=a/\0<=b/\(a<(n:Int)\/a=(n:Int)/\b<(m:Int))
 ·rw [af9 h1,af9 ad]
 ·rw [ac9 h1]
  by_cases h2:0<=a/\0<=b/\(a<((n+1:Nat):Int)\/a=((n+1:Nat):Int)/\b<((0:Nat):Int))
  ·rw [af9 h2];obtain ⟨j,rfl⟩:∃ j:Nat,b=(j:Int):=⟨b.toNat,ad⟩
   have c:a=(n:Int):=ad
   rw [c];exact (J9 ad).symm
  ·rw [ac9 h2]
def Sq:iC I N N 0=zB I N:=by
 funext k
 unfold iC;split
 ·rfl
 ·next h=>exact (SA ad).symm
def RC:iC I N 0 0=fun _=>none:=by
 funext k
 unfold iC;rw [ac9 ad]
end
structure BI (x:cz):Prop where
 tm:Vx x.e
 pV:Good x.e
 many:x.e.ah.length<=2^30
 sz:∀ t,t∈x.e.ah->t.1.size<=32/\t.2<4294967296
 num:x.e.num<4294967296
 name:x.name.size<=maxLen
 op:Sm x.inst.op
structure Y5 (h:Hp) (p:Xac) (l c:Nat) (ws:List (bI × cz)):Prop where
 out:SL h 0 55 10 p l c (ws.map tY)
 fx:∀ u,u∈ws->SL h 0 64 2 u.1.p u.1.l u.1.c (u.2.e.ah.map df)
variable {Z:Xac}
def Y5.aj {h':Hp} {ws:List (bI × cz)} (v:Y5 O Z H V ws) {bl:Nat} (k:Ch Y O h') (o:tZ O Y bl):Y5 h' Z H V ws :=
 ⟨v.out.bF k fun i hi a=>by
  obtain ⟨ys,b⟩:=jY v.out i hi;exact o.m i a ys b,fun u d=>wN (v.fx u d) k o⟩
def jh {α β:Type} [DecidableEq α] {kv:α->Xab} {en:β->Xab} {g:Nat} {a:α->Option β} (m:gZ kv en O g a H) {ys:List Xab} (b:br O V f ys):V≠g:=by
 rintro rfl;obtain ⟨D,⟨es,cl,c,_⟩,_⟩:=m
 have:=ay9 (Eq.trans (Eq.symm c) b)
 cases this
structure Mem (h:Hp) (b0 bl:Nat) (s w:bI) (pw:List (Pl × bI)) (xs:List bJ) (g8 n:Nat) (p:Xac) (l c:Nat) (ws:List (bI × cz)):Prop where
 ps:xH h b0 bl s pw
 lq:kY h bl w xs
 bx:br h g8 84 [vI (n:Int),vI 0,w.v]
 it:Y5 h p l c ws
def Mem.aj {h h':Hp} {b0 bl:Nat} {s w:bI} {pw:List (Pl × bI)} {xs:List bJ} {g8 n:Nat} {p:Xac} {l c:Nat} {ws:List (bI × cz)} (v:Mem h b0 bl s w pw xs g8 n p l c ws) {W:List Nat} (k:Ch W h h') (o:tZ h W bl) (a:∀ i,i∈aG s.p->i∉W) (b:∀ i,i∈aG w.p->i∉W) (d:g8∉W):Mem h' b0 bl s w pw xs g8 n p l c ws :=
 ⟨v.ps.aj k o a,v.lq.aj k o b,v.bx.aj k d,v.it.aj k o⟩
def Mem.OR {α β:Type} [DecidableEq α] {kv:α->Xab} {en:β->Xab} {h':Hp} {b0 bl:Nat} {pw:List (Pl × bI)} {xs:List bJ} {g8:Nat} {ws:List (bI × cz)} (v:Mem O b0 bl U c pw xs g8 H Z V a ws) {f:α->Option β} {nf:Nat} (m:gZ kv en O d f nf) (k:Ch [d] O h'):Mem h' b0 bl U c pw xs g8 H Z V a ws:=by
 refine v.aj k (tZ.map m) (fun i hi b=>?_) (fun i hi b=>?_) (fun b=>?_)
 ·obtain ⟨ys,e⟩:=jY v.ps.sl i hi;exact jh m e (ak9.1 b)
 ·obtain ⟨ys,e⟩:=v.lq.box i hi;exact jh m e (ak9.1 b)
 ·exact jh m v.bx (ak9.1 b)
def Mem.ext {h':Hp} {b0 bl:Nat} {pw:List (Pl × bI)} {xs:List bJ} {g8:Nat} {ws:List (bI × cz)} (v:Mem O b0 bl U c pw xs g8 H Z V a ws) (e:Ext O h'):Mem h' b0 bl U c pw xs g8 H Z V a ws:=v.aj e (tZ.nil _ _) ai ai ai
structure NS (h0 h:Hp) (I:Nat->List cz) (N gs gm n i g8:Nat) (s w:bI) (pw:List (Pl × bI)) (bl:Nat) (xs:List bJ) (p:Xac) (l c:Nat) (ws:List (bI × cz)):Prop where
 e:Ext h0 h
 mem:Mem h h0.size bl s w pw xs g8 n p l c ws
 lo:h0.size<=bl
 hi:bl<=h.size
 ms:∃ nf,gZ zS Wl h gs (iC I N n i) nf
 mm:∃ m nm,gZ Fi Zc h gm m nm/\(∀ t,m (s.l,t)=xs.findIdx? fun y=>decide (fA y=t))/\∀ q t,s.l<q->m (q,t)=none
 ord:∀ p,p∈pw.map (·.1)->p.u<n\/p.u=n/\p.i<i
 l8:h0.size<=g8
 n8:g8∉aG s.p
 xl:xs.length<=i
 pV:∀ y,y∈xs->Good y
 en:(I n).length<i->xs=[]
 eq:pw.map (·.1)++((if i<=(I n).length then pP n i ((I n).drop i) xs else [])++FC I N (n+1))=uU I N
def Z3 (g8 gs gm n i b:Nat) (s:bI):T :=
   T.af ((⟨b,0,none⟩:Xax).add 7) [.slice 64,.int .u32] <| fun (e:Xac) (f g:Nat) (h:Int) =>
   bM 42 [.agg #[.slice e f g,aC h]] false [(false,[.string])] <| fun (j:Xaa) =>
   T.new [vI (0:Int),bZ] 131 <| fun (a:Xax) =>
   T.ax a [vI (s.l:Int),.string j] <|
   T.af a [.int .i64,.string] <| fun (k:Int) (m:Xaa) =>
   bR (Instr.lookup 126 (.map (some gm)) (.agg #[vI k,.string m]) true) true [aM,ct] <| fun (o:Int) (q:Bool) =>
   cond (!q)
   (T.af ((⟨g8,0,none⟩:Xax).add 2) [.slice 53] <| fun (I:Xac) (d J:Nat) =>
   T.af a [.int .i64,.string] <| fun (r:Int) (t:Xaa) =>
   T.dZ Xaz (Instr.mapUpdate 126 (.map (some gm)) (.agg #[vI r,.string t]) (vI (d:Int))) <|
   T.af ((⟨g8,0,none⟩:Xax).add 2) [.slice 53] <| fun (u:Xac) (w x:Nat) =>
   T.af ((⟨b,0,none⟩:Xax).add 7) [.slice 64,.int .u32] <| fun (y:Xac) (z A:Nat) (B:Int) =>
   bR (Instr.buildSlice 28 1 #[(0,.agg #[.slice y z A,aC B])]) false [cR] <| fun (C:Xac) (D E:Nat) =>
   bR (Builtin.append_ #[28,28] 28 #[.slice u w x,.slice C D E]) false [cR] <| fun (F:Xac) (G H:Nat) =>
   T.ax ((⟨g8,0,none⟩:Xax).add 2) [.slice F G H] <|
   T.dZ Xaz (Instr.mapUpdate 81 (.map (some gs)) (.agg #[vI (n:Int),vI (i:Int)]) (.agg #[vI (s.l:Int),vI (d:Int)])) <|
   T.again 1 [.slice s.p s.l s.c,vI (bn ((i:Int)+(1:Int)))])
   (T.dZ Xaz (Instr.mapUpdate 81 (.map (some gs)) (.agg #[vI (n:Int),vI (i:Int)]) (.agg #[vI (s.l:Int),vI o])) <|
   T.again 1 [.slice s.p s.l s.c,vI (bn ((i:Int)+(1:Int)))])
def Wx {L:Lp} {K:Xab->Hp->Prop} {h0 h:Hp} {I:Nat->List cz} {N gs gm n i g8 M:Nat} {s w:bI} {pw:List (Pl × bI)} {bl:Nat} {xs:List bJ} {p:Xac} {l c:Nat} {ws:List (bI × cz)} (O:eH h0) (hg:gs≠gm) (hgs:h0.size<=gs) (hgm:h0.size<=gm)
  (a:NS h0 h I N gs gm n i g8 s w pw bl xs p l c ws) (hn:n<N) (hi:i<(I n).length) (hlen:(I n).length<=2^29) {q:Xac} {m d:Nat} (g:zr (I n)[i]=true) (b35:br h M 55 (encI q m d (I n)[i])) (hsl:SL h 0 64 2 q m d ((I n)[i].e.ah.map df)) (ok:BI (I n)[i])
  (go:∀ h' w' Z,NS h0 h' I N gs gm n (i+1) g8 s w' pw bl Z p l c ws->T.again 1 [.slice s.p s.l s.c,vI (IntKind.wrap .i64 ((i:Int)+(1:Int)))] L K h'):Z3 g8 gs gm n i M s L K h:=by
 have P:s.l=pw.length:=by have:=a.mem.ps.sl.1; rwa [ab9] at this
 have heq:=a.eq;rw [af9 ad,Ey hi] at heq;have hk2:(I n)[i].kind=2:=by
  unfold zr at g;rw [bk9] at g;exact eq_of_beq g.1
 rw [ac9 ad,af9 g] at heq;have hT:=P' (I:=I) hn hi;rw [af9 g] at hT;have hsq:=J8 (out:=pw.map (·.1)) (rest:=FC I N (n+1)) (u:=n) (i:=i) (its:=(I n).drop (i+1)) (l:=xs) a.ord g;rw [heq,ab9,<- P] at hsq;rw [hsq] at hT;simp only [Option.map_some] at hT;have D:∀ p,p∈pw.map (·.1)->p.u<n\/p.u=n/\p.i<i+1:=fun p W=>(a.ord p W).imp id fun h=>⟨h.1,ad⟩
 generalize (I n)[i]=x at *;unfold Z3 bM bR bn aC bZ aM ct cR;rw [ay,ay];refine aw b35 ((q,m,d),(x.e.num:Int),()) (ak ?_);refine aE (Su (x:=x.e) (Sx.SL.Nt hsl) (O.aj a.e ai) ok.many ok.sz ok.num) ?_;rintro _ h1 ⟨rfl,e1⟩;refine ⟨(fA x.e,()),rfl,ak ?_⟩;refine bm ?_;intro h2 b2 e2 z2;refine bP b2 ?_;intro h3 X k3 z3;have X:br h3 h1.size 131 [vI (s.l:Int),.string (fA x.e)]:=X;have e13:Ext h1 h3:=bU e2 k3;have e03:=e1.trans e13;refine aw X ((s.l:Int),fA x.e,()) (ak ?_);have mem:=a.mem.ext e03;have b35:=b35.aj e03 ai;have hsl:=hsl.bF e03 ai;have eh:=a.e.trans e03;have hbl:=a.hi;have z03:=e03.size;obtain ⟨nf,ms⟩:=a.ms;have ms:=ms.aj e03 ai;obtain ⟨mf,nm,mm,B,Q⟩:=a.mm;have mm:=mm.aj e03 ai;have E:mf (s.l,fA x.e)=xs.findIdx? fun y=>jq y x.e:=by rw [B,M6 a.pV ok.pV]
 refine NK (s:=(s.l,fA x.e)) mm ?_;rw [E];cases hf:(xs.findIdx? fun y=>jq y x.e) with
 | some k =>
  refine cv rfl ?_;have W:kP xs x.e=(k:Int):=by unfold kP; rw [hf]
  have f:jk xs x.e=xs:=by unfold jk; rw [ac9 ad]
  rw [f,W] at hT;rw [f] at heq;refine K8 Zj OW ms ((n:Int),(i:Int)) ((s.l,k):Nat × Nat) ?_;intro h4 m4 z z4;have e4:Ext h0 h4:=bU eh z;rw [<- Lj (by rw [hT]; rfl)] at m4;exact go h4 w xs ⟨e4,mem.OR ms z,a.lo,by have:=z.size; omega,⟨_,m4⟩,⟨mf,nm,mm.aj z (by simp; omega),B,Q⟩,D,a.l8,a.n8,by have:=a.xl; omega,a.pV,fun C=>absurd C ad,by rw [af9 ad]; exact heq⟩
 | none =>
  refine bX rfl ?_;have W:kP xs x.e=-1:=by unfold kP; rw [hf]
  have f:jk xs x.e=xs++[x.e]:=by unfold jk; rw [af9 ad]
  have hwl:=mem.lq.len;have hxl:=a.xl;have R:kP (jk xs x.e) x.e=(xs.length:Int):=by rw [F4,af9 ad]
  rw [R] at hT;rw [f] at heq;refine aw mem.bx ((w.p,w.l,w.c),()) (ak ?_);refine aw X ((s.l:Int),fA x.e,()) (ak ?_);refine K8 Zw uL mm (s.l,fA x.e) w.l ?_;intro h4 S z z4;have mem4:=mem.OR mm z;have b354:=b35.aj z (fun b=>jh mm b35 (ak9.1 b));have hsl4:=wN (t:=⟨q,m,d⟩) hsl z (tZ.map (bl:=0) mm);have ms4:=ms.aj z (by simp; omega);have e4:Ext h0 h4:=bU eh z;have z4':=z.size;refine aw mem4.bx ((w.p,w.l,w.c),()) (ak ?_);refine aw b354 ((q,m,d),(x.e.num:Int),()) (ak ?_);refine LZ (t:=⟨q,m,d⟩) mem4.lq ad ad hsl4 ok.tm ?_;intro w' h5 U F;have hbx:=mem4.lq.box;have hbk:=mem4.lq.cw;have o5:tZ h4 (aG w.p) bl:=tZ.lit hbx fun j o=>(hbk j o).1
  have ps5:=mem4.ps.aj F o5 (fun j o b=>by
   obtain ⟨ys,G⟩:=jY mem4.ps.sl j o;obtain ⟨zs,A⟩:=hbx j b;exact absurd (oa G A) bQ)
  have bx5:=mem4.bx.aj F (fun b=>by
   obtain ⟨zs,A⟩:=hbx _ b;exact absurd (oa mem4.bx A) bQ)
  have it5:=mem4.it.aj F o5;have ms5:=ms4.aj F (fun b=>by
   obtain ⟨zs,A⟩:=hbx _ b;exact jh ms4 A rfl)
  have mm5:=S.aj F (fun b=>by
   obtain ⟨zs,A⟩:=hbx _ b;exact jh S A rfl)
  have e5:Ext h0 h5:=Ch.trans e4 F (fun j o hl=>by have:=(hbk j o).1; have:=a.lo; omega);have z5:=F.size;refine bP bx5 ?_;intro h6 H J z6;have H:br h6 g8 84 [vI (n:Int),vI 0,w'.v]:=H;have o6:tZ h5 [g8] bl:=tZ.box (e:=84) (fun j o=>by rw [ak9.1 o]; exact ⟨_,bx5⟩) bQ bQ bQ;have ps6:=ps5.aj J o6 (fun j o b=>a.n8 (by rw [<- ak9.1 b]; exact o));have lq6:=U.aj J o6 (fun j o b=>by
   obtain ⟨zs,A⟩:=U.box j o;rw [ak9.1 b] at A;exact absurd (oa bx5 A) bQ)
  have it6:=it5.aj J o6;have ms6:=ms5.aj J (fun b=>jh ms5 bx5 (ak9.1 b).symm);have mm6:=mm5.aj J (fun b=>jh mm5 bx5 (ak9.1 b).symm);have e6:Ext h0 h6:=Ch.trans e5 J (fun j o hl=>by simp at o; have:=a.l8; omega);refine K8 Zj OW ms6 ((n:Int),(i:Int)) ((s.l,w.l):Nat × Nat) ?_;intro h7 m7 Y z7;have e7:Ext h0 h7:=bU e6 Y;rw [<- Lj (by rw [hT]; simp [hwl])] at m7;have V:Mem h6 h0.size bl s w' pw (xs++[x.e]) g8 n p l c ws:=⟨ps6,lq6,H,it6⟩
  refine go h7 w' (xs++[x.e]) ⟨e7,V.OR ms6 Y,a.lo,by have:=Y.size; omega,⟨_,m7⟩,⟨_,_,mm6.aj Y (by simp; omega),fun t=>?_,fun r t hr=>?_⟩,D,a.l8,a.n8,by simp; omega,?_,fun C=>absurd C ad,by rw [af9 ad]; exact heq⟩
  ·unfold tR;rw [dz9]
   by_cases ht:t=fA x.e
   ·subst ht;rw [af9 rfl,<- B,E,hf,hwl]
    simp
   ·rw [ac9 (by intro C; exact ht (dr9 C).2),B];cases (xs.findIdx? fun y=>decide (fA y=t)) with
    | some k=>rfl
    | none =>
     have:decide (fA x.e=t)=false:=aj9 fun C=>ht C.symm
     simp [this]
  ·unfold tR;rw [ac9 (by intro C; have:=(dr9 C).1; omega)];exact Q r t hr
  ·intro y G;rcases as9.1 G with G | G
   ·exact a.pV y G
   ·rw [ak9.1 G]; exact ok.pV
def plT (g8 n i a:Nat) (s:bI):T :=
   T.af (⟨a,0,none⟩:Xax) [.int .i64] <| fun (b:Int) =>
   cond (b==(4:Int))
   (T.af ((⟨g8,0,none⟩:Xax).add 2) [.slice 53] <| fun (u:Xac) (d w:Nat) =>
   cond (decide ((d:Int)>(0:Int)))
    (T.ax ((⟨g8,0,none⟩:Xax).add 1) [vI (i:Int)] <|
    T.af (⟨g8,0,none⟩:Xax) [.int .i64,.int .i64,.slice 53] <| fun (e f:Int) (g:Xac) (h j:Nat) =>
    bR (Instr.buildSlice 80 1 #[(0,.agg #[vI e,vI f,.slice g h j])]) false [cR] <| fun (k:Xac) (m o:Nat) =>
    bR (Builtin.append_ #[80,80] 80 #[.slice s.p s.l s.c,.slice k m o]) false [cR] <| fun (q:Xac) (r t:Nat) =>
    T.ax (⟨g8,0,none⟩:Xax) [vI (n:Int),vI (0:Int),aZ] <|
    T.again 1 [.slice q r t,vI (bn ((i:Int)+(1:Int)))])
    (T.again 1 [.slice s.p s.l s.c,vI (bn ((i:Int)+(1:Int)))]))
   (T.again 1 [.slice s.p s.l s.c,vI (bn ((i:Int)+(1:Int)))])
def W2 {L:Lp} {K:Xab->Hp->Prop} {h0 h:Hp} {I:Nat->List cz} {N gs gm n i g8 J:Nat} {s w:bI} {pw:List (Pl × bI)} {bl:Nat} {xs:List bJ} {p:Xac} {l c:Nat} {ws:List (bI × cz)} (hgs:h0.size<=gs) (hgm:h0.size<=gm)
  (b:NS h0 h I N gs gm n i g8 s w pw bl xs p l c ws) (R:i<=(I n).length) (hlen:(I n).length<=2^29) (S:pw.length<=2^30) {q:Xac} {m d:Nat} {x:cz} (hk:i=(I n).length->x.kind=4) (U:zB I N ((n:Int),(i:Int))=none) (V:br h J 55 (encI q m d x))
  (W:pP n i ((I n).drop i) xs=if x.kind=4 then shut n i xs++(if i+1<=(I n).length then pP n (i+1) ((I n).drop (i+1)) [] else []) else (if i+1<=(I n).length then pP n (i+1) ((I n).drop (i+1)) xs else []))
  (X:∀ h' B w' Y Z xs',NS h0 h' I N gs gm n (i+1) g8 B w' Y Z xs' p l c ws->T.again 1 [.slice B.p B.l B.c,vI (IntKind.wrap .i64 ((i:Int)+(1:Int)))] L K h'):plT g8 n i J s L K h:=by
 have hsl0:s.l=pw.length:=by have:=b.mem.ps.sl.1; rwa [ab9] at this
 have heq:=b.eq;rw [af9 R,W] at heq;have hwl:=b.mem.lq.len;have k:∀ p,p∈pw.map (·.1)->p.u<n\/p.u=n/\p.i<i+1:=fun p hp=>(b.ord p hp).imp id fun h=>⟨h.1,ad⟩
 obtain ⟨nf,ms⟩:=b.ms;rw [<- WY U] at ms;obtain ⟨mf,nm,mm,M,A⟩:=b.mm;unfold plT bR bn aZ cR;rw [ay,ay];refine aw V (x.kind,()) (ak ?_);refine ao ?_ ?_<;>intro C
 ·have C:x.kind=4:=eq_of_beq C;rw [af9 C,bb9] at heq;refine aw b.mem.bx ((w.p,w.l,w.c),()) (ak ?_);refine aK ?_ ?_<;>intro g1
  ·have hsh:shut n i xs=[⟨n,i,xs⟩]:=by unfold shut; rw [ac9 ad]
   rw [hsh] at heq;refine bP b.mem.bx ?_;intro h1 o E z1;have o:br h1 g8 84 [vI (n:Int),vI (i:Int),w.v]:=o;have o1:tZ h [g8] bl:=tZ.box (e:=84) (fun j g=>by rw [ak9.1 g]; exact ⟨_,b.mem.bx⟩) bQ bQ bQ;have ps1:=b.mem.ps.aj E o1 (fun j g f=>b.n8 (by rw [<- ak9.1 f]; exact g));have lq1:=b.mem.lq.aj E o1 (fun j g f=>by
    obtain ⟨zs,F⟩:=b.mem.lq.box j g;rw [ak9.1 f] at F;exact absurd (oa b.mem.bx F) bQ)
   have it1:=b.mem.it.aj E o1;have ms1:=ms.aj E (fun f=>jh ms b.mem.bx (ak9.1 f).symm);have mm1:=mm.aj E (fun f=>jh mm b.mem.bx (ak9.1 f).symm);have e1:Ext h0 h1:=Ch.trans b.e E (fun j g hl=>by simp at g; have:=b.l8; omega);refine aw o ((n:Int),(i:Int),(w.p,w.l,w.c),()) (ak ?_);have hb:=b.hi;refine I0 (u:=n) (i:=i) (xs:=xs) ps1 lq1 b.lo ad S ?_;intro B h2 O G z;have o2:tZ h1 (aG s.p) bl:=tZ.box (jY ps1.sl) bQ bQ bQ;have bx2:=o.aj G b.n8;have it2:=it1.aj G o2;have ms2:=ms1.aj G (fun f=>by
    obtain ⟨zs,F⟩:=jY ps1.sl _ f;exact jh ms1 F rfl)
   have mm2:=mm1.aj G (fun f=>by
    obtain ⟨zs,F⟩:=jY ps1.sl _ f;exact jh mm1 F rfl)
   have e2:Ext h0 h2:=Ch.trans e1 G (fun j g hl=>by have:=(ps1.sl.cw g).1; omega);have z2:=G.size;have P:g8∉aG B.p:=by
    rcases z with z | ⟨a,z,ha⟩
    ·rw [z]; exact b.n8
    ·rw [z];intro f
     have:g8=a.block:=ak9.1 f
     have:=o.lt
     omega
   have hs':B.l=s.l+1:=by
    have:=O.sl.1
    rw [ab9,ae9,List.length_singleton] at this;omega
   refine bP bx2 ?_;intro h3 D Q z3;have D:br h3 g8 84 [vI (n:Int),vI 0,(⟨none,0,0⟩:bI).v]:=D;have o3:tZ h2 [g8] h2.size:=tZ.box (e:=84) (fun j g=>by rw [ak9.1 g]; exact ⟨_,bx2⟩) bQ bQ bQ;have ps3:=O.aj Q o3 (fun j g f=>P (by rw [<- ak9.1 f]; exact g));have ms3:=ms2.aj Q (fun f=>jh ms2 bx2 (ak9.1 f).symm);have mm3:=mm2.aj Q (fun f=>jh mm2 bx2 (ak9.1 f).symm);have e3:Ext h0 h3:=Ch.trans e2 Q (fun j g hl=>by simp at g; have:=b.l8; omega);refine X h3 B ⟨none,0,0⟩ _ h2.size [] ⟨e3,⟨ps3,kY.nil _ _,D,it2.aj Q o3⟩,by have:=b.lo; omega,ad,⟨_,ms3⟩,⟨_,_,mm3,fun t=>?_,fun r t hr=>A r t ad⟩,?_,b.l8,P,ai,ai,fun _=>rfl,?_⟩
   ·rw [A _ _ ad] <;> rfl
   ·intro y H;rw [ao9,as9] at H;rcases H with H | H
    ·exact k y H
    ·have:y=⟨n,i,xs⟩:=by simpa using H
     rw [this];exact .inr ⟨rfl,by show i<i+1; omega⟩
   ·rw [ao9,bb9];exact heq
  ·have hx0:xs=[]:=bs9 ad;subst hx0;exact X h s w pw bl [] ⟨b.e,b.mem,b.lo,b.hi,⟨_,ms⟩,⟨_,_,mm,M,A⟩,k,b.l8,b.n8,ai,b.pV,fun _=>rfl,heq⟩
 ·have C:¬ x.kind=4:=ex9 C;rw [ac9 C] at heq;exact X h s w pw bl xs ⟨b.e,b.mem,b.lo,b.hi,⟨_,ms⟩,⟨_,_,mm,M,A⟩,k,b.l8,b.n8,by have:=b.xl; omega,b.pV,fun hh=>absurd (hk ad) C,heq⟩
def lx:cz:=⟨4,⟨#[]⟩,⟨0,0,0,0,0⟩,⟨[],0⟩,0⟩
def X1:Tryz.prog.underlying 46=some (.slice 55):=av
def Wn:Instr.fill (fun j=>some (j*10,10)) ((Array.range (1*10)).map ((Value.agg iz.toArray).cells[· % (Value.agg iz.toArray).cells.size]!)) [(0,.agg #[vI (4:Int),.string ⟨#[]⟩,vI (0:Int),vI (0:Int),vI (0:Int),.int .i32 (0:Int),vI (0:Int),.slice none 0 0,.int .u32 (0:Int),vI (0:Int)])]=some (encI none 0 0 lx).toArray:=av
def P1 {x:cz} (s:SL O 0 64 2 U.p U.l U.c (x.e.ah.map df)) (ok:BI x):iM O U.p U.l x:=⟨⟨Sx.SL.Nt s,ok.tm.many,ok.tm.names⟩,ok.name,ok.op⟩
def Qe (h:Hp):iM h none 0 lx:=⟨⟨⟨rfl,fun i hi=>absurd hi (by simp [lx])⟩,by simp [lx],by simp [lx]⟩,by show 0<=_; omega,by unfold Sm; show _<=(0:Int)/\(0:Int)<=_; omega⟩
variable {b:Nat->List cz}
def EJ (X:eH O) (tb:yx O) {N:Nat} (hN:N<=2^29) (un:∀ h',Ext O h'->uo Xaz 39 [ptr (H+3)] h' (vI (N:Int)))
  (its:∀ h',Ext O h'->∀ n:Nat,n<N->HC Xaz 40 #[ptr (H+3),vI (n:Int),vI 0] h' fun v h''=>Ext h' h''/\∃ t ws,v=bI.v t/\Cs h'' h'.size t ws/\ws.map (·.2)=b n)
  (hI:∀ n,n<N->(b n).length<=2^29) (hR:(uU b N).length<=2^30) (ok:∀ n x,n<N->x∈b n->BI x) :
  HC Xaz 22 #[ptr (H+3)] O fun v h'=>Ext O h'/\∃ s pw gs nf,v=.tuple #[bI.v s,.map (some gs)]/\xH h' O.size h'.size s pw/\pw.map (·.1)=uU b N/\gZ zS Wl h' gs (zB b N) nf:=by
 refine aX (args:=[ptr (H+3)]) mixed Tryz.func22 av (BE (some ⟨H+3,0,none⟩)) ?_;unfold yE aR aY bq aH aT cE eE bM bd bR aC bj aZ bZ aM ct cR;refine Ee (kv:=zS) (en:=Wl) ?_;intro h1 Y e1 z1;refine cv rfl ?_;refine Ee (kv:=Fi) (en:=Zc) ?_;intro h2 Z e2 z2;have e02:=e1.trans e2;have ms2:=Y.aj e2 ai;have hgl:=Y.lt;refine je (un h2 e02) ?_;generalize hgs:O.size=gs at ms2;have M:O.size<=h1.size:=ad
 have hne:gs≠h1.size:=ad
 have K:O.size<=gs:=ad
 generalize h1.size=gm at Z M hne;refine aQ (cs:=kA) (fun y k h'=>∃ (n:Nat) (s:bI) (pw:List (Pl × bI)) (bl:Nat),y.1=(s.p,s.l,s.c)/\y.2.1=(n:Int)/\k=N-n/\n<=N/\Ext O h'/\xH h' O.size bl s pw/\O.size<=bl/\bl<=h'.size/\(∃ nf,gZ zS Wl h' gs (iC b N n 0) nf)/\(∃ m nm,gZ Fi Zc h' gm m nm/\∀ q t,s.l<=q->m (q,t)=none)/\(∀ p,p∈pw.map (·.1)->p.u<n)/\pw.map (·.1)++FC b N n=uU b N) ((none,0,0),(0:Int),()) N rfl
  ⟨0,⟨none,0,0⟩,[],O.size,rfl,rfl,rfl,ad,e02,xH.nil _ _ _,au9 _,by have:=e02.size; omega,⟨0,by rw [RC]; exact ms2⟩,⟨_,_,Z,fun _ _ _=>rfl⟩,ai,rfl⟩ ?_
 rintro ⟨⟨p4,l5,c6⟩,n7,⟨⟩⟩ k W ⟨n,s,pw,bl,hs,hn,rfl,hle,e3,ps,lo,hi,⟨nf,ms⟩,⟨mf,nm,mm,P⟩,ord,Q⟩;simp only [Prod.mk.injEq] at hs hn;obtain ⟨rfl,rfl,rfl⟩:=hs;subst hn;refine ak ?_;refine aK ?_ ?_<;>intro g
 ·have hn:n<N:=ad
  have hIn:=hI n hn;rw [La hn] at Q;refine bm ?_;intro h4 b4 e4 z4;refine bP b4 ?_;intro h5 b5 k5 z5;have b5:br h5 W.size 84 [vI (n:Int),vI 0,(⟨none,0,0⟩:bI).v]:=b5;have e35:Ext W h5:=bU e4 k5;refine aE (its h5 (e3.trans e35) n hn) ?_;rintro _ h6 ⟨e6,t,ws,rfl,own,hws⟩;refine ⟨((t.p,t.l,t.c),()),rfl,ak ?_⟩;have hwl:ws.length=(b n).length:=by rw [<- hws,ab9]
  have htl:t.l=ws.length:=by have:=own.out.1; rwa [ab9] at this
  have z6:=e6.size;refine fg (b:=h5.size) (vs:=encI none 0 0 lx) X1 ZA rfl ad ad Wn rfl rfl own.out ad ad ad ?_;intro p' c' h7 s7 k7 _;have e57:Ext h5 h7:=Ch.trans e6 k7 (fun j hj hl=>by have:=(own.out.cw hj).1; omega);have e37:=e35.trans e57;have it:Y5 h7 p' (t.l+1) c' (ws++[(⟨none,0,0⟩,lx)]):=by
   refine ⟨?_,fun u D=>?_⟩
   ·have:=s7.mono (ek9 _)
    rw [ao9];exact this
   ·rcases as9.1 D with D | D
    ·exact SL.kN ((own.fx u D).mono (ek9 _)) k7 (jY own.out) bQ
    ·rw [ak9.1 D];exact SL.nil _ _ _ _
  have b7:=b5.aj e57 ai;have l8:O.size<=W.size:=e3.size;have z37:=e37.size;have ns0:NS O h7 b N gs gm n 0 W.size s ⟨none,0,0⟩ pw bl [] p' (t.l+1) c' (ws++[(⟨none,0,0⟩,lx)]) :=
   ⟨e3.trans e37,⟨ps.aj e37 (tZ.nil _ _) ai,kY.nil _ _,b7,it⟩,lo,ad,⟨nf,ms.aj e37 ai⟩,⟨mf,nm,mm.aj e37 ai,fun t=>by rw [P _ _ (au9 _)]; rfl,fun q t Q=>P _ _ ad⟩,fun p hp=>.inl (ord p hp),l8,fun hm=>by
    have:=Pe ps.sl _ hm
    omega,ai,ai,fun _=>rfl,by rw [af9 ad]; exact Q⟩
  refine aQ (cs:=kA) (fun y k h'=>∃ (i:Nat) (s w:bI) (pw:List (Pl × bI)) (bl:Nat) (xs:List bJ),y.1=(s.p,s.l,s.c)/\y.2.1=(i:Int)/\k=(b n).length+1-i/\i<=(b n).length+1/\NS O h' b N gs gm n i W.size s w pw bl xs p' (t.l+1) c' (ws++[(⟨none,0,0⟩,lx)])) ((s.p,s.l,s.c),(0:Int),()) ((b n).length+1) rfl
   ⟨0,s,⟨none,0,0⟩,pw,bl,[],rfl,rfl,rfl,ad,ns0⟩ ?_
  clear ns0 it b7 ps ms mm P ord Q;rintro ⟨⟨p18,l19,c20⟩,n21,⟨⟩⟩ k h8 ⟨i,s,w,pw,bl,xs,hs,hi2,rfl,hil,r⟩;simp only [Prod.mk.injEq] at hs hi2;obtain ⟨rfl,rfl,rfl⟩:=hs;subst hi2;refine ak ?_;have hwi:i<=(b n).length->IntKind.wrap .i64 ((i:Int)+1)=((i+1:Nat):Int):=fun _=>by rw [wrap_i64 ad ad]; omega
  refine aK ?_ ?_<;>intro g1
  ·have L:i<=(b n).length:=ad
   have hwi:=hwi L;have hiw:i<(ws++[((⟨none,0,0⟩:bI),lx)]).length:=by simp; omega
   obtain ⟨a,ha,hc⟩:=SL.cells r.mem.it.out (i:=i) (by rw [ab9]; exact hiw);rw [am9] at hc;have hin:=r.mem.it.fx _ (al9 hiw);have D:(i<(b n).length->∃ A:i<(b n).length,(ws++[((⟨none,0,0⟩:bI),lx)])[i].2=(b n)[i])/\(i=(b n).length->(ws++[((⟨none,0,0⟩:bI),lx)])[i]=(⟨none,0,0⟩,lx)):=by
    constructor
    ·intro A;refine ⟨A,?_⟩;rw [ca9 ad]
     have:=am9 (l:=ws) (f:=(·.2)) (i:=i) (h:=by rw [ab9]; omega)
     rw [<- this]
     congr 1
    ·intro A;rw [cs9 ad];simp [hwl,A]
   generalize (ws++[((⟨none,0,0⟩:bI),lx)])[i]=u at hc hin D;obtain ⟨C,x⟩:=u;simp only at hin D;have hc:aF h8 (a.add (i*10)) 0 (encI C.p C.l C.c x):=hc;have hat:iM h8 C.p C.l x:=by
    by_cases A:i<(b n).length
    ·obtain ⟨_,E⟩:=D.1 A;exact P1 hin (by rw [E]; exact ok n _ hn (al9 A))
    ·have:=D.2 ad
     have h1:=(dr9 this).1;have h2:=(dr9 this).2;subst h1 h2;exact Qe _
   refine bK ha ?_;rw [cr i];refine ar (x.kind,x.name,x.inst.op,x.inst.a,x.inst.b,x.inst.n,x.inst.form,(C.p,C.l,C.c),(x.e.num:Int),x.n,()) hc (ak ?_);refine bm ?_;intro h9 b9 e9 z9;refine bP b9 ?_;intro h10 J k10 z10;have J:br h10 h8.size 55 (encI C.p C.l C.c x):=J;have F:Ext h8 h10:=bU e9 k10;refine aw J (x.kind,x.name,x.inst.op,x.inst.a,x.inst.b,x.inst.n,x.inst.form,(C.p,C.l,C.c),(x.e.num:Int),x.n,()) (ak ?_);refine aE (MP (tb.aj (r.e.trans F) ai) (hat.aj F)) ?_;rintro _ h11 ⟨rfl,e11⟩;refine ⟨(zr x,()),rfl,ak ?_⟩;have e811:=F.trans e11;have ns':NS O h11 b N gs gm n i W.size s w pw bl xs p' (t.l+1) c' (ws++[(⟨none,0,0⟩,lx)]):=by
    obtain ⟨nf,m1⟩:=r.ms;obtain ⟨m,nm,m2,q1,q2⟩:=r.mm
    have:=e811.size
    have:=r.hi
    exact ⟨r.e.trans e811,r.mem.ext e811,r.lo,ad,⟨nf,m1.aj e811 ai⟩,⟨m,nm,m2.aj e811 ai,q1,q2⟩,r.ord,r.l8,r.n8,r.xl,r.pV,r.en,r.eq⟩
   have b11:=J.aj e11 ai;have hpl:pw.length<=2^30:=by
    have:=aq9 List.length r.eq
    rw [ae9,ab9] at this;omega
   cases G:zr x with
   | true =>
    refine bX rfl ?_;have A:i<(b n).length:=by
     by_cases A:i<(b n).length
     ·exact A
     ·have h2:=(dr9 (D.2 ad)).2;rw [h2] at G;cases G
    obtain ⟨_,E⟩:=D.1 A;subst E;exact Wx (q:=C.p) (m:=C.l) (d:=C.c) X hne K M ns' hn A hIn G b11 (hin.bF e811 ai) (ok n _ hn (al9 A)) fun h' w' R S =>
     aD (cs:=kA) ((s.p,s.l,s.c),((i+1:Nat):Int),()) ((b n).length+1-(i+1)) rfl ad (aq9 (fun z=>[Value.slice s.p s.l s.c,Value.int .i64 z]) hwi) ⟨i+1,s,w',pw,bl,R,rfl,rfl,rfl,ad,S⟩
   | false =>
    refine cv rfl ?_;refine W2 (q:=C.p) (m:=C.l) (d:=C.c) (x:=x) K M ns' L hIn hpl (fun A=>by rw [(dr9 (D.2 A)).2]; rfl) ?_ b11 ?_ fun h' U w' pw' bl' R S =>
     aD (cs:=kA) ((U.p,U.l,U.c),((i+1:Nat):Int),()) ((b n).length+1-(i+1)) rfl ad (aq9 (fun z=>[Value.slice U.p U.l U.c,Value.int .i64 z]) hwi) ⟨i+1,U,w',pw',bl',R,rfl,rfl,rfl,ad,S⟩
    ·by_cases A:i<(b n).length
     ·obtain ⟨_,E⟩:=D.1 A;rw [P' hn A,<- E,G] <;> rfl
     ·exact J9 ad
    ·by_cases A:i<(b n).length
     ·obtain ⟨_,E⟩:=D.1 A;rw [Ey A,<- E,G,af9 (show i+1<=(b n).length from ad),af9 (show i+1<=(b n).length from ad)] <;> rfl
     ·have V:i=(b n).length:=ad
      have h2:=(dr9 (D.2 V)).2;rw [h2,af9 (show lx.kind=4 from rfl),ac9 ad,bz9,V,JT]
  ·have V:i=(b n).length+1:=ad
   have hx0:=r.en ad;have heq:=r.eq;rw [ac9 ad,dc9] at heq;obtain ⟨nf,m1⟩:=r.ms;obtain ⟨m,nm,m2,q1,q2⟩:=r.mm;rw [OO ad] at m1;subst hx0;have hw:=hY n;exact aD (cs:=kA) ((s.p,s.l,s.c),((n+1:Nat):Int),()) (N-(n+1)) rfl ad (aq9 (fun z=>[Value.slice s.p s.l s.c,Value.int .i64 z]) hw) ⟨n+1,s,pw,bl,rfl,rfl,rfl,ad,r.e,r.mem.ps,r.lo,r.hi,⟨nf,m1⟩,⟨m,nm,m2,fun q t Q=>by
    by_cases hqe:q=s.l
    ·subst hqe; rw [q1]; rfl
    ·exact q2 q t ad⟩,fun p hp=>by rcases r.ord p hp with O | ⟨O,_⟩ <;> omega,heq⟩
 ·have hnN:n=N:=ad
  subst hnN;rw [UO (au9 _),bz9] at Q;rw [Sq] at ms;subst hgs;exact ⟨e3,s,pw,_,nf,rfl,⟨ps.sl,fun x E=>⟨(ps.lits x E).1,fun j hj=>⟨((ps.lits x E).2 j hj).1,by have:=((ps.lits x E).2 j hj).2; omega⟩⟩⟩,Q,ms⟩
def YH:Tryz.prog.underlying 24=some (.slice 30):=av
def XB:(Tryz.prog.info? 30).map (fun i=>(i.zero,i.size,i.bytes))=some (some (.agg #[vI 0,vI 0,.slice none 0 0]),3,40):=av
structure NQ (h:Hp) (b bl:Nat) (s:bI) (pw:List (Pl × bI)):Prop where
 sl:SL h b 30 3 s.p s.l s.c (pw.map Xo)
 lits:∀ x,x∈pw->kY h 0 x.2 x.1.l/\∀ i,i∈aG x.2.p->b<=i/\i<bl
def NQ.vw {h:Hp} {b bl:Nat} {s:bI} {pw:List (Pl × bI)} (v:NQ h b bl s pw) (c:pw.length<=2^40) (hl:∀ p,p∈pw.map (·.1)->p.l.length<=2^40):Wh h s.p s.l (pw.map (·.1)) :=
 ⟨by have:=v.sl.1; rw [ab9] at this; rw [ab9]; exact this,by rw [ab9]; exact c,fun i hi=>by
  rw [ab9] at hi;obtain ⟨a,d,hc⟩:=SL.cells v.sl (i:=i) (by rw [ab9]; exact hi);rw [am9] at hc;rw [am9];exact ⟨a,pw[i].2,d,hc,(v.lits _ (al9 hi)).1.vw (hl _ (bc9 (al9 hi)))⟩⟩
def LY {R:List Pl} (w:R.length<=2^30) (all:HC Xaz 22 #[ptr H] O fun v h'=>Ext O h'/\∃ s pw g,v=.tuple #[bI.v s,.map g]/\xH h' O.size h'.size s pw/\pw.map (·.1)=R) :
  HC Xaz 8 #[ptr H] O fun v h'=>Ext O h'/\∃ s pw,v=bI.v s/\NQ h' O.size h'.size s pw/\pw.map (·.1)=R:=by
 refine aX (args:=[ptr H]) mixed Tryz.func8 av (zL (some ⟨H,0,none⟩)) ?_;unfold xm aR aY bq aH bM bd aZ aM cR;refine aE all ?_;rintro _ h1 ⟨A,s,pw,g,rfl,ps,m⟩;refine ⟨((s.p,s.l,s.c),g,()),rfl,ak ?_⟩;have C:s.l=pw.length:=by have:=ps.sl.1; rwa [ab9] at this
 have D:pw.length<=2^30:=by rw [<- m,ab9] at w; exact w
 have z1:=A.size;refine aQ (cs:=kA) (fun y k h'=>∃ (i:Nat) (t:bI),y.1=(t.p,t.l,t.c)/\y.2.1=(i:Int)/\k=pw.length-i/\i<=pw.length/\Ext h1 h'/\SL h' h1.size 30 3 t.p t.l t.c ((pw.take i).map Xo)) ((none,0,0),(0:Int),()) pw.length rfl
  ⟨0,⟨none,0,0⟩,rfl,rfl,rfl,ad,Ch.refl _ _,SL.nil _ _ _ _⟩ ?_
 rintro ⟨⟨P,Q,S⟩,n8,⟨⟩⟩ k h2 ⟨i,t,ht,hi,rfl,E,e,sl⟩;simp only [Prod.mk.injEq] at ht hi;obtain ⟨rfl,rfl,rfl⟩:=ht;subst hi;refine ak ?_;have F:t.l=i:=by have:=sl.1; rw [ab9,az9] at this; omega
 refine aK ?_ ?_<;>intro g
 ·have n:i<pw.length:=ad
  obtain ⟨a,G,hc⟩:=SL.cells ps.sl (i:=i) (by rw [ab9]; exact n);rw [am9] at hc;refine bK G ?_;rw [cr i];refine ar ((pw[i].1.u:Int),(pw[i].1.i:Int),(pw[i].2.p,pw[i].2.l,pw[i].2.c),()) (aI e ai _ _ hc) (ak ?_);refine bm ?_;intro U I J z3;refine bP I ?_;intro h4 o K z4;have o:br h4 h2.size 84 (Xo pw[i]):=o;have d:Ext h2 h4:=bU J K;refine aw o ((pw[i].1.u:Int),(pw[i].1.i:Int),(pw[i].2.p,pw[i].2.l,pw[i].2.c),()) (ak ?_);have z2:=e.size;have z24:=d.size;refine fg (b:=h1.size) (vs:=Xo pw[i]) YH XB rfl ad ad (RD pw[i].1.u pw[i].1.i pw[i].2.p pw[i].2.l pw[i].2.c) rfl rfl (sl.aj d ai) ad ad ad ?_;intro p' c' h5 L M _;have q:Ext h1 h5:=Ch.trans (e.trans d) M (fun j f hl=>by have:=(sl.cw f).1; omega);have hw:=hY i;refine aD (cs:=kA) ((p',t.l+1,c'),((i+1:Nat):Int),()) (pw.length-(i+1)) rfl ad (aq9 (fun z=>[Value.slice p' (t.l+1) c',Value.int .i64 z]) hw) ⟨i+1,⟨p',t.l+1,c'⟩,rfl,rfl,rfl,ad,q,?_⟩;rw [ag9 n,ao9];exact L
 ·have r:i=pw.length:=ad
  subst r;rw [bl9] at sl;refine ⟨A.trans e,t,pw,rfl,⟨sl.mono z1,fun x N=>?_⟩,m⟩;obtain ⟨h1,h2⟩:=ps.lits x N;have z2:=e.size;exact ⟨h1.Pj e (tZ.nil _ _) (fun j f=>(h2 j f).2),fun j f=>⟨(h2 j f).1,by have:=(h2 j f).2; omega⟩⟩
theorem xU (u:Nat):∀ (j:Nat) (its:List cz) (i:Nat) (l:List bJ),j<=its.length->∃ out l',pP u i its l=out++pP u (i+j) (its.drop j) l'/\∀ p,p∈out->p.u=u/\p.i<i+j
 | 0,its,i,l,_=>⟨[],l,rfl,ai⟩
 | j+1,[],i,l,h=>absurd h ai
 | j+1,x::its,i,l,h=>by
  have h:j<=its.length:=by simp at h; omega
  rw [show pP u i (x::its) l=if x.kind=4 then shut u i l++pP u (i+1) its [] else pP u (i+1) its (if zr x then jk l x.e else l) from rfl]
  by_cases hk:x.kind=4
  ·rw [af9 hk];obtain ⟨out,l',h1,h2⟩:=xU u j its (i+1) [] h;refine ⟨shut u i l++out,l',by rw [h1,bb9,List.drop_succ_cons,show i+(j+1)=i+1+j from ad],fun p a=>?_⟩;rcases as9.1 a with a | a
   ·unfold shut at a;split at a
    ·exact absurd a ai
    ·rw [ak9.1 a];exact ⟨rfl,by show i<_; omega⟩
   ·have:=h2 p a
    exact ⟨this.1,ad⟩
  ·rw [ac9 hk];obtain ⟨out,l',h1,h2⟩:=xU u j its (i+1) (if zr x then jk l x.e else l) h;exact ⟨out,l',by rw [h1,List.drop_succ_cons,show i+(j+1)=i+1+j from ad],fun p a=>by
    have:=h2 p a
    exact ⟨this.1,ad⟩⟩
theorem Lg (u:Nat):∀ (its:List cz) (i:Nat) (l:List bJ) (p:Pl),p∈pP u i its l->p.u=u
 | [],i,l,p,h=>by
  unfold pP shut at h;split at h
  ·exact absurd h ai
  ·rw [ak9.1 h]
 | x::its,i,l,p,h=>by
  unfold pP at h;split at h
  ·rcases as9.1 h with h | h
   ·unfold shut at h;split at h
    ·exact absurd h ai
    ·rw [ak9.1 h]
   ·exact Lg u its _ _ p h
  ·exact Lg u its _ _ p h
def To {I:Nat->List cz} {N u i:Nat} (f:u<N) (hi:i<(I u).length) (hl:zr (I u)[i]=true) :
  ∃ out rest l,uU I N=out++(pP u (i+1) ((I u).drop (i+1)) (jk l (I u)[i].e)++rest)/\(∀ p,p∈out->p.u<u\/p.u=u/\p.i<i)/\(∀ p,p∈rest->u<p.u)/\zm (uU I N) u i (I u)[i].e=some (out.length,kP (jk l (I u)[i].e) (I u)[i].e):=by
 have h0:∀ n,n<=N->uU I N=(List.range n).flatMap (fun u=>pP u 0 (I u) [])++FC I N n:=by
  intro n
  induction n with
  | zero=>intro _; rfl
  | succ n g =>
   intro hn;rw [g ad,La (show n<N from ad),fr9,ds9]
   simp
 have h1:=h0 u ad;rw [La f] at h1;obtain ⟨out,l,h2,h⟩:=xU u i (I u) 0 [] ad;rw [List.drop_zero,h2,bv9,Ey hi] at h1;have hk:¬ (I u)[i].kind=4:=by
  intro hk;unfold zr at hl;rw [hk] at hl;exact absurd hl ai
 rw [ac9 hk,af9 hl] at h1;have d:∀ p,p∈(List.range u).flatMap (fun u=>pP u 0 (I u) [])++out->p.u<u\/p.u=u/\p.i<i:=by
  intro p c;rcases as9.1 c with c | c
  ·obtain ⟨v,hv,c⟩:=ei9.1 c;rw [Lg v _ _ _ p c];exact .inl (du9.1 hv)
  ·obtain ⟨a,b⟩:=h p c;exact .inr ⟨a,ad⟩
 rw [bb9,<- bb9] at h1;refine ⟨_,_,l,h1,d,?_,?_⟩
 ·intro p c;unfold FC at c;obtain ⟨v,hv,c⟩:=ei9.1 c;rw [Lg _ _ _ _ p c];obtain ⟨k,hk,rfl⟩:=List.mem_iff_getElem.1 hv;rw [List.getElem_drop,List.getElem_range];omega
 ·rw [h1];exact J8 (x:=(I u)[i]) d hl
def PN {u i:Int} {q:Nat × Int} (h:jI b H u i=some q):0<=q.2:=by
 unfold jI at h;split at h
 ·cases h
 ·next d =>
  split at h
  ·next x a =>
   split at h
   ·next hl =>
    obtain ⟨hi,rfl⟩:=ax9.1 a;obtain ⟨out,rest,l,_,_,_,c⟩:=To (I:=b) (N:=H) (u:=u.toNat) ad hi hl;rw [c] at h;cases h;exact Fw _ _
   ·cases h
  ·cases h
def Qx (all:HC Xaz 22 #[ptr H] O fun v h'=>Ext O h'/\∃ s gs nf,v=.tuple #[bI.v s,.map (some gs)]/\gZ zS Wl h' gs (zB b V) nf) (u i:Int) :
  HC Xaz 9 #[ptr H,vI u,vI i] O fun v h'=>Ext O h'/\v=Yg (jI b V u i):=by
 refine aX (args:=[ptr H,vI u,vI i]) mixed Tryz.func9 av (B2 (some ⟨H,0,none⟩) u i) ?_;unfold zq bM bR bj ct;refine aE all ?_;rintro _ h1 ⟨f,s,gs,nf,rfl,m⟩;refine ⟨((s.p,s.l,s.c),some gs,()),rfl,ak ?_⟩;refine Ph m (u,i) ?_;refine bm ?_;intro n g j z3;refine bP g ?_;intro h4 a k z4;have d:Ext h1 h4:=bU j k;have a:br h4 h1.size 86 [vI ((((zB b V (u,i)).getD (0,0)).1:Nat):Int),vI ((((zB b V (u,i)).getD (0,0)).2:Nat):Int)]:=a;refine aw a (((((zB b V (u,i)).getD (0,0)).1:Nat):Int),()) (ak ?_);rw [ay];refine aw a (((((zB b V (u,i)).getD (0,0)).2:Nat):Int),()) (ak ?_);refine ⟨⟨a.cells _ rfl,trivial⟩,f.trans d,?_⟩;show Value.tuple _=_;cases e:jI b V u i with
 | none=>rw [show zB b V (u,i)=none by unfold zB; rw [e]; rfl]; rfl
 | some q =>
  have:=PN e
  rw [show zB b V (u,i)=some (q.1,q.2.toNat) by unfold zB; rw [e]; rfl];show Value.tuple #[vI (q.1:Int),vI ((q.2.toNat:Nat):Int),.bool true]=Value.tuple #[vI (q.1:Int),vI q.2,.bool true];rw [show ((q.2.toNat:Nat):Int)=q.2 from ad]
def Tn (h:H<=2^60):(Lib.decDigits H).length<=20:=by
 rw [Lib.decDigits_length]
 by_cases h0:H=0
 ·subst h0; rw [Lib.nDigits_small ad]; omega
 ·have:=Lib.numDigits_eq H ad ad
  split at this <;> omega
def CZ {c:UInt8} (hc:c=76\/c=69) (h:H<=2^60):cB (c::Lib.decDigits H)=true:=by
 have hl:=Tn h;have hd:=(CE H).1;have e:dE c=true:=by rcases hc with rfl | rfl <;> decide
 unfold cB;have h1:decide (0<(c::Lib.decDigits H).length)=true:=ai
 have h2:decide ((c::Lib.decDigits H).length<=32)=true:=by simp; omega
 have g:((c::Lib.decDigits H).all fun c=>dE c || dH c)=true:=by
  rw [fg9,e,Bool.true_or,bj9,bm9];intro x i;rw [hd x i,Bool.or_true]
 have j:(rp (c::Lib.decDigits H)).2.2=false:=by
  by_cases d:(c::Lib.decDigits H).length=2
  ·obtain ⟨a,b,f⟩:∃ a b,c::Lib.decDigits H=[a,b]:=by
    match h:Lib.decDigits H with
    | []=>rw [h] at d; simp at d
    | [b]=>exact ⟨c,b,rfl⟩
    | _::_::_=>rw [h] at d; simp at d
   rw [f];have k:a=c:=by injection f with h _; exact h.symm
   subst k;show (rp [a,b]).2.2=false;unfold rp;have l:¬ cN a=114:=by rcases hc with rfl | rfl <;> decide
   have m:¬ cN a=122:=by rcases hc with rfl | rfl <;> decide
   simp [l,m]
  ·rw [A9 d]
 rw [h1,h2,g,j];show (true && true && dE c && true && !false)=true;rw [e] <;> rfl
def IQ {w:LW} (b:QQ w) (k:Ky):cB (w.word k).data.toList=true:=by
 unfold LW.word;cases h:w.num k with
 | some n =>
  have:=b.n _ _ h
  show cB ((⟨#[76]⟩:Xaa)++lI n).data.toList=true;rw [oB,ei];exact CZ (.inl rfl) ad
 | none =>
  have h1:(w.sG k).getD 0<=2^60:=by
   cases h2:w.sG k with
   | none=>simp
   | some i=>have:=b.e _ _ h2; simp; omega
  show cB ((⟨#[69]⟩:Xaa)++lI ((w.sG k).getD 0)).data.toList=true;rw [oB,ei];exact CZ (.inr rfl) h1
section
variable {us:List cg} {w:LW}
variable {H:Nat} {O:bJ}
def Qd (A:oU us w) (hn:H<us.length) (a:w.bad H O=none):∀ t,t∈(w.lin H O).ah->∃ k,Vt us k/\t.1=w.word k:=by
 intro t ht;obtain ⟨p,k,d,hk,b⟩:=D9 a t ht;rw [A.own hn] at hk;obtain ⟨o,c,rfl⟩:=er9.1 hk;exact ⟨_,Fb A.right c,b⟩
def QJ (A:oU us w) (h:fK w 0 us=none) (hc:ma (oo w us)=none) (hn:H<us.length) (a:w.bad H O=none):∀ t,t∈(oi (jg (oo w us)) (w.lin H O)).ah->∃ k,Vt us k/\t.1=w.word k:=by
 intro t ht;have b:((oo w us).map (·.1)).Nodup:=by rw [Iq]; exact (A.two h).Wy
 rcases pY ht with ⟨p,i,c,_⟩ | ⟨p,y,v,i,ho,hv,c⟩
 ·obtain ⟨k,hk,e⟩:=Qd A hn a p i;exact ⟨k,hk,by rw [<- c,e]⟩
 ·rw [r8 b] at ho
  by_cases f:cC (eY (oo w us)) p.1=true
  ·rw [af9 f] at ho;have ho:=ay9 ho;subst ho;obtain ⟨_,s,u,m,j,e⟩:=tv (own:=cC (eY (oo w us))) (lin:=du (eY (oo w us))) (names:=Sx.aU (eY (oo w us))) (fun s=>dQ _ s) (Jv hc) ((dQ _ _).1 f) v hv;obtain ⟨d,o,_,r⟩:=kG m;rw [r] at j;obtain ⟨y,z,rfl⟩:=an9.1 o;obtain ⟨q,l,rfl⟩:=an9.1 (show y∈(eF 0 us).map (fun q=>(w.word (jo q),w.lin q.1 q.2.2)) from z);obtain ⟨C,g,_⟩:=Ae l;obtain ⟨k,hk,B⟩:=Qd A (ax9.1 g).1 (Al h l) u j;exact ⟨k,hk,by rw [<- c,<- e,B]⟩
  ·rw [ac9 f] at ho; cases ho
def TP (A:oU us w) (r:Fj us) (c:fK w 0 us=none) (hc:ma (oo w us)=none) (hn:H<us.length) (a:w.bad H O=none):(oi (jg (oo w us)) (w.lin H O)).ah.length<=2^20:=by
 have b:Nf (oi (jg (oo w us)) (w.lin H O)).ah:=eM _ _;have h1:((oi (jg (oo w us)) (w.lin H O)).ah.map (·.1)).Nodup:=cp9.2 (b.1.imp fun h=>jT h);have h2:=kb _ (((cm 0 us).map Ah++(eF 0 us).map jo).map w.word) h1 (fun s d=>by
  obtain ⟨t,ht,rfl⟩:=an9.1 d;obtain ⟨k,hk,e⟩:=QJ A c hc hn a t ht;rw [e];refine bc9 (as9.2 ?_);exact hk)
 have h3:=r.eG;have h4:=r.eqs;rw [ab9,ab9,ae9,ab9,ab9] at h2;omega
end
def V7 {us:List cg} {P:LP} (s:Fu us (.ok P)) (sm:H3 us) {h0:Hp} {usl lb:bI} {S:Nat->kZ} (b:One h0 O us P H usl lb S) {hv:Hp} (v:xt hv Z V us) (hn:a<us.length) :
  ∀ x,x∈(zZ us[a] 0).map (P.fy a)->BI x:=by
 intro x q;obtain ⟨_,i,u,z,A,j,hc,_⟩:=s;have r:Fj us:=⟨A.right,i⟩
 have ok:=b.ok v hn (show 0<2 from ad) x q;obtain ⟨y,C,rfl⟩:=an9.1 q;have f:y∈us[a].text:=C;have hbn:=jZ us 0 j a hn;rw [bv9] at hbn;have hbx:=(xQ hbn).1 y f;have e:(P.fy a y).e=oi (jg (oo P.w us)) (P.w.lin a y.e):=by rw [<- z]; rfl
 have hky:=QJ A j hc hn hbx;have hln:=TP A r j hc hn hbx;have lw:=r.Ku A.wi;have d:Nf (oi (jg (oo P.w us)) (P.w.lin a y.e)).ah:=eM _ _;have m:us[a]∈us:=al9 hn;have o:y.e∈cO us[a]:=by
  unfold cO;simp only [List.mem_append,List.mem_map];exact .inl (.inl ⟨y,f,rfl⟩)
 have c:(oi (jg (oo P.w us)) (P.w.lin a y.e)).num<4294967296:=jc (jc (sm.num _ m _ o).1);rw [<- e] at hky hln d c;have g:∀ t,t∈(P.fy a y).e.ah->cB t.1.data.toList=true:=fun t ht=>by
  obtain ⟨k,_,D⟩:=hky t ht;rw [D];exact IQ lw k
 exact ⟨⟨ok.2.2.1,ok.2.2.2⟩,⟨d,g,c⟩,ad,fun t ht=>⟨Bs (g t ht),(d.2 t ht).2⟩,c,ok.1,ok.2.1⟩
end Go.Sx.Po
namespace Go.Sx.Lk
open Go.Proofs Go.Sx.Ob
section
variable {h0 h h':Hp} {us:List cg} {su:bI} {P:LP} {B:Nat} {usl lb:bI} {S:Nat->kZ} {g b':Nat} {lb2 st sd:bI} {tw dw:List (bI × List (bI × cz))}
def Cy.ZM (b:Cy h0 h us su P B usl lb S g b' lb2 st sd tw dw) {hv:Hp} {p:Xac} {l:Nat} (v:xt hv p l us) {n:Nat} (hn:n<us.length) :
  ∃ (a:Xax) (t:bI),st.p=some a/\aF h (a.add (n*1)) 0 [t.v]/\FD h t.p t.l ((zZ us[n] 0).map (P.fy n)):=by
 have tr:=b.tx;have d:=b.ti;have e:n<tw.length:=by rw [d.1]; exact hn
 obtain ⟨a,f,hc⟩:=SL.cells tr.sl (i:=n) (by rw [ab9]; exact e);rw [am9] at hc;have hin:=tr.fx _ (al9 e);have hd:=d.2 n us[n] tw[n] (ad9 hn) (ad9 e);have hd:tw[n].2.map (·.2)=(zZ us[n] 0).map (P.fy n):=hd;refine ⟨a,tw[n].1,f,hc,?_⟩;have o:Cs h b' tw[n].1 tw[n].2:=⟨hin.sl,hin.own⟩
 have hm:=b.one.many hn (show 0<2 from ad);have c:tw[n].2.length<=2^60:=by
  have:=aq9 List.length hd
  rw [ab9,ab9] at this;omega
 have:=o.vw c (by rw [hd]; exact b.one.ok v hn (show 0<2 from ad))
 rwa [hd] at this
end
end Go.Sx.Lk
namespace Go.Sx.Po
open Go.Proofs Go.Sx.Ob Go.Sx.Lk
def UW (h:Hp):Prop:=∀ h',Ext h h'->HC Xaz 10 #[] h' fun v h''=>v=.bool true/\Ext h' h''
variable {H:Hp}
def Jn {L:Lp} {h1:Hp} (b:UW H) (a:Ext H h1):(T.call Xaz 10 [] false [(false,[.bool])] fun (c:Bool)=>T.ret (.bool c)) L (fun w h'=>w=.bool true/\Ext H h') h1:=by
 refine aE (b h1 a) ?_;rintro _ h2 ⟨rfl,d⟩;exact ⟨(true,()),rfl,rfl,a.trans d⟩
theorem EP (u:Nat):∀ (its:List cz) (i:Nat) (l:List bJ),(pP u i its l).length<=its.length+1/\∀ p,p∈pP u i its l->p.l.length<=l.length+its.length
 | [],i,l=>by
  unfold pP shut;split
  ·simp
  ·simp
 | x::its,i,l=>by
  unfold pP;split
  ·obtain ⟨h1,h2⟩:=EP u its (i+1) [];have h3:=RE u i l;refine ⟨by simp; omega,fun p a=>?_⟩;rcases as9.1 a with a | a
   ·unfold shut at a;split at a
    ·exact absurd a ai
    ·rw [ak9.1 a];show l.length<=_;omega
   ·have:=h2 p a
    simp at this ⊢;omega
  ·obtain ⟨h1,h2⟩:=EP u its (i+1) (if zr x then jk l x.e else l);have h3:(if zr x then jk l x.e else l).length<=l.length+1:=by
    split
    ·unfold jk;split
     ·simp
     ·omega
    ·omega
   refine ⟨by simp; omega,fun p a=>?_⟩
   have:=h2 p a
   simp at this ⊢;omega
def W9 {I:Nat->List cz} {N m:Nat} (h:∀ n,n<N->(I n).length<=m):(uU I N).length<=N*(m+1)/\∀ p,p∈uU I N->p.l.length<=m:=by
 constructor
 ·unfold uU;rw [en9]
  have:∀ l:List Nat,(∀ n,n∈l->n<N)->(l.map fun u=>(pP u 0 (I u) []).length).sum<=l.length*(m+1):=by
   intro l
   induction l with
   | nil=>intro _; simp
   | cons n l b =>
    intro hl;have h1:=b fun k hk=>hl k (ap9 _ hk)
    have h2:=(EP n (I n) 0 []).1;have h3:=h n (hl n ai);rw [bo9,cr9,ck9,Nat.succ_mul];omega
  have:=this (List.range N) (fun n hn=>du9.1 hn)
  rwa [dt9] at this
 ·intro p a;obtain ⟨n,hn,a⟩:=ei9.1 a;have h1:=(EP n (I n) 0 []).2 p a;have h2:=h n (du9.1 hn);simp at h1;omega
def IU (us:List cg) (P:LP) (n:Nat):List cz:=if hn:n<us.length then (zZ us[n] 0).map (P.fy n) else []
structure KB (h:Hp) (us:List cg) (P:LP) (B:Nat):Prop where
 un:∀ h',Ext h h'->uo Xaz 39 [ptr (B+3)] h' (vI (us.length:Int))
 its:∀ h',Ext h h'->∀ n:Nat,n<us.length->HC Xaz 40 #[ptr (B+3),vI (n:Int),vI 0] h' fun v h''=>Ext h' h''/\∃ t ws,v=bI.v t/\Cs h'' h'.size t ws/\ws.map (·.2)=IU us P n
 ok:∀ n x,n<us.length->x∈IU us P n->BI x
 len:∀ n,n<us.length->(IU us P n).length<=8192
 many:us.length<=64
section
variable {h0 h h':Hp} {us:List cg} {su:bI} {P:LP} {B:Nat} {usl lb:bI} {S:Nat->kZ} {g b':Nat} {lb2 st sd:bI} {tw dw:List (bI × List (bI × cz))}
variable {H:Xac}
def _root_.Go.Sx.Lk.Cy.prg (b:Cy h0 h us su P B usl lb S g b' lb2 st sd tw dw) (d:Fu us (.ok P)) (sm:H3 us) {hv:Hp} {l:Nat} (v:xt hv H l us):KB h us P B:=by
 have ag':=d;obtain ⟨_,a,_,_,A,_,_,_⟩:=ag';have r:Fj us:=⟨A.right,a⟩
 refine ⟨fun h' e=>Oc (b.one.ext e).pg,fun h' e n hn=>?_,fun n x hn c=>?_,fun n hn=>?_,a⟩
 ·refine HC.mono ((b.one.ext e).out ad v hn (show 0<2 from ad)) fun w h'' f=>?_
  obtain ⟨i,t,ws,j,o,k,m⟩:=f;exact ⟨i,t,ws,j,o,by unfold IU; rw [dif_pos hn]; exact k⟩
 ·unfold IU at c;rw [dif_pos hn] at c;exact V7 d sm b.one v hn x c
 ·unfold IU;rw [dif_pos hn,ab9]
  have:=(r.bg (al9 hn)).2
  show us[n].text.length<=_;omega
def _root_.Go.Sx.Lk.Cy.X4 (b:Cy h0 h us su P B usl lb S g b' lb2 st sd tw dw) {hv:Hp} {l:Nat} (v:xt hv H l us):FY h st us.length (IU us P):=by
 refine ⟨?_,fun n hn=>?_⟩
 ·have:=b.tx.sl.1
  rw [ab9,b.ti.1] at this;exact this
 ·obtain ⟨a,t,c,hc,hv⟩:=b.ZM v hn;refine ⟨a,t,c,hc,?_⟩;unfold IU;rw [dif_pos hn];exact hv
def KB.aj (p:KB h us P B) (e:Ext h h'):KB h' us P B:=⟨fun h2 a=>p.un h2 (e.trans a),fun h2 a=>p.its h2 (e.trans a),p.ok,p.len,p.many⟩
def KB.sz (p:KB h us P B):(uU (IU us P) us.length).length<=2^30/\∀ q,q∈uU (IU us P) us.length->q.l.length<=8192:=by
 obtain ⟨h1,h2⟩:=W9 (I:=IU us P) (N:=us.length) p.len
 have:=p.many
 have a:us.length*(8192+1)<=64*(8192+1):=cu9 _ this;exact ⟨ad,h2⟩
def KB.all (p:KB h us P B) (pw:eH h) (a:yx h):HC Xaz 22 #[ptr (B+3)] h fun v h'=>Ext h h'/\∃ s pw gs nf,v=.tuple #[bI.v s,.map (some gs)]/\xH h' h.size h'.size s pw/\pw.map (·.1)=uU (IU us P) us.length/\gZ zS Wl h' gs (zB (IU us P) us.length) nf :=
 EJ pw a (by have:=p.many; omega) p.un p.its (fun n hn=>by have:=p.len n hn; omega) p.sz.1 p.ok
def KB.XM (p:KB h us P B) (pw:eH h) (b:yx h):HC Xaz 8 #[ptr (B+3)] h fun v h'=>Ext h h'/\∃ s pw,v=bI.v s/\NQ h' h.size h'.size s pw/\pw.map (·.1)=uU (IU us P) us.length :=
 LY p.sz.1 (HC.mono (p.all pw b) fun v h' c=>by
  obtain ⟨e,s,pw,gs,nf,hv,ps,a,_⟩:=c;exact ⟨e,s,pw,_,hv,ps,a⟩)
def KB.slot (p:KB h us P B) (pw:eH h) (a:yx h) (u i:Int):HC Xaz 9 #[ptr (B+3),vI u,vI i] h fun v h'=>Ext h h'/\v=Yg (jI (IU us P) us.length u i) :=
 Qx (HC.mono (p.all pw a) fun v h' b=>by
  obtain ⟨e,s,pw,gs,nf,hv,_,_,m⟩:=b;exact ⟨e,s,gs,nf,hv,m⟩) u i
end
def KB.same {us:List cg} {P:LP} (i:∀ q,q∈uU (IU us P) us.length->q.l.length<=8192) (k:(uU (IU us P) us.length).length<=2^30) {h1 h2 a:Hp} {s t:bI} {c d:Nat} {pw j:List (Pl × bI)} {b bl m e:Nat} (v:NQ h1 b bl s pw) (hv:pw.map (·.1)=uU (IU us P) us.length) (n:Ext h1 a)
  (w:nu H h2 m e t j) (f:j.map (·.1)=uU (IU us P) us.length) (e0:Ext H h2) (o:Ext h2 a):HC Xaz 13 #[.slice s.p s.l s.c,.slice t.p t.l t.c] a fun z h'=>z=.bool true/\Ext a h':=by
 have l1:=aq9 List.length hv;have l2:=aq9 List.length f;rw [ab9] at l1 l2;have v1:=(v.vw ad (fun q g=>by have:=i q (by rw [<- hv]; exact g); omega)).aj n;have w1:=(w.vw e0 ad (fun q g=>by have:=i q (by rw [<- f]; exact g); omega)).aj o;rw [hv] at v1;rw [f] at w1;exact Mu v1 w1
def P7 (o:Option (Nat × Int)):∃ a b c,Yg o=.tuple #[vI a,vI b,.bool c]:=by cases o <;> exact ⟨_,_,_,rfl⟩
def M1 (pw:eH H) (y:yx H) (z:UW H) {su:bI} {us:List cg} (v:xt H su.p su.l us) (sm:H3 us) (u i:Int) :
  HC Xaz 4 #[.slice su.p su.l su.c,vI u,vI i] H fun w h'=>w=.bool true/\Ext H h':=by
 refine aX (args:=[.slice su.p su.l su.c,vI u,vI i]) mixed Tryz.func4 av (kX su.p su.l su.c u i) ?_;unfold gJ aT bM bH aM ct;refine aE (XF (su:=su) pw y v sm) ?_;rintro Y h1 ⟨j,b⟩
 by_cases k:uC us=true
 ·rw [af9 k] at b;refine ⟨(none,none,false,true,()),b,ak ?_⟩;exact bX rfl (bX rfl (Jn z j))
 rw [ac9 k] at b;have ag:=Bn (us:=us) sm.num;cases m:mP us with
 | error f =>
  rw [m] at b;refine ⟨(none,none,false,true,()),b,ak ?_⟩;exact bX rfl (bX rfl (Jn z j))
 | ok P =>
 rw [m] at b ag;obtain ⟨B,usl,lb,S,g,b',lb2,st,sd,tw,dw,rfl,x⟩:=b;refine ⟨(some ⟨B+3,0,none⟩,some ⟨g,0,none⟩,true,true,()),rfl,ak ?_⟩;refine cv rfl ?_;have p:=x.prg ag sm v;have rt:=x.X4 v;have hN:=p.many;obtain ⟨e,J⟩:=p.sz;refine aE (p.slot (pw.aj j ai) (y.aj j ai) u i) ?_;rintro _ h2 ⟨r,rfl⟩;have e12:=j.trans r;have pr2:=x.pr.aj r;have A:FY h2 st us.length (IU us P):=⟨rt.1,fun n hn=>by
  obtain ⟨a,t,C,hc,hv⟩:=rt.2 n hn;exact ⟨a,t,C,aI r ai _ _ hc,hv.aj r⟩⟩
 have hsl:=RH pr2 (N:=us.length) (I:=IU us P) ad A (fun n hn=>by have:=p.len n hn; omega) e (fun q b=>by have:=J q b; omega) u i;generalize jI (IU us P) us.length u i=o at hsl;obtain ⟨K,L,M,R⟩:=P7 o;rw [R] at hsl ⊢;refine ⟨(K,L,M,()),rfl,ak ?_⟩;refine aE hsl ?_;rintro _ Z ⟨O,rfl⟩;refine ⟨(K,L,M,()),rfl,ak ?_⟩;have e13:=e12.trans O;have e23:=r.trans O;refine aE ((p.aj e23).XM (pw.aj e13 ai) (y.aj e13 ai)) ?_;rintro _ U ⟨Q,s,V,rfl,ps,D⟩;refine ⟨((s.p,s.l,s.c),()),rfl,ak ?_⟩;have e34:=e23.trans Q;have E:FY U st us.length (IU us P):=⟨rt.1,fun n hn=>by
  obtain ⟨a,t,C,hc,hv⟩:=rt.2 n hn;exact ⟨a,t,C,aI e34 ai _ _ hc,hv.aj e34⟩⟩
 refine aE (DE (x.pr.aj e34) (N:=us.length) (I:=IU us P) ad E (fun n hn=>by have:=p.len n hn; omega) e) ?_;rintro _ h5 ⟨F,t,qw,rfl,W,G⟩;refine ⟨((t.p,t.l,t.c),()),rfl,ak ?_⟩;refine aE (KB.same (c:=s.c) (d:=t.c) J e ps D F W G F (Ch.refl _ _)) ?_;rintro _ h6 ⟨rfl,X⟩;refine ⟨(true,()),rfl,ak ?_⟩;refine bX rfl (bX ai (bX ai (bX ai ?_)));exact Jn z ((e13.trans Q).trans (F.trans X))
end Go.Sx.Po
namespace Go.Sx.Ob
open Go.Proofs Go.Proofs.YtmdncdaladplkaaGreatDoor
open Go.ChangeShapes Go.WideShapes Go.ChangeAt Go.WideMaps Go.WideElems Go.RowKit
def wQ (P:Program) (t:TypeId):Option (List (TypeId × Nat)):=(P.underlying t).bind fun d=>match d with | .struct a=>some (a.toList.map fun f=>(f.type,f.offset)) | _=>none
section
variable {H:Type} {enc:TypeId × Xab->H} {P:Program} {W:World} {base fuel:Nat} {sp:Nat->Bool} {held:Bool} {t:TypeId} {cs:List Xab} {y:DataW H × List MemPlace}
def gn {l:List (TypeId × Nat)} (a:wQ P t=some l) (h:DataW.trod enc P W base sp held fuel t cs=some y) :
  ∃ (xs:List (DataW H × List MemPlace)) (n:Nat),y.1=.agg (xs.map (·.1))/\cs.length=P.cellsOf t/\xs.length=l.length/\∀ (i:Nat) (p:TypeId × Nat),l[i]?=some p->∃ x,xs[i]?=some x/\DataW.trod enc P W base sp held n p.1 ((cs.drop p.2).take (P.cellsOf p.1))=some x:=by
 unfold wQ at a;cases e:P.underlying t with
 | none=>rw [e] at a; cases a
 | some d =>
  rw [e] at a;simp only [Option.bind_some] at a;split at a
  ·rename_i j;simp only [Option.some.injEq] at a;obtain ⟨xs,n,_,o,hl,c,q⟩:=DataW.trod_struct e h;refine ⟨xs,n,by rw [o],hl,by rw [<- a,ab9,c,da9],fun i p k=>?_⟩;rw [<- a,ch9,er9] at k;obtain ⟨f,b,rfl⟩:=k;rw [dm9] at b;have h1:=q i f b;cases m:xs[i]? with
   | none =>
    rw [List.getElem?_eq_none_iff] at m
    have:i<j.size:=by
     by_cases g:i<j.size
     ·exact g
     ·rw [ct9 ad] at b;cases b
    omega
   | some x=>rw [m] at h1; exact ⟨x,rfl,h1⟩
  ·cases a
theorem jM {h:Hp} {a:Xax}:∀ (b:List Xab) (i:Nat),(∀ j,(c:j<b.length)->gS h (a.add (i+j))=some b[j])->aF h a i b
 | [],_,_=>trivial
 | v::b,i,d=>⟨by have:=d 0 ai; rw [eo9] at this; exact this,jM b (i+1) fun j c=>by
  have:=d (j+1) (by simpa using c)
  rw [show i+1+j=i+(j+1) from ad];simpa using this⟩
def W3 {a:Xax} {n:Nat} (h:W.cells? base a n=some cs):cs.length=n/\aF W.heap a 0 cs:=by
 unfold World.cells? at h;split at h
 ·have hl:cs.length=n:=by simpa using Lib.mapM_length h
  refine ⟨hl,jM cs 0 fun j d=>?_⟩;obtain ⟨b,c,e⟩:=Lib.mapM_at h j j (dl9 ad);rw [ad9 d] at c;cases c;rw [bv9,<- DA];exact e
 ·cases h
theorem yX {α:Type} (Q:Nat->α->Prop):∀ n,(∀ i,i<n->∃ x,Q i x)->∃ l:List α,l.length=n/\∀ i (hi:i<l.length),Q i l[i]
 | 0,_=>⟨[],rfl,fun i hi=>by simp at hi⟩
 | n+1,h=>by
  obtain ⟨l,hl,c⟩:=yX Q n (fun i hi=>h i ad);obtain ⟨x,d⟩:=h n ad;refine ⟨l++[x],by simp [hl],fun i hi=>?_⟩
  by_cases a:i<l.length
  ·rw [ca9 a];exact c i a
  ·have b:i=n:=by simp at hi; omega
   subst b;rw [cs9 ad];simpa using d
def Rg {ds:List (DataW H)} {ks:List Nat} (hl:ds.length=ks.length) (h:∀ i,(hi:i<ks.length)->(a:i<ds.length)->ks[i]=Rows.uptoBulk ds[i]):Rows.uptoBulkAll ds=ks.sum:=by
 induction ds generalizing ks with
 | nil =>
  cases ks with
  | nil=>rfl
  | cons k ks=>simp at hl
 | cons d ds b =>
  cases ks with
  | nil=>simp at hl
  | cons k ks =>
   have h0:=h 0 ai ai;simp only [List.getElem_cons_zero] at h0
   have:=b (ks:=ks) (by simpa using hl) (fun i hi a=>h (i+1) (by simpa using hi) (by simpa using a))
   unfold Rows.uptoBulkAll;rw [this,cr9,h0]
structure Fc {α:Type} (Q:α->List Xab->Nat->Prop) (h:Hp) (sz:Nat) (p:Xac) (l c:Nat) (us:List α) (ks:List Nat):Prop where
 len:l=us.length
 Ci:ks.length=us.length
 cells:∀ i,(hi:i<us.length)->(hk:i<ks.length)->∃ a cs,p=some a/\aF h (a.add (i*sz)) 0 cs/\Q us[i] cs ks[i]
 cap:l<=c
 XD:c<=maxLen
 nil:p=none->c=0
def open_slice {α:Type} {e:TypeId} {sz:Nat} (C:P.underlying t=some (.slice e)) (hc:P.cellsOf e=sz) (Q:α->List Xab->Nat->Prop)
  (q:∀ (cs:List Xab) (y:DataW H × List MemPlace) (n:Nat),DataW.trod enc P W base sp held n e cs=some y->∃ x:α,Q x cs (Rows.uptoBulk y.1))
  (h:DataW.trod enc P W base sp held fuel t cs=some y) :
  ∃ (p:Xac) (l c:Nat) (us:List α) (ks:List Nat),cs=[.slice p l c]/\Fc Q W.heap sz p l c us ks/\ks.sum+1<=Rows.uptoBulk y.1:=by
 rcases DataW.trod_slice C h with ⟨e0,f⟩ | ⟨a,len,cap,b,rest,n,_,e0,f,r,s,u,g,w,_,_⟩
 ·refine ⟨none,0,0,[],[],e0,⟨rfl,rfl,fun i hi=>by simp at hi,au9 _,ek9 _,fun _=>rfl⟩,?_⟩;rw [f];simp only [Rows.uptoBulk];decide
 ·have j:∀ i,i<len->∃ x:α × Nat,∃ d,aF W.heap (a.add (i*sz)) 0 d/\Q x.1 d x.2/\∃ y,b[i]?=some y/\x.2=Rows.uptoBulk y.1:=by
   intro i hi;have he:=w i hi;cases k:b[i]? with
   | none=>rw [List.getElem?_eq_none_iff] at k; omega
   | some y =>
    rw [k,hc] at he;simp only [Option.bind_eq_some_iff] at he;obtain ⟨d,z,A⟩:=he;obtain ⟨hl,gS⟩:=W3 z;obtain ⟨x,D⟩:=q _ _ _ A;exact ⟨(x,Rows.uptoBulk y.1),d,gS,D,y,rfl,rfl⟩
  obtain ⟨xs,m,o⟩:=yX _ len j;refine ⟨some a,len,cap,xs.map (·.1),xs.map (·.2),e0,⟨by rw [ab9,m],by rw [ab9,ab9],fun i hi hk=>?_,s,u,fun h=>by cases h⟩,?_⟩
  ·rw [ab9] at hi;obtain ⟨d,h1,h2,_⟩:=o i hi;rw [am9,am9];exact ⟨a,d,rfl,h1,h2⟩
  ·have:=Rg (ds:=b.map (·.1)) (ks:=xs.map (·.2)) (by rw [ab9,ab9,g,m]) (fun i hi B=>by
    rw [ab9] at hi B;obtain ⟨d,_,_,y,k,hk⟩:=o i hi;rw [ad9 B] at k;rw [am9,am9,hk,ay9 k])
   rw [f];simp only [Rows.uptoBulk];rw [this];omega
end
variable {O:Program} {H:World}
def QN {f:FuncId} {args:Array Xab} {R:Xab->Hp->Prop} (h:HC O f args H.heap R) (c:∀ v h',R v h'->Ext H.heap h'):Calls O f args H fun e w'=>∃ v,e=.returned v/\Below H.heap.size H w'/\R v w'.heap:=by
 refine (h H rfl).mono fun e w' ⟨v,hv,a,b⟩=>⟨v,hv,⟨a.os,a.tape,a.output,(c v _ b).size,fun k hk=>(c v _ b).same k hk ai⟩,b⟩
def IX {a:World} (c:Below H.heap.size H a) {p:MemPlace} (d:p.block<H.heap.size):H.sameAt a p:=by
 cases p with
 | cell b off =>
  show a.cell? _=H.cell? _;unfold World.cell?;rw [c.block b d]
 | map b=>exact c.block b d
def ZI:ownKnob Tryz.prog.godebug=none:=av
def u9:Tryz.prog.underlying 9=some .string:=av
def u4:Tryz.prog.underlying 4=some .bool:=av
def u3:Tryz.prog.underlying 3=some (.int .i64):=av
def u5:Tryz.prog.underlying 5=some (.int .u8):=av
def Zy:Tryz.prog.underlying 202=some (.array 43 171):=av
def YJ:Tryz.prog.cellsOf 171=3:=av
def ZQ:Tryz.prog.cellsOf 202=129:=av
def c9:Tryz.prog.cellsOf 9=1:=av
def c5:Tryz.prog.cellsOf 5=1:=av
def c3:Tryz.prog.cellsOf 3=1:=av
def Z0:wQ Xaz 171=some [(9,0),(5,1),(3,2)]:=av
def Fz:List (DataW Unit):=match (Rows.laid_spandrel_isa_table:DataW Unit) with | .agg l=>l | _=>[]
def OX:DataW Unit->Int
 | .agg [_,_,.lit (.int _ n)]=>n
 | _=>0
def S0:(Rows.laid_spandrel_isa_table:DataW Unit)=.agg Fz:=av
def PC:Fz.map OX=(List.range 43).map fun k=>((oK.getD k 0:Nat):Int):=av
theorem F0 {α β:Type} (f:α->List β) (m:Nat) (a:∀ x,(f x).length=m):∀ l:List α,(l.flatMap f).length=l.length*m
 | []=>ai
 | x::l=>by rw [cd9,ae9,a,F0 f m a l,ck9,Nat.succ_mul,Nat.add_comm]
def Ep (nm:Nat->Xaa) (by_:Nat->Int):(lU nm by_).length=129:=by
 unfold lU;rw [F0 _ 3 (fun x=>rfl),dt9]
def WW:DataW Unit->List UInt8
 | .agg [.lit (.string s),_,_]=>s
 | _=>[]
def WZ:DataW Unit->Int
 | .agg [_,.lit (.int _ n),_]=>n
 | _=>0
def Zp (k:Nat):List UInt8:=(vR k).data.toList
def R5:Fz.map WW=(List.range 43).map fun k=>Zp k:=av
def Tk:Fz.map WZ=(List.range 43).map fun k=>w8 k:=av
variable {U:Nat}
def Dw {enc:TypeId × Xab->Unit} {base:Nat} {sp:Nat->Bool} {g:Bool} {cs:List Xab} {p:List MemPlace}
  (h:DataW.trod enc Xaz H base sp g U 202 cs=some (Rows.laid_spandrel_isa_table,p)):cs=lU vR w8:=by
 obtain ⟨xs,m,_,F,hl,B,G⟩:=DataW.trod_array Zy h;rw [ZQ] at hl;have r:xs.map (·.1)=Fz:=by
  have:=aq9 Prod.fst F
  rw [show (Rows.laid_spandrel_isa_table,p).1=DataW.agg Fz from S0] at this;simpa using this.symm
 have l:∀ i,i<43->(cs.drop (i*3)).take 3=[.string (vR i),.int .u8 (w8 i),vI ((oK.getD i 0:Nat):Int)]:=by
  intro i hi;have h1:=G i hi;rw [YJ] at h1;rw [ad9 ad] at h1;obtain ⟨ys,n,t,o,u,f⟩:=gn Z0 h1;obtain ⟨I,J,C⟩:=f 0 _ rfl;obtain ⟨K,L,D⟩:=f 1 _ rfl;obtain ⟨M,N,E⟩:=f 2 _ rfl;rw [YJ] at o;generalize hc:(cs.drop (i*3)).take 3=c at *
  match c,o with
  | [R,S,V],_ =>
   rw [show Tryz.prog.cellsOf (9,0).1=1 from c9] at C;rw [show Tryz.prog.cellsOf (5,1).1=1 from c5] at D;rw [show Tryz.prog.cellsOf (3,2).1=1 from c3] at E;obtain ⟨s,e0,w,_⟩:=DataW.trod_string u9 C;obtain ⟨b,O,y,_⟩:=DataW.trod_int u5 D;obtain ⟨k,P,z,_⟩:=DataW.trod_int u3 E;cases e0; cases O; cases P;have d:ys=[I,K,M]:=by
    apply df9;intro j
    match j with
    | 0=>exact J
    | 1=>exact L
    | 2=>exact N
    | j+3=>rw [bq9 (by rw [u]; simp),bq9 ai]
   have h2:(xs.map (·.1))[i]?=some (xs[i]'ad).1:=by rw [ch9,ad9 ad]; rfl
   rw [r] at h2;have hk:k=((oK.getD i 0:Nat):Int):=by
    have e:(Fz.map OX)[i]?=some (OX (xs[i]'ad).1):=by rw [ch9,h2]; rfl
    rw [PC,ch9,dl9 hi] at e;rw [t,d,w,y,z] at e;exact (ay9 e).symm
   have q:b=w8 i:=by
    have e:(Fz.map WZ)[i]?=some (WZ (xs[i]'ad).1):=by rw [ch9,h2]; rfl
    rw [Tk,ch9,dl9 hi] at e;rw [t,d,w,y,z] at e;exact (ay9 e).symm
   have Q:s=vR i:=by
    have e:(Fz.map WW)[i]?=some (WW (xs[i]'ad).1):=by rw [ch9,h2]; rfl
    rw [R5,ch9,dl9 hi] at e;rw [t,d,w,y,z] at e;exact Ay (ay9 e).symm
   rw [hk,q,Q]
 apply df9;intro j
 by_cases X:j<129
 ·obtain ⟨a,b,A,q⟩:∃ a b,j=a*3+b/\b<3:=⟨j / 3,j % 3,ad,ad⟩
  subst A;unfold lU;rw [wY (fun k=>[Value.string (vR k),.int .u8 (w8 k),vI (oK.getD k 0:Nat)]) 3 (fun x=>rfl) _ a b q,dl9 ad];show cs[a*3+b]?=[Value.string (vR a),.int .u8 (w8 a),vI ((oK.getD a 0:Nat):Int)][b]?
  have:=l a ad
  rw [<- this,eg9,af9 q,eh9]
 ·have Y:(lU vR w8).length=129:=Ep _ _;rw [bq9 ad,bq9 ad]
def Ei {name:String} {cs:Array Xab} (a:O.globalNamed name=some U) (hv:H.var? O name=some cs):∃ e f,H.heap[U]?=some (.cells cs e f):=by
 unfold World.var? at hv;rw [a] at hv;have hv:(match (H.heap[U]?:Option Obj) with | some (.cells cs _ _)=>some cs | _=>none)=some cs:=hv;split at hv
 ·rename_i b e f c;cases hv;exact ⟨e,f,c⟩
 ·cases hv
def JY (h:laidMetH Xaz Rows.poolNumbersRow.laid H):yx H.heap/\eH H.heap:=by
 rw [MakeChecks.laidMetH_plain _ _ _ av] at h;obtain ⟨ps,⟨G,I,q,J,p0,K,r,s,t,u,⟨L,M,w,N,O,P,x,y,z,A,⟨Q,R,B,S,U,V,a,c,d,f,⟨X,Y,C,Z,p3,q3,b,g,i,j,_,_⟩,_⟩,_⟩,_⟩,_,_⟩:=h;obtain rfl:=ay9 ((show Tryz.prog.globalNamed _=some 1 from av).symm.trans a);obtain rfl:=ay9 ((show Tryz.prog.globalNamed _=some 0 from av).symm.trans b);have h2:(Tryz.prog.globals[1]?).map (·.type)=some 258:=av
 obtain rfl:=ay9 (h2.symm.trans c);have D:(Tryz.prog.globals[0]?).map (·.type)=some 202:=av
 obtain rfl:=ay9 (D.symm.trans g);have hc:=Lib.cells_of_tab (n:=20) (e:=175) (k:=.u64) (zs:=Lib.pow10Tab) av av av av f;have hr:=Dw j;obtain ⟨E,l,m⟩:=Ei a d;obtain ⟨F,o,p⟩:=Ei b i;refine ⟨⟨vR,w8,F,o,?_⟩,⟨E,l,?_⟩⟩
 ·rw [p,<- hr]
 ·rw [m,<- hc]
def Q6 (os:Os) (args:Array Xab):laidMetH Xaz Rows.poolNumbersRow.laid ((World.doorLaid Xaz 400 os).forCall (fun _ _=>0) ⟨#[],args,[]⟩).memory :=
 laidMetH_of_parts3 (fuel:=8) (laidMet_of_run' 8 av av) av av
end Go.Sx.Ob
