/- Contracts over heaps, part 3. Condition: as each statement says. -/
import Derived.Test.YtlpcncdglfjnoaaGreatDoorP2
import Derived.Test.YtlpcncdglfjnoaaGreatDoorSxK
set_option linter.all false
set_option maxRecDepth 100000
set_option maxHeartbeats 4000000
namespace Go.Sx
open Go.Proofs
structure cX where
 name:Xaa
 p:Xac
 l:Nat
 c:Nat
 x:cE
def AN (e:cX):List Xab:=[.string e.name,.slice e.p e.l e.c,.int .u32 e.x.num]
structure rW (h:Hp) (p:Xac) (l:Nat) (es:List cX):Prop where
 len:l=es.length
 cells:∀ i,(hi:i<es.length)->∃ a,p=some a/\aI h (a.add (i*3)) 0 (AN es[i])
 fI:∀ e,e∈es->ik h e.p e.l e.x.ah
def rW.ai {h h':Hp} {p:Xac} {l:Nat} {es:List cX} (v:rW h p l es) (k:Ext h h'):rW h' p l es :=
 ⟨v.len,fun i hi=>by
  obtain ⟨a,b,hc⟩:=v.cells i hi;exact ⟨a,b,aX k aj _ _ hc⟩,fun e c=>(v.fI e c).ai k aj⟩
def kX (es:List cX) (s:Xaa):Option Nat:=es.findIdx? fun e=>decide (e.name=s)
variable {g:cX}
def GL {es:List cX} (hn:∀ d,d∈es->d.name≠g.name) (s:Xaa):kX (es++[g]) s=dW (kX es) g.name es.length s:=by
 unfold kX dW;rw [cq9]
 by_cases h:s=g.name
 ·subst h
  have:es.findIdx? (fun d=>decide (d.name=g.name))=none:=by
   rw [ZJ];intro d b;simpa using hn d b
  rw [this];simp [List.findIdx?_cons]
 ·have:¬ g.name=s:=fun k=>h k.symm
  rw [Y1 h];cases a:es.findIdx? (fun d=>decide (d.name=s)) with
  | none=>show _=List.findIdx? _ es; rw [a]; simp [List.findIdx?_cons,this]
  | some k=>show _=List.findIdx? _ es; rw [a]; simp
variable {V:Xaa}
def G7 {es:List cX} (h:∀ d,d∈es->d.name≠V):kX es V=none:=by
 unfold kX;rw [ZJ];intro d a;simpa using h d a
variable {I:Hp} {O:Xac} {H U Y:Nat}
def A0 {es:List cX} (v:rW I O H es) (hl:es.length<=2^40) (hn:(es.map (·.name)).Nodup) (y:∀ e,e∈es->e.name.size<=maxLen) :
  HC Xaz 84 #[.slice O H U] I fun w h'=>(∃ g,w=.map (some g)/\ez eI h' g (kX es) es.length/\I.size<=g)/\Ext I h':=by
 refine bi (args:=[.slice O H U]) mixed Tryz.func84 aw (yO O H U) ?_;unfold uY aY bj bn ay bX ax aS cm aK;refine zG (en:=eI) ?_;intro h1 A B z1;have hll:=v.len;refine aU (cs:=cn) (fun x w h'=>∃ i:Nat,x.1=(i:Int)/\i<=es.length/\w=es.length-i/\ez eI h' I.size (kX (es.take i)) i/\Ext I h') ((0:Int),()) es.length rfl ⟨0,rfl,ad,ad,A,B⟩ ?_;rintro ⟨N,⟨⟩⟩ w h2 ⟨i,hi,r,rfl,n,o⟩;simp only at hi;subst hi;refine ak ?_;refine aP ?_ ?_<;>intro C
 ·have b:i<es.length:=ad
  obtain ⟨a,rfl,hc⟩:=(v.ai o).cells i b;have k:es.take (i+1)=es.take i++[es[i]]:=Y2 b;have hsz:=y es[i] (Y5 b);have f:∀ d,d∈es.take i->d.name≠es[i].name:=by
   intro d D t;obtain ⟨j,E,rfl⟩:=Zt D;rw [Zi] at E;rw [List.getElem_take] at t;exact ag9.1 hn j i (by rw [YY]; omega) (by rw [YY]; omega) ad (by simpa using t)
  generalize es[i]=e at hc k hsz f;refine bP rfl ?_;rw [cB i];refine av (e.name,(e.p,e.l,e.c),(e.x.num:Int),()) hc (ak ?_);refine bG ?_;intro P F G z3;refine bQ F ?_;intro h4 q J z4;have q:bF h4 h2.size 88 [.string e.name,.slice e.p e.l e.c,.int .u32 e.x.num]:=q;have m:Ext h2 h4:=bZ G J;refine az q (e.name,()) (ak ?_);refine sy (w:=i) (n.ai m aj) hsz rfl ?_;intro Q u K R;have hw:=iC i;have L:kX (es.take (i+1))=dW (kX (es.take i)) e.name i:=by
   rw [k]
   funext s
   rw [GL f,Zi,ZQ ad]
  rw [G7 f] at u;refine aG (cs:=cn) (((i+1:Nat):Int),()) (es.length-(i+1)) rfl ad (Zg (fun z=>[Value.int .i64 z]) hw) ⟨i+1,rfl,ad,rfl,by rw [L]; exact u,bZ (o.trans m) K⟩
 ·have hi:i=es.length:=ad
  subst hi;rw [ZA] at n;exact ⟨⟨_,rfl,n,Zc _⟩,o⟩
def tg (of:Xaa->Option cE) (t:Xaa × Nat):dz:=match of t.1 with
 | none=>[t]
 | some y=>y.ah.map fun u=>(u.1,t.2*u.2 % 4294967296)
def gX (of:Xaa->Option cE) (n:Nat) (t:Xaa × Nat):Nat:=match of t.1 with
 | none=>n
 | some y=>(n+t.2*y.num % 4294967296) % 4294967296
def dC (of:Xaa->Option cE) (x:cE):cE:=⟨Fg (x.ah.flatMap (tg of)),x.ah.foldl (gX of) x.num⟩
structure tp where
 p:Xac
 l:Nat
 c:Nat
 x:cE
def eL (y:tp):Xab:=gF y.p y.l y.c y.x
structure H' (h:Hp) (g:Nat) (f:Xaa->Option tp) (n:Nat):Prop where
 map:ez eL h g f n
 fI:∀ s y,f s=some y->ik h y.p y.l y.x.ah
def H'.ai {ws:List Nat} {h h':Hp} {g:Nat} {f:Xaa->Option tp} {n:Nat} (m:H' h g f n) (k:Ch ws h h') (b:g∉ws) (hi:∀ s y,f s=some y->∀ i,i∈aF y.p->i∉ws):H' h' g f n :=
 ⟨m.map.ai k b,fun s y a=>(m.fI s y a).ai k (hi s y a)⟩
def WM:Tryz.prog.underlying 147=some (.map 9 60):=aw
def WZ:(Tryz.prog.info? 60).bind (·.zero)=some (.agg #[.slice none 0 0,.int .u32 0]):=aw
variable {Z:Lp} {a:Xab->Hp->Prop} {f:Xaa->Option tp}
def BM {h:Hp} (m:ez eL h H f U) (s:Xaa) {k:Xac->Nat->Nat->Int->Bool->T} (h1:∀ y,f s=some y->k y.p y.l y.c (y.x.num:Int) true Z a h) (h0:f s=none->k none 0 0 0 false Z a h) :
  T.eN Xaz (Instr.lookup 147 (.map (some H)) (.string s) true) true [(true,[.slice 66,.int .u32]),(false,[.bool])] k Z a h:=by
 obtain ⟨D,m,d,hn⟩:=m;refine kb WM yB WZ m s true _ ?_;rw [Y8 rfl,n',d s];cases b:f s with
 | none=>exact ⟨((none,0,0),(0:Int),false,()),rfl,h0 b⟩
 | some y=>exact ⟨((y.p,y.l,y.c),(y.x.num:Int),true,()),rfl,h1 y b⟩
def Nu {L:Lp} {K:Xab->Hp->Prop} {h:Hp} {g n:Nat} {f:Xaa->Option tp} (m:ez eL h g f n) {s:Xaa} (a:s.size<=maxLen) (y:tp) {k:T} (hk:∀ h',ez eL h' g (dW f s y) (if (f s).isSome then n else n+1)->Ch [g] h h'->h'.size=h.size->k L K h') :
  T.eV Xaz (Instr.mapUpdate 147 (.map (some g)) (.string s) (.agg #[.slice y.p y.l y.c,.int .u32 (y.x.num:Int)])) k L K h:=by
 obtain ⟨D,m,b,hn⟩:=m;refine gY WM yB m a _ _ ?_;intro h' d c' e;exact hk h' (ez.kR (en:=eL) b hn d) c' e
def V5 (r:Option Nat) (p:Xac) (l:Nat) (c:Xax) (j:Nat) (k:T):T :=
  T.loop [aK] [vI (0:Int)] <| fun (a:Int) =>
  bn a l
  (T.need (dF a l) <|
  T.aR p <| fun (d:Xax) =>
  T.af (d.add (ay a 2)) [.string,.int .u32] <| fun (e:Xaa) (f:Int) =>
  T.new [cm,ax (0:Int)] 66 <| fun (b:Xax) =>
  T.ar b [.string e,ax f] <|
  T.af b [.string] <| fun (Xv:Xaa) =>
  bX (Instr.lookup 170 (.map r) (.string Xv) false) false [(false,[.int .u32])] <| fun (g:Int) =>
  T.af (c.add 1) [.int .u32] <| fun (h:Int) =>
  T.af (b.add 1) [.int .u32] <| fun (i:Int) =>
  T.eV Xaz (Instr.mapUpdate 170 (.map r) (.string Xv) (ax (IntKind.wrap .u32 (g+(IntKind.wrap .u32 (h*i)))))) <|
  T.again j [vI (bC (a+(1:Int)))]) k
def RM {L:Lp} {K:Xab->Hp->Prop} {h:Hp} {g o q:Nat} {nm:Xaa} {p:Xac} {l:Nat} {us D:dz} {k:T} {r:Nat} (s:L.length=r) (v:ik h p l us) (hl:us.length<=2^40) (I:∀ t,t∈us->t.1.size<=maxLen) (m:fm h g (vm D)) (M:us≠[]->g∉aF p)
  (N:bF h o 66 [.string nm,.int .u32 (q:Int)]) (x:o≠g)
  (hk:∀ J h',fm h' g (vm ((us.map fun u=>(u.1,q*u.2 % 4294967296)).foldl jF D))->Ch [g] h h'->k (L++[J]) K h'):V5 (some g) p l ⟨o,0,none⟩ r k L K h:=by
 have hll:=v.len;have O:∀ J:List Xab->Hp->Prop,(L++[J])[r]?=some J:=by intro J; subst s; simp
 unfold V5 bn ay bX bC dF ax cm aK;refine aU (cs:=cn) (fun y w h'=>∃ (i:Nat),y.1=(i:Int)/\i<=us.length/\w=us.length-i/\Ch [g] h h'/\fm h' g (vm (((us.take i).map fun u=>(u.1,q*u.2 % 4294967296)).foldl jF D))) ((0:Int),()) us.length rfl
  ⟨0,rfl,ad,ad,Ch.refl _ _,by simpa using m⟩ ?_
 rintro ⟨X,⟨⟩⟩ w F ⟨i,hi,G,rfl,e,A⟩;simp only at hi;subst hi;refine ak ?_;refine aP ?_ ?_<;>intro P
 ·have b:i<us.length:=ad
  obtain ⟨a,rfl,hc⟩:=(v.ai e (by intro j B H; rw [Zh] at H; subst H; exact M (List.ne_nil_of_length_pos ad) B)).cells i b;have d:us.take (i+1)=us.take i++[us[i]]:=Y2 b;have hsz:=I us[i] (Y5 b);generalize us[i]=t at hc d hsz;refine bP rfl ?_;rw [cB i];refine av (t.1,(t.2:Int),()) hc (ak ?_);refine bG ?_;intro Y Q R Z;refine bQ Q ?_;intro h6 f S z6;have f:bF h6 F.size 66 (dh t):=f;have c:Ext F h6:=bZ R S;have m6:=A.ai c aj;have a6:=(N.ai e (by simpa using x)).ai c aj;refine az f (t.1,()) (ak ?_);refine qN m6 _ ?_;rw [aC];refine az a6 ((q:Int),()) (ak ?_);rw [aC];refine az f ((t.2:Int),()) (ak ?_);generalize C:((us.take i).map fun u=>(u.1,q*u.2 % 4294967296)).foldl jF D=E at m6;refine Ip (n:=(eu E t.1+q*t.2 % 4294967296) % 4294967296) m6 hsz ?_ ?_
  ·rw [eF,eF,jn,ci9,jn,Int.natCast_mul]
  ·intro h7 U V z7;have hw:=iC i;have W:((us.take (i+1)).map fun u=>(u.1,q*u.2 % 4294967296)).foldl jF D=wG E t.1 ((eu E t.1+q*t.2 % 4294967296) % 4294967296):=by
    rw [d,Za,ZW,C] <;> rfl
   refine aG (cs:=cn) (((i+1:Nat):Int),()) (us.length-(i+1)) (O _) ad (Zg (fun z=>[Value.int .i64 z]) hw) ⟨i+1,rfl,ad,rfl,?_,by rw [W]; exact U⟩;exact Ch.trans (Ch.trans e c aj) V (fun j B _=>B)
 ·have hi:i=us.length:=ad
  subst hi;rw [ZA] at A;exact hk _ _ A e
def TE (e:Option Nat) (u:Xax) (y:Int) (w:Nat):T :=
 T.new [aS,ax (0:Int)] 60 <| fun (d:Xax) =>
 T.ar d [aS,ax y] <|
 bz 109 [.map e] false [(false,[.func #[63] #[] false])] <| fun (z:Xab) =>
 bz 108 [z] false [(false,[.slice 9])] <| fun (A:Xac) (x D:Nat) =>
 T.loop [aK] [vI (0:Int)] <| fun (c:Int) =>
 bn c x
 (T.need (dF c x) <|
 T.aR A <| fun (B:Xax) =>
 T.af (B.add (ay c 1)) [.string] <| fun (a:Xaa) =>
 bX (Instr.lookup 170 (.map e) (.string a) false) false [(false,[.int .u32])] <| fun (f:Int) =>
 cond (f != (0:Int))
  (T.af d [.slice 66] <| fun (g:Xac) (h b:Nat) =>
  bX (Instr.lookup 170 (.map e) (.string a) false) false [(false,[.int .u32])] <| fun (i:Int) =>
  bX (Instr.buildSlice 57 1 #[(0,.agg #[.string a,ax i])]) false [dp] <| fun (j:Xac) (k l:Nat) =>
  bX (Builtin.append_ #[57,57] 57 #[.slice g h b,.slice j k l]) false [dp] <| fun (m:Xac) (n o:Nat) =>
  T.ar d [.slice m n o] <|
  T.again w [vI (bC (c+(1:Int)))])
  (T.again w [vI (bC (c+(1:Int)))]))
 (T.af d [.slice 66,.int .u32] <| fun (C:Xac) (l10 p:Nat) (q:Int) =>
 T.ar u [.slice C l10 p,ax q] <|
 T.af u [.slice 66,.int .u32] <| fun (r:Xac) (b s:Nat) (t:Int) =>
 T.ret (.agg #[.slice r b s,ax t]))
variable {b:dz}
def N0 {h:Hp} {lv:Nat} (C:Z.length=lv) (m:fm h H (vm b)) (hl:b.length<=2^40) (n:Int) (c0:bF h U 60 [.slice none 0 0,.int .u32 0])
  (hk:∀ p l c h',SL h' h.size 66 2 p l c ((Fu b).map dh)->Ch [U] h h'->a (.agg #[.slice p l c,.int .u32 n]) h'):TE (some H) ⟨U,0,none⟩ n lv Z a h:=by
 have M:∀ J:List Xab->Hp->Prop,(Z++[J])[lv]?=some J:=by intro J; subst C; simp
 have hg2:=c0.lt;unfold TE bn ay bz bX bC dF ax aS aK dp;refine bG ?_;intro h2 b2 V z2;refine bQ b2 ?_;intro h3 y W z3;have y:bF h3 h.size 60 [.slice none 0 0,.int .u32 n]:=y;have E:Ext h h3:=bZ V W;have m3:=m.ai E aj;have c3:bF h3 U 60 [.slice none 0 0,.int .u32 0]:=c0.ai E aj;refine aJ (J6 (some H) h3) ?_;rintro _ h4 ⟨rfl,rfl⟩;refine ⟨(.func (.func 124) #[] #[.pointer (some ⟨h3.size,0,none⟩)],()),rfl,ak ?_⟩;have X:Ext h3 (h3.push (.cells #[.map (some H)] 170)):=Ext.push _ _;have t:(vm b).length<=2^40:=by unfold vm; rw [YY]; exact hl
 refine aJ (ul m3 t) ?_;rintro _ N ⟨Y,O,ck,rfl,A,e5⟩;refine ⟨((Y,O,ck),()),rfl,ak ?_⟩;have e35:=X.trans e5;have o:(keysOf (vm b)).length<=2^40:=by
  unfold keysOf;rw [List.length_mergeSort,YY];exact t
 have F:O=(keysOf (vm b)).length:=by rw [A.1,YY]
 unfold Fu at hk;generalize keysOf (vm b)=ks at A o F hk;have b5:=y.ai e35 aj;have c5:=c3.ai e35 aj;have m5:=m3.ai e35 aj;have e05:=E.trans e35;have hz3:=e35.size;have hb3:=y.lt;have hg:=m.lt;refine aU (cs:=cn) (fun x w h'=>∃ (i:Nat) (p:Xac) (l c:Nat),x.1=(i:Int)/\i<=ks.length/\w=ks.length-i/\Ch [h.size] N h'/\bF h' h.size 60 [.slice p l c,.int .u32 n] /\
  SL h' N.size 66 2 p l c (((ks.take i).filterMap fun k=>if eu b ⟨k.toArray⟩=0 then none else some ((⟨k.toArray⟩:Xaa),eu b ⟨k.toArray⟩)).map dh)/\l<=i) ((0:Int),()) ks.length rfl
  ⟨0,none,0,0,rfl,ad,ad,Ch.refl _ _,b5,SL.nil _ _ _ _,ad⟩ ?_
 rintro ⟨n8,⟨⟩⟩ w h6 ⟨i,p,l,c,hi,P,rfl,q,B,r,hli⟩;simp only at hi;subst hi;refine ak ?_;have m6:=m5.ai q (by simp; omega);have hz6:=q.size;have G:Ext h h6:=bZ e05 q;refine aP ?_ ?_<;>intro g1
 ·have f:i<ks.length:=ad
  have sk6:=A.br q (fun j e=>by have:=(A.cj e).1; simp; omega);obtain ⟨d,rfl,hc⟩:=sk6.cells (i:=i) (by simpa using f);rw [Y7] at hc;have s:ks.take (i+1)=ks.take i++[ks[i]]:=Y2 f;generalize ks[i]=k at hc s;refine bP rfl ?_;rw [cB i];refine av ((⟨k.toArray⟩:Xaa),()) hc (ak ?_);have hw:=iC i;refine qN m6 _ (ao (fun U=>?_) (fun U=>?_))
  ·have U:((eu b ⟨k.toArray⟩:Nat):Int)≠0:=by simpa using U
   refine az B ((p,l,c),()) (ak ?_);refine qN m6 _ ?_;refine kg (vs:=dh (⟨k.toArray⟩,eu b ⟨k.toArray⟩)) uH rp rfl ad ad aw rfl rfl r hz6 ad ad ?_;intro p' c' Q R u hp7;have b7:=B.ai u (fun hh=>by have:=(r.cj hh).1; omega);refine bQ b7 ?_;intro h8 b8 S z8;refine aG (cs:=cn) (((i+1:Nat):Int),()) (ks.length-(i+1)) (M _) ad (Zg (fun z=>[Value.int .i64 z]) hw) ⟨i+1,p',l+1,c',rfl,ad,rfl,?_,b8,?_,ad⟩
   ·exact Ch.trans (Ch.trans q u (fun j e hl=>by have:=(r.cj e).1; omega)) S (fun j e _=>e)
   ·rw [s,bd9,Za];have I:([k].filterMap fun k=>if eu b ⟨k.toArray⟩=0 then none else some ((⟨k.toArray⟩:Xaa),eu b ⟨k.toArray⟩))=[((⟨k.toArray⟩:Xaa),eu b ⟨k.toArray⟩)]:=by
     simp only [List.filterMap_cons,List.filterMap_nil];rw [Y1 ad]
    rw [I];exact R.br S (fun j e=>by have:=(R.cj e).1; simp; omega)
  ·have U:((eu b ⟨k.toArray⟩:Nat):Int)=0:=by simpa using U
   refine aG (cs:=cn) (((i+1:Nat):Int),()) (ks.length-(i+1)) (M _) ad (Zg (fun z=>[Value.int .i64 z]) hw) ⟨i+1,p,l,c,rfl,ad,rfl,q,B,?_,ad⟩;rw [s,bd9];have I:([k].filterMap fun k=>if eu b ⟨k.toArray⟩=0 then none else some ((⟨k.toArray⟩:Xaa),eu b ⟨k.toArray⟩))=[]:=by
    simp only [List.filterMap_cons,List.filterMap_nil];rw [Y8 ad]
   rw [I,Z2];exact r
 ·have hi:i=ks.length:=ad
  subst hi;rw [ZA] at r;have c6:=c5.ai q (by simp; omega);refine az B ((p,l,c),n,()) (ak ?_);refine bQ c6 ?_;intro Q b7 u z7;have b7:bF Q U 60 [.slice p l c,.int .u32 n]:=b7;refine az b7 ((p,l,c),n,()) ?_;have hz5:=e05.size;exact hk _ _ _ _ ((r.br u (fun j e=>by have:=(r.cj e).1; simp; omega)).mono ad) (Ch.trans (G.mono aj) u (fun j e hl=>e))
def FP {h:Hp} {p:Xac} {l c:Nat} {x:cE} (v:ik h p l x.ah) {g n:Nat} {f:Xaa->Option tp} (m:H' h g f n) (hl:x.ah.length<=2^40) (Y:∀ t,t∈x.ah->t.1.size<=maxLen) (U:∀ s y,f s=some y->y.x.ah.length<=2^40/\∀ t,t∈y.x.ah->t.1.size<=maxLen)
  (Z:(x.ah.flatMap (tg fun s=>(f s).map (·.x))).length<=2^40) :
  HC Xaz 86 #[gF p l c x,.map (some g)] h fun w h'=>(∃ p' l' c',w=gF p' l' c' (dC (fun s=>(f s).map (·.x)) x)/\SL h' h.size 66 2 p' l' c' ((dC (fun s=>(f s).map (·.x)) x).ah.map dh))/\Ext h h':=by
 refine bi (args:=[gF p l c x,.map (some g)]) mixed Tryz.func86 aw (EO p l c x.num (some g)) ?_;unfold DF aY bj bn ay bz aT bX ax aS cm aK cr;have hll:=v.len;refine bG ?_;intro h1 b1 e1 z1;refine bG ?_;intro h2 b2 V z2;refine nH _ ?_;intro h3 m3 I z3;refine ⟨(some h2.size,()),rfl,ak ?_⟩;have b13:=(b1.ai V aj).ai I aj;have b23:=b2.ai I aj;have e03:=(e1.trans V).trans I;rw [aC];refine az b13 ((x.num:Int),()) (ak ?_);refine az b13 ((p,l,c),()) (ak ?_);have hh:h1.size=h.size+1:=z1;generalize K:(fun s=>(f s).map (·.x))=of at Z;have z:∀ s,of s=(f s).map (·.x):=fun s=>by rw [<- K]
 refine aU (cs:=Uz) (fun y w h'=>∃ i:Nat,y.2.1=(i:Int)/\i<=x.ah.length/\w=x.ah.length-i/\y.1=(((x.ah.take i).foldl (gX of) x.num:Nat):Int)/\Ch [h2.size] h3 h'/\fm h' h2.size (vm (((x.ah.take i).flatMap (tg of)).foldl jF [])))
  ((x.num:Int),(0:Int),()) x.ah.length rfl ⟨0,rfl,ad,ad,rfl,Ch.refl _ _,m3⟩ ?_
 rintro ⟨n9,n10,⟨⟩⟩ w h4 ⟨i,hi,W,rfl,F,G,L⟩;simp only at hi F;subst hi F;refine ak ?_;have A:Ext h h4:=bZ e03 G;have hz4:=G.size;refine aP ?_ ?_<;>intro g1
 ·have e:i<x.ah.length:=ad
  obtain ⟨a,rfl,hc⟩:=(v.ai A aj).cells i e;have B:x.ah.take (i+1)=x.ah.take i++[x.ah[i]]:=Y2 e;have hsz:=Y x.ah[i] (Y5 e);generalize x.ah[i]=t at hc B hsz;have hw:=iC i;refine bP rfl ?_;rw [cB i];refine av (t.1,(t.2:Int),()) hc (ak ?_);refine bG ?_;intro h5 b5 e5 z5;refine bQ b5 ?_;intro h6 E k6 z6;have E:bF h6 h4.size 66 [.string t.1,.int .u32 (t.2:Int)]:=E;have k:Ext h4 h6:=bZ e5 k6;have m6:=L.ai k aj;have e06:=A.trans k;have hz6:=k.size;refine az E (t.1,()) (ak ?_);have d:((x.ah.take (i+1)).flatMap (tg of)).foldl jF []=(tg of t).foldl jF (((x.ah.take i).flatMap (tg of)).foldl jF []):=by
   rw [B,bb9,ZW]
   simp
  have o:(x.ah.take (i+1)).foldl (gX of) x.num=gX of ((x.ah.take i).foldl (gX of) x.num) t:=by
   rw [B,ZW]; rfl
  generalize (x.ah.take i).foldl (gX of) x.num=nn at o ⊢;generalize ((x.ah.take i).flatMap (tg of)).foldl jF []=D' at d m6 ⊢;refine BM (m.map.ai e06 aj) t.1 (fun y r=>?_) (fun M=>?_)
  ·have u:of t.1=some y.x:=by rw [z,r]; rfl
   refine bG ?_;intro h7 N O z7;refine bQ N ?_;intro h8 H P z8;have H:bF h8 h6.size 60 [.slice y.p y.l y.c,.int .u32 (y.x.num:Int)]:=H;have b:Ext h6 h8:=bZ O P;refine cC rfl ?_;refine az H ((y.p,y.l,y.c),()) (ak ?_);have hh2:h2.size=h.size+2:=ad
   refine RM (q:=t.2) (nm:=t.1) (us:=y.x.ah) rfl ((m.fI _ _ r).ai (e06.trans b) aj) (U _ _ r).1 (U _ _ r).2 (m6.ai b aj) (fun Q hb=>by have:=(m.fI _ _ r).Vz Q _ hb; omega) (E.ai b aj) ad ?_;intro J X R C;have b69:=(E.ai b aj).ai C (by simp; omega);have b89:=H.ai C (by simp; omega);rw [aC];refine az b69 ((t.2:Int),()) (ak ?_);rw [aC];refine az b89 ((y.x.num:Int),()) (ak ?_);have D:IntKind.wrap .u32 ((nn:Int)+IntKind.wrap .u32 ((t.2:Int)*(y.x.num:Int)))=((gX of nn t:Nat):Int):=by
    unfold gX;rw [u];simp only;rw [eF,eF,jn,ci9,jn,Int.natCast_mul]
   refine aG (cs:=Uz) (((gX of nn t:Nat):Int),((i+1:Nat):Int),()) (x.ah.length-(i+1)) rfl ad (by rw [D,hw]; rfl) ⟨i+1,rfl,ad,rfl,by rw [o],Ch.trans (Ch.trans (Ch.trans G k aj) b aj) C (fun j S _=>S),?_⟩;rw [d];unfold tg;rw [u];exact R
  ·have u:of t.1=none:=by rw [z,M]; rfl
   refine bG ?_;intro h7 N O z7;refine bQ N ?_;intro h8 H P z8;have b:Ext h6 h8:=bZ O P;have b68:=E.ai b aj;refine cL rfl ?_;refine az b68 (t.1,()) (ak ?_);refine qN (m6.ai b aj) _ ?_;rw [aC];refine az b68 ((t.2:Int),()) (ak ?_);refine Ip (n:=(eu D' t.1+t.2) % 4294967296) (m6.ai b aj) hsz ?_ ?_
   ·rw [eF,jn,ci9]
   ·intro X R C z9;have D:gX of nn t=nn:=by unfold gX; rw [u]
    refine aG (cs:=Uz) ((nn:Int),((i+1:Nat):Int),()) (x.ah.length-(i+1)) rfl ad (by rw [hw]; rfl) ⟨i+1,rfl,ad,rfl,by rw [o,D],Ch.trans (Ch.trans (Ch.trans G k aj) b aj) C (fun j S _=>S),?_⟩;rw [d];unfold tg;rw [u];exact R
 ·have hi:i=x.ah.length:=ad
  subst hi;rw [ZA] at L ⊢;have hD:((x.ah.flatMap (tg of)).foldl jF []).length<=2^40:=by
   have:=wN (x.ah.flatMap (tg of)) []
   simp only [List.length_nil,Nat.zero_add] at this;omega
  refine N0 (lv:=1) rfl L hD _ (b23.ai G (by simp; omega)) ?_;intro p' l' c' X s9 C;exact ⟨⟨p',l',c',rfl,s9.mono ad⟩,bZ A C⟩
structure TS where
 num:Xaa->Option Nat
 j6:Nat
 low:Xaa->Option Nat
 on:Xaa->Option Bool
 back:Xaa->Option Bool
 du:List Xaa
def ff (v:Xaa) (st:TS):TS:={ st with num:=dW st.num v (st.j6+1),j6:=st.j6+1,low:=dW st.low v (st.j6+1),du:=st.du++[v],on:=dW st.on v true }
def fU (v w:Xaa) (st:TS):TS:=if w=v then { st with back:=dW st.back v true } else st
def Ln (v:Xaa) (n:Nat) (st:TS):TS:={ st with low:=dW st.low v (min ((st.low v).getD 0) n) }
def uQ (nK:Xaa->TS->TS) (v w:Xaa) (st:TS):TS :=
 if (st.num w).getD 0=0 then Ln v (((nK w st).low w).getD 0) (nK w st)
 else if (st.on w).getD false=true then Ln v ((st.num w).getD 0) st
 else st
def fe (own:Xaa->Bool) (nK:Xaa->TS->TS) (v:Xaa) (st:TS) (w:Xaa):TS :=
 if own w=true then uQ nK v w (fU v w st) else st
def qL (rj:Bool) (st:TS) (x:Xaa):TS:={ st with on:=dW st.on x false,back:=dW st.back x ((st.back x).getD false || rj) }
def te (v:Xaa) (st:TS):Nat:=st.du.findIdx (fun x=>decide (v=x))
def sN (v:Xaa) (st:TS):TS:={ (st.du.drop (te v st)).foldl (qL (decide (1<st.du.length-te v st))) st with du:=st.du.take (te v st) }
def db (own:Xaa->Bool) (succ:Xaa->List Xaa):Nat->Xaa->TS->TS
 | 0,_,st=>st
 | f+1,v,st =>
  if (((succ v).foldl (fe own (db own succ f) v) (ff v st)).low v).getD 0<(((succ v).foldl (fe own (db own succ f) v) (ff v st)).num v).getD 0 then (succ v).foldl (fe own (db own succ f) v) (ff v st)
  else sN v ((succ v).foldl (fe own (db own succ f) v) (ff v st))
def De:TS:=⟨fun _=>none,0,fun _=>none,fun _=>none,fun _=>none,[]⟩
def xW (own:Xaa->Bool) (succ:Xaa->List Xaa) (f:Nat) (st:TS) (v:Xaa):TS:=if (st.num v).getD 0=0 then db own succ f v st else st
def Hx (own:Xaa->Bool) (succ:Xaa->List Xaa) (names:List Xaa):TS:=names.foldl (xW own succ names.length) De
def rX (names:List Xaa) (st:TS):Nat:=(names.filter fun v=>(st.num v).isNone).length
structure dT (names:List Xaa) (st:TS):Prop where
 sum:st.j6+rX names st=names.length
 pos:∀ s n,st.num s=some n->1<=n
 du:st.du.length<=st.j6
 fI:∀ x,x∈st.du->st.num x≠Option.none
def dT.none {names:List Xaa} {st:TS} (g:dT names st) {w:Xaa} (h:(st.num w).getD 0=0):st.num w=Option.none:=by
 cases a:st.num w with
 | none=>rfl
 | some n =>
  rw [a] at h
  have:=g.pos w n a
  simp at h;omega
def Q1 {names:List Xaa} (hn:names.Nodup) {v:Xaa} (hv:v∈names) {f:Xaa->Option Nat} (h0:f v=Option.none) (n:Nat):(names.filter fun s=>(dW f v n s).isNone).length+1=(names.filter fun s=>(f s).isNone).length:=by
 induction names with
 | nil=>simp at hv
 | cons x l b =>
  obtain ⟨c,hn⟩:=bc9.1 hn
  by_cases e:x=v
  ·subst e;have hl:l.filter (fun s=>(dW f x n s).isNone)=l.filter (fun s=>(f s).isNone):=by
    refine List.filter_congr fun s d=>?_
    rw [cv _ _ (fun k=>c (by rw [<- k]; exact d))]
   rw [List.filter_cons,List.filter_cons,cK,h0,hl]
   simp
  ·have a:v∈l:=by
    rcases Zo.1 hv with h | h
    ·exact (e h.symm).elim
    ·exact h
   have:=b hn a
   rw [List.filter_cons,List.filter_cons,cv _ _ e];split
   ·simp only [List.length_cons]; omega
   ·exact this
def B2 (rj:Bool) (l:List Xaa):∀ st:TS,(l.foldl (qL rj) st).num=st.num/\(l.foldl (qL rj) st).j6=st.j6/\(l.foldl (qL rj) st).low=st.low:=by
 induction l with
 | nil=>intro st; exact ⟨rfl,rfl,rfl⟩
 | cons x l a =>
  intro st;rw [ZD];exact a _
def ph (v:Xaa) (st:TS):(sN v st).num=st.num:=(B2 _ _ _).1
def AI (v:Xaa) (st:TS):(sN v st).j6=st.j6:=(B2 _ _ _).2.1
def Qc (v:Xaa) (st:TS):(sN v st).low=st.low:=(B2 _ _ _).2.2
def xx (v:Xaa) (st:TS):(sN v st).du=st.du.take (te v st):=rfl
def jc (v w:Xaa) (st:TS):(fU v w st).num=st.num/\(fU v w st).j6=st.j6/\(fU v w st).du=st.du/\(fU v w st).on=st.on/\(fU v w st).low=st.low:=by
 unfold fU;split <;> exact ⟨rfl,rfl,rfl,rfl,rfl⟩
def dT.self {names:List Xaa} {st:TS} (g:dT names st) (v w:Xaa):dT names (fU v w st):=by
 obtain ⟨h1,h2,a,_⟩:=jc v w st;exact ⟨by unfold rX; rw [h1,h2]; exact g.sum,by rw [h1]; exact g.pos,by rw [h2,a]; exact g.du,by rw [h1,a]; exact g.fI⟩
def dT.low {names:List Xaa} {st:TS} (g:dT names st) (v:Xaa) (n:Nat):dT names (Ln v n st):=⟨g.sum,g.pos,g.du,g.fI⟩
def dT.open {names:List Xaa} (hn:names.Nodup) {st:TS} (g:dT names st) {v:Xaa} (hv:v∈names) (h0:st.num v=Option.none):dT names (ff v st)/\rX names (ff v st)+1=rX names st:=by
 have h1:rX names (ff v st)+1=rX names st:=Q1 hn hv h0 _;refine ⟨⟨?_,fun s n a=>?_,?_,fun x b=>?_⟩,h1⟩
 ·have:=g.sum
  show st.j6+1+rX names (ff v st)=_;omega
 ·have a:dW st.num v (st.j6+1) s=some n:=a
  by_cases e:s=v
  ·subst e;rw [cK] at a
   have:=Zl a
   omega
  ·rw [cv _ _ e] at a;exact g.pos s n a
 ·have:=g.du
  show (st.du++[v]).length<=st.j6+1
  simp; omega
 ·have b:x∈st.du++[v]:=b;show dW st.num v _ x≠Option.none
  by_cases e:x=v
  ·subst e; rw [cK]; simp
  ·rw [cv _ _ e];rcases Zb.1 b with h | h
   ·exact g.fI x h
   ·exact (e (Zh.1 h)).elim
def dT.pop {names:List Xaa} {st:TS} (g:dT names st) (v:Xaa):dT names (sN v st) :=
 ⟨by unfold rX; rw [ph,AI]; exact g.sum,by rw [ph]; exact g.pos,by rw [xx,AI,Zi]; have:=g.du; omega,fun x a=>by rw [ph]; rw [xx] at a; exact g.fI x (Z0 a)⟩
def Cf (names:List Xaa) (st a:TS):Prop:=dT names a/\(∀ s n,st.num s=some n->a.num s=some n)/\st.du <+: a.du
def Cf.rX {names:List Xaa} {st a:TS} (h:Cf names st a):rX names a<=rX names st:=by
 unfold Sx.rX;rw [<- List.countP_eq_length_filter,<- List.countP_eq_length_filter];refine List.countP_mono_left fun x c h'=>?_
 cases b:st.num x with
 | none=>rfl
 | some n=>rw [h.2.1 x n b] at h'; simp at h'
def Cf.trans {names:List Xaa} {a b c:TS} (h:Cf names a b) (k:Cf names b c):Cf names a c:=⟨k.1,fun s n d=>k.2.1 s n (h.2.1 s n d),h.2.2.trans k.2.2⟩
def Cf.refl {names:List Xaa} {a:TS} (h:dT names a):Cf names a a:=⟨h,fun s n b=>b,List.prefix_refl _⟩
def OX {names:List Xaa} {nK:Xaa->TS->TS} (a:∀ V st,dT names st->V∈names->st.num V=Option.none->Sx.rX names st<=H->Cf names st (nK V st)) {v:Xaa} {st:TS} (g:dT names st) (b:V∈names) (c:Sx.rX names st<=H):Cf names st (uQ nK v V st):=by
 unfold uQ;split
 ·rename_i h0;have h:=a V st g b (g.none h0) c;exact ⟨h.1.low v _,h.2.1,h.2.2⟩
 ·split
  ·exact ⟨g.low v _,fun s n d=>d,List.prefix_refl _⟩
  ·exact Cf.refl g
def Ge {names:List Xaa} {own:Xaa->Bool} (a:∀ s,own s=true->s∈names) {nK:Xaa->TS->TS} (b:∀ w st,dT names st->w∈names->st.num w=Option.none->Sx.rX names st<=H->Cf names st (nK w st)) {v w:Xaa} {st:TS} (g:dT names st) (c:Sx.rX names st<=H):Cf names st (fe own nK v st w):=by
 unfold fe;split
 ·rename_i d;have h1:Cf names st (fU v w st):=⟨g.self v w,fun s n e=>by rw [(jc v w st).1]; exact e,by rw [(jc v w st).2.2.1]; exact List.prefix_refl _⟩
  exact h1.trans (OX b (g.self v w) (a w d) (ZK h1.rX c))
 ·exact Cf.refl g
theorem Bx {names:List Xaa} {own:Xaa->Bool} (a:∀ s,own s=true->s∈names) {nK:Xaa->TS->TS} {f:Nat} (b:∀ w st,dT names st->w∈names->st.num w=Option.none->Sx.rX names st<=f->Cf names st (nK w st)) (v:Xaa):∀ (l:List Xaa) (st:TS),dT names st->Sx.rX names st<=f->Cf names st (l.foldl (fe own nK v) st)
 | [],st,g,c=>Cf.refl g
 | w::l,st,g,c=>by
  have h1:=Ge a b (v:=v) (w:=w) g c;rw [ZD];exact h1.trans (Bx a b v l _ h1.1 (ZK h1.rX c))
def Ji {a b:List Xaa} {v:Xaa} (h:a++[v] <+: b) (hv:v∉a) {st:TS} (c:st.du=b):te v st=a.length/\b.take a.length=a/\a.length<b.length:=by
 obtain ⟨t,rfl⟩:=h;unfold te;rw [c];refine ⟨?_,aj,aj⟩;rw [Zp,List.findIdx_append,Y1 ?_]
 ·simp [List.findIdx_cons]
 ·rw [List.findIdx_lt_length];rintro ⟨x,d,e⟩;exact hv (by rw [Y3 e]; exact d)
def dT.Xj {names:List Xaa} {st:TS} (g:dT names st) {v:Xaa} (h0:st.num v=Option.none):v∉st.du:=fun hv=>g.fI v hv h0
def OD {names:List Xaa} (hn:names.Nodup) {v:Xaa} {st:TS} (g:dT names st) (hv:v∈names) (h0:st.num v=Option.none):Cf names st (ff v st) :=
 ⟨(g.open hn hv h0).1,fun s n a=>by
   show dW st.num v _ s=some n;rw [cv _ _ (fun e=>by rw [e,h0] at a; cases a)];exact a,⟨[v],rfl⟩⟩
theorem uk {names:List Xaa} (hn:names.Nodup) {own:Xaa->Bool} (b:∀ s,own s=true->s∈names) (succ:Xaa->List Xaa):∀ (f:Nat) (v:Xaa) (st:TS),dT names st->v∈names->st.num v=Option.none->Sx.rX names st<=f->Cf names st (db own succ f v st)
 | 0,v,st,g,hv,h0,c=>Cf.refl g
 | f+1,v,st,g,hv,h0,c=>by
  obtain ⟨d,e⟩:=g.open hn hv h0;have h2:=Bx b (uk hn b succ f) v (succ v) _ d ad;have h3:=(OD hn g hv h0).trans h2;unfold db;split
  ·exact h3
  ·refine ⟨h3.1.pop v,fun s n h=>by rw [ph]; exact h3.2.1 s n h,?_⟩;obtain ⟨i,j,_⟩:=Ji (a:=st.du) (v:=v) h2.2.2 (g.Xj h0) rfl;rw [xx,i,j];exact List.prefix_refl _
def Me {names:List Xaa} (hn:names.Nodup) {own:Xaa->Bool} (a:∀ s,own s=true->s∈names) (succ:Xaa->List Xaa) {v:Xaa} {st:TS} (g:dT names st) (hv:v∈names) (h0:st.num v=Option.none) (d:Sx.rX names st<=H+1) (l:List Xaa) :
  dT names (l.foldl (fe own (db own succ H) v) (ff v st))/\Sx.rX names (l.foldl (fe own (db own succ H) v) (ff v st))<=H/\st.du++[v] <+: (l.foldl (fe own (db own succ H) v) (ff v st)).du/\∃ n,(l.foldl (fe own (db own succ H) v) (ff v st)).num v=some n:=by
 obtain ⟨b,c⟩:=g.open hn hv h0;have h2:=Bx a (uk hn a succ H) v l _ b ad;exact ⟨h2.1,by have:=h2.rX; omega,h2.2.2,_,h2.2.1 v (st.j6+1) (cK _ _ _)⟩
def WK (names:List Xaa):dT names De:=⟨by unfold rX De; simp,fun s n a=>(by cases a),by simp [De],by simp [De]⟩
section
variable {E:Xaa->Xaa->Prop}
inductive qU (E:Xaa->Xaa->Prop):Xaa->Xaa->Prop
 | refl (a:Xaa):qU E a a
 | head {a b c:Xaa}:E a b->qU E b c->qU E a c
def qU.trans {a b c:Xaa} (h:qU E a b) (k:qU E b c):qU E a c:=by
 induction h with
 | refl=>exact k
 | head e _ d=>exact .head e (d k)
def qU.one {a b:Xaa} (h:E a b):qU E a b:=.head h (.refl b)
def kV (E:Xaa->Xaa->Prop) (v:Xaa):Prop:=∃ y,E v y/\qU E y v
def kV.of {a b:Xaa} (h:qU E a b) (k:qU E b a) (c:a≠b):kV E a:=by
 cases h with
 | refl=>exact (c rfl).elim
 | head e r=>exact ⟨_,e,r.trans k⟩
structure Inv (E:Xaa->Xaa->Prop) (G:List Xaa) (st:TS):Prop where
 le:∀ s n,st.num s=some n->1<=n/\n<=st.j6
 du:∀ x,x∈st.du->st.num x≠none
 on:∀ x,(st.on x).getD false=true↔x∈st.du
 gr:∀ g,g∈G->g∈st.du
 cl:∀ x,st.num x≠none->x∉st.du->∀ y,E x y->st.num y≠none/\y∉st.du
 bl:∀ x,st.num x≠none->x∉G->∀ y,E x y->st.num y≠none
 rg:∀ x,x∈st.du->∃ g,g∈G/\qU E x g
 b0:∀ x,st.num x=none->(st.back x).getD false=false
 bc:∀ x,st.num x≠none->x∉st.du->((st.back x).getD false=true↔kV E x)
 bw:∀ x,x∈st.du->(st.back x).getD false=true->E x x
 bb:∀ x,x∈st.du->x∉G->E x x->(st.back x).getD false=true
def Inv.low {G:List Xaa} {st:TS} (i:Inv E G st) (v:Xaa) (n:Nat):Inv E G (Ln v n st):=⟨i.le,i.du,i.on,i.gr,i.cl,i.bl,i.rg,i.b0,i.bc,i.bw,i.bb⟩
def Inv.US {G:List Xaa} {st:TS} (i:Inv E G st) {x y:Xaa} (h:qU E x y):st.num x≠none->x∉st.du->st.num y≠none/\y∉st.du:=by
 induction h with
 | refl=>exact fun h k=>⟨h,k⟩
 | head e _ a=>intro h k; obtain ⟨h2,b⟩:=i.cl _ h k _ e; exact a h2 b
def Inv.self {G:List Xaa} {st:TS} (i:Inv E G st) {v w:Xaa} (hv:v∈G) (g:w=v->E v v):Inv E G (fU v w st):=by
 unfold fU;split
 ·rename_i h;have hw:=i.gr v hv;have hn:=i.du v hw;refine ⟨i.le,i.du,i.on,i.gr,i.cl,i.bl,i.rg,fun x b=>?_,fun x b c=>?_,fun x b d=>?_,fun x b f j=>?_⟩
  ·have a:x≠v:=fun e=>hn (by rw [<- e]; exact b)
   show (dW st.back v true x).getD false=false;rw [cv _ _ a]; exact i.b0 x b
  ·have a:x≠v:=fun e=>c (by rw [e]; exact hw)
   show (dW st.back v true x).getD false=true↔_;rw [cv _ _ a]; exact i.bc x b c
  ·by_cases e:x=v
   ·subst e; exact g h
   ·have d:(dW st.back v true x).getD false=true:=d;rw [cv _ _ e] at d; exact i.bw x b d
  ·have a:x≠v:=fun e=>f (by rw [e]; exact hv)
   show (dW st.back v true x).getD false=true;rw [cv _ _ a]; exact i.bb x b f j
 ·exact i
def Inv.open {G:List Xaa} {st:TS} (i:Inv E G st) {v:Xaa} (h0:st.num v=none):Inv E (v::G) (ff v st):=by
 have q:v∉st.du:=fun h=>i.du v h h0
 have a:∀ {x},x≠v->(ff v st).num x=st.num x:=fun h=>cv _ _ h
 have mono:∀ {x},st.num x≠none->(ff v st).num x≠none:=by
  intro x h;rw [a (fun e=>h (by rw [e]; exact h0))]; exact h
 refine ⟨fun s n f=>?_,fun x b=>?_,fun x=>?_,fun g j=>?_,fun x b c y o=>?_,fun x b m y o=>?_,fun x b=>?_,fun x b=>?_,fun x b c=>?_,fun x b l=>?_,fun x b j p=>?_⟩
 ·show 1<=n/\n<=st.j6+1
  by_cases e:s=v
  ·subst e;have f:dW st.num s (st.j6+1) s=some n:=f;rw [cK] at f
   have:=Zl f
   omega
  ·rw [a e] at f
   have:=i.le s n f
   omega
 ·rcases Zb.1 (show x∈st.du++[v] from b) with h | h
  ·exact mono (i.du x h)
  ·rw [Zh.1 h];show dW st.num v _ v≠none;rw [cK]; simp
 ·show (dW st.on v true x).getD false=true↔x∈st.du++[v]
  by_cases e:x=v
  ·subst e; rw [cK]; simp
  ·rw [cv _ _ e,i.on x]; simp [e]
 ·show g∈st.du++[v];rcases Zo.1 j with h | h
  ·simp [h]
  ·exact Zq _ (i.gr g h)
 ·have c:x∉st.du++[v]:=c;have d:x≠v:=fun e=>c (by simp [e])
  rw [a d] at b;obtain ⟨h1,h2⟩:=i.cl x b (fun h=>c (Zq _ h)) y o;refine ⟨mono h1,?_⟩;show y∉st.du++[v];intro h;rcases Zb.1 h with h | h
  ·exact h2 h
  ·exact h1 (by rw [Zh.1 h]; exact h0)
 ·have d:x≠v:=fun e=>m (by simp [e])
  rw [a d] at b;exact mono (i.bl x b (fun h=>m (Ze _ h)) y o)
 ·rcases Zb.1 (show x∈st.du++[v] from b) with h | h
  ·obtain ⟨g,j,r⟩:=i.rg x h;exact ⟨g,Ze _ j,r⟩
  ·rw [Zh.1 h];exact ⟨v,aj,.refl v⟩
 ·have d:x≠v:=by
   intro e;subst e;have b:dW st.num x _ x=none:=b;rw [cK] at b; cases b
  rw [a d] at b;exact i.b0 x b
 ·have c:x∉st.du++[v]:=c;have d:x≠v:=fun e=>c (by simp [e])
  rw [a d] at b;exact i.bc x b (fun h=>c (Zq _ h))
 ·rcases Zb.1 (show x∈st.du++[v] from b) with h | h
  ·exact i.bw x h l
  ·rw [Zh.1 h] at l;have l:(st.back v).getD false=true:=l;rw [i.b0 v h0] at l; cases l
 ·have d:x≠v:=fun e=>j (by simp [e])
  rcases Zb.1 (show x∈st.du++[v] from b) with h | h
  ·exact i.bb x h (fun k=>j (Ze _ k)) p
  ·exact (d (Zh.1 h)).elim
def wo (st:TS) (v:Xaa):Nat:=(st.low v).getD 0
def ue (st:TS) (v:Xaa):Nat:=(st.num v).getD 0
def TD (s0 st:TS):Prop:=∀ s,s0.num s≠none->st.num s=s0.num s/\st.low s=s0.low s/\st.back s=s0.back s
def W9 (s0 st:TS):Prop:=∀ s n,s0.num s=none->st.num s=some n->s0.j6<n
def UG (E:Xaa->Xaa->Prop) (v:Xaa) (s0 st:TS) (x:Xaa):Prop:=s0.num x=none/\qU E v x/\∀ y,E x y->y∈s0.du->wo st v<=ue st y
structure pA (E:Xaa->Xaa->Prop) (G:List Xaa) (v:Xaa) (s0 st:TS):Prop where
 inv:Inv E G st
 old:TD s0 st
 j6:s0.j6<=st.j6
 new:W9 s0 st
 num:∃ n,st.num v=some n
 du:∃ X,st.du=s0.du++X/\∀ x,x∈X->UG E v s0 st x
 low:wo st v<ue st v->∃ y,y∈s0.du/\qU E v y/\st.num y=some (wo st v)
structure Hz (E:Xaa->Xaa->Prop) (own:Xaa->Bool) (G:List Xaa) (v:Xaa) (P:List Xaa) (s0 st:TS):Prop where
 inv:Inv E (v::G) st
 old:TD s0 st
 j6:s0.j6<=st.j6
 new:W9 s0 st
 num:st.num v=some (s0.j6+1)
 du:∃ X,st.du=s0.du++v::X/\∀ x,x∈X->x≠v/\UG E v s0 st x
 low:wo st v<s0.j6+1->∃ y,y∈s0.du/\qU E v y/\st.num y=some (wo st v)
 nK:∀ w,w∈P->own w=true->st.num w≠none/\(w∈s0.du->wo st v<=ue st w)/\(w=v->(st.back v).getD false=true)
def Hz.start {own:Xaa->Bool} {G:List Xaa} {v:Xaa} {s0:TS} (i:Inv E G s0) (h0:s0.num v=none):Hz E own G v [] s0 (ff v s0):=by
 refine ⟨i.open h0,fun s b=>?_,Nat.le_succ _,fun s n b hn=>?_,cK _ _ _,⟨[],rfl,fun x c=>by simp at c⟩,fun hl=>?_,fun w d=>by simp at d⟩
 ·have a:s≠v:=fun e=>b (by rw [e]; exact h0)
  exact ⟨cv _ _ a,cv _ _ a,rfl⟩
 ·by_cases e:s=v
  ·subst e;have hn:dW s0.num s (s0.j6+1) s=some n:=hn;rw [cK] at hn
   have:=Zl hn
   omega
  ·have hn:dW s0.num v (s0.j6+1) s=some n:=hn;rw [cv _ _ e,b] at hn; cases hn
 ·have hl:(dW s0.low v (s0.j6+1) v).getD 0<s0.j6+1:=hl;rw [cK] at hl;simp at hl
def Hz.self {own:Xaa->Bool} {G:List Xaa} {v w:Xaa} {P:List Xaa} {s0 st:TS} (m:Hz E own G v P s0 st) (h0:s0.num v=none) (o:w=v->E v v) :
  Hz E own G v P s0 (fU v w st)/\(w=v->((fU v w st).back v).getD false=true):=by
 obtain ⟨d,p,q,B,i⟩:=jc v w st;have r:∀ s,s≠v->(fU v w st).back s=st.back s:=by
  intro s f;unfold fU;split
  ·exact cv _ _ f
  ·rfl
 have j:w=v->((fU v w st).back v).getD false=true:=by
  intro e;unfold fU;rw [Y8 e];show (dW st.back v true v).getD false=true;rw [cK]; rfl
 have g:(st.back v).getD false=true->((fU v w st).back v).getD false=true:=by
  intro h;unfold fU;split
  ·show (dW st.back v true v).getD false=true;rw [cK]; rfl
  ·exact h
 refine ⟨⟨m.inv.self aj o,fun s f=>?_,by rw [p]; exact m.j6,fun s n f hn=>by rw [d] at hn; exact m.new s n f hn,by rw [d]; exact m.num,?_,?_,fun u t y=>?_⟩,j⟩
 ·have k:s≠v:=fun e=>f (by rw [e]; exact h0)
  rw [d,i,r s k];exact m.old s f
 ·obtain ⟨X,z,A⟩:=m.du;refine ⟨X,by rw [q]; exact z,fun x l=>?_⟩
  have:=A x l
  unfold UG wo ue at *;rw [d,i];exact this
 ·unfold wo;rw [d,i];exact m.low
 ·obtain ⟨a,b,c⟩:=m.nK u t y;unfold wo ue at *;rw [d,i];exact ⟨a,b,fun e=>g (c e)⟩
def qv (v:Xaa) (n:Nat) (st:TS):wo (Ln v n st) v=min (wo st v) n:=by
 unfold wo;show (dW st.low v _ v).getD 0=_;rw [cK]; rfl
def Hz.rest {own:Xaa->Bool} {G:List Xaa} {v w:Xaa} {P:List Xaa} {s0 st:TS} {nK:Xaa->TS->TS} (i0:Inv E G s0) (m:Hz E own G v P s0 st) (h0:s0.num v=none) (V:∀ g,g∈G->qU E g v) (H:E v w)
  (U:w=v->(st.back v).getD false=true) (W:(st.num w).getD 0=0->st.num w=none) (I:st.num w=none->(∀ g,g∈v::G->qU E g w)->pA E (v::G) w st (nK w st)) :
  Hz E own G v (P++[w]) s0 (uQ nK v w st):=by
 obtain ⟨X,F,N⟩:=m.du;have hv:st.num v≠none:=by rw [m.num]; simp
 have z:∀ s,s0.num s≠none->st.num s≠none:=fun s q=>by rw [(m.old s q).1]; exact q
 have i:∀ y,y∈s0.du->y∈st.du:=fun y l=>by rw [F]; exact Zq _ l
 unfold uQ;split
 ·rename_i A;have hw:=W A;have O:w≠v:=fun e=>hv (by rw [<- e]; exact hw)
  have p:=I hw (fun g Y=>by
   rcases Zo.1 Y with h | h
   ·rw [h]; exact .one H
   ·exact (V g h).trans (.one H))
  generalize nK w st=f at p ⊢;show Hz E own G v (P++[w]) s0 (Ln v (wo f w) f);obtain ⟨Z,Q,R⟩:=p.du;have j:wo f v=wo st v:=by unfold wo; rw [(p.old v hv).2.1]
  have r:f.num v=some (s0.j6+1):=by rw [(p.old v hv).1]; exact m.num
  refine ⟨p.inv.low v _,fun s q=>?_,ZK m.j6 p.j6,fun s n q hn=>?_,r,⟨X++Z,?_,fun x B=>?_⟩,fun hl=>?_,fun u J K=>?_⟩
  ·have C:s≠v:=fun e=>q (by rw [e]; exact h0)
   obtain ⟨a,b,c⟩:=m.old s q;obtain ⟨a2,b2,c2⟩:=p.old s (z s q);refine ⟨a2.trans a,?_,c2.trans c⟩;show dW f.low v _ s=_;rw [cv _ _ C];exact b2.trans b
  ·by_cases h1:st.num s=none
   ·have:=p.new s n h1 hn
    have:=m.j6
    omega
   ·have hn:f.num s=some n:=hn;rw [(p.old s h1).1] at hn;exact m.new s n q hn
  ·show f.du=_;rw [Q,F,Zp,by9]
  ·rcases Zb.1 B with h | h
   ·obtain ⟨a,b,c,d⟩:=N x h;refine ⟨a,b,c,fun y l o=>?_⟩;rw [qv,j]
    have:=d y l o
    have e:ue f y=ue st y:=by unfold ue; rw [(p.old y (m.inv.du y (i y o))).1]
    show _<=ue f y;omega
   ·obtain ⟨b,c,d⟩:=R x h;refine ⟨fun e=>hv (by rw [<- e]; exact b),?_,qU.head H c,fun y l o=>?_⟩
    ·apply br9;intro k;exact z x k b
    ·rw [qv]
     have:=d y l (i y o)
     show _<=ue f y;omega
  ·rw [qv,j] at hl ⊢;show ∃ y,y∈s0.du/\qU E v y/\f.num y=_
   by_cases hc:wo st v<=wo f w
   ·rw [ZQ hc] at hl ⊢;obtain ⟨y,l,S,hn⟩:=m.low hl;exact ⟨y,l,S,by rw [(p.old y (m.inv.du y (i y l))).1]; exact hn⟩
   ·rw [Nat.min_eq_right ad] at hl ⊢;obtain ⟨n,hn⟩:=p.num;have h2:=p.new w n hw hn;have h3:=m.j6;obtain ⟨y,l,S,t⟩:=p.low (by unfold ue; rw [hn]; simp; omega);refine ⟨y,?_,qU.head H S,t⟩;rw [F] at l;rcases Zb.1 l with h | h
    ·exact h
    ·rcases Zo.1 h with h | h
     ·rw [h,r] at t
      have:=Zl t
      omega
     ·have L:st.num y≠none:=m.inv.du y (by rw [F]; exact Zv _ (Ze _ h));rw [(p.old y L).1] at t
      have:=m.new y _ (N y h).2.1 t
      omega
  ·rw [qv,j];rcases Zb.1 J with h | h
   ·obtain ⟨a,b,c⟩:=m.nK u h K;have hn:f.num u=st.num u:=(p.old u a).1;refine ⟨by show f.num u≠none; rw [hn]; exact a,fun k=>?_,fun k=>?_⟩
    ·have:=b k
     have e:ue f u=ue st u:=by unfold ue; rw [hn]
     show _<=ue f u;omega
    ·show (f.back v).getD false=true;rw [(p.old v hv).2.2];exact c k
   ·have h:=Zh.1 h;subst h;obtain ⟨n,hn⟩:=p.num;exact ⟨by show f.num u≠none; rw [hn]; simp,fun k=>(m.inv.du u (i u k) hw).elim,fun k=>(O k).elim⟩
 ·rename_i A;have hw:st.num w≠none:=fun e=>A (by rw [e]; rfl)
  obtain ⟨n,hn⟩:=Option.ne_none_iff_exists'.1 hw;split
  ·rename_i D;have hwy:=(m.inv.on w).1 D;have M:(st.num w).getD 0=n:=by rw [hn]; rfl
   rw [M];refine ⟨m.inv.low v _,fun s q=>?_,m.j6,m.new,m.num,⟨X,F,fun x B=>?_⟩,fun hl=>?_,fun u J K=>?_⟩
   ·have C:s≠v:=fun e=>q (by rw [e]; exact h0)
    obtain ⟨a,b,c⟩:=m.old s q;refine ⟨a,?_,c⟩;show dW st.low v _ s=_;rw [cv _ _ C];exact b
   ·obtain ⟨a,b,c,d⟩:=N x B;refine ⟨a,b,c,fun y l o=>?_⟩;rw [qv]
    have:=d y l o
    show _<=ue st y;omega
   ·rw [qv] at hl ⊢;show ∃ y,y∈s0.du/\qU E v y/\st.num y=_
    by_cases hc:wo st v<=n
    ·rw [ZQ hc] at hl ⊢;exact m.low hl
    ·rw [Nat.min_eq_right ad] at hl ⊢;refine ⟨w,?_,.one H,hn⟩;rw [F] at hwy;rcases Zb.1 hwy with h | h
     ·exact h
     ·rcases Zo.1 h with h | h
      ·rw [h,m.num] at hn
       have:=Zl hn
       omega
      ·have:=m.new w _ (N w h).2.1 hn
       omega
   ·rw [qv];rcases Zb.1 J with h | h
    ·obtain ⟨a,b,c⟩:=m.nK u h K;refine ⟨a,fun k=>?_,c⟩
     have:=b k
     show _<=ue st u;omega
    ·have h:=Zh.1 h;subst h;refine ⟨hw,fun k=>?_,U⟩;show _<=(st.num u).getD 0;rw [M];omega
  ·rename_i D;refine ⟨m.inv,m.old,m.j6,m.new,m.num,m.du,m.low,fun u J K=>?_⟩;rcases Zb.1 J with h | h
   ·exact m.nK u h K
   ·have h:=Zh.1 h;subst h;exact ⟨hw,fun k=>(D ((m.inv.on u).2 (i u k))).elim,U⟩
def Hz.Vw {own:Xaa->Bool} {succ:Xaa->List Xaa} {G:List Xaa} {v:Xaa} {s0 st:TS} (A:∀ a b,E a b↔b∈succ a/\own b=true) (i0:Inv E G s0) (m:Hz E own G v (succ v) s0 st) (hl:wo st v<ue st v):pA E G v s0 st:=by
 obtain ⟨X,C,D⟩:=m.du;have F:ue st v=s0.j6+1:=by unfold ue; rw [m.num]; rfl
 have i:=m.inv;have H:v∈st.du:=i.gr v aj;have nK:∀ y,E v y->st.num y≠none/\(y∈s0.du->wo st v<=ue st y)/\(y=v->(st.back v).getD false=true):=fun y c=>m.nK y ((A v y).1 c).1 ((A v y).1 c).2
 obtain ⟨B,j,k,o⟩:=m.low ad;obtain ⟨I,p,q⟩:=i0.rg B j;refine ⟨⟨i.le,i.du,i.on,fun g s=>i.gr g (Ze _ s),i.cl,fun x t d y c=>?_,fun x f=>?_,i.b0,i.bc,i.bw,fun x f d l=>?_⟩,m.old,m.j6,m.new,⟨_,m.num⟩,⟨v::X,C,fun x u=>?_⟩,fun _=>⟨B,j,k,o⟩⟩
 ·by_cases e:x=v
  ·subst e; exact (nK y c).1
  ·exact i.bl x t (by simp [e,d]) y c
 ·obtain ⟨g,s,r⟩:=i.rg x f;rcases Zo.1 s with h | h
  ·rw [h] at r;exact ⟨I,p,(r.trans k).trans q⟩
  ·exact ⟨g,h,r⟩
 ·by_cases e:x=v
  ·subst e; exact (nK x l).2.2 rfl
  ·exact i.bb x f (by simp [e,d]) l
 ·rcases Zo.1 u with h | h
  ·subst h;refine ⟨?_,.refl x,fun y c w=>(nK y c).2.1 w⟩;cases z:s0.num x with
   | none=>rfl
   | some n =>
    have h1:=(m.old x (by rw [z]; simp)).1;rw [z,m.num] at h1
    have:=Zl h1
    have:=(i0.le x n z).2
    omega
  ·exact (D x h).2
open Classical in
def UL (rj:Bool) (x:Xaa) (l:List Xaa):∀ st:TS,((l.foldl (qL rj) st).on x).getD false=(if x∈l then false else (st.on x).getD false)/\((l.foldl (qL rj) st).back x).getD false=(if x∈l then ((st.back x).getD false || rj) else (st.back x).getD false)/\(x∉l->(l.foldl (qL rj) st).back x=st.back x):=by
 induction l with
 | nil=>intro st; simp
 | cons y l g =>
  intro st;rw [ZD];obtain ⟨a,b,c⟩:=g (qL rj st y);rw [a,b]
  by_cases e:x=y
  ·subst e;have f:((qL rj st x).on x)=some false:=cK _ _ _;have d:((qL rj st x).back x)=some ((st.back x).getD false || rj):=cK _ _ _;rw [f,d];refine ⟨aj,by by_cases i:x∈l <;> simp [i],fun h=>(h aj).elim⟩
  ·have f:((qL rj st y).on x)=st.on x:=cv _ _ e;have d:((qL rj st y).back x)=st.back x:=cv _ _ e;rw [f,d];refine ⟨by simp [e],by simp [e],fun h=>?_⟩;rw [c (fun k=>h (Ze _ k)),d]
open Classical in
def Hz.V1 {own:Xaa->Bool} {succ:Xaa->List Xaa} {G:List Xaa} {v:Xaa} {s0 st:TS} (Z:∀ a b,E a b↔b∈succ a/\own b=true) (i0:Inv E G s0) (m:Hz E own G v (succ v) s0 st) (h0:s0.num v=none) (hG:∀ g,g∈G->qU E g v) (hl:¬ wo st v<ue st v):pA E G v s0 (sN v st):=by
 obtain ⟨X,P,L⟩:=m.du;have hnv:ue st v=s0.j6+1:=by unfold ue; rw [m.num]; rfl
 have i:=m.inv;have M:v∈st.du:=i.gr v aj;have nK:∀ y,E v y->st.num y≠none/\(y∈s0.du->wo st v<=ue st y)/\(y=v->(st.back v).getD false=true):=fun y p=>m.nK y ((Z v y).1 p).1 ((Z v y).1 p).2
 have eA:v∉s0.du:=fun h=>i0.du v h h0
 obtain ⟨e1,e2,e3⟩:=Ji (a:=s0.du) (v:=v) (b:=st.du) ⟨X,by rw [P]; simp⟩ eA rfl;have o:st.du.drop (te v st)=v::X:=by rw [e1,P]; simp
 have w:decide (1<st.du.length-te v st)=decide (1<(v::X).length):=by rw [<- o,ZI]
 have j:(sN v st).du=s0.du:=by rw [xx,e1,e2]
 have hnum:=ph v st;have hlow:=Qc v st;have hcnt:=AI v st;have hoff:=fun x=>UL (decide (1<(v::X).length)) x (v::X) st
 have Q:∀ x,((sN v st).on x).getD false=(if x∈v::X then false else (st.on x).getD false):=by
  intro x;rw [<- (hoff x).1];unfold sN;rw [o,w]
 have B:∀ x,((sN v st).back x).getD false=(if x∈v::X then ((st.back x).getD false || decide (1<(v::X).length)) else (st.back x).getD false):=by
  intro x;rw [<- (hoff x).2.1];unfold sN;rw [o,w]
 have R:∀ x,x∉v::X->(sN v st).back x=st.back x:=by
  intro x hh;rw [<- (hoff x).2.2 hh];unfold sN;rw [o,w]
 have C:∀ x,x∈v::X->s0.num x=none:=by
  intro x h;rcases Zo.1 h with h | h
  ·rw [h]; exact h0
  ·exact (L x h).2.1
 have A:∀ x,x∈s0.du->x∉v::X:=fun x h k=>i0.du x h (C x k)
 have f:∀ x,x∈st.du↔x∈s0.du\/x∈v::X:=fun x=>by rw [P]; exact Zb
 have t:∀ y,y∈s0.du->¬ wo st v<=ue st y:=by
  intro y p;obtain ⟨n,hn⟩:=Option.ne_none_iff_exists'.1 (i0.du y p)
  have:=(i0.le y n hn).2
  have e:ue st y=n:=by unfold ue; rw [(m.old y (i0.du y p)).1,hn]; rfl
  omega
 have D:∀ x,st.num x≠none->x∉G->∀ y,E x y->st.num y≠none:=by
  intro x l q y p
  by_cases e:x=v
  ·subst e; exact (nK y p).1
  ·exact i.bl x l (by simp [e,q]) y p
 have N:∀ x,x∈st.du->qU E x v:=by
  intro x h;obtain ⟨g,S,r⟩:=i.rg x h;rcases Zo.1 S with h | h
  ·rw [h] at r; exact r
  ·exact r.trans (hG g h)
 refine ⟨⟨fun s n F=>?_,fun x d=>?_,fun x=>?_,fun g S=>?_,fun x l d y p=>?_,fun x l q y p=>?_,fun x d=>?_,fun x H=>?_,fun x l d=>?_,fun x d I=>?_,fun x d q U=>?_⟩,fun s F=>?_,by rw [hcnt]; exact m.j6,fun s n F hn=>by rw [hnum] at hn; exact m.new s n F hn,⟨_,by rw [hnum]; exact m.num⟩,⟨[],by rw [j]; simp,fun x J=>by simp at J⟩,fun t=>?_⟩
 ·rw [hnum] at F; rw [hcnt]; exact i.le s n F
 ·rw [hnum]; rw [j] at d; exact i.du x ((f x).2 (.inl d))
 ·rw [Q,j]
  by_cases h:x∈v::X
  ·rw [Y8 h];exact ⟨fun k=>(by cases k),fun k=>(A x k h).elim⟩
  ·rw [Y1 h,i.on x,f];exact ⟨fun k=>k.resolve_right h,.inl⟩
 ·rw [j]; exact i0.gr g S
 ·rw [hnum] at l ⊢;rw [j] at d ⊢
  by_cases h:x∈v::X
  ·have q:x∉G:=fun k=>d (i0.gr x k)
   refine ⟨D x l q y p,fun K=>t y K ?_⟩;rcases Zo.1 h with h | h
   ·subst h; exact (nK y p).2.1 K
   ·exact (L x h).2.2.2 y p K
  ·obtain ⟨a,b⟩:=i.cl x l (fun k=>((f x).1 k).elim d h) y p;exact ⟨a,fun k=>b ((f y).2 (.inl k))⟩
 ·rw [hnum] at l ⊢;exact D x l q y p
 ·rw [j] at d; exact i0.rg x d
 ·rw [hnum] at H;rw [B,Y1 (fun k=>i.du x ((f x).2 (.inr k)) H)];exact i.b0 x H
 ·rw [hnum] at l;rw [j] at d;rw [B]
  by_cases h:x∈v::X
  ·rw [Y8 h]
   by_cases I:1<(v::X).length
   ·rw [Y4 I,Bool.or_true];refine ⟨fun _=>?_,fun _=>rfl⟩
    by_cases e:x=v
    ·subst e;obtain ⟨z,V⟩:∃ z,z∈X:=by
      cases X with
      | nil=>simp at I
      | cons z X=>exact ⟨z,aj⟩
     exact kV.of (L z V).2.2.1 (N z ((f z).2 (.inr (Ze _ V)))) (fun e=>(L z V).1 e.symm)
    ·have J:x∈X:=(Zo.1 h).resolve_left e;exact kV.of (N x ((f x).2 (.inr h))) (L x J).2.2.1 e
   ·rw [Y6 I,Bool.or_false];have W:X=[]:=by
     cases X with
     | nil=>rfl
     | cons z X=>simp at I
    subst W;have e:x=v:=by simpa using h
    subst e;refine ⟨fun k=>⟨x,i.bw x M k,.refl x⟩,?_⟩;rintro ⟨u,hu,r⟩;obtain ⟨a,b,c⟩:=nK u hu
    by_cases O:u∈st.du
    ·rcases (f u).1 O with k | k
     ·exact (t u k (b k)).elim
     ·exact c (by simpa using k)
    ·exact ((i.US r a O).2 M).elim
  ·rw [Y1 h];exact i.bc x l (fun k=>((f x).1 k).elim d h)
 ·rw [j] at d;rw [B,Y1 (A x d)] at I;exact i.bw x ((f x).2 (.inl d)) I
 ·rw [j] at d;rw [B,Y1 (A x d)];exact i.bb x ((f x).2 (.inl d)) (fun k=>by
   rcases Zo.1 k with k | k
   ·exact eA (by rw [<- k]; exact d)
   ·exact q k) U
 ·have Y:s∉v::X:=fun k=>F (C s k)
  rw [hnum,hlow,R s Y];exact m.old s F
 ·unfold wo ue at t hl;rw [hlow,hnum] at t;exact (hl t).elim
end
section
variable {own:Xaa->Bool} {succ:Xaa->List Xaa} {names:List Xaa}
def Edge (own:Xaa->Bool) (succ:Xaa->List Xaa) (a b:Xaa):Prop:=b∈succ a/\own b=true
theorem G2 (hn:names.Nodup) (a:∀ s,own s=true->s∈names) {f:Nat} (b:∀ (v:Xaa) (G:List Xaa) (st:TS),dT names st->Inv (Edge own succ) G st->v∈names->st.num v=Option.none->Sx.rX names st<=f->(∀ g,g∈G->qU (Edge own succ) g v)->pA (Edge own succ) G v st (db own succ f v st))
  {v:Xaa} {G:List Xaa} {s0:TS} (i0:Inv (Edge own succ) G s0) (h0:s0.num v=Option.none) (o:∀ g,g∈G->qU (Edge own succ) g v) :
  ∀ (l P:List Xaa) (st:TS),(∀ w,w∈l->w∈succ v)->dT names st->Sx.rX names st<=f->Hz (Edge own succ) own G v P s0 st->Hz (Edge own succ) own G v (P++l) s0 (l.foldl (fe own (db own succ f) v) st)
 | [],P,st,hl,g,c,m=>by simpa using m
 | w::l,P,st,hl,g,c,m=>by
  rw [ZD,show P++w::l=(P++[w])++l from aj];have hok:=Ge a (uk hn a succ f) (v:=v) (w:=w) g c;refine G2 hn a b i0 h0 o l (P++[w]) _ (fun u c=>hl u (Ze _ c)) hok.1 (ZK hok.rX c) ?_;unfold fe;split
  ·rename_i i;have j:Edge own succ v w:=⟨hl w aj,i⟩
   obtain ⟨p,q⟩:=m.self (w:=w) h0 (fun e=>by rw [e] at j; exact j);have g1:=g.self v w;have k:Sx.rX names (fU v w st)<=f:=by unfold Sx.rX; rw [(jc v w st).1]; exact c
   exact p.rest i0 h0 o j q (fun r=>g1.none r) (fun t n=>b w (v::G) _ g1 p.inv (a w i) t k n)
  ·rename_i i;refine ⟨m.inv,m.old,m.j6,m.new,m.num,m.du,m.low,fun u c d=>?_⟩;rcases Zb.1 c with h | h
   ·exact m.nK u h d
   ·rw [Zh.1 h] at d;exact (i d).elim
theorem BV (hn:names.Nodup) (c:∀ s,own s=true->s∈names):∀ (f:Nat) (v:Xaa) (G:List Xaa) (st:TS),dT names st->Inv (Edge own succ) G st->v∈names->st.num v=Option.none->Sx.rX names st<=f->(∀ g,g∈G->qU (Edge own succ) g v)->pA (Edge own succ) G v st (db own succ f v st)
 | 0,v,G,st,g,i,hv,h0,e,d=>by
  have:=(g.open hn hv h0).2
  omega
 | f+1,v,G,st,g,i,hv,h0,e,d=>by
  obtain ⟨j,k⟩:=g.open hn hv h0;have m:=G2 hn c (BV hn c f) i h0 d (succ v) [] _ (fun _ h=>h) j ad (Hz.start i h0);rw [Z8] at m;unfold db;split
  ·rename_i hl;exact m.Vw (fun a b=>Iff.rfl) i hl
  ·rename_i hl;exact m.V1 (fun a b=>Iff.rfl) i h0 d hl
def XF (E:Xaa->Xaa->Prop):Inv E [] De:=by
 refine ⟨fun s n b=>(by cases b),fun x a=>by simp [De] at a,fun x=>by simp [De],fun g c=>by simp at c,fun x a=>(a rfl).elim,fun x a=>(a rfl).elim,fun x a=>by simp [De] at a,fun x a=>rfl,fun x a=>(a rfl).elim,fun x a=>by simp [De] at a,fun x a=>by simp [De] at a⟩
structure VU (own:Xaa->Bool) (succ:Xaa->List Xaa) (names:List Xaa) (P:List Xaa) (st:TS):Prop where
 DW:dT names st
 inv:Inv (Edge own succ) [] st
 du:st.du=[]
 nK:∀ s,s∈P->st.num s≠Option.none
def Ng (hn:names.Nodup) (a:∀ s,own s=true->s∈names) {P:List Xaa} {st:TS} (t:VU own succ names P st) {v:Xaa} (hv:v∈names):VU own succ names (P++[v]) (xW own succ names.length st v):=by
 have d:Sx.rX names st<=names.length:=ao9 _ _;unfold xW;split
 ·rename_i h;have h0:=t.DW.none h;have p:=BV hn a names.length v [] st t.DW t.inv hv h0 d (fun g b=>by simp at b);have k:=uk hn a succ names.length v st t.DW hv h0 d;refine ⟨k.1,p.inv,?_,fun s c=>?_⟩
  ·cases f:(db own succ names.length v st).du with
   | nil=>rfl
   | cons x l =>
    obtain ⟨g,b,_⟩:=p.inv.rg x (by rw [f]; simp);simp at b
  ·rcases Zb.1 c with h | h
   ·rw [(p.old s (t.nK s h)).1]; exact t.nK s h
   ·rw [Zh.1 h];obtain ⟨n,hn⟩:=p.num;rw [hn]; simp
 ·rename_i h;refine ⟨t.DW,t.inv,t.du,fun s c=>?_⟩;rcases Zb.1 c with k | k
  ·exact t.nK s k
  ·rw [Zh.1 k];intro e;exact h (by rw [e]; rfl)
def W6 (names:List Xaa):VU own succ names [] De:=⟨WK names,XF _,rfl,fun s a=>by simp at a⟩
theorem DN (hn:names.Nodup) (a:∀ s,own s=true->s∈names):∀ (l P:List Xaa) (st:TS),(∀ s,s∈l->s∈names)->VU own succ names P st->VU own succ names (P++l) (l.foldl (xW own succ names.length) st)
 | [],P,st,hl,t=>by simpa using t
 | w::l,P,st,hl,t=>by
  rw [ZD,show P++w::l=(P++[w])++l from aj];exact DN hn a l _ _ (fun s b=>hl s (Ze _ b)) (Ng hn a t (hl w aj))
def kV.Tc {v:Xaa} (h:kV (Edge own succ) v):own v=true:=by
 obtain ⟨y,e,r⟩:=h;have c:∀ a b,qU (Edge own succ) a b->own a=true->own b=true:=by
  intro a b r
  induction r with
  | refl=>exact id
  | head e _ d=>exact fun _=>d e.2
 exact c _ _ r e.2
def IF (hn:names.Nodup) (a:∀ s,own s=true->s∈names) (s:Xaa):((Hx own succ names).back s).getD false=true↔kV (Edge own succ) s:=by
 have t:VU own succ names ([]++names) (Hx own succ names):=DN hn a names [] De (fun _ h=>h) (W6 names);rw [Z8] at t
 by_cases h:(Hx own succ names).num s=Option.none
 ·rw [t.inv.b0 s h];refine ⟨fun k=>(by cases k),fun k=>?_⟩;exact (t.nK s (a s k.Tc) h).elim
 ·exact t.inv.bc s h (by rw [t.du]; simp)
end
theorem mj {α:Type} [DecidableEq α]:∀ (l m:List α),l.Nodup->(∀ x,x∈l->x∈m)->l.length<=m.length
 | [],m,_,_=>aj
 | x::l,m,hn,a=>by
  obtain ⟨h1,h2⟩:=bc9.1 hn;have hx:=a x aj
  have:=mj l (m.erase x) h2 (fun y b=>(List.mem_erase_of_ne (fun e=>h1 (by rw [<- e]; exact b))).2 (a y (Ze _ b)))
  rw [List.length_erase_of_mem hx] at this;have hp:=List.length_pos_of_mem hx;simp only [List.length_cons];omega
def qS {of a:Xaa->Option cE} {x:cE} (h:∀ t,t∈x.ah->of t.1=a t.1):dC of x=dC a x:=by
 have h1:x.ah.flatMap (tg of)=x.ah.flatMap (tg a):=by
  have:∀ l:dz,(∀ t,t∈l->of t.1=a t.1)->l.flatMap (tg of)=l.flatMap (tg a):=by
   intro l
   induction l with
   | nil=>intro _; rfl
   | cons t l b =>
    intro hl;rw [ZN,ZN,b (fun u c=>hl u (Ze _ c))]
    congr 1
    unfold tg;rw [hl t aj]
  exact this _ h
 have h2:x.ah.foldl (gX of) x.num=x.ah.foldl (gX a) x.num:=by
  have:∀ (l:dz) (n:Nat),(∀ t,t∈l->of t.1=a t.1)->l.foldl (gX of) n=l.foldl (gX a) n:=by
   intro l
   induction l with
   | nil=>intro n _; rfl
   | cons t l b =>
    intro n hl;rw [ZD,ZD,b _ (fun u c=>hl u (Ze _ c))]
    congr 1
    unfold gX;rw [hl t aj]
  exact this _ _ h
 unfold dC;rw [h1,h2]
section
variable (own:Xaa->Bool) (lin:Xaa->cE)
def cY:Xaa->List Xaa:=fun v=>(lin v).ah.map (·.1)
def rV:Nat->Xaa->cE
 | 0,v=>lin v
 | f+1,v=>dC (fun s=>if own s=true then some (rV f s) else none) (lin v)
end
def Hg (E:Xaa->Xaa->Prop):Nat->Xaa->Prop
 | 0,_=>False
 | k+1,v=>∀ y,E v y->Hg E k y
theorem PD {E:Xaa->Xaa->Prop} {Q:Xaa->Prop} (h:∀ v,(∀ y,E v y->Q y)->Q v):∀ k v,Hg E k v->Q v
 | 0,v,hv=>hv.elim
 | k+1,v,hv=>h v fun y a=>PD h k y (hv y a)
section
variable {own:Xaa->Bool} {lin:Xaa->cE} {names:List Xaa}
def lX {v s:Xaa}:s∈cY lin v↔∃ t,t∈(lin v).ah/\t.1=s:=by simp [cY]
theorem zw:∀ (f g:Nat) (v:Xaa),Hg (Edge own (cY lin)) f v->f<=g->rV own lin f v=rV own lin g v
 | 0,g,v,h,_=>h.elim
 | f+1,0,v,h,b=>ad
 | f+1,g+1,v,h,b=>by
  unfold rV;refine qS fun t c=>?_
  show (if own t.1=true then some (rV own lin f t.1) else none)=if own t.1=true then some (rV own lin g t.1) else none
  by_cases a:own t.1=true
  ·rw [Y8 a,Y8 a,zw f g t.1 (h t.1 ⟨lX.2 ⟨t,c,rfl⟩,a⟩) ad]
  ·rw [Y1 a,Y1 a]
def Wy {E:Xaa->Xaa->Prop} (k:∀ a b,E a b->b∈names) (hc:∀ v,¬ kV E v):∀ (f:Nat) (path:List Xaa) (v:Xaa),path.Nodup->(∀ p,p∈path->p∈names)->(∀ p,p∈path->∃ y,E p y/\qU E y v)->v∈names->names.length<=path.length+f->Hg E f v:=by
 have c:∀ (path:List Xaa) (v:Xaa),(∀ p,p∈path->∃ y,E p y/\qU E y v)->v∉path:=fun path v h hv=>hc v (h v hv)
 intro f
 induction f with
 | zero =>
  intro path v hn e d hv hl;have hvp:=c path v d
  have:=mj (v::path) names (bc9.2 ⟨hvp,hn⟩) (fun x g=>by
   rcases Zo.1 g with h | h
   ·rw [h]; exact hv
   ·exact e x h)
  simp only [List.length_cons] at this;omega
 | succ f l =>
  intro path v hn e d hv hl y i;have hvp:=c path v d;refine l (v::path) y (bc9.2 ⟨hvp,hn⟩) (fun x g=>?_) (fun p j=>?_) (k v y i) (by simp only [List.length_cons]; omega)
  ·rcases Zo.1 g with h | h
   ·rw [h]; exact hv
   ·exact e x h
  ·rcases Zo.1 j with h | h
   ·rw [h]; exact ⟨y,i,.refl y⟩
   ·obtain ⟨z,m,r⟩:=d p h;exact ⟨z,m,r.trans (.one i)⟩
def JH (own:Xaa->Bool) (lin:Xaa->cE) (names:List Xaa) (v:Xaa):cE:=rV own lin names.length v
def KU (own:Xaa->Bool) (lin:Xaa->cE) (names:List Xaa) (s:Xaa):Option cE:=if own s=true then some (JH own lin names s) else none
def IN (c:∀ s,own s=true↔s∈names) (hc:∀ v,¬ kV (Edge own (cY lin)) v) {v:Xaa} (hv:v∈names):Hg (Edge own (cY lin)) names.length v :=
 Wy (fun a b e=>(c b).1 e.2) hc names.length [] v List.nodup_nil (fun p d=>by simp at d) (fun p d=>by simp at d) hv aj
def I9 (a:∀ s,own s=true↔s∈names) (hc:∀ v,¬ kV (Edge own (cY lin)) v) {v:Xaa} (hv:v∈names):JH own lin names v=dC (KU own lin names) (lin v):=by
 have hg:=IN a hc hv;unfold JH;cases c:names.length with
 | zero=>rw [c] at hg; exact hg.elim
 | succ n =>
  rw [c] at hg;unfold rV;refine qS fun t d=>?_
  unfold KU JH
  by_cases b:own t.1=true
  ·rw [Y8 b,Y8 b,c,zw n (n+1) t.1 (hg t.1 ⟨lX.2 ⟨t,d,rfl⟩,b⟩) ad]
  ·rw [Y1 b,Y1 b]
def R5 (a:∀ s,own s=true↔s∈names) (hc:∀ v,¬ kV (Edge own (cY lin)) v) {Q:Xaa->Prop} (h:∀ v,(∀ y,Edge own (cY lin) v y->Q y)->Q v) {v:Xaa} (hv:v∈names):Q v :=
 PD h names.length v (IN a hc hv)
end
variable {i:Xaa × Nat}
def E6 (h:i∈Fg b):∃ p,p∈b/\p.1=i.1:=by
 apply br9;intro k;have h0:cf b i.1=0:=Ai fun p a e=>k ⟨p,a,e⟩
 have h1:=BN b i.1;rw [h0] at h1;have nf:=Bc b;generalize Fg b=m at h h1 nf
 induction m with
 | nil=>simp at h
 | cons p m c =>
  rcases Zo.1 h with h | h
  ·subst h;rw [nf.oi] at h1
   have:=(nf.2 i aj).1
   omega
  ·have hl:=nf.head i h;rw [fp,Y1 (kW hl)] at h1;exact c h ad nf.tail
open Classical in
theorem xT (f:Xaa->Nat) (S:List Xaa) (b:S.Nodup):∀ l:dz,(∀ p,p∈l->p.1∈S)->hQ f l=(S.map fun s=>cf l s*f s).sum
 | [],_=>by
  have:∀ S:List Xaa,(S.map fun s=>cf [] s*f s).sum=0:=by
   intro S
   induction S with
   | nil=>rfl
   | cons s S ih=>rw [ZF,ZX,ih,AQ]; omega
  rw [this]; rfl
 | p::l,h=>by
  have ih:=xT f S b l (fun q c=>h q (Ze _ c));have hp:=h p aj;rw [fy,ih];clear ih h;have a:∀ S:List Xaa,S.Nodup->(S.map fun s=>cf (p::l) s*f s).sum=(if p.1∈S then p.2*f p.1 else 0)+(S.map fun s=>cf l s*f s).sum:=by
   intro S
   induction S with
   | nil=>intro _; simp
   | cons s S ih =>
    intro hn;obtain ⟨h1,h2⟩:=bc9.1 hn;rw [ZF,ZX,ZF,ZX,ih h2,fp]
    by_cases e:p.1=s
    ·subst e;rw [Y8 rfl,Y1 h1,Y8 aj,Z5];omega
    ·have:(p.1∈s::S)↔p.1∈S:=by simp [e]
     rw [Y1 e,ZH];simp only [this];omega
  rw [a S b,Y8 hp]
variable {j:Xaa->Nat}
def R7 {m:dz} (h:∀ s,cf b s % 4294967296=cf m s % 4294967296):hQ j b % 4294967296=hQ j m % 4294967296:=by
 obtain ⟨S,a,hl⟩:∃ S:List Xaa,S.Nodup/\∀ p,p∈b++m->p.1∈S:=by
  generalize b++m=w
  induction w with
  | nil=>exact ⟨[],List.nodup_nil,aj⟩
  | cons p w d =>
   obtain ⟨S,a,g⟩:=d
   by_cases c:p.1∈S
   ·refine ⟨S,a,fun q e=>?_⟩;rcases Zo.1 e with h | h
    ·rw [h]; exact c
    ·exact g q h
   ·refine ⟨p.1::S,bc9.2 ⟨c,a⟩,fun q e=>?_⟩;rcases Zo.1 e with h | h
    ·rw [h]; simp
    ·exact Ze _ (g q h)
 rw [xT j S a b (fun p c=>hl p (Zq _ c)),xT j S a m (fun p c=>hl p (Zv _ c))];clear a hl
 induction S with
 | nil=>rfl
 | cons s S d =>
  rw [ZF,ZX,ZF,ZX,bi9,d,cp9,h s,<- cp9,<- bi9]
def Ol (f:Xaa->Nat) (l:dz):hQ f (Fg l) % 4294967296=hQ f l % 4294967296:=R7 fun s=>by rw [BN,cz9]
def j3 (f:Xaa->Nat) (x:cE):Nat:=(x.num+hQ f x.ah) % 4294967296
def FX (f:Xaa->Nat) (l m:dz):hQ f (l++m)=hQ f l+hQ f m:=by
 induction l with
 | nil=>simp [hQ]
 | cons p l a=>rw [by9,fy,fy,a]; omega
def HK (f:Xaa->Nat) (n:Nat) (l:dz):hQ f (l.map fun u=>(u.1,n*u.2 % 4294967296)) % 4294967296=n*hQ f l % 4294967296:=by
 induction l with
 | nil=>simp [hQ]
 | cons p l d =>
  rw [ZF,fy,fy,bi9,d,c,<- bi9,Nat.mul_add,Nat.mul_assoc]
where
 c {a b:Nat}:a % 4294967296*b % 4294967296=a*b % 4294967296:=ON a b
def Ni {g:Xaa->Nat} {of:Xaa->Option cE} (h:∀ s,g s % 4294967296=(match of s with | none=>j s | some y=>j3 j y) % 4294967296) (x:cE):j3 j (dC of x)=j3 g x:=by
 unfold j3 dC;show ((x.ah.foldl (gX of) x.num)+hQ j (Fg (x.ah.flatMap (tg of)))) % 4294967296=(x.num+hQ g x.ah) % 4294967296;rw [bi9,Ol,<- bi9];generalize x.num=n;generalize x.ah=l
 induction l generalizing n with
 | nil=>simp [hQ]
 | cons t l b =>
  rw [ZD,ZN,FX,fy];have c:(l.foldl (gX of) (gX of n t)+(hQ j (tg of t)+hQ j (l.flatMap (tg of)))) % 4294967296=(hQ j (tg of t)+(gX of n t+hQ g l)) % 4294967296:=by
   rw [show l.foldl (gX of) (gX of n t)+(hQ j (tg of t)+hQ j (l.flatMap (tg of)))=hQ j (tg of t)+(l.foldl (gX of) (gX of n t)+hQ j (l.flatMap (tg of))) from ad,bi9,b,<- bi9]
  rw [c];have d:(hQ j (tg of t)+gX of n t) % 4294967296=(n+t.2*g t.1) % 4294967296:=by
   have hg:=h t.1;unfold tg gX;cases a:of t.1 with
   | none =>
    rw [a] at hg;simp only at hg ⊢;rw [fy]
    have:t.2*j t.1 % 4294967296=t.2*g t.1 % 4294967296:=by rw [cp9,<- hg,<- cp9]
    simp only [hQ,Nat.add_zero];omega
   | some y =>
    rw [a] at hg;simp only at hg ⊢;have h1:=HK j t.2 y.ah;have h2:t.2*g t.1 % 4294967296=t.2*(y.num+hQ j y.ah) % 4294967296:=by
     unfold j3 at hg;rw [cp9,hg,cz9,<- cp9]
    rw [Nat.mul_add] at h2;omega
  omega
variable {c:cE}
def tU {of:Xaa->Option cE} (h:i∈(dC of c).ah):(∃ p,p∈c.ah/\p.1=i.1/\of i.1=none)\/∃ p y u,p∈c.ah/\of p.1=some y/\u∈y.ah/\u.1=i.1:=by
 obtain ⟨p,f,e⟩:=E6 h;obtain ⟨q,d,a⟩:=cs9.1 f;unfold tg at a;cases b:of q.1 with
 | none =>
  rw [b] at a
  have:p=q:=by simpa using a
  subst this;exact .inl ⟨p,d,e,by rw [<- e]; exact b⟩
 | some y =>
  rw [b] at a;obtain ⟨u,g,rfl⟩:=Y9.1 a;exact .inr ⟨q,y,u,d,b,g,e⟩
def ft (of:Xaa->Option cE) (x:cE):Nf (dC of x).ah:=Bc _
def F1 {l:dz} (h:Nf l):Fg l=l:=(Bc l).RZ h fun s=>by rw [BN,cz9]
def mW {of:Xaa->Option cE} (a:c.num<4294967296):(dC of c).num<4294967296:=by
 show c.ah.foldl (gX of) c.num<4294967296;generalize c.num=n at a;generalize c.ah=l
 induction l generalizing n with
 | nil=>exact a
 | cons t l b =>
  rw [ZD];refine b _ ?_;unfold gX;split
  ·exact a
  ·exact cu9 _ ad
section
variable {own:Xaa->Bool} {lin:Xaa->cE} {names:List Xaa}
def yj (c:∀ s,own s=true↔s∈names) (hc:∀ v,¬ kV (Edge own (cY lin)) v) {v:Xaa} (hv:v∈names):∀ t,t∈(JH own lin names v).ah->own t.1=false/\∃ w u,w∈names/\u∈(lin w).ah/\u.1=t.1:=by
 refine R5 (Q:=fun v=>v∈names->∀ t,t∈(JH own lin names v).ah->own t.1=false/\∃ w u,w∈names/\u∈(lin w).ah/\u.1=t.1) c hc ?_ hv hv;intro v h hv t g;rw [I9 c hc hv] at g;rcases tU g with ⟨p,f,e,ho⟩ | ⟨p,y,u,f,ho,i,e⟩
 ·refine ⟨?_,v,p,hv,f,e⟩;unfold KU at ho;cases d:own t.1 with
  | false=>rfl
  | true=>rw [d] at ho; simp at ho
 ·unfold KU at ho
  by_cases d:own p.1=true
  ·rw [Y8 d] at ho;have ho:=Zl ho;subst ho;obtain ⟨a,b⟩:=h p.1 ⟨lX.2 ⟨p,f,rfl⟩,d⟩ ((c _).1 d) u i;rw [<- e];exact ⟨a,b⟩
  ·rw [Y1 d] at ho; cases ho
def Vu (a:∀ s,own s=true↔s∈names) (hc:∀ v,¬ kV (Edge own (cY lin)) v) {v:Xaa} (hv:v∈names):Nf (JH own lin names v).ah:=by
 rw [I9 a hc hv]; exact ft _ _
end
def add_zero' (a:Xax):a.add 0=a:=by unfold Addr.add; rw [Y8 rfl]
def Wf (a b:Xaa):(ByteArray.toList a==ByteArray.toList b)=decide (a=b):=by
 rw [ByteArray.toList_eq,ByteArray.toList_eq]
 by_cases h:a=b
 ·subst h; simp
 ·rw [Y6 h];exact beq_eq_false_iff_ne.2 fun e=>h (zi e)
def SL.take {h:Hp} {b:Nat} {e:TypeId} {sz:Nat} {p:Xac} {l c:Nat} {i:List (List Xab)} (s:SL h b e sz p l c i) {k:Nat} (hk:k<=l):SL h b e sz p k c (i.take k):=by
 refine ⟨by rw [Zi,<- s.1]; omega,fun x j=>s.2.1 x (Z0 j),?_⟩;cases p with
 | none =>
  obtain ⟨h1,h2⟩:=s.2.2;subst h2;exact ⟨h1,aj⟩
 | some a =>
  obtain ⟨g,m,rest,rfl,n,o,f,q⟩:=s.2.2;have d:i.flatten=(i.take k).flatten++(i.drop k).flatten:=by rw [<- bv9,ZG]
  refine ⟨g,m,(i.drop k).flatten++rest,rfl,n,ad,?_,?_⟩
  ·rw [d] at f;simpa [List.append_assoc] using f
  ·rw [Y0,cU _ (fun x j=>s.2.1 x (cl9 j)),ZI,q,<- s.1,<- Z5]
   congr 1; omega
abbrev Xw (x:Xaa):List Xab:=[.string x]
def Xh:Tryz.prog.underlying 28=some (.slice 9):=aw
def Xi:(Tryz.prog.info? 9).map (fun i=>(i.zero,i.size,i.bytes))=some (some (.string ⟨#[]⟩),1,16):=aw
def M7 {d:List Xaa} (s:SL I H 9 1 O U Y (d.map Xw)) (v:Xaa) (hv:v∈d) (hl:U<=2^40) :
  xL Xaz 107 [.slice O U Y,.string v] I (vI ((d.findIdx fun x=>decide (v=x):Nat):Int)):=by
 refine fh mixed Tryz.func107 aw (iR O U Y v) ?_;unfold fk aY bj bn ay aK;have q:U=d.length:=by rw [s.1,YY]
 refine aU (cs:=gk) (fun x w h'=>h'=I/\∃ i:Nat,x.2.1=(i:Int)/\i<=d.length/\w=d.length-i/\∀ j,j<i->∀ g:j<d.length,v≠d[j]) ((0:Int),(0:Int),()) d.length rfl ⟨rfl,0,rfl,ad,ad,fun j g=>ad⟩ ?_;rintro ⟨r,u,⟨⟩⟩ w h2 ⟨rfl,i,hi,o,rfl,k⟩;simp only at hi;subst hi;refine ak ?_;refine aP ?_ ?_<;>intro t
 ·have f:i<d.length:=ad
  refine dO ?_;obtain ⟨a,rfl,hc⟩:=s.cells (i:=i) (by simpa using f);rw [Y7] at hc;refine aH rfl ?_;rw [cB i];refine av (d[i],()) hc (ak ?_);rw [Wf];refine aP ?_ ?_<;>intro m
  ·have:d.findIdx (fun x=>decide (v=x))=i:=by
    rw [List.findIdx_eq f];exact ⟨by simpa using m,fun j g=>by simpa using k j g ad⟩
   exact ⟨by rw [this],rfl⟩
  ·have hw:=iC i;refine aG (cs:=gk) (r,((i+1:Nat):Int),()) (d.length-(i+1)) rfl ad (by rw [hw]; rfl) ⟨rfl,i+1,rfl,ad,rfl,fun j g n=>?_⟩
   by_cases e:j=i
   ·subst e; exact m
   ·exact k j ad n
 ·have hi:i=d.length:=ad
  subst hi;obtain ⟨j,g,e⟩:=Zt hv;exact (k j g g e.symm).elim
def dH (es:List cX) (s:Xaa):cE:=(((kX es s).bind fun k=>es[k]?).map (·.x)).getD vQ
def cG (es:List cX) (s:Xaa):Bool:=(kX es s).isSome
def bh (es:List cX):List Xaa:=es.map (·.name)
def eP (es:List cX) (s:Xaa):cG es s=true↔s∈bh es:=by
 unfold cG kX bh;rw [List.findIdx?_isSome,ay9]
 simp
def pW {es:List cX} (h:kX es V=some H):∃ hk:H<es.length,es[H].name=V/\dH es V=es[H].x:=by
 have h':=h;unfold kX at h';rw [Zr] at h';obtain ⟨hk,h1,h2⟩:=h';refine ⟨hk,Y3 h1,?_⟩;unfold dH;rw [h,ak9,YZ hk] <;> rfl
def E4 {es:List cX} (h:V∈bh es):∃ k,kX es V=some k:=by
 have:=(eP es V).2 h
 unfold cG at this;exact ZZ.1 this
structure TF where
 E:Nat
 gA:Nat
 A:Nat
 gB:Nat
 B:Nat
 gN:Nat
 gL:Nat
 N:Nat
 L:Nat
 W:Nat
 gO:Nat
 O:Nat
 V:Nat
def TF.ord (r:TF):Prop:=r.E<r.gA/\r.gA<r.A/\r.A<r.gB/\r.gB<r.B/\r.B<r.gN/\r.gN<r.gL/\r.gL<r.N/\r.N<r.L/\r.L<r.W/\r.W<r.gO/\r.gO<r.O/\r.O<r.V
abbrev bx (g:Nat):Xax:=⟨g,0,none⟩
def TF.vf (r:TF):List Xab:=[.pointer (some (bx r.N)),.pointer (some (bx r.L)),.pointer (some (bx r.W)),.pointer (some (bx r.O)),.pointer (some (bx r.E)),.pointer (some (bx r.A)),.pointer (some (bx r.B)),.pointer (some (bx r.V))]
structure Qn (r:TF) (h:Hp) (es:List cX) (p0:Xac) (l0 c0:Nat):Prop where
 bE:bF h r.E 27 [.slice p0 l0 c0]
 bA:bF h r.A 97 [.map (some r.gA)]
 mA:∃ n,ez eI h r.gA (kX es) n
 bV:bF h r.V 168 [.func (.func 106) #[] r.vf.toArray]
 bN:bF h r.N 97 [.map (some r.gN)]
 bL:bF h r.L 97 [.map (some r.gL)]
 bO:bF h r.O 142 [.map (some r.gO)]
 bB:bF h r.B 142 [.map (some r.gB)]
 vw:rW h p0 l0 es
structure KM (r:TF) (es:List cX) (p0:Xac):Prop where
 ord:r.ord
 l0:∀ i,i∈aF p0->i<r.E
 li:∀ e,e∈es->e.x.ah≠[]->∀ i,i∈aF e.p->i<r.E
def ik.tJ {ws:List Nat} {h':Hp} {us:dz} (v:ik I O H us) (k:Ch ws I h') (a:us≠[]->∀ i,i∈aF O->i∉ws):ik h' O H us:=by
 by_cases hn:us=[]
 ·subst hn;exact ⟨v.len,fun i hi=>by simp at hi⟩
 ·exact v.ai k (a hn)
def rW.iy {ws:List Nat} {h':Hp} {es:List cX} (v:rW I O H es) (k:Ch ws I h') (d:∀ i,i∈aF O->i∉ws) (hi:∀ e,e∈es->e.x.ah≠[]->∀ i,i∈aF e.p->i∉ws):rW h' O H es :=
 ⟨v.len,fun i hi=>by
  obtain ⟨a,b,hc⟩:=v.cells i hi;exact ⟨a,b,aX k (by rw [fv]; exact d _ (by rw [b]; simp [aF])) _ _ hc⟩,fun e c=>(v.fI e c).tJ k (hi e c)⟩
def X7 (r:TF) (p:Xac):List Nat:=r.gN::r.gL::r.gO::r.gB::r.W::aF p
structure ou (r:TF) (h:Hp) (st:TS) (p:Xac) (l c:Nat):Prop where
 mN:ez eI h r.gN st.num st.j6
 mL:∃ n,ez eI h r.gL st.low n
 mO:∃ n,ez eB h r.gO st.on n
 mB:∃ n,ez eB h r.gB st.back n
 bW:bF h r.W 28 [.slice p l c]
 w:SL h (r.V+1) 9 1 p l c (st.du.map Xw)
def Qn.iy {r:TF} {h h':Hp} {es:List cX} {p0:Xac} {l0 c0:Nat} {ws:List Nat} (m:Qn r h es p0 l0 c0) (lo:KM r es p0) (k:Ch ws h h') (d:∀ i,i∈ws->i=r.gN\/i=r.gL\/i=r.gO\/i=r.gB\/i=r.W\/r.V<i):Qn r h' es p0 l0 c0:=by
 have o:=lo.ord;unfold TF.ord at o;have a:∀ i,i≠r.gN->i≠r.gL->i≠r.gO->i≠r.gB->i≠r.W->i<=r.V->i∉ws:=by
  intro i h1 h2 f g j l hi
  have:=d i hi
  omega
 obtain ⟨n,mA⟩:=m.mA;exact ⟨m.bE.ai k (a _ ad ad ad ad ad ad),m.bA.ai k (a _ ad ad ad ad ad ad),⟨n,mA.ai k (a _ ad ad ad ad ad ad)⟩,
  m.bV.ai k (a _ ad ad ad ad ad ad),m.bN.ai k (a _ ad ad ad ad ad ad),m.bL.ai k (a _ ad ad ad ad ad ad),
  m.bO.ai k (a _ ad ad ad ad ad ad),m.bB.ai k (a _ ad ad ad ad ad ad),
  m.vw.iy k (fun i hi=>a _ (by have:=lo.l0 i hi; omega) (by have:=lo.l0 i hi; omega) (by have:=lo.l0 i hi; omega) (by have:=lo.l0 i hi; omega) (by have:=lo.l0 i hi; omega) (by have:=lo.l0 i hi; omega))
   (fun e c b i hi=>a _ (by have:=lo.li e c b i hi; omega) (by have:=lo.li e c b i hi; omega) (by have:=lo.li e c b i hi; omega) (by have:=lo.li e c b i hi; omega) (by have:=lo.li e c b i hi; omega) (by have:=lo.li e c b i hi; omega))⟩
def ou.ai {r:TF} {h h':Hp} {st:TS} {p:Xac} {l c:Nat} (m:ou r h st p l c) (k:Ext h h'):ou r h' st p l c:=by
 obtain ⟨a,mL⟩:=m.mL;obtain ⟨b,mO⟩:=m.mO;obtain ⟨d,mB⟩:=m.mB;exact ⟨m.mN.ai k aj,⟨a,mL.ai k aj⟩,⟨b,mO.ai k aj⟩,⟨d,mB.ai k aj⟩,m.bW.ai k aj,m.w.ai k aj⟩
structure rD (r:TF) (p:Xac) (h:Hp) (p':Xac) (h':Hp):Prop where
 ch:Ch (X7 r p) h h'
 cj:∀ i,i∈aF p'->i∈aF p\/h.size<=i
def rD.refl (r:TF) (p:Xac) (h:Hp):rD r p h p h:=⟨Ch.refl _ _,fun i hi=>.inl hi⟩
variable {d:TF}
def qR {p:Xac} :H∈X7 d p↔H=d.gN\/H=d.gL\/H=d.gO\/H=d.gB\/H=d.W\/H∈aF p:=by
 unfold X7; simp
def rD.trans {r:TF} {p q s:Xac} {a b c:Hp} (x:rD r p a q b) (y:rD r q b s c):rD r p a s c:=by
 have hz:=x.ch.size;refine ⟨Ch.trans x.ch y.ch fun i hi hl=>?_,fun i hi=>?_⟩
 ·rw [qR] at hi ⊢;rcases hi with h | h | h | h | h | h
  ·exact .inl h
  ·exact .inr (.inl h)
  ·exact .inr (.inr (.inl h))
  ·exact .inr (.inr (.inr (.inl h)))
  ·exact .inr (.inr (.inr (.inr (.inl h))))
  ·rcases x.cj i h with h | h
   ·exact .inr (.inr (.inr (.inr (.inr h))))
   ·omega
 ·rcases y.cj i hi with h | h
  ·exact x.cj i h
  ·exact .inr ad
def rD.ext {h':Hp} (k:Ext I h'):rD d O I O h':=⟨k.mono aj,fun i hi=>.inl hi⟩
def rD.of {h':Hp} (k:Ch [H] I h') (a:H=d.gN\/H=d.gL\/H=d.gO\/H=d.gB\/H=d.W):rD d O I O h' :=
 ⟨k.mono fun i hi hl=>by simp at hi; subst hi; rw [qR]; rcases a with I | I | I | I | I <;> simp [I],fun i hi=>.inl hi⟩
def rD.co {r:TF} {p p':Xac} {l c:Nat} {h h':Hp} {st:TS} {es:List cX} {p0:Xac} {l0 c0:Nat} (x:rD r p h p' h') (lo:KM r es p0) (m:ou r h st p l c) (co:Qn r h es p0 l0 c0):Qn r h' es p0 l0 c0:=by
 refine co.iy lo x.ch fun i hi=>?_
 rw [qR] at hi;rcases hi with h | h | h | h | h | h
 ·exact .inl h
 ·exact .inr (.inl h)
 ·exact .inr (.inr (.inl h))
 ·exact .inr (.inr (.inr (.inl h)))
 ·exact .inr (.inr (.inr (.inr (.inl h))))
 ·exact .inr (.inr (.inr (.inr (.inr (by have:=(m.w.cj h).1; omega)))))
variable {e:TypeId}
def rD.box {p':Xac} {l c:Nat} {h':Hp} {st:TS} {xs:List Xab} (x:rD d O I p' h') (o:d.ord) (f:d.V<H) (a:H∉aF O) (b:bF I H e xs):bF h' H e xs:=by
 unfold TF.ord at o;refine b.ai x.ch fun hi=>?_
 rw [qR] at hi;rcases hi with I | I | I | I | I | I <;> first | omega | exact a I
section
variable {L:Lp} {K:Xab->Hp->Prop} {h:Hp} {r:TF} {st:TS} {p:Xac} {l c:Nat}
def ou.P6 (m:ou r h st p l c) {i:Nat} (hi:i∈aF p):r.V<i:=by have:=(m.w.cj hi).1; omega
variable {H:Xaa} {I:T}
def ou.wG (m:ou r h st p l c) (o:r.ord) (a:H.size<=maxLen) {v:Int} {w:Nat} (hv:v=(w:Int)) (hk:∀ h',ou r h' { st with num:=dW st.num H w,j6:=if (st.num H).isSome then st.j6 else st.j6+1 } p l c->rD r p h p h'->h'.size=h.size->I L K h') :
  T.eV Xaz (Instr.mapUpdate 97 (.map (some r.gN)) (.string H) (vI v)) I L K h:=by
 unfold TF.ord at o;obtain ⟨b,mL⟩:=m.mL;obtain ⟨d,mO⟩:=m.mO;obtain ⟨e,mB⟩:=m.mB;refine sy m.mN a hv ?_;intro h' f c' g;exact hk h' ⟨f,⟨b,mL.ai c' (by simp; omega)⟩,⟨d,mO.ai c' (by simp; omega)⟩,⟨e,mB.ai c' (by simp; omega)⟩,m.bW.ai c' (by simp; omega),m.w.br c' (fun i hi=>by have:=m.P6 hi; simp; omega)⟩ (rD.of c' (.inl rfl)) g
def ou.uy (m:ou r h st p l c) (o:r.ord) (a:H.size<=maxLen) {v:Int} {w:Nat} (hv:v=(w:Int)) (hk:∀ h',ou r h' { st with low:=dW st.low H w } p l c->rD r p h p h'->h'.size=h.size->I L K h') :
  T.eV Xaz (Instr.mapUpdate 97 (.map (some r.gL)) (.string H) (vI v)) I L K h:=by
 unfold TF.ord at o;obtain ⟨g,mL⟩:=m.mL;obtain ⟨b,mO⟩:=m.mO;obtain ⟨d,mB⟩:=m.mB;refine sy mL a hv ?_;intro h' e c' f;exact hk h' ⟨m.mN.ai c' (by simp; omega),⟨_,e⟩,⟨b,mO.ai c' (by simp; omega)⟩,⟨d,mB.ai c' (by simp; omega)⟩,m.bW.ai c' (by simp; omega),m.w.br c' (fun i hi=>by have:=m.P6 hi; simp; omega)⟩ (rD.of c' (.inr (.inl rfl))) f
variable {O:Bool}
def ou.Wg (m:ou r h st p l c) (o:r.ord) (a:H.size<=maxLen) (hk:∀ h',ou r h' { st with on:=dW st.on H O } p l c->rD r p h p h'->h'.size=h.size->I L K h') :
  T.eV Xaz (Instr.mapUpdate 142 (.map (some r.gO)) (.string H) (.bool O)) I L K h:=by
 unfold TF.ord at o;obtain ⟨d,mL⟩:=m.mL;obtain ⟨j,mO⟩:=m.mO;obtain ⟨e,mB⟩:=m.mB;refine V4 mO a ?_;intro h' f c' g;exact hk h' ⟨m.mN.ai c' (by simp; omega),⟨d,mL.ai c' (by simp; omega)⟩,⟨_,f⟩,⟨e,mB.ai c' (by simp; omega)⟩,m.bW.ai c' (by simp; omega),m.w.br c' (fun i hi=>by have:=m.P6 hi; simp; omega)⟩ (rD.of c' (.inr (.inr (.inl rfl)))) g
def ou.Vt (m:ou r h st p l c) (o:r.ord) (a:H.size<=maxLen) (hk:∀ h',ou r h' { st with back:=dW st.back H O } p l c->rD r p h p h'->h'.size=h.size->I L K h') :
  T.eV Xaz (Instr.mapUpdate 142 (.map (some r.gB)) (.string H) (.bool O)) I L K h:=by
 unfold TF.ord at o;obtain ⟨d,mL⟩:=m.mL;obtain ⟨e,mO⟩:=m.mO;obtain ⟨j,mB⟩:=m.mB;refine V4 mB a ?_;intro h' f c' g;exact hk h' ⟨m.mN.ai c' (by simp; omega),⟨d,mL.ai c' (by simp; omega)⟩,⟨e,mO.ai c' (by simp; omega)⟩,⟨_,f⟩,m.bW.ai c' (by simp; omega),m.w.br c' (fun i hi=>by have:=m.P6 hi; simp; omega)⟩ (rD.of c' (.inr (.inr (.inr (.inl rfl))))) g
variable {U:Int->T}
def ou.FL (m:ou r h st p l c) (s:Xaa) (hk:U (((st.num s).getD 0:Nat):Int) L K h):T.eN Xaz (Instr.lookup 97 (.map (some r.gN)) (.string s) false) false [(false,[.int .i64])] U L K h:=JV m.mN s hk
def ou.BM (m:ou r h st p l c) (s:Xaa) (hk:U (((st.low s).getD 0:Nat):Int) L K h):T.eN Xaz (Instr.lookup 97 (.map (some r.gL)) (.string s) false) false [(false,[.int .i64])] U L K h:=by
 obtain ⟨a,mL⟩:=m.mL;exact JV mL s hk
variable {V:Bool->T}
def ou.WW (m:ou r h st p l c) (s:Xaa) (hk:V ((st.on s).getD false) L K h):T.eN Xaz (Instr.lookup 142 (.map (some r.gO)) (.string s) false) false [(false,[.bool])] V L K h:=by
 obtain ⟨a,mL⟩:=m.mO;exact Oe mL s hk
def ou.eY (m:ou r h st p l c) (s:Xaa) (hk:V ((st.back s).getD false) L K h):T.eN Xaz (Instr.lookup 142 (.map (some r.gB)) (.string s) false) false [(false,[.bool])] V L K h:=by
 obtain ⟨a,mL⟩:=m.mB;exact Oe mL s hk
end
def Ty (y f z A a:Xax) (s:Xaa) (b:Int):T :=
 T.af y [.map 9 3] <| fun (g:Option Nat) =>
 T.af a [.string] <| fun (h:Xaa) =>
 bX (Instr.lookup 97 (.map g) (.string h) false) false [aK] <| fun (i:Int) =>
 cond (i==(0:Int))
  (T.af A [.func #[9] #[] false] <| fun (j:Xab) =>
  T.af a [.string] <| fun (c:Xaa) =>
  T.sU Xaz j [.string c] true [] <| T.af f [.map 9 3] <| fun (k:Option Nat) =>
  T.af f [.map 9 3] <| fun (d:Option Nat) =>
  bX (Instr.lookup 97 (.map d) (.string s) false) false [aK] <| fun (l:Int) =>
  T.af f [.map 9 3] <| fun (m:Option Nat) =>
  T.af a [.string] <| fun (n:Xaa) =>
  bX (Instr.lookup 97 (.map m) (.string n) false) false [aK] <| fun (o:Int) =>
  bX (Builtin.min_ #[3,3] 3 #[vI l,vI o]) false [aK] <| fun (e:Int) =>
  T.eV Xaz (Instr.mapUpdate 97 (.map k) (.string s) (vI e)) <|
  T.again 0 [vI (bC (b+(1:Int)))])
  (T.af z [.map 9 4] <| fun (p:Option Nat) =>
  T.af a [.string] <| fun (c:Xaa) =>
  bX (Instr.lookup 142 (.map p) (.string c) false) false [cr] <| fun (q:Bool) =>
  cond q
  (T.af f [.map 9 3] <| fun (d:Option Nat) =>
  T.af f [.map 9 3] <| fun (r:Option Nat) =>
  bX (Instr.lookup 97 (.map r) (.string s) false) false [aK] <| fun (t:Int) =>
  T.af y [.map 9 3] <| fun (u:Option Nat) =>
  T.af a [.string] <| fun (w:Xaa) =>
  bX (Instr.lookup 97 (.map u) (.string w) false) false [aK] <| fun (e:Int) =>
  bX (Builtin.min_ #[3,3] 3 #[vI t,vI e]) false [aK] <| fun (x:Int) =>
  T.eV Xaz (Instr.mapUpdate 97 (.map d) (.string s) (vI x)) <|
  T.again 0 [vI (bC (b+(1:Int)))])
  (T.again 0 [vI (bC (b+(1:Int)))]))
def qt (names:List Xaa) (st:TS):Prop:=∀ s,st.num s≠none->s∈names
def Kv (es:List cX) (r:TF) (p0:Xac) (l0 c0 f:Nat):Prop :=
 ∀ (v:Xaa) (st:TS) (h:Hp) (p:Xac) (l c:Nat),ou r h st p l c->Qn r h es p0 l0 c0->dT (bh es) st->v∈bh es->st.num v=none->rX (bh es) st<=f->qt (bh es) st ->
  HC Xaz 106 (.string v::r.vf).toArray h fun w h'=>w=.tuple #[]/\∃ p' l' c',ou r h' (db (cG es) (cY (dH es)) f v st) p' l' c'/\rD r p h p' h'
def Xl:gp Xaz 106=true:=aw
section
variable {L:Lp} {K:Xab->Hp->Prop} {h:Hp} {r:TF} {st:TS} {p:Xac} {l c:Nat} {es:List cX} {p0:Xac} {l0 c0:Nat}
def KC {f:Nat} (i:Kv es r p0 l0 c0 f) (lo:KM r es p0) (z:∀ s,s∈bh es->s.size<=maxLen) (m:ou r h st p l c) (co:Qn r h es p0 l0 c0) (g:dT (bh es) st) (A:rX (bh es) st<=f) (hi:qt (bh es) st) {v w:Xaa} (hv:v∈bh es) (B:w∈bh es) {a q:Nat} (C:r.V<a) (n:a∉aF p) (b:bF h a 66 [.string w,.int .u32 (q:Int)]) (j:Int)
  (hk:∀ h' p' l' c',ou r h' (uQ (db (cG es) (cY (dH es)) f) v w st) p' l' c'->rD r p h p' h'->T.again 0 [vI (IntKind.wrap .i64 (j+(1:Int)))] L K h') :
  Ty (bx r.N) (bx r.L) (bx r.O) (bx r.V) (bx a) v j L K h:=by
 unfold Ty bX bC aK cr;refine az co.bN (some r.gN,()) (ak ?_);refine az b (w,()) (ak ?_);refine m.FL w ?_;unfold uQ at hk;have hsv:=z v hv;refine ao ?_ ?_<;>intro d
 ·have d:(st.num w).getD 0=0:=by have:=Y3 d; omega
  rw [Y8 d] at hk;refine az co.bV (.func (.func 106) #[] r.vf.toArray,()) (ak ?_);refine az b (w,()) (ak ?_);refine pF (cap:=r.vf) Xl rfl (i w st h p l c m co g B (g.none d) A hi) ?_;rintro _ h2 ⟨rfl,D,E,F,k,o⟩;refine ⟨(),rfl,ak ?_⟩;have co2:=o.co lo m co;have b2:=o.box (st:=st) (l:=l) (c:=c) lo.ord C n b;generalize db (cG es) (cY (dH es)) f w st=G at k hk;refine az co2.bL (some r.gL,()) (ak ?_);refine az co2.bL (some r.gL,()) (ak ?_);refine k.BM v ?_;refine az co2.bL (some r.gL,()) (ak ?_);refine az b2 (w,()) (ak ?_);refine k.BM w ?_;refine V' ?_;refine k.uy lo.ord hsv rfl ?_;intro t u x z3;exact hk t D E F u (o.trans x)
 ·have d:¬ (st.num w).getD 0=0:=by
   intro e;rw [e] at d;simp at d
  rw [Y1 d] at hk;refine az co.bO (some r.gO,()) (ak ?_);refine az b (w,()) (ak ?_);refine m.WW w ?_;refine ao ?_ ?_<;>intro y
  ·rw [Y8 y] at hk;refine az co.bL (some r.gL,()) (ak ?_);refine az co.bL (some r.gL,()) (ak ?_);refine m.BM v ?_;refine az co.bN (some r.gN,()) (ak ?_);refine az b (w,()) (ak ?_);refine m.FL w ?_;refine V' ?_;refine m.uy lo.ord hsv rfl ?_;intro t u x z3;exact hk t p l c u x
  ·rw [Y1 (by simp [y])] at hk;exact hk h p l c m (rD.refl _ _ _)
end
def qt.rest {names:List Xaa} {nK:Xaa->TS->TS} (a:∀ V st,qt names st->V∈names->qt names (nK V st)) {v:Xaa} {st:TS} (hi:qt names st) (b:V∈names):qt names (uQ nK v V st):=by
 unfold uQ;split
 ·exact a V st hi b
 ·split <;> exact hi
def qt.step {names:List Xaa} {own:Xaa->Bool} (a:∀ s,own s=true->s∈names) {nK:Xaa->TS->TS} (b:∀ V st,qt names st->V∈names->qt names (nK V st)) {v:Xaa} {st:TS} (hi:qt names st):qt names (fe own nK v st V):=by
 unfold fe;split
 ·rename_i d;refine qt.rest b ?_ (a V d);intro s c;rw [(jc v V st).1] at c;exact hi s c
 ·exact hi
theorem qt.fold {names:List Xaa} {own:Xaa->Bool} (a:∀ s,own s=true->s∈names) {nK:Xaa->TS->TS} (b:∀ w st,qt names st->w∈names->qt names (nK w st)) {v:Xaa}:∀ (l:List Xaa) (st:TS),qt names st->qt names (l.foldl (fe own nK v) st)
 | [],st,hi=>hi
 | w::l,st,hi=>by
  rw [ZD];exact qt.fold a b l _ (qt.step a b hi)
def qt.open {names:List Xaa} {st:TS} (hi:qt names st) {v:Xaa} (hv:v∈names):qt names (ff v st):=by
 intro s a;have a:dW st.num v (st.j6+1) s≠none:=a
 by_cases e:s=v
 ·rw [e]; exact hv
 ·rw [cv _ _ e] at a;exact hi s a
theorem qt.visit {names:List Xaa} {own:Xaa->Bool} (a:∀ s,own s=true->s∈names) (succ:Xaa->List Xaa):∀ (f:Nat) (v:Xaa) (st:TS),qt names st->v∈names->qt names (db own succ f v st)
 | 0,v,st,hi,hv=>hi
 | f+1,v,st,hi,hv=>by
  have h:=qt.fold a (fun w st hi c=>qt.visit a succ f w st hi c) (v:=v) (succ v) _ (hi.open hv);unfold db;split
  ·exact h
  ·intro s b;rw [ph] at b;exact h s b
def SL.HT {sz c:Nat} {i:List (List Xab)} (s:SL I H e sz O U c i):U<=c:=by
 cases O with
 | none =>
  obtain ⟨h1,h2⟩:=s.2.2;rw [s.1,h1,h2]; simp
 | some a =>
  obtain ⟨g,j,rest,rfl,k,d,f,m⟩:=s.2.2;exact d.1
section
variable {L:Lp} {K:Xab->Hp->Prop} {h:Hp} {r:TF} {st:TS} {p:Xac} {l c:Nat} {es:List cX} {p0:Xac} {l0 c0:Nat}
variable {H:T}
def ou.V8 (m:ou r h st p l c) (o:r.ord) {p':Xac} {l' c':Nat} {h1:Hp} {way':List Xaa} (a:Ch (aF p) h h1) (e:SL h1 (r.V+1) 9 1 p' l' c' (way'.map Xw)) (f:∀ i,i∈aF p'->i∈aF p\/h.size<=i) 
  (hk:∀ h',ou r h' { st with du:=way' } p' l' c'->rD r p h p' h'->H L K h'):T.ar (bx r.W) [.slice p' l' c'] H L K h1:=by
 have o':=o;unfold TF.ord at o;obtain ⟨j,mL⟩:=m.mL;obtain ⟨n,mO⟩:=m.mO;obtain ⟨q,mB⟩:=m.mB;have d:∀ g,g<=r.V->g∉aF p:=fun g s hi=>by have:=m.P6 hi; omega
 refine bQ (m.bW.ai a (d _ ad)) ?_;intro h2 b2 b z2;have b2:bF h2 r.W 28 [.slice p' l' c']:=b2;refine hk h2 ⟨(m.mN.ai a (d _ ad)).ai b (by simp; omega),⟨j,(mL.ai a (d _ ad)).ai b (by simp; omega)⟩,⟨n,(mO.ai a (d _ ad)).ai b (by simp; omega)⟩,⟨q,(mB.ai a (d _ ad)).ai b (by simp; omega)⟩,b2,e.br b (fun i hi=>by have:=(e.cj hi).1; simp; omega)⟩
  ⟨Ch.trans (a.mono fun i hi _=>by rw [qR]; simp [hi]) b (fun i hi hl=>by simp at hi; rw [qR]; simp [hi]),f⟩
def ou.Xs (m:ou r h st p l c) (o:r.ord) (x:r.V<h.size) (hl:l<=2^40) {v:Xaa} (hk:∀ h' p' c',ou r h' { st with du:=st.du++[v] } p' (l+1) c'->rD r p h p' h'->H L K h') :
  T.eN Xaz (Instr.buildSlice 28 1 #[(0,.string v)]) false [(false,[.slice 0])] (fun q b g=>T.eN Xaz (Builtin.append_ #[28,28] 28 #[.slice p l c,.slice q b g]) false [(false,[.slice 0])] (fun d e f=>T.ar (bx r.W) [.slice d e f] H)) L K h:=by
 refine kg (vs:=Xw v) Xh Xi rfl ad ad aw rfl rfl m.w ad ad ad ?_;intro p' c' h1 j n s;refine m.V8 o n (way':=st.du++[v]) (by simpa using j) (fun i hi=>?_) (fun h' b t=>hk h' p' c' b t);rcases s with rfl | ⟨a,rfl,u⟩
 ·exact .inl hi
 ·simp [aF] at hi; subst hi; exact .inr u
def Wu (x w m:Xax) (g:Xac) (i n:Nat) (b:Int):T :=
  T.loop [aK] [vI (0:Int)] <| fun (d:Int) =>
  cond (decide (d<((((Int.toNat (i:Int))-(Int.toNat b)):Nat):Int)))
  (T.need (((0:Int)<=d)/\(d<((((Int.toNat (i:Int))-(Int.toNat b)):Nat):Int))) <|
  T.aR (if (n=(Int.toNat b)) then g else (Option.map (fun a=>Addr.add a (ay b 1)) g)) <| fun (o:Xax) =>
  T.af (o.add (ay d 1)) [.string] <| fun (e:Xaa) =>
  T.af x [.map 9 4] <| fun (q:Option Nat) =>
  T.eV Xaz (Instr.mapUpdate 142 (.map q) (.string e) (.bool false)) <|
  T.af w [.map 9 4] <| fun (j:Option Nat) =>
  T.af w [.map 9 4] <| fun (s:Option Nat) =>
  bX (Instr.lookup 142 (.map s) (.string e) false) false [cr] <| fun (t:Bool) =>
  cond t
   (T.eV Xaz (Instr.mapUpdate 142 (.map j) (.string e) (.bool true)) <|
   T.again 1 [vI (bC (d+(1:Int)))])
   (T.af m [.slice 9] <| fun (y:Xac) (u z:Nat) =>
   T.eV Xaz (Instr.mapUpdate 142 (.map j) (.string e) (.bool (decide ((bC ((u:Int)-b))>(1:Int))))) <|
   T.again 1 [vI (bC (d+(1:Int)))]))
  (T.af m [.slice 9] <| fun (k:Xac) (A f:Nat) =>
  T.need (((0:Int)<=(0:Int))/\(((0:Int)<=b)/\(b<=(f:Int)))) <|
  T.ar m [.slice (if (f=0) then k else (Option.map (fun a=>Addr.add a 0) k)) ((Int.toNat b)-0) (f-0)] <|
  bK #[])
def UO {Q:List Xab->Hp->Prop} (lo:KM r es p0) (R:∀ s,s∈bh es->s.size<=maxLen) (m:ou r h st p l c) (co:Qn r h es p0 l0 c0) (hi:qt (bh es) st) (g:dT (bh es) st) (hl:l<=2^40) {v:Xaa} (S:te v st<=st.du.length)
  (hk:∀ h' p' l' c',ou r h' (sN v st) p' l' c'->rD r p h p' h'->K (.tuple #[]) h'):Wu (bx r.O) (bx r.B) (bx r.W) p l c ((te v st:Nat):Int) [Q] K h:=by
 unfold Wu ay bX bC bK aK cr;have y:l=st.du.length:=by rw [m.w.1,YY]
 have hcap:=m.w.HT;rw [show Int.toNat ((te v st:Nat):Int)=te v st from ad,cB l];generalize A:te v st=k at *;have C:decide (1<st.du.length-te v st)=decide (1<l-k):=by rw [A,y]
 unfold sN at hk;rw [C,A] at hk;refine aU (cs:=cn) (fun x w h'=>∃ i:Nat,x.1=(i:Int)/\i<=l-k/\w=l-k-i/\ou r h' (((st.du.drop k).take i).foldl (qL (decide (1<l-k))) st) p l c/\rD r p h p h') ((0:Int),()) (l-k) rfl ⟨0,rfl,ad,ad,by simpa using m,rD.refl _ _ _⟩ ?_;rintro ⟨U,⟨⟩⟩ w h2 ⟨i,D,P,rfl,d,G⟩;simp only at D;subst D;refine ak ?_;have co2:=G.co lo m co;have f:∀ (w:List Xaa) (st:TS),(w.foldl (qL (decide (1<l-k))) st).du=st.du:=by
  intro w
  induction w with
  | nil=>intro st; rfl
  | cons x w V=>intro st; rw [ZD,V]; rfl
 refine aP ?_ ?_<;>intro X
 ·have j:k+i<st.du.length:=ad
  refine dO ?_;rw [Y1 ad];have hsl:=d.w;rw [f] at hsl;obtain ⟨a,rfl,hc⟩:=hsl.cells (i:=k+i) (by simpa using j);rw [Y7] at hc;refine aH rfl ?_;rw [cB i,add_add,<- Z5];have n:st.du[k+i]∈bh es:=hi _ (g.fI _ (Y5 j));have b:(st.du.drop k).take (i+1)=(st.du.drop k).take i++[st.du[k+i]]:=by
   rw [Y2 (by rw [ZI]; omega),List.getElem_drop]
  generalize st.du[k+i]=x at hc n b;refine av (x,()) hc (ak ?_);have hsz:=R x n;generalize E:((st.du.drop k).take i).foldl (qL (decide (1<l-k))) st=q at d;have o:((st.du.drop k).take (i+1)).foldl (qL (decide (1<l-k))) st=qL (decide (1<l-k)) q x:=by rw [b,ZW,E]; rfl
  refine az co2.bO (some r.gO,()) (ak ?_);refine d.Wg lo.ord hsz ?_;intro Y H I z3;have co3:=I.co lo d co2;refine az co3.bB (some r.gB,()) (ak ?_);refine az co3.bB (some r.gB,()) (ak ?_);refine H.eY x ?_;have hw:=iC i;refine ao ?_ ?_<;>intro t
  ·have t:(q.back x).getD false=true:=t;refine H.Vt lo.ord hsz ?_;intro J u F z4;refine aG (cs:=cn) (((i+1:Nat):Int),()) (l-k-(i+1)) rfl ad (Zg (fun z=>[Value.int .i64 z]) hw) ⟨i+1,rfl,ad,rfl,?_,(G.trans I).trans F⟩;rw [o];unfold qL;rw [t];exact u
  ·have t:(q.back x).getD false=false:=t;refine az H.bW ((_,_,_),()) (ak ?_);refine H.Vt lo.ord hsz ?_;intro J u F z4;refine aG (cs:=cn) (((i+1:Nat):Int),()) (l-k-(i+1)) rfl ad (Zg (fun z=>[Value.int .i64 z]) hw) ⟨i+1,rfl,ad,rfl,?_,(G.trans I).trans F⟩;rw [o];unfold qL;rw [t,bu9];have e:decide ((IntKind.wrap .i64 ((l:Int)-(k:Int)))>(1:Int))=decide (1<l-k):=by
    rw [wrap_i64 ad ad];exact cr9.2 ad
   rw [e] at u;exact u
 ·have M:i=l-k:=ad
  subst M;have b:(st.du.drop k).take (l-k)=st.du.drop k:=Zu (by rw [ZI]; omega);rw [b] at d;have N:(if c=0 then p else (Option.map (fun a=>Addr.add a 0) p))=p:=by
   split
   ·rfl
   ·cases p with
    | none=>rfl
    | some a=>simp only [Option.map_some,add_zero']
  refine az d.bW ((p,l,c),()) (ak ?_);refine dA ⟨ad,ad,ad⟩ ?_;rw [N,cy9,cy9];have hsl:=d.w;rw [f] at hsl;have hsk:=hsl.take (k:=k) ad;rw [<- List.map_take] at hsk;refine d.V8 lo.ord (Ch.refl _ _) hsk (fun i hi=>.inl hi) ?_;intro J u F;exact hk J p k c u (G.trans F)
end
structure EqsOk (es:List cX):Prop where
 nodup:(bh es).Nodup
 len:es.length<=2^40
 sz:∀ e,e∈es->e.name.size<=maxLen
 tl:∀ e,e∈es->e.x.ah.length<=2^40
 ts:∀ e,e∈es->∀ t,t∈e.x.ah->t.1.size<=maxLen
def EqsOk.names {es:List cX} (o:EqsOk es):∀ s,s∈bh es->s.size<=maxLen:=by
 intro s a;obtain ⟨e,b,rfl⟩:=Y9.1 a;exact o.sz e b
section
variable {r:TF} {es:List cX} {p0:Xac} {l0 c0:Nat}
def Nb (J:EqsOk es) (lo:KM r es p0):∀ f,Kv es r p0 l0 c0 f:=by
 intro f;have n:∀ s,cG es s=true->s∈bh es:=fun s=>(eP es s).1
 have hs:=J.names;have hnl:(bh es).length=es.length:=by unfold bh; rw [YY]
 induction f with
 | zero =>
  intro v st h p l c m co g hv h0 hu hi
  have:=(g.open J.nodup hv h0).2
  omega
 | succ f ih =>
  intro v st h p l c m co g hv h0 hu hi;have o:=lo.ord;have o':=o;unfold TF.ord at o';have hlen:=J.len;refine bi (args:=.string v::r.vf) mixed Tryz.func106 aw (oQ v (bx r.N) (bx r.L) (bx r.W) (bx r.O) (bx r.E) (bx r.A) (bx r.B) (bx r.V)) ?_;unfold jS aY bj bn ay dl ei aT bX bC ax bK cm aK cr;have hsv:=hs v hv;have hcnt:st.j6<=es.length:=by have:=g.sum; omega
  have hway:=g.du;have hll:l=st.du.length:=by rw [m.w.1,YY]
  have hV:=co.bV.lt;refine az co.bN (some r.gN,()) (ak ?_);refine az co.bN (some r.gN,()) (ak ?_);refine X1 (en:=eI) m.mN ?_;refine m.wG o hsv (w:=st.j6+1) (by rw [wrap_i64 ad ad]; omega) ?_;intro h1 Q s1 z1;have D:(st.num v).isSome=false:=by rw [h0]; rfl
  rw [D] at Q;simp only [Bool.false_eq_true,if_false] at Q;have co1:=s1.co lo m co;refine az co1.bL (some r.gL,()) (ak ?_);refine az co1.bN (some r.gN,()) (ak ?_);refine Q.FL v ?_;refine Q.uy o hsv rfl ?_;intro h2 m2 s2 z2;simp only [cK,Option.getD_some] at m2;have co2:=s2.co lo Q co1;refine az m2.bW ((p,l,c),()) (ak ?_);refine m2.Xs o ad ad ?_;intro h3 p3 c3 m3 s3;have co3:=s3.co lo m2 co2;refine az co3.bO (some r.gO,()) (ak ?_);refine m3.Wg o hsv ?_;intro h4 m4 s4 z4;have co4:=s4.co lo m3 co3;have s04:rD r p h p3 h4:=((s1.trans s2).trans s3).trans s4
  replace m4:ou r h4 (ff v st) p3 (l+1) c3:=m4
  refine az co4.bE ((p0,l0,c0),()) (ak ?_);refine az co4.bA (some r.gA,()) (ak ?_);obtain ⟨nA,mA⟩:=co4.mA;refine JV mA v ?_;obtain ⟨k,hk⟩:=E4 hv;obtain ⟨u,hkn,hkx⟩:=pW hk;have hl0:=co4.vw.len;rw [hk];simp only [Option.getD_some];refine dO ?_;obtain ⟨a,ha,hc⟩:=co4.vw.cells k u;refine aH ha ?_;rw [cB k];have hin:=co4.vw.fI es[k] (Y5 u);have C:∀ h',Qn r h' es p0 l0 c0->ik h' es[k].p es[k].l es[k].x.ah:=fun h' co'=>co'.vw.fI es[k] (Y5 u)
  have htl:=J.tl es[k] (Y5 u);have hts:=J.ts es[k] (Y5 u);have hli:=lo.li es[k] (Y5 u);have R:cY (dH es) v=es[k].x.ah.map (·.1):=by unfold cY; rw [hkx]
  generalize es[k]=e at hc hin C htl hts hli R;refine av ((e.p,e.l,e.c),()) ⟨by rw [add_zero']; exact hc.2.1,trivial⟩ ?_;refine ak ?_;have hel:=hin.len;have hgood:=fun l=>Me J.nodup n (cY (dH es)) g hv h0 hu l
  have S:∀ l:List Xaa,qt (bh es) (l.foldl (fe (cG es) (db (cG es) (cY (dH es)) f) v) (ff v st)):=fun l=>qt.fold n (fun w st hi hw=>qt.visit n (cY (dH es)) f w st hi hw) l _ (hi.open hv)
  refine aU (cs:=cn) (fun x w h'=>∃ (i:Nat) (p':Xac) (l' c':Nat),x.1=(i:Int)/\i<=e.x.ah.length/\w=e.x.ah.length-i/\ou r h' (((e.x.ah.map (·.1)).take i).foldl (fe (cG es) (db (cG es) (cY (dH es)) f) v) (ff v st)) p' l' c'/\rD r p h p' h')
   ((0:Int),()) e.x.ah.length rfl ⟨0,p3,l+1,c3,rfl,ad,ad,m4,s04⟩ ?_
  rintro ⟨n26,⟨⟩⟩ w U ⟨i,p5,K,c5,X,hile,rfl,q,M⟩;simp only at X;subst X;refine ak ?_;have co5:=M.co lo m co;obtain ⟨F,Y,j,n5,Z⟩:=hgood ((e.x.ah.map (·.1)).take i);have hi5:=S ((e.x.ah.map (·.1)).take i);have hk5:=fun hi:i<e.x.ah.length=>(show (e.x.ah.map (·.1)).take (i+1)=(e.x.ah.map (·.1)).take i++[e.x.ah[i].1] by
   rw [Y2 (by rw [YY]; exact hi),Y7])
  have hfin:i=e.x.ah.length->(e.x.ah.map (·.1)).take i=cY (dH es) v:=by
   intro hh;rw [R];exact Zu (by rw [YY]; omega)
  have hfold:∀ hi:i<e.x.ah.length,((e.x.ah.map (·.1)).take (i+1)).foldl (fe (cG es) (db (cG es) (cY (dH es)) f) v) (ff v st)=fe (cG es) (db (cG es) (cY (dH es)) f) v (((e.x.ah.map (·.1)).take i).foldl (fe (cG es) (db (cG es) (cY (dH es)) f) v) (ff v st)) e.x.ah[i].1:=by
   intro hi;rw [hk5 hi,ZW]; rfl
  have d:db (cG es) (cY (dH es)) (f+1) v st=(if wo ((cY (dH es) v).foldl (fe (cG es) (db (cG es) (cY (dH es)) f) v) (ff v st)) v<ue ((cY (dH es) v).foldl (fe (cG es) (db (cG es) (cY (dH es)) f) v) (ff v st)) v then (cY (dH es) v).foldl (fe (cG es) (db (cG es) (cY (dH es)) f) v) (ff v st) else sN v ((cY (dH es) v).foldl (fe (cG es) (db (cG es) (cY (dH es)) f) v) (ff v st))):=rfl;refine aP ?_ ?_<;>intro g1
  ·have y:i<e.x.ah.length:=ad
   have hfold:=hfold y;refine dO ?_;obtain ⟨a2,ha2,hc2⟩:=(C U co5).cells i y;refine aH ha2 ?_;rw [cB i];have htsi:=hts e.x.ah[i] (Y5 y);generalize e.x.ah[i]=t at hc2 htsi hfold;generalize hst5:((e.x.ah.map (·.1)).take i).foldl (fe (cG es) (db (cG es) (cY (dH es)) f) v) (ff v st)=st5 at q F Y hi5 hfold;refine av (t.1,(t.2:Int),()) hc2 (ak ?_);refine bG ?_;intro h6 b6 e6 z6;refine bQ b6 ?_;intro h7 P k7 z7;have P:bF h7 U.size 66 [.string t.1,.int .u32 (t.2:Int)]:=P;have G:Ext U h7:=bZ e6 k7;have co7:=co5.iy lo G aj;have m7:=q.ai G;have VZ:rD r p5 U p5 h7:=rD.ext G;have ha7:=co5.bV.lt;have H:U.size∉aF p5:=fun hb=>by have:=(q.w.cj hb).2; omega
   have hw:=iC i;refine az co7.bA (some r.gA,()) (ak ?_);refine az P (t.1,()) (ak ?_);obtain ⟨nA7,mA7⟩:=co7.mA;refine Er mA7 t.1 ?_;refine ao ?_ ?_<;>intro b
   ·have b:¬ cG es t.1=true:=by
     unfold cG;intro hh;rw [hh] at b;cases b
    have I:fe (cG es) (db (cG es) (cY (dH es)) f) v st5 t.1=st5:=Y1 b;refine aG (cs:=cn) (((i+1:Nat):Int),()) (e.x.ah.length-(i+1)) rfl ad (Zg (fun z=>[Value.int .i64 z]) hw) ⟨i+1,p5,K,c5,rfl,ad,rfl,?_,M.trans VZ⟩;rw [hfold,I];exact m7
   ·have b:cG es t.1=true:=by
     unfold cG;cases hh:(kX es t.1).isSome with
     | true=>rfl
     | false=>rw [hh] at b; cases b
    have hwn:=n _ b;have I:fe (cG es) (db (cG es) (cY (dH es)) f) v st5 t.1=uQ (db (cG es) (cY (dH es)) f) v t.1 (fU v t.1 st5):=Y8 b;rw [I] at hfold;have g8:=F.self v t.1;have hu8:rX (bh es) (fU v t.1 st5)<=f:=by unfold rX; rw [(jc v t.1 st5).1]; exact Y
    have hi8:qt (bh es) (fU v t.1 st5):=by intro s hs; rw [(jc v t.1 st5).1] at hs; exact hi5 s hs
    refine az P (t.1,()) (ak ?_);rw [Wf];refine aP ?_ ?_<;>intro g3
    ·refine az co7.bB (some r.gB,()) (ak ?_);refine m7.Vt o hsv ?_;intro h8 m8 s8 z8;have e8:fU v t.1 st5={ st5 with back:=dW st5.back v true }:=Y8 g3;rw [<- e8] at m8;have co8:=s8.co lo m7 co7;have b8:=s8.box (st:=st5) (l:=K) (c:=c5) o ha7 H P;refine KC ih lo hs m8 co8 g8 hu8 hi8 hv hwn ha7 H b8 (i:Int) ?_;intro h9 p9 l9 c9 m9 s9;refine aG (cs:=cn) (((i+1:Nat):Int),()) (e.x.ah.length-(i+1)) rfl ad (Zg (fun z=>[Value.int .i64 z]) hw) ⟨i+1,p9,l9,c9,rfl,ad,rfl,?_,((M.trans VZ).trans s8).trans s9⟩;rw [hfold];exact m9
    ·have e8:fU v t.1 st5=st5:=Y1 g3;rw [<- e8] at m7;refine KC ih lo hs m7 co7 g8 hu8 hi8 hv hwn ha7 H P (i:Int) ?_;intro h9 p9 l9 c9 m9 s9;refine aG (cs:=cn) (((i+1:Nat):Int),()) (e.x.ah.length-(i+1)) rfl ad (Zg (fun z=>[Value.int .i64 z]) hw) ⟨i+1,p9,l9,c9,rfl,ad,rfl,?_,(M.trans VZ).trans s9⟩;rw [hfold];exact m9
  ·have hii:=hfin ad;rw [hii] at q F j hi5 Z;generalize hst5:(cY (dH es) v).foldl (fe (cG es) (db (cG es) (cY (dH es)) f) v) (ff v st)=st5 at q F j hi5 Z d;refine az co5.bL (some r.gL,()) (ak ?_);refine q.BM v ?_;refine az co5.bN (some r.gN,()) (ak ?_);refine q.FL v ?_;refine ao ?_ ?_<;>intro b
   ·have b:wo st5 v<ue st5 v:=by have:=Y3 b; unfold wo ue; omega
    rw [Y8 b] at d;refine ⟨rfl,p5,K,c5,?_,M⟩;rw [d];exact q
   ·have b:¬ wo st5 v<ue st5 v:=by have:=Zf b; unfold wo ue; omega
    rw [Y1 b] at d;have hl5:K=st5.du.length:=by rw [q.w.1,YY]
    have hw5:=F.du;have hc5:st5.j6<=es.length:=by have:=F.sum; omega
    have hvw:v∈st5.du:=j.subset aj;have hpk:te v st5<st5.du.length:=by
     unfold te;rw [List.findIdx_lt_length];exact ⟨v,hvw,aj⟩
    refine az q.bW ((p5,K,c5),()) (ak ?_);refine nw (M7 q.w v hvw ad) ?_;refine az q.bW ((p5,K,c5),()) (ak ?_);have hcap:=q.w.HT;have hpk':(st5.du.findIdx fun x=>decide (v=x))=te v st5:=rfl;rw [hpk'];refine dA ⟨ad,ad,ad⟩ ?_;refine UO lo hs q co5 hi5 F ad ad ?_;intro h6 p6 l6 c6 m6 s6;refine ⟨rfl,p6,l6,c6,?_,M.trans s6⟩;rw [d];exact m6
end
theorem qt.top {names:List Xaa} {own:Xaa->Bool} (a:∀ s,own s=true->s∈names) (succ:Xaa->List Xaa) (f:Nat):∀ (l:List Xaa) (st:TS),(∀ s,s∈l->s∈names)->qt names st->qt names (l.foldl (xW own succ f) st)
 | [],st,hl,hi=>hi
 | w::l,st,hl,hi=>by
  rw [ZD];refine qt.top a succ f l _ (fun s b=>hl s (Ze _ b)) ?_;unfold xW;split
  ·exact qt.visit a succ f w st hi (hl w aj)
  ·exact hi
def I0 {p:Xac} {c:Nat} {es:List cX} (v:rW I p H es) (U:EqsOk es) (hp:∀ i,i∈aF p->i<I.size) :
  HC Xaz 83 #[.slice p H c] I fun w h'=>(∃ g n,w=.map (some g)/\ez eB h' g (Hx (cG es) (cY (dH es)) (bh es)).back n/\I.size<=g)/\Ext I h':=by
 refine bi (args:=[.slice p H c]) mixed Tryz.func83 aw (yR p H c) ?_;unfold uS aY bj bn ay bz bX ax aS cm aK;have A:∀ s,cG es s=true->s∈bh es:=fun s=>(eP es s).1
 have hnl:(bh es).length=es.length:=by unfold bh; rw [YY]
 have hll:=v.len;have hlen:=U.len;refine bG ?_;intro h1 b1 e1 z1;refine az b1 ((p,H,c),()) (ak ?_);refine aJ (A0 (v.ai e1) U.len U.nodup U.sz) ?_;rintro _ h2 ⟨⟨gA,rfl,mA,hgA⟩,e2⟩;refine ⟨(some gA,()),rfl,ak ?_⟩;have b2:=b1.ai e2 aj;have hgA2:=mA.lt;refine bG ?_;intro h3 b3 e3 z3;refine bQ b3 ?_;intro h4 b4 k4 z4;have b4:bF h4 h2.size 97 [.map (some gA)]:=b4;have e24:Ext h2 h4:=bZ e3 k4;refine zG (en:=eB) ?_;intro W m5 e5 z5;refine bG ?_;intro h6 b6 e6 z6;refine bQ b6 ?_;intro h7 b7 k7 z7;have b7:bF h7 W.size 142 [.map (some h4.size)]:=b7;have X:Ext W h7:=bZ e6 k7;refine zG (en:=eI) ?_;intro h8 m8 e8 z8;refine zG (en:=eI) ?_;intro C m9 e9 z9;refine bG ?_;intro Y b10 e10 z10;refine bG ?_;intro h11 b11 Z z11;refine bQ (b10.ai Z aj) ?_;intro h12 L k12 z12;have L:bF h12 C.size 97 [.map (some h7.size)]:=L;refine bQ (b11.ai k12 (by simp; omega)) ?_;intro h13 M k13 z13;have M:bF h13 Y.size 97 [.map (some h8.size)]:=M;have e913:Ext C h13:=Ch.trans ((bZ (Ext.trans e10 Z) k12):Ext C h12) k13 (fun j hj hl=>by simp at hj; omega);refine bG ?_;intro h14 b14 e14 z14;refine zG (en:=eB) ?_;intro O m15 e15 z15;refine bG ?_;intro h16 b16 e16 z16;refine bQ b16 ?_;intro h17 P k17 z17;have P:bF h17 O.size 142 [.map (some h14.size)]:=P;have Q:Ext O h17:=bZ e16 k17;refine bG ?_;intro h18 b18 e18 z18;refine bQ b18 ?_;intro h19 b19 k19 z19;have f:Ext h17 h19:=bZ e18 k19;have e1519:=Q.trans f;have a:Ext h13 h19:=(e14.trans e15).trans e1519;have e919:=e913.trans a;have m:Ext h7 h19:=(e8.trans e9).trans e919;have D:Ext h4 h19:=(e5.trans X).trans m;have e219:=e24.trans D;have F:Ext I h19:=(e1.trans e2).trans e219;have hz13:h13.size=C.size+2:=ad
 have hz9:C.size=h7.size+2:=ad
 have hz7:h7.size=h4.size+2:=ad
 have hz4:h4.size=h2.size+1:=ad
 generalize G:(⟨I.size,gA,h2.size,h4.size,W.size,h7.size,h8.size,C.size,Y.size,h13.size,h14.size,O.size,h17.size⟩:TF)=r;have ho:r.ord:=by
  subst G;unfold TF.ord;dsimp only;omega
 have co:Qn r h19 es p H c:=by
  subst G;refine ⟨(b2.ai e219 aj),b4.ai D aj,⟨_,mA.ai e219 aj⟩,?_,(L.ai k13 (by simp; omega)).ai a aj,M.ai a aj,P.ai f aj,b7.ai m aj,v.ai F⟩;exact b19
 have st:ou r h19 De none 0 0:=by
  subst G;exact ⟨m8.ai (e9.trans e919) aj,⟨0,m9.ai e919 aj⟩,⟨0,m15.ai e1519 aj⟩,⟨0,m5.ai ((X.trans m)) aj⟩,b14.ai (e15.trans e1519) aj,SL.nil _ _ _ _⟩
 have lo:KM r es p:=by
  subst G;exact ⟨ho,hp,fun e he hne i hi=>(v.fI e he).Vz hne i hi⟩
 have hrE:r.E=I.size:=by subst G; rfl
 have hbN:r.N=C.size:=by subst G; rfl
 have hbV:r.V=h17.size:=by subst G; rfl
 have hbB:r.B=W.size:=by subst G; rfl
 rw [show (⟨C.size,0,none⟩:Xax)=bx r.N by rw [hbN],show (⟨h17.size,0,none⟩:Xax)=bx r.V by rw [hbV],show (⟨W.size,0,none⟩:Xax)=bx r.B by rw [hbB],show (⟨I.size,0,none⟩:Xax)=bx r.E by rw [hrE]];refine az co.bE ((p,H,c),()) (ak ?_);refine aU (cs:=cn) (fun x w h'=>∃ (i:Nat) (p':Xac) (l' c':Nat),x.1=(i:Int)/\i<=es.length/\w=es.length-i/\ou r h' (((bh es).take i).foldl (xW (cG es) (cY (dH es)) (bh es).length) De) p' l' c'/\rD r none h19 p' h')
  ((0:Int),()) es.length rfl ⟨0,none,0,0,rfl,ad,ad,st,rD.refl _ _ _⟩ ?_
 rintro ⟨n20,⟨⟩⟩ w h20 ⟨i,R,l20,c20,hi0,hile,rfl,q,S⟩;simp only at hi0;subst hi0;refine ak ?_;have co20:=S.co lo st co;refine aP ?_ ?_<;>intro g1
 ·have J:i<es.length:=ad
  refine dO ?_;obtain ⟨a2,ha2,hc2⟩:=co20.vw.cells i J;refine aH ha2 ?_;rw [cB i];have t20:=DN (own:=cG es) (succ:=cY (dH es)) U.nodup A ((bh es).take i) [] De (fun s hs=>Z0 hs) (W6 _);have i20:=qt.top A (cY (dH es)) (bh es).length ((bh es).take i) De (fun s hs=>Z0 hs) (fun s hs=>(hs rfl).elim);have t:(bh es).take (i+1)=(bh es).take i++[es[i].name]:=by
   rw [Y2 ad];unfold bh;rw [Y7]
  have K:es[i].name∈bh es:=Zm (Y5 J);generalize es[i]=e at hc2 t K;have b:((bh es).take (i+1)).foldl (xW (cG es) (cY (dH es)) (bh es).length) De=xW (cG es) (cY (dH es)) (bh es).length (((bh es).take i).foldl (xW (cG es) (cY (dH es)) (bh es).length) De) e.name:=by
   rw [t,ZW]; rfl
  generalize ((bh es).take i).foldl (xW (cG es) (cY (dH es)) (bh es).length) De=o at q t20 i20 b;refine av (e.name,(e.p,e.l,e.c),(e.x.num:Int),()) hc2 (ak ?_);refine bG ?_;intro h21 b21 e21 z21;refine bQ b21 ?_;intro h22 u k22 z22;have u:bF h22 h20.size 88 [.string e.name,.slice e.p e.l e.c,.int .u32 e.x.num]:=u;have d:Ext h20 h22:=bZ e21 k22;have co22:=co20.iy lo d aj;have m22:=q.ai d;have s22:rD r none h19 R h22:=S.trans (rD.ext d);have hw:=iC i;refine az co22.bN (some r.gN,()) (ak ?_);refine az u (e.name,()) (ak ?_);refine m22.FL e.name ?_;refine ao ?_ ?_<;>intro y
  ·have y:(o.num e.name).getD 0=0:=by have:=Y3 y; omega
   refine az co22.bV (.func (.func 106) #[] r.vf.toArray,()) (ak ?_);refine az u (e.name,()) (ak ?_);refine pF (cap:=r.vf) Xl rfl (Nb U lo (bh es).length e.name o h22 R l20 c20 m22 co22 t20.DW K (t20.DW.none y) (ao9 _ _) i20) ?_;rintro _ h23 ⟨rfl,p23,l23,c23,m23,s23⟩;refine ⟨(),rfl,?_⟩;refine aG (cs:=cn) (((i+1:Nat):Int),()) (es.length-(i+1)) rfl ad (Zg (fun z=>[Value.int .i64 z]) hw) ⟨i+1,p23,l23,c23,rfl,ad,rfl,?_,s22.trans s23⟩;rw [b];unfold xW;rw [Y8 y];exact m23
  ·have y:¬ (o.num e.name).getD 0=0:=by
    intro k;rw [k] at y;simp at y
   refine aG (cs:=cn) (((i+1:Nat):Int),()) (es.length-(i+1)) rfl ad (Zg (fun z=>[Value.int .i64 z]) hw) ⟨i+1,R,l20,c20,rfl,ad,rfl,?_,s22⟩;rw [b];unfold xW;rw [Y1 y];exact m22
 ·have t:(bh es).take i=bh es:=Zu ad;rw [t] at q;refine az co20.bB (some r.gB,()) (ak ?_);obtain ⟨n3,mB⟩:=q.mB;have o':=ho;unfold TF.ord at o';refine ⟨⟨r.gB,n3,rfl,mB,ad⟩,Ch.trans F S.ch fun j hj hl=>?_⟩;rw [qR] at hj;simp [aF] at hj;omega
def xX {us:dz} (s:SL I H e 2 O U Y (us.map dh)):ik I O U us :=
 ⟨by rw [s.1,YY],fun i hi=>by
  obtain ⟨a,d,hc⟩:=s.cells (i:=i) (by simpa using hi);rw [Y7] at hc;exact ⟨a,d,hc⟩⟩
structure uX (es:List cX):Prop extends EqsOk es where
 VX:(es.flatMap (·.x.ah)).length<=2^20
abbrev fx (es:List cX) (v:Xaa):cE:=JH (cG es) (dH es) (bh es) v
abbrev dJ (es:List cX):Xaa->Xaa->Prop:=Edge (cG es) (cY (dH es))
def mY {es:List cX} {v:Xaa} (hv:v∈bh es):∃ e,e∈es/\e.name=v/\dH es v=e.x:=by
 obtain ⟨k,hk⟩:=E4 hv;obtain ⟨a,b,c⟩:=pW hk;exact ⟨_,Y5 a,b,c⟩
def iJ {α β:Type} (f:α->List β) {l:List α} {a:α} (h:a∈l):(f a).length<=(l.flatMap f).length:=by
 induction l with
 | nil=>simp at h
 | cons b l c =>
  rw [ZN,Y0];rcases Zo.1 h with e | e
  ·subst e; omega
  ·have:=c e; omega
def uX.Ao {es:List cX} (o:uX es) {v:Xaa} (hv:v∈bh es):(dH es v).ah.length<=2^20:=by
 obtain ⟨e,a,_,b⟩:=mY hv;rw [b];exact ZK (iJ (fun e:cX=>e.x.ah) a) o.VX
def uX.E0 {es:List cX} (o:uX es) (hc:∀ v,¬ kV (dJ es) v) {v:Xaa} (hv:v∈bh es):(fx es v).ah.length<=2^20:=by
 have hnf:=Vu (eP es) hc hv;have hnm:=yj (eP es) hc hv;have h1:((fx es v).ah.map (·.1)).Nodup:=Z3.2 (hnf.1.imp fun h=>kW h);have h2:=mj ((fx es v).ah.map (·.1)) ((es.flatMap (·.x.ah)).map (·.1)) h1 (fun s b=>by
  obtain ⟨t,c,rfl⟩:=Y9.1 b;obtain ⟨_,w,u,f,a,e⟩:=hnm t c;obtain ⟨d,g,_,i⟩:=mY f;rw [i] at a;rw [<- e];exact Zm (cs9.2 ⟨d,g,a⟩))
 rw [YY,YY] at h2;exact ZK h2 o.VX
def uX.MM {es:List cX} (o:uX es) (hc:∀ v,¬ kV (dJ es) v) {v:Xaa} (hv:v∈bh es):∀ t,t∈(fx es v).ah->t.1.size<=maxLen:=by
 intro t b;obtain ⟨_,w,u,c,a,e⟩:=yj (eP es) hc hv t b;obtain ⟨d,f,_,g⟩:=mY c;rw [g] at a;rw [<- e];exact o.ts d f u a
theorem rh {of:Xaa->Option cE} {B:Nat} (b:1<=B) (a:∀ s y,of s=some y->y.ah.length<=B):∀ l:dz,(l.flatMap (tg of)).length<=l.length*B
 | []=>aj
 | t::l=>by
  rw [ZN,Y0,Z1,Z5];have ih:=rh b a l
  have:(tg of t).length<=B:=by
   unfold tg;cases h:of t.1 with
   | none=>simpa using b
   | some y=>simpa using a _ _ h
  omega
structure SF where
 E:Nat
 gA:Nat
 A:Nat
 gD:Nat
 D:Nat
 V:Nat
def SF.ord (r:SF):Prop:=r.E<r.gA/\r.gA<r.A/\r.A<r.gD/\r.gD<r.D/\r.D<r.V
def SF.vf (r:SF):List Xab:=[.pointer (some (bx r.D)),.pointer (some (bx r.E)),.pointer (some (bx r.A)),.pointer (some (bx r.V))]
structure VM (r:SF) (h:Hp) (es:List cX) (p0:Xac) (l0 c0:Nat):Prop where
 bE:bF h r.E 27 [.slice p0 l0 c0]
 bA:bF h r.A 97 [.map (some r.gA)]
 mA:∃ n,ez eI h r.gA (kX es) n
 bV:bF h r.V 148 [.func (.func 85) #[] r.vf.toArray]
 bD:bF h r.D 147 [.map (some r.gD)]
 vw:rW h p0 l0 es
structure Ya (r:SF) (es:List cX) (p0:Xac):Prop where
 ord:r.ord
 l0:∀ i,i∈aF p0->i<r.E
 li:∀ e,e∈es->e.x.ah≠[]->∀ i,i∈aF e.p->i<r.E
def VM.ai {r:SF} {h h':Hp} {es:List cX} {p0:Xac} {l0 c0:Nat} (m:VM r h es p0 l0 c0) (lo:Ya r es p0) (k:Ch [r.gD] h h'):VM r h' es p0 l0 c0:=by
 have o:=lo.ord;unfold SF.ord at o;obtain ⟨n,mA⟩:=m.mA;exact ⟨m.bE.ai k (by simp; omega),m.bA.ai k (by simp; omega),⟨n,mA.ai k (by simp; omega)⟩,m.bV.ai k (by simp; omega),m.bD.ai k (by simp; omega),m.vw.iy k (fun i hi=>by have:=lo.l0 i hi; simp; omega) (fun e b a i hi=>by have:=lo.li e b a i hi; simp; omega)⟩
structure T5 (r:SF) (h:Hp) (es:List cX) (f:Xaa->Option tp):Prop where
 map:∃ n,H' h r.gD f n
 of:∀ s y,f s=some y->s∈bh es/\y.x=fx es s/\∀ i,i∈aF y.p->r.V<i/\i<h.size
variable {k:SF}
def T5.ext {h':Hp} {es:List cX} {f:Xaa->Option tp} (d:T5 k I es f) (e:Ext I h'):T5 k h' es f:=by
 obtain ⟨n,m⟩:=d.map;exact ⟨⟨n,m.ai e aj (fun s y g i hi=>aj)⟩,fun s y g=>by
  obtain ⟨a,b,c⟩:=d.of s y g;exact ⟨a,b,fun i hi=>⟨(c i hi).1,aw9 (c i hi).2 e.size⟩⟩⟩
def WV (f a:Xaa->Option tp):Prop:=∀ s y,f s=some y->a s=some y
def Tl (b:Nat) (f a:Xaa->Option tp):Prop:=∀ s y,a s=some y->f s=some y\/∀ i,i∈aF y.p->b<=i
def Ul:gp Xaz 85=true:=aw
def NO {es:List cX} {p0:Xac} {l0 c0:Nat} (eo:uX es) (lo:Ya k es p0) (hc:∀ v,¬ kV (dJ es) v):∀ (d:Nat) (v:Xaa),Hg (dJ es) d v->v∈bh es->∀ (h:Hp) (f:Xaa->Option tp),VM k h es p0 l0 c0->T5 k h es f ->
  HC Xaz 85 (.string v::k.vf).toArray h fun w h'=>∃ y N,w=eL y/\y.x=fx es v/\T5 k h' es N/\N v=some y/\WV f N/\Tl h.size f N/\Ch [k.gD] h h':=by
 intro d;have o:=lo.ord;have o':=o;unfold SF.ord at o';have hown:=eP es
 induction d with
 | zero=>intro v hg; exact hg.elim
 | succ d ih =>
  intro v hg hv h f co dn;refine bi (args:=.string v::k.vf) mixed Tryz.func85 aw (qM v (bx k.D) (bx k.E) (bx k.A) (bx k.V)) ?_;unfold lr aY bj bn ay bz bX ax aS cm aK cr;have hV:=co.bV.lt;have hsv:=eo.toEqsOk.names v hv;refine bG ?_;intro h1 b1 e1 z1;have co1:=co.ai lo (e1.mono aj);have dn1:=dn.ext e1;refine az co1.bD (some k.gD,()) (ak ?_);obtain ⟨n1,m1⟩:=dn1.map;refine BM m1.map v (fun y hy1=>?_) (fun hy0=>?_)
  ·refine bG ?_;intro h2 b2 e2 z2;refine bQ b2 ?_;intro h3 b3 k3 z3;have b3:bF h3 h1.size 60 [.slice y.p y.l y.c,.int .u32 (y.x.num:Int)]:=b3;have F:Ext h1 h3:=bZ e2 k3;refine cL rfl ?_;refine az b3 ((y.p,y.l,y.c),(y.x.num:Int),()) (ak ?_);refine bQ (b1.ai F aj) ?_;intro h4 b4 k4 z4;have b4:bF h4 h.size 60 [.slice y.p y.l y.c,.int .u32 (y.x.num:Int)]:=b4;refine az b4 ((y.p,y.l,y.c),(y.x.num:Int),()) ?_;have e04:Ext h h4:=bZ (e1.trans F) k4;exact ⟨y,f,rfl,(dn.of v y hy1).2.1,dn.ext e04,hy1,fun s y hy=>hy,fun s y hy=>.inl hy,e04.mono aj⟩
  ·refine bG ?_;intro h2 b2 e2 z2;refine bQ b2 ?_;intro h3 b3 k3 z3;have F:Ext h1 h3:=bZ e2 k3;refine cC rfl ?_;have e03:=e1.trans F;have co3:=co.ai lo (e03.mono aj);have dn3:=dn.ext e03;refine az co3.bE ((p0,l0,c0),()) (ak ?_);refine az co3.bA (some k.gA,()) (ak ?_);obtain ⟨nA,mA⟩:=co3.mA;refine JV mA v ?_;obtain ⟨q,hq⟩:=E4 hv;obtain ⟨O,hqn,hqx⟩:=pW hq;have hl0:=co3.vw.len;have hlen:=eo.len;rw [hq];simp only [Option.getD_some];refine dO ?_;obtain ⟨a,ha,Z⟩:=co3.vw.cells q O;refine aH ha ?_;rw [cB q];have n:∀ h',VM k h' es p0 l0 c0->ik h' es[q].p es[q].l es[q].x.ah:=fun h' co'=>co'.vw.fI es[q] (Y5 O)
   have hts:=eo.ts es[q] (Y5 O);have hli:=lo.li es[q] (Y5 O);have hll:=eo.Ao hv;have hsol:=I9 hown hc hv;rw [hqx] at hll hsol;have G:∀ t,t∈es[q].x.ah->cG es t.1=true->dJ es v t.1:=fun t ht C=>⟨lX.2 ⟨t,by rw [hqx]; exact ht,rfl⟩,C⟩
   generalize es[q]=e at Z n hts hli hll hsol G;refine av ((e.p,e.l,e.c),(e.x.num:Int),()) ⟨by rw [add_zero']; exact Z.2.1,by rw [add_add]; exact Z.2.2.1,trivial⟩ ?_;refine ak ?_;refine bG ?_;intro h5 b5 e5 z5;refine bQ b5 ?_;intro h6 b6 k6 z6;have b6:bF h6 h3.size 60 [.slice e.p e.l e.c,.int .u32 (e.x.num:Int)]:=b6;have e36:Ext h3 h6:=bZ e5 k6;have e06:=e03.trans e36;have hz3:=e03.size;refine az b6 ((e.p,e.l,e.c),()) (ak ?_);refine aU (cs:=cn) (fun x w h'=>∃ (i:Nat) (N:Xaa->Option tp),x.1=(i:Int)/\i<=e.x.ah.length/\w=e.x.ah.length-i/\T5 k h' es N/\WV f N/\Tl h6.size f N/\(∀ t,t∈e.x.ah.take i->cG es t.1=true->∃ y,N t.1=some y)/\Ch [k.gD] h6 h')
    ((0:Int),()) e.x.ah.length rfl ⟨0,f,rfl,ad,ad,dn.ext e06,fun s y hy=>hy,fun s y hy=>.inl hy,aj,Ch.refl _ _⟩ ?_
   rintro ⟨n23,⟨⟩⟩ w h7 ⟨i,H,hi0,hile,rfl,g,sb7,P,Q,k7⟩;simp only at hi0;subst hi0;refine ak ?_;have R:Ch [k.gD] h h7:=Ch.trans (e06.mono aj) k7 (fun j I _=>I);have co7:=co.ai lo R;have hel:=(n h7 co7).len;refine aP ?_ ?_<;>intro g1
   ·have J:i<e.x.ah.length:=ad
    refine dO ?_;obtain ⟨a2,ha2,hc2⟩:=(n h7 co7).cells i J;refine aH ha2 ?_;rw [cB i];have htk:e.x.ah.take (i+1)=e.x.ah.take i++[e.x.ah[i]]:=Y2 J;have hed:=G e.x.ah[i] (Y5 J);generalize e.x.ah[i]=t at hc2 htk hed;refine av (t.1,(t.2:Int),()) hc2 (ak ?_);refine bG ?_;intro h8 b8 e8 z8;refine bQ b8 ?_;intro h9 S k9 z9;have S:bF h9 h7.size 66 [.string t.1,.int .u32 (t.2:Int)]:=S;have K:Ext h7 h9:=bZ e8 k9;have U:Ch [k.gD] h h9:=Ch.trans R K aj;have co9:=co.ai lo U;have dn9:=g.ext K;have hw:=iC i;refine az co9.bA (some k.gA,()) (ak ?_);refine az S (t.1,()) (ak ?_);obtain ⟨nA9,mA9⟩:=co9.mA;refine Er mA9 t.1 ?_;refine ao ?_ ?_<;>intro W
    ·have W:cG es t.1=true:=W;refine az co9.bV (.func (.func 85) #[] k.vf.toArray,()) (ak ?_);refine az S (t.1,()) (ak ?_);refine pF (cap:=k.vf) Ul rfl (ih t.1 (hg t.1 (hed W)) ((hown _).1 W) h9 H co9 dn9) ?_;rintro _ h10 ⟨y,f10,rfl,hyx,dn10,hfy,Y,na10,m⟩;refine ⟨((y.p,y.l,y.c),(y.x.num:Int),()),rfl,ak ?_⟩;refine aG (cs:=cn) (((i+1:Nat):Int),()) (e.x.ah.length-(i+1)) rfl ad (Zg (fun z=>[Value.int .i64 z]) hw) ⟨i+1,f10,rfl,ad,rfl,dn10,fun s y hy=>Y s y (sb7 s y hy),fun s y hy=>?_,fun u hu C=>?_,?_⟩
     ·rcases na10 s y hy with h | h
      ·exact P s y h
      ·refine .inr fun i hi=>?_
       have:=h i hi
       have:=k7.size
       have:=K.size
       omega
     ·rw [htk] at hu;rcases Zb.1 hu with h | h
      ·obtain ⟨y,hy⟩:=Q u h C;exact ⟨y,Y _ _ hy⟩
      ·rw [Zh.1 h]; exact ⟨y,hfy⟩
     ·exact Ch.trans (Ch.trans k7 K aj) m (fun j I _=>I)
    ·have W:¬ cG es t.1=true:=by
      unfold cG;intro d;rw [d] at W;cases W
     refine aG (cs:=cn) (((i+1:Nat):Int),()) (e.x.ah.length-(i+1)) rfl ad (Zg (fun z=>[Value.int .i64 z]) hw) ⟨i+1,H,rfl,ad,rfl,dn9,sb7,P,fun u hu C=>?_,Ch.trans k7 K aj⟩;rw [htk] at hu;rcases Zb.1 hu with h | h
     ·exact Q u h C
     ·rw [Zh.1 h] at C; exact (W C).elim
   ·have hii:e.x.ah.take i=e.x.ah:=Zu ad;rw [hii] at Q;have b7:=b6.ai k7 (by simp; omega);refine az b7 ((e.p,e.l,e.c),(e.x.num:Int),()) (ak ?_);refine az co7.bD (some k.gD,()) (ak ?_);obtain ⟨n7,m7⟩:=g.map;have hz7:=R.size;have hput:dC (fun s=>(H s).map (·.x)) e.x=fx es v:=by
     show _=JH (cG es) (dH es) (bh es) v;rw [hsol];refine qS fun t ht=>?_
     show (H t.1).map (·.x)=KU (cG es) (dH es) (bh es) t.1;unfold KU
     by_cases C:cG es t.1=true
     ·obtain ⟨y,hy⟩:=Q t ht C;rw [hy,Y8 C,bt9,(g.of _ _ hy).2.1]
     ·rw [Y1 C];cases hy:H t.1 with
      | none=>rfl
      | some y=>exact (C ((hown _).2 (g.of _ _ hy).1)).elim
    have L:∀ s y,H s=some y->y.x.ah.length<=2^20:=fun s y hy=>by
     obtain ⟨a,b,_⟩:=g.of s y hy;rw [b]; exact eo.E0 hc a
    refine aJ (FP (c:=e.c) (n h7 co7) m7 ad hts (fun s y hy=>⟨by have:=L s y hy; omega,by
      obtain ⟨a,b,_⟩:=g.of s y hy;rw [b]; exact eo.MM hc a⟩) ?_) ?_
    ·have:=rh (of:=fun s=>(H s).map (·.x)) (B:=2^20) ad (fun s y hy=>by
      cases hh:H s with
      | none=>simp only [hh] at hy; cases hy
      | some z =>
       simp only [hh,Option.map_some,Option.some.injEq] at hy;rw [<- hy]; exact L s z hh) e.x.ah
     exact ZK this (ZK (ZT _ hll) bY)
    ·rintro _ h8 ⟨⟨p',l',c',rfl,s8⟩,e8⟩;rw [hput] at s8 ⊢;refine ⟨((p',l',c'),((fx es v).num:Int),()),rfl,ak ?_⟩;have b8:=b7.ai e8 aj;refine bQ b8 ?_;intro h9 S k9 z9;have S:bF h9 h3.size 60 [.slice p' l' c',.int .u32 ((fx es v).num:Int)]:=S;have hz8:=e8.size;have k79:Ch [h3.size] h7 h9:=Ch.trans (e8.mono aj) k9 (fun j I _=>I);have U:Ch [k.gD] h h9:=Ch.trans (Ch.trans R e8 aj) k9 (fun j I hl=>by simp at I; omega);have co9:=co.ai lo U;have hk7:=k7.size;have hz36:h3.size<h6.size:=ad
     have M:∀ s y,H s=some y->∀ i,i∈aF y.p->i≠h3.size/\i≠h.size/\i≠k.gD:=by
      intro s y hy i hi;have h1:=(g.of s y hy).2.2 i hi;rcases P s y hy with h | h
      ·have:=((dn.of s y h).2.2 i hi).2
       omega
      ·have:=h i hi
       omega
     have m9:H' h9 k.gD H n7:=m7.ai k79 (by simp; omega) (fun s y hy i hi=>by
      have:=(M s y hy i hi).1
      simpa using this)
     have s9:=s8.br k9 (fun i hi=>by have:=(s8.cj hi).1; simp; omega);refine az co9.bD (some k.gD,()) (ak ?_);refine az S ((p',l',c'),((fx es v).num:Int),()) (ak ?_);refine Nu m9.map hsv ⟨p',l',c',fx es v⟩ ?_;intro h10 m10 m z10;have b10:=S.ai m (by simp; omega);refine az b10 ((p',l',c'),((fx es v).num:Int),()) (ak ?_);have b110:bF h10 h.size 60 [.slice none 0 0,.int .u32 0]:=((((b1.ai F aj).ai e36 aj).ai k7 (by simp; omega)).ai k79 (by simp; omega)).ai m (by simp; omega);refine bQ b110 ?_;intro h11 b11 X z11;have b11:bF h11 h.size 60 [.slice p' l' c',.int .u32 ((fx es v).num:Int)]:=b11;refine az b11 ((p',l',c'),((fx es v).num:Int),()) ?_;have k011:Ch [k.gD] h h11:=Ch.trans (Ch.trans U m (fun j I _=>I)) X (fun j I hl=>by simp at I; omega);have hz9:=k79.size;refine ⟨⟨p',l',c',fx es v⟩,dW H v ⟨p',l',c',fx es v⟩,rfl,rfl,⟨⟨_,m10.ai X (by simp; omega),fun s y hy=>?_⟩,fun s y hy=>?_⟩,cK _ _ _,fun s y hy=>?_,fun s y hy=>?_,k011⟩
     ·by_cases hsv:s=v
      ·subst hsv;rw [cK] at hy;have hy:=Zl hy;subst hy;exact xX ((s9.br m (fun i hi=>by have:=(s9.cj hi).1; simp; omega)).br X (fun i hi=>by have:=(s9.cj hi).1; simp; omega))
      ·rw [cv _ _ hsv] at hy;exact ((m9.fI s y hy).ai m (fun i hi=>by have:=(M s y hy i hi).2.2; simpa using this)).ai X (fun i hi=>by have:=(M s y hy i hi).2.1; simpa using this)
     ·by_cases hsv:s=v
      ·subst hsv;rw [cK] at hy;have hy:=Zl hy;subst hy;refine ⟨hv,rfl,fun i hi=>?_⟩
       have:=s9.cj hi
       omega
      ·rw [cv _ _ hsv] at hy;obtain ⟨a,b,c⟩:=g.of s y hy;refine ⟨a,b,fun i hi=>?_⟩
       have:=c i hi
       omega
     ·have hne:s≠v:=fun e=>by rw [e,hy0] at hy; cases hy
      rw [cv _ _ hne];exact sb7 s y hy
     ·by_cases hsv:s=v
      ·subst hsv;rw [cK] at hy;have hy:=Zl hy;subst hy;refine .inr fun i hi=>?_
       have:=s9.cj hi
       omega
      ·rw [cv _ _ hsv] at hy;rcases P s y hy with h | h
       ·exact .inl h
       ·refine .inr fun i hi=>?_
        have:=h i hi
        omega
def nt {P:Program} {h:Hp} {L:Lp} {K:Xab->Hp->Prop} {k:Xac->Nat->Nat->T} {t n e:TypeId} {z:Xab} {sz by':Nat} (o:P.underlying t=some (.slice e)) (d:(P.info? e).map (fun i=>(i.zero,i.size,i.bytes))=some (some z,sz,by'))
  (r:z.cells.size=sz) {p:Xac} {l c:Nat} {ys:List (List Xab)} (g:(p=none/\ys=[])\/∃ a,p=some a/\aI h a 0 ys.flatten) (hl:l=ys.length) (s:∀ y,y∈ys->y.length=sz) (u:ys.flatten.all da=true) (w:(2*l+1024)*by'<=2^48) (A:l<=2^48)
  (hk:∀ p' c' h',SL h' h.size e sz p' l c' ys->Ext h h'->k p' l c' L K h') :
  T.eN P (Instr.buildSlice t 0 #[]) false [(false,[.slice 0])] (fun q m D=>T.eN P (Builtin.append_ #[t,t] n #[.slice q m D,.slice p l c]) false [(false,[.slice 0])] k) L K h:=by
 obtain ⟨i,hi,F,rfl,rfl⟩:=jV d;refine df ?_;unfold Instr.buildSlice;rw [an,aE o];simp only;rw [an,bR hi,cJ hi];rw [Y1 ad,Y8 ad];simp only [Nat.zero_mul,pure_bind];have G:∀ (f:Nat->Option (Nat × Nat)) (b:Array Xab),Instr.fill f b []=some b:=fun f b=>rfl
 have H:Array.map (fun x=>(#[]:Array Xab)[x % (#[]:Array Xab).size]!) (Array.range 0)=#[]:=aj
 rw [G,H];show ∃ O Q c1,_/\_
 refine ⟨_,_,_,rfl,?_⟩;have E:SL (h.push (.cells #[] e)) h.size e i.size (some ⟨h.size,0,none⟩) 0 0 []:=⟨rfl,aj,h.size,[],[],rfl,Zc _,ad,bF.new h e [],aj⟩
 have B:Ext h (h.push (.cells #[] e)):=Ext.push _ _;refine df ?_;rcases g with ⟨rfl,rfl⟩ | ⟨a,rfl,hc⟩
 ·have C:l=0:=hl;subst C;simp [Builtin.append_,an,aE o,bR hi,Builtin.lenOf,Builtin.firstCells,storeCells];exact ⟨_,_,_,rfl,hk _ _ _ E B⟩
 ·have:=je (P:=P) (h:=h.push (.cells #[] e)) (K:=fun v h'=>∃ p l c,v=.slice p l c/\k p l c L K h') (ty:=n) (ys:=ys) o hi F r E hl s (aX B aj _ _ hc) u (by simpa using w) (by simpa using A) aj (cc:=c) ?_
  ·exact this
  ·intro p' c' h2 I J M;rw [ZH,Z8] at *;exact ⟨p',l,c',rfl,hk p' c' h2 I (Ch.trans B J fun j N hl=>by simp [aF] at N; omega)⟩
def Af {us:dz} (v:ik I O H us):(O=none/\us.map dh=[])\/∃ a,O=some a/\aI I a 0 (us.map dh).flatten:=by
 cases O with
 | none =>
  left
  refine ⟨rfl,?_⟩;cases us with
  | nil=>rfl
  | cons u us =>
   obtain ⟨a,b,_⟩:=v.cells 0 aj;cases b
 | some a=>exact .inr ⟨a,rfl,v.flat⟩
def Bm (us:dz):∀ y,y∈us.map dh->y.length=2:=by
 intro y a;obtain ⟨u,_,rfl⟩:=Y9.1 a;rfl
def Hr {c:Nat} {us:dz} (v:ik I O H us) (hl:us.length<=2^40) :
  HC Xaz 54 #[.slice O H c] I fun w h'=>(∃ p' l' c',w=.slice p' l' c'/\SL h' I.size 66 2 p' l' c' (us.map dh))/\Ext I h':=by
 refine bi (args:=[.slice O H c]) mixed Tryz.func54 aw (gJ O H c) ?_;unfold eM aT aS;have hll:=v.len;cases O with
 | none =>
  rcases Af v with ⟨_,h2⟩ | ⟨a,b,_⟩
  ·refine cL rfl ?_;refine ⟨⟨none,0,0,rfl,?_⟩,Ch.refl _ _⟩;rw [h2];exact SL.nil _ _ _ _
  ·cases b
 | some a =>
  refine cC rfl ?_;refine nt (e:=66) (z:=.agg #[.string ⟨#[]⟩,.int .u32 0]) (sz:=2) (by':=24) uH rp rfl (Af v) (by simpa using hll) (Bm us) (AP us) ad ad ?_;intro p' c' h' f g;exact ⟨⟨p',H,c',rfl,f⟩,g⟩
structure sC (h:Hp) (b:Nat) (p:Xac) (l c:Nat) (ms:List cX):Prop where
 out:SL h b 88 3 p l c (ms.map AN)
 fI:∀ m,m∈ms->SL h b 66 2 m.p m.l m.c (m.x.ah.map dh)
 ap:ms.Pairwise fun x y=>∀ i,i∈aF x.p->∀ j,j∈aF y.p->i<j
 dj:∀ m,m∈ms->∀ j,j∈aF m.p->j∉aF p
def sC.ai {ws:List Nat} {h':Hp} {ms:List cX} (o:sC I H O U Y ms) (k:Ch ws I h') (a:∀ i,i∈ws->i<H\/I.size<=i):sC h' H O U Y ms :=
 ⟨o.out.br k (fun i hi I=>by have:=o.out.cj hi; have:=a i I; omega),fun m d=>(o.fI m d).br k (fun i hi I=>by have:=(o.fI m d).cj hi; have:=a i I; omega),o.ap,o.dj⟩
def DO {ms:List cX} (o:sC I H O U Y ms):rW I O U ms :=
 ⟨by rw [o.out.1,YY],fun i hi=>by
  obtain ⟨a,d,hc⟩:=o.out.cells (i:=i) (by simpa using hi);rw [Y7] at hc;exact ⟨a,d,hc⟩,fun m e=>xX (o.fI m e)⟩
def C9:Tryz.prog.underlying 27=some (.slice 88):=aw
def GH:(Tryz.prog.info? 88).map (fun i=>(i.zero,i.size,i.bytes))=some (some (.agg #[.string ⟨#[]⟩,.slice none 0 0,.int .u32 0]),3,48):=aw
def sC.push {h h1:Hp} {p':Xac} {l' c':Nat} {ms:List cX} (o:sC h H O U Y ms) {m:cX} (n:SL h H 66 2 m.p m.l m.c (m.x.ah.map dh)) (d:∀ i,i∈aF m.p->(∀ y,y∈ms->∀ j,j∈aF y.p->j<i)/\i∉aF O)
  (q:SL h1 H 88 3 p' l' c' ((ms++[m]).map AN)) (k:Ch (aF O) h h1) (r:∀ i,i∈aF p'->i∈aF O\/h.size<=i):sC h1 H p' l' c' (ms++[m]):=by
 have f:∀ y,y∈ms++[m]->∀ j,j∈aF y.p->j∉aF O/\j<h.size:=by
  intro y e j a;rcases Zb.1 e with h | h
  ·exact ⟨o.dj y h j a,((o.fI y h).cj a).2⟩
  ·rw [Zh.1 h] at a;exact ⟨(d j a).2,(n.cj a).2⟩
 refine ⟨q,fun y e=>?_,?_,fun y e j a g=>?_⟩
 ·have hb:=f y e;rcases Zb.1 e with h | h
  ·exact (o.fI y h).br k fun i hi=>(hb i hi).1
  ·have h:=Zh.1 h;subst h;exact n.br k fun i hi=>(hb i hi).1
 ·rw [List.pairwise_append];refine ⟨o.ap,List.pairwise_singleton _ _,fun y e z s i hi j a=>?_⟩;rw [Zh.1 s] at a;exact (d j a).1 y e i hi
 ·have:=f y e j a
  rcases r j g with h | h
  ·exact this.1 h
  ·omega
structure X9 (r:SF) (es:List cX) (i:Nat) (p:Xac) (l c:Nat) (f:Xaa->Option tp) (ms:List cX) (h:Hp):Prop where
 dn:T5 r h es f
 own:sC h (r.V+1) p l c ms
 ms:ms.map (fun m=>(m.name,m.x))=(es.take i).map (fun e=>(e.name,fx es e.name))
 dd:∀ s y,f s=some y->∀ j,j∈aF y.p->j∉aF p
def Uc (es:List cX) (h:Hp) (w:Xab) (h':Hp):Prop :=
 (∃ i,∃ hi:i<es.length,kV (dJ es) es[i].name/\(∀ j,(a:j<i)->¬ kV (dJ es) es[j].name)/\w=.tuple #[.slice none 0 0,vI (i:Int),vI 24]) \/
 ((∀ v,¬ kV (dJ es) v)/\∃ p' l' c' ms,w=.tuple #[.slice p' l' c',vI 0,vI 0]/\sC h' h.size p' l' c' ms/\ms.map (fun m=>(m.name,m.x))=es.map (fun e=>(e.name,fx es e.name)))
abbrev WU:List ey:=[(false,[.slice 0]),(false,[.int .i64]),(false,[.int .i64]),(false,[.int .i64])]
def GB {p:Xac} {c:Nat} {es:List cX} (v:rW I p H es) (Y:uX es) (hp:∀ i,i∈aF p->i<I.size) (hlen:es.length<=2^20) :
  HC Xaz 49 #[.slice p H c] I fun w h'=>Uc es I w h'/\Ext I h':=by
 refine bi (args:=[.slice p H c]) mixed Tryz.func49 aw (BZ p H c) ?_;unfold yW aY bj bn ay bz ei aT bX ax bK aS cm aK dp;have hown:=eP es;have hll:=v.len;refine bG ?_;intro h1 b1 e1 z1;refine az b1 ((p,H,c),()) (ak ?_);refine aJ (I0 (c:=c) (v.ai e1) Y.toEqsOk (fun i hi=>by have:=hp i hi; omega)) ?_;rintro _ h2 ⟨⟨g,n,rfl,mB,hg⟩,e2⟩;refine ⟨(some g,()),rfl,ak ?_⟩;have hback:=IF (succ:=cY (dH es)) Y.nodup (fun s=>(hown s).1);generalize (Hx (cG es) (cY (dH es)) (bh es)).back=back at mB hback;have b2:=b1.ai e2 aj;have e02:=e1.trans e2;refine az b2 ((p,H,c),()) (ak ?_);refine aU (cs:=WU) (fun x w h'=>∃ i:Nat,x.2.2.2.1=(i:Int)/\i<=es.length/\w=es.length-i/\(∀ j,(d:j<i)->∀ hl:j<es.length,¬ kV (dJ es) es[j].name)/\Ext h2 h') ((none,0,0),(0:Int),(0:Int),(0:Int),()) es.length rfl ⟨0,rfl,ad,ad,fun j d=>ad,Ch.refl _ _⟩ ?_;rintro ⟨⟨p9,l10,l11⟩,n12,n13,n14,⟨⟩⟩ w h3 ⟨i,hi,hile,rfl,Z,e3⟩;simp only at hi;subst hi;refine ak ?_;have e03:=e02.trans e3;refine aP ?_ ?_<;>intro g1
 ·have q:i<es.length:=ad
  refine dO ?_;obtain ⟨a,ha,hc⟩:=(v.ai e03).cells i q;refine aH ha ?_;rw [cB i];have hes:∀ s,kV (dJ es) es[i].name↔kV (dJ es) es[i].name:=fun s=>Iff.rfl
  generalize hee:es[i]=e at hc hes;refine av (e.name,(e.p,e.l,e.c),(e.x.num:Int),()) hc (ak ?_);refine bG ?_;intro h4 b4 e4 z4;refine bQ b4 ?_;intro h5 b5 k5 z5;have b5:bF h5 h3.size 88 [.string e.name,.slice e.p e.l e.c,.int .u32 e.x.num]:=b5;have e35:Ext h3 h5:=bZ e4 k5;refine az b5 (e.name,()) (ak ?_);refine Oe ((mB.ai e3 aj).ai e35 aj) e.name ?_;refine ao ?_ ?_<;>intro M
  ·have M:(back e.name).getD false=true:=M;refine ⟨.inl ⟨i,q,?_,fun j d=>Z j d ad,rfl⟩,e03.trans e35⟩;rw [hee];exact (hback _).1 M
  ·have M:(back e.name).getD false=false:=M;have hw:=iC i;refine aG (cs:=WU) ((p9,l10,l11),n12,n13,((i+1:Nat):Int),()) (es.length-(i+1)) rfl ad (by rw [hw]; rfl) ⟨i+1,rfl,ad,rfl,fun j d hl=>?_,e3.trans e35⟩
   by_cases hji:j=i
   ·subst hji;rw [hee];intro hc
    have:=(hback _).2 hc
    rw [M] at this; cases this
   ·exact Z j ad hl
 ·have hc:∀ v,¬ kV (dJ es) v:=by
   intro s hs;obtain ⟨j,d,hjs⟩:=Zt ((hown s).1 hs.Tc);have hj':j<es.length:=by simpa [bh] using d
   have:es[j].name=s:=by rw [<- hjs]; simp [bh]
   exact Z j ad hj' (by rw [this]; exact hs)
  have b3:=b2.ai e3 aj;refine az b3 ((p,H,c),()) (ak ?_);refine aJ (A0 (v.ai e03) Y.len Y.nodup Y.sz) ?_;rintro _ h4 ⟨⟨gA,rfl,mA,hgA⟩,e4⟩;refine ⟨(some gA,()),rfl,ak ?_⟩;have hgA4:=mA.lt;refine bG ?_;intro h5 b5 e5 z5;refine bQ b5 ?_;intro h6 b6 k6 z6;have b6:bF h6 h4.size 97 [.map (some gA)]:=b6;have e46:Ext h4 h6:=bZ e5 k6;refine zG (en:=eL) ?_;intro h7 m7 e7 z7;refine bG ?_;intro h8 b8 e8 z8;refine bQ b8 ?_;intro h9 b9 k9 z9;have b9:bF h9 h7.size 147 [.map (some h6.size)]:=b9;have e79:Ext h7 h9:=bZ e8 k9;refine bG ?_;intro h10 b10 e10 z10;refine bQ b10 ?_;intro h11 b11 k11 z11;have S:Ext h9 h11:=bZ e10 k11;have e711:=e79.trans S;have e611:=e7.trans e711;have e411:=e46.trans e611;have e011:=(e03.trans e4).trans e411;have hz4:=e4.size;have hz3:=e3.size;have hz2:=e2.size;generalize hr:(⟨I.size,gA,h4.size,h6.size,h7.size,h9.size⟩:SF)=r;have ho:r.ord:=by
   subst hr;unfold SF.ord;dsimp only;omega
  have hrE:r.E=I.size:=by subst hr; rfl
  have hrV:r.V+1=h11.size:=by subst hr; dsimp only; omega
  have hrV':r.V=h9.size:=by subst hr; rfl
  have hrD:r.gD=h6.size:=by subst hr; rfl
  have co:VM r h11 es p H c:=by
   subst hr;exact ⟨(b3.ai (e4.trans e411) aj),b6.ai e611 aj,⟨_,mA.ai e411 aj⟩,b11,b9.ai S aj,v.ai e011⟩
  have dn:T5 r h11 es (fun _=>none):=⟨⟨0,(by rw [hrD]; exact m7.ai e711 aj),fun s y hy=>by cases hy⟩,fun s y hy=>by cases hy⟩
  have lo:Ya r es p:=⟨ho,fun i hi=>by rw [hrE]; exact hp i hi,fun e he hne i hi=>by rw [hrE]; exact (v.fI e he).Vz hne i hi⟩
  have o':=ho;unfold SF.ord at o';rw [show (⟨I.size,0,none⟩:Xax)=bx r.E by rw [hrE],show (⟨h9.size,0,none⟩:Xax)=bx r.V by rw [hrV']];refine az co.bE ((p,H,c),()) (ak ?_);refine aU (cs:=uC) (fun x w h'=>∃ (i:Nat) (p':Xac) (l' c':Nat) (f:Xaa->Option tp) (ms:List cX),x.1=(p',l',c')/\x.2.1=(i:Int)/\i<=es.length/\w=es.length-i/\X9 r es i p' l' c' f ms h'/\Ch [r.gD] h11 h')
   ((none,0,0),(0:Int),()) es.length rfl ⟨0,none,0,0,_,[],rfl,rfl,ad,ad,⟨dn,⟨SL.nil _ _ _ _,aj,List.Pairwise.nil,aj⟩,rfl,fun s y hy=>by cases hy⟩,Ch.refl _ _⟩ ?_
  rintro ⟨⟨p26,N,l28⟩,n29,⟨⟩⟩ w D ⟨i,p',l',c',f,ms,hx,hi,hile,rfl,u,O⟩;simp only at hx hi;obtain ⟨rfl,rfl,rfl⟩:=hx;subst hi;refine ak ?_;have co12:=co.ai lo O;have hz12:=O.size;have hmsl:ms.length=i:=by have:=Zg List.length u.ms; simp at this; omega
  refine aP ?_ ?_<;>intro M
  ·have q:i<es.length:=ad
   refine dO ?_;obtain ⟨a,ha,hcc⟩:=co12.vw.cells i q;refine aH ha ?_;rw [cB i];have P:es.take (i+1)=es.take i++[es[i]]:=Y2 q;have A:es[i].name∈bh es:=Zm (Y5 q);generalize es[i]=e at hcc P A;refine av (e.name,(e.p,e.l,e.c),(e.x.num:Int),()) hcc (ak ?_);refine bG ?_;intro h13 b13 e13 z13;refine bQ b13 ?_;intro h14 Q k14 z14;have Q:bF h14 D.size 88 [.string e.name,.slice e.p e.l e.c,.int .u32 e.x.num]:=Q;have o:Ext D h14:=bZ e13 k14;have co14:=co12.ai lo (o.mono aj);have dn14:=u.dn.ext o;have own14:=u.own.ai o aj;refine az co14.bV (.func (.func 85) #[] r.vf.toArray,()) (ak ?_);refine az Q (e.name,()) (ak ?_);refine pF (cap:=r.vf) Ul rfl (NO Y lo hc (bh es).length e.name (IN hown hc A) A h14 f co14 dn14) ?_;rintro _ F ⟨y,f15,rfl,hyx,U,hfy,sb15,W,G⟩;refine ⟨((y.p,y.l,y.c),(y.x.num:Int),()),rfl,ak ?_⟩;have own15:=own14.ai G (fun i hi=>.inl (by simp at hi; omega));have co15:=co14.ai lo G;have hz15:=G.size;have b15:=Q.ai G (by simp; omega);obtain ⟨n15,m15⟩:=U.map;have hyv:=m15.fI _ y hfy;refine bG ?_;intro h16 b16 e16 z16;refine bQ b16 ?_;intro h17 J k17 z17;have J:bF h17 F.size 60 [.slice y.p y.l y.c,.int .u32 (y.x.num:Int)]:=J;have t:Ext F h17:=bZ e16 k17;have b1417:=b15.ai t aj;refine az b1417 (e.name,()) (ak ?_);refine az J ((y.p,y.l,y.c),()) (ak ?_);rw [aC];refine az J ((y.x.num:Int),()) (ak ?_);have hyl:y.x.ah.length<=2^20:=by rw [hyx]; exact Y.E0 hc A
   refine aJ (Hr (c:=y.c) (hyv.ai t aj) ad) ?_;rintro _ h18 ⟨⟨pc,lc,cc,rfl,sc⟩,R⟩;refine ⟨((pc,lc,cc),()),rfl,ak ?_⟩;have e1518:=t.trans R;have own18:=own15.ai e1518 aj;have b1418:=b1417.ai R aj;have b1718:=J.ai R aj;have dn18:=U.ext e1518;have hz17:=t.size;have hz18:=R.size;have stB:∀ h',bF h' D.size 88 [.string e.name,.slice e.p e.l e.c,.int .u32 e.x.num]->bF h' F.size 60 [.slice y.p y.l y.c,.int .u32 (y.x.num:Int)]->T.BO h' [(⟨F.size,0+1,none⟩,[.int .u32 (y.x.num:Int)]),(⟨F.size,0,none⟩,[.slice y.p y.l y.c]),(⟨D.size,0,none⟩,[.string e.name])] :=
    fun h' b1 b2=>⟨b2.cells _ rfl,b2.cells _ rfl,b1.cells _ rfl,trivial⟩
   refine ⟨⟨b1718.cells _ rfl,b1418.cells _ rfl,trivial⟩,?_⟩;have hol:N=ms.length:=by rw [u.own.out.1,YY]
   refine gn (vs:=AN ⟨e.name,pc,lc,cc,y.x⟩) C9 GH rfl ad ad aw rfl rfl own18.out ad ad ad (fun h' ex=>stB h' (b1418.ai ex aj) (b1718.ai ex aj)) ?_;intro p' c' h19 s19 B hp19;have C:∀ j,j∈aF p26->r.V<j/\j<D.size:=fun j d=>by have:=u.own.out.cj d; omega
   refine ⟨stB h19 (b1418.ai B (fun d=>by have:=C _ d; omega)) (b1718.ai B (fun d=>by have:=C _ d; omega)),?_⟩;have hw:=iC i;have K:∀ j,j∈aF p'->j∈aF p26\/h18.size<=j:=by
    intro j d;rcases hp19 with I | ⟨a,I,hle⟩
    ·rw [I] at d; exact .inl d
    ·rw [I] at d; simp [aF] at d; subst d; exact .inr hle
   refine aG (cs:=uC) ((p',N+1,c'),((i+1:Nat):Int),()) (es.length-(i+1)) rfl ad (by rw [hw]; rfl)
    ⟨i+1,p',N+1,c',f15,ms++[⟨e.name,pc,lc,cc,y.x⟩],rfl,rfl,ad,rfl,⟨?_,?_,?_,fun s z X j d L=>?_⟩,?_⟩
   ·obtain ⟨n18,m18⟩:=dn18.map;refine ⟨⟨n18,m18.ai B (fun d=>by have:=C _ d; omega) (fun s z X j d=>?_)⟩,fun s z X=>?_⟩
    ·rcases W s z X with I | I
     ·exact u.dd s z I j d
     ·intro L
      have:=I j d
      have:=C j L
      have:=o.size
      omega
    ·obtain ⟨a,b,c⟩:=dn18.of s z X;refine ⟨a,b,fun i hi=>?_⟩
     have:=c i hi
     have:=B.size
     omega
   ·refine own18.push (m:=⟨e.name,pc,lc,cc,y.x⟩) (sc.mono ad) (fun j d=>?_) (by simpa using s19) B K;have hj2:=sc.cj d;refine ⟨fun z X k hk=>?_,fun L=>?_⟩
    ·have:=((own15.fI z X).cj hk).2
     omega
    ·have:=C j L
     have:=o.size
     omega
   ·rw [Za,u.ms,P,Za];show _++[(e.name,y.x)]=_;rw [hyx] <;> rfl
   ·rcases K j L with I | I
    ·rcases W s z X with k | k
     ·exact u.dd s z k j d I
     ·have:=k j d
      have:=C j I
      have:=o.size
      omega
    ·have:=((dn18.of s z X).2.2 j d).2
     omega
   ·refine Ch.trans (Ch.trans (Ch.trans (Ch.trans O o aj) G (fun j d _=>d)) e1518 aj) B (fun j d hl=>?_)
    have:=(u.own.out.cj d).1
    omega
  ·have P:es.take i=es:=Zu ad;have hms:=u.ms;rw [P] at hms;have hr11:=e011.size;refine ⟨.inr ⟨hc,p26,N,l28,ms,rfl,⟨u.own.out.mono ad,fun m hm=>(u.own.fI m hm).mono ad,u.own.ap,u.own.dj⟩,hms⟩,Ch.trans e011 O (fun j d hl=>?_)⟩;simp at d;omega
def yy (es:List cX) (s:Xaa):Option tp:=((kX es s).bind fun k=>es[k]?).map fun e=>⟨e.p,e.l,e.c,e.x⟩
def yF {es:List cX} {y:tp} (h:yy es V=some y):∃ e,e∈es/\e.name=V/\y=⟨e.p,e.l,e.c,e.x⟩/\dH es V=e.x:=by
 unfold yy at h;cases a:kX es V with
 | none=>rw [a] at h; cases h
 | some k =>
  obtain ⟨hk,h1,h2⟩:=pW a;rw [a,ak9,YZ hk] at h;exact ⟨_,Y5 hk,h1,(Zl h).symm,h2⟩
def K6 {es:List cX} (hn:∀ d,d∈es->d.name≠g.name):yy (es++[g])=dW (yy es) g.name ⟨g.p,g.l,g.c,g.x⟩:=by
 funext s
 unfold yy;rw [GL hn]
 by_cases h:s=g.name
 ·subst h;rw [cK,cK,ak9,ZB ad]
  simp
 ·rw [cv _ _ h,cv _ _ h];cases a:kX es s with
  | none=>rfl
  | some k =>
   obtain ⟨hk,_,_⟩:=pW a;rw [ak9,ak9,ZE hk]
def cF (es:List cX) (s:Xaa):Option cE:=if cG es s=true then some (dH es s) else none
def UT (es:List cX):(fun s=>(yy es s).map (·.x))=cF es:=by
 funext s
 unfold cF cG;cases a:kX es s with
 | none=>simp [yy,a]
 | some k =>
  obtain ⟨hk,_,h2⟩:=pW a;simp only [Option.isSome_some,if_true];rw [h2];unfold yy;rw [a,ak9,YZ hk] <;> rfl
def NP {h:Hp} {p:Xac} {l c:Nat} {x:cE} (v:ik h p l x.ah) {q:Xac} {m d:Nat} {es:List cX} (u:rW h q m es) (M:EqsOk es) (het:∀ e,e∈es->e.x.ah.length<=2^20) (htot:(es.flatMap (·.x.ah)).length<=2^39) (hlen:es.length<=2^20) (R:x.ah.length<=2^20) (r:∀ t,t∈x.ah->t.1.size<=maxLen) :
  HC Xaz 50 #[gF p l c x,.slice q m d] h fun w h'=>(∃ p' l' c',w=gF p' l' c' (nJ (dC (cF es) x) vQ)/\SL h' h.size 66 2 p' l' c' ((nJ (dC (cF es) x) vQ).ah.map dh))/\Ext h h':=by
 refine bi (args:=[gF p l c x,.slice q m d]) mixed Tryz.func50 aw (EG p l c x.num q m d) ?_;unfold Dx aY bj bn ay bz bX ax aS cm aK;have hll:=u.len;refine bG ?_;intro h1 b1 e1 z1;refine bG ?_;intro h2 b2 e2 z2;refine zG (en:=eL) ?_;intro h3 m3 S z3;have b13:=(b1.ai e2 aj).ai S aj;have b23:=b2.ai S aj;have e03:=(e1.trans e2).trans S;refine aU (cs:=cn) (fun y w h'=>∃ (i n:Nat),y.1=(i:Int)/\i<=es.length/\w=es.length-i/\ez eL h' h2.size (yy (es.take i)) n/\Ch [h2.size] h3 h') ((0:Int),()) es.length rfl
  ⟨0,0,rfl,ad,ad,m3,Ch.refl _ _⟩ ?_
 rintro ⟨n5,⟨⟩⟩ w h4 ⟨i,n,hi,hile,rfl,U,A⟩;simp only at hi;subst hi;refine ak ?_;have b:Ext h h4:=bZ e03 A;have hz4:=A.size;refine aP ?_ ?_<;>intro g1
 ·have f:i<es.length:=ad
  refine dO ?_;obtain ⟨a,ha,hc⟩:=(u.ai b).cells i f;refine aH ha ?_;rw [cB i];have C:es.take (i+1)=es.take i++[es[i]]:=Y2 f;have hsz:=M.sz es[i] (Y5 f);have D:∀ d,d∈es.take i->d.name≠es[i].name:=by
   intro d E o;obtain ⟨j,F,rfl⟩:=Zt E;rw [Zi] at F;rw [List.getElem_take] at o;have hn:(es.map (·.name)).Nodup:=M.nodup;exact ag9.1 hn j i (by rw [YY]; omega) (by rw [YY]; omega) ad (by simpa using o)
  generalize es[i]=e at hc C hsz D;refine av (e.name,(e.p,e.l,e.c),(e.x.num:Int),()) hc (ak ?_);refine bG ?_;intro h5 b5 G z5;refine bQ b5 ?_;intro h6 b6 k6 z6;have b6:bF h6 h4.size 88 [.string e.name,.slice e.p e.l e.c,.int .u32 e.x.num]:=b6;have H:Ext h4 h6:=bZ G k6;refine az b6 (e.name,()) (ak ?_);rw [aC];refine az b6 ((e.p,e.l,e.c),(e.x.num:Int),()) (ak ?_);refine Nu (U.ai H aj) hsz ⟨e.p,e.l,e.c,e.x⟩ ?_;intro h7 m7 N z7;have hw:=iC i;refine aG (cs:=cn) (((i+1:Nat):Int),()) (es.length-(i+1)) rfl ad (Zg (fun z=>[Value.int .i64 z]) hw) ⟨i+1,_,rfl,ad,rfl,by rw [C,K6 D]; exact m7,Ch.trans (Ch.trans A H aj) N (fun j F _=>F)⟩
 ·have V:es.take i=es:=Zu ad;rw [V] at U;have b14:=b13.ai A (by simp; omega);have b24:=b23.ai A (by simp; omega);refine az b14 ((p,l,c),(x.num:Int),()) (ak ?_);have mL:H' h4 h2.size (yy es) n:=⟨U,fun s y g=>by
   obtain ⟨e,o,_,rfl,_⟩:=yF g;exact (u.fI e o).ai b aj⟩
  have k:∀ s y,yy es s=some y->y.x.ah.length<=2^20:=fun s y g=>by
   obtain ⟨e,o,_,rfl,_⟩:=yF g;exact het e o
  have hz0:=b.size
  refine aJ (FP (c:=c) (v.ai b aj) mL ad r (fun s y g=>⟨by have:=k s y g; omega,by
    obtain ⟨e,o,_,rfl,_⟩:=yF g;exact M.ts e o⟩) ?_) ?_
  ·have:=rh (of:=fun s=>(yy es s).map (·.x)) (B:=2^20) ad (fun s y g=>by
    cases W:yy es s with
    | none=>simp only [W] at g; cases g
    | some z =>
     simp only [W,Option.map_some,Option.some.injEq] at g;rw [<- g]; exact k s z W) x.ah
   exact ZK this (ZK (ZT _ R) bY)
  ·rintro _ h5 ⟨⟨p5,l5,c5,rfl,X⟩,G⟩;rw [UT] at X ⊢;have Y:(dC (cF es) x).ah.length<=2^40:=by
    have hn:=ft (cF es) x;have h1:((dC (cF es) x).ah.map (·.1)).Nodup:=Z3.2 (hn.1.imp fun h=>kW h);have h2:=mj ((dC (cF es) x).ah.map (·.1)) ((x.ah++es.flatMap (·.x.ah)).map (·.1)) h1 (fun s hs=>by
     obtain ⟨t,I,rfl⟩:=Y9.1 hs;rcases tU I with ⟨p,J,e,_⟩ | ⟨p,y,u,J,ho,K,e⟩
     ·rw [<- e]; exact Zm (Zq _ J)
     ·rw [<- e];refine Zm (Zv _ ?_);unfold cF at ho
      by_cases hw:cG es p.1=true
      ·rw [Y8 hw] at ho;obtain ⟨d,E,_,Z⟩:=mY ((eP es _).1 hw);have ho:=Zl ho;rw [<- ho,Z] at K;exact cs9.2 ⟨d,E,K⟩
      ·rw [Y1 hw] at ho; cases ho)
    rw [YY,YY,Y0] at h2;omega
   refine ⟨((p5,l5,c5),((dC (cF es) x).num:Int),()),rfl,ak ?_⟩;have L:∀ t,t∈(dC (cF es) x).ah->t.1.size<=maxLen:=by
    intro t I;rcases tU I with ⟨p,J,e,_⟩ | ⟨p,y,u,J,ho,K,e⟩
    ·rw [<- e]; exact r p J
    ·unfold cF at ho
     by_cases hw:cG es p.1=true
     ·rw [Y8 hw] at ho;obtain ⟨d,E,_,Z⟩:=mY ((eP es _).1 hw);have ho:=Zl ho;rw [<- ho,Z] at K;rw [<- e]; exact M.ts d E u K
     ·rw [Y1 hw] at ho; cases ho
   have ha:=Uo (h:=h5) (p:=p5) (q:=none) (l:=l5) (c:=c5) (m:=0) (d:=0) (x:=dC (cF es) x) (y:=vQ) (xX X) ⟨rfl,fun i hi=>by simp [vQ] at hi⟩ (fun i hi=>(X.cj hi).2) (fun i hi=>by simp [aF] at hi) (by simpa [vQ] using Y) L (fun t I=>by simp [vQ] at I);refine aJ ha ?_;rintro _ h6 ⟨e6,O,P,Q,rfl,s6⟩;refine ⟨((O,P,Q),((nJ (dC (cF es) x) vQ).num:Int),()),rfl,ak ?_⟩;have b6:=(b24.ai G aj).ai e6 aj;have hz5:=G.size;refine bQ b6 ?_;intro h7 b7 N z7;have b7:bF h7 h1.size 60 [.slice O P Q,.int .u32 ((nJ (dC (cF es) x) vQ).num:Int)]:=b7;refine az b7 ((O,P,Q),((nJ (dC (cF es) x) vQ).num:Int),()) ?_;have e06:=(b.trans G).trans e6;exact ⟨⟨O,P,Q,rfl,(s6.br N (fun j F=>by have:=(s6.cj F).1; simp; omega)).mono ad⟩,bZ e06 N⟩
def zk {x:cE} (h:Nf x.ah) (hn:x.num<4294967296):nJ x vQ=x:=by
 unfold nJ vQ;simp only [List.append_nil,Nat.add_zero,F1 h,Nat.mod_eq_of_lt hn]
abbrev W2:List ey:=[(false,[.bool]),(false,[.int .i64])]
end Go.Sx
namespace Go.Sx.Ob
open Go.Proofs
abbrev Ky:=Nat × Xaa
def Qr (k:Ky):Xab:=.agg #[vI (k.1:Int),.string k.2]
def NK (b:Bool) (n:Int) (s:Xaa) (h:Hp) (K:Unit->Hp->Prop):aZ Xaz (Instr.checkKey b 10000 110 (.agg #[vI n,.string s])) h K=K () h:=aw
def Nx:Tryz.prog.underlying 110=some (.struct (Ca Xaz 110)):=aw
def Us:Tryz.prog.stoodInHeld 110=false:=aw
def Wd (n m:Int) (s t:Xaa):(Ca Xaz 110).all (okF Xaz #[vI n,.string s] #[vI m,.string t])=true:=aw
def Vr (n m:Int) (s t:Xaa):(Ca Xaz 110).all (HB #[vI n,.string s] #[vI m,.string t])=(n==m && (s==t && true)):=by
 rw [<- aj9]
 kernel_rfl
def Xt:Ck Xaz 110 Qr where
 check b a h K hk:=by rw [show Qr a=.agg #[vI (a.1:Int),.string a.2] from rfl,NK]; exact hk
 kind:=⟨_,Nx,fun a b=>rfl⟩
 eqv a b h K hk:=by
  show aZ Xaz (Op.equal 110 (.agg #[vI (a.1:Int),.string a.2]) (.agg #[vI (b.1:Int),.string b.2])) h K;rw [qY Nx Us (Wd _ _ _ _),Vr];have e:decide (a=b)=(((a.1:Nat):Int)==((b.1:Nat):Int) && (a.2==b.2 && true)):=by
   obtain ⟨c,d⟩:=a;obtain ⟨b1,b2⟩:=b;show decide ((c,d)=(b1,b2))=(((c:Nat):Int)==((b1:Nat):Int) && (d==b2 && true));rw [vF,au9];simp only [Prod.mk.injEq]
   by_cases h1:c=b1
   ·by_cases h2:d=b2
    ·simp [h1,h2]
    ·simp [h1,h2]
   ·have:¬ ((c:Nat):Int)=b1:=ad
    simp only [h1,false_and,decide_false]
    have:(((c:Nat):Int)==((b1:Nat):Int))=false:=by simpa using this
    rw [this,Bool.false_and]
  rw [<- e];exact hk
 bits a:=by
  show ((2:Nat)==2 && _)=true;simp [Instr.sameBits,Qr,vF]
 inj a b h:=by
  obtain ⟨c,d⟩:=a;obtain ⟨b1,b2⟩:=b;simp only [Qr,Value.agg.injEq,Array.mk.injEq,List.cons.injEq,Value.int.injEq,Value.string.injEq,and_true,true_and] at h;rw [Prod.mk.injEq];exact ⟨ad,h.2⟩
def SL.part {P:Program} {L:Lp} {K:Xab->Hp->Prop} {k:T} {h:Hp} {b:Nat} {e:TypeId} {sz:Nat} {p:Xac} {l c:Nat} {d:List (List Xab)} (s:SL h b e sz p l c d) {i:Nat} (hi:i<d.length) {vs:List Xab} {o:Nat} (E:o+vs.length<=sz)
  (w:vs.all da=true) {a:Xax} (y:p=some a) (hk:∀ h',SL h' b e sz p l c (d.set i (gK d[i] o vs))->Ch (aF p) h h'->h'.size=h.size->k L K h'):T.ar ((a.add (i*sz)).add o) vs k L K h:=by
 subst y;obtain ⟨g,f,rest,rfl,r,t,j,z⟩:=s.2.2;have u:d[i].length=sz:=s.2.1 _ (Y5 hi);have m:(d.take i).flatten.length=i*sz:=by
  rw [cU _ (fun x m=>s.2.1 x (Z0 m)),Zi,ZQ ad]
 have A:d[i]=d[i].take o++((d[i].drop o).take vs.length++d[i].drop (o+vs.length)):=by
  rw [<- List.drop_drop,ZG,ZG]
 have e0:d.flatten=(d.take i).flatten++(d[i]++(d.drop (i+1)).flatten):=by
  conv=>lhs; rw [<- ZG i d,Zj hi]
  rw [bv9,bj9]
 have B:f++(d.flatten++rest)=(f++(d.take i).flatten++d[i].take o)++((d[i].drop o).take vs.length++(d[i].drop (o+vs.length)++((d.drop (i+1)).flatten++rest))):=by
  rw [e0]
  conv=>lhs; rw [A]
  simp only [List.append_assoc]
 have lI:gK d[i] o vs=d[i].take o++(vs++d[i].drop (o+vs.length)):=by rw [gZ _ _ _ ad,Zp]
 have C:(d.set i (gK d[i] o vs)).flatten=(d.take i).flatten++((gK d[i] o vs)++(d.drop (i+1)).flatten):=by
  rw [List.set_eq_take_append_cons_drop,Y8 hi]
  simp
 rw [B] at j;rw [aC,aC];have n:(f++(d.take i).flatten++d[i].take o).length=f.length+i*sz+o:=by rw [Y0,Y0,m,Zi,ZQ ad]
 rw [<- n];refine ct j w (by simp; omega) ?_;intro h' q k' D;rw [rY (by rw [Zi,ZI]; omega)] at q;refine hk h' ⟨by rw [Z7]; exact s.1,fun x m=>?_,g,f,rest,rfl,r,t,?_,z⟩ (by simpa [aF] using k') D
 ·rcases af9 m with m | rfl
  ·exact s.2.1 x m
  ·rw [gS]; exact u
 ·rw [C,lI];simpa [List.append_assoc] using q
def KB:Tryz.prog.underlying 96=some (.map 110 3):=aw
def Tr:(Tryz.prog.info? 3).bind (·.zero)=some (vI 0):=aw
abbrev HD (h:Hp) (g:Nat) (f:Ky->Option Nat) (n:Nat):Prop:=A8 Qr eI h g f n
section
variable {L:Lp} {K:Xab->Hp->Prop} {h:Hp} {g n:Nat} {f:Ky->Option Nat}
def HI (m:HD h g f n) (u:Nat) (s:Xaa) {k:Int->Bool->T} (hk:k (((f (u,s)).getD 0:Nat):Int) (f (u,s)).isSome L K h):T.eN Xaz (Instr.lookup 96 (.map (some g)) (.agg #[vI (u:Int),.string s]) true) true [(false,[.int .i64]),(false,[.bool])] k L K h:=by
 obtain ⟨D,m,a,hn⟩:=m;show aZ Xaz (Instr.lookup 96 (.map (some g)) (Qr (u,s)) true) h _;refine wZ Xt KB Tr m (u,s) true _ ?_;refine ⟨((((f (u,s)).getD 0:Nat):Int),(f (u,s)).isSome,()),?_,hk⟩;rw [Y8 rfl,x5,a (u,s)]
 all_goals (cases f (u,s) <;> rfl)
variable {H:Int->T}
def U4 (m:HD h g f n) (u:Nat) (s:Xaa) (hk:H (((f (u,s)).getD 0:Nat):Int) L K h):T.eN Xaz (Instr.lookup 96 (.map (some g)) (.agg #[vI (u:Int),.string s]) false) false [(false,[.int .i64])] H L K h:=by
 obtain ⟨D,m,a,hn⟩:=m;show aZ Xaz (Instr.lookup 96 (.map (some g)) (Qr (u,s)) false) h _;refine wZ Xt KB Tr m (u,s) false _ ?_;refine ⟨((((f (u,s)).getD 0:Nat):Int),()),?_,hk⟩;simp only [Bool.false_eq_true,if_false];rw [x5,a (u,s)]
 all_goals (cases f (u,s) <;> rfl)
def To (m:HD h g f n) (u:Nat) (s:Xaa) {v:Int} {w:Nat} (hv:v=(w:Int)) {k:T} (hk:∀ h',HD h' g (zI f (u,s) w) (if (f (u,s)).isSome then n else n+1)->Ch [g] h h'->h'.size=h.size->k L K h') :
  T.eV Xaz (Instr.mapUpdate 96 (.map (some g)) (.agg #[vI (u:Int),.string s]) (vI v)) k L K h:=by
 subst hv;exact Xg (en:=eI) Xt KB m (u,s) w hk
def Wo (m:HD h g f n) (hk:H (n:Int) L K h):T.eN Xaz (Builtin.len_ #[96] 3 #[.map (some g)]) false [(false,[.int .i64])] H L K h:=by
 obtain ⟨D,m,e,hn⟩:=m;obtain ⟨es,clock,b,c,d⟩:=m;have a:es.size=n:=by
  have:=Zg List.length c
  simp only [List.length_map,Array.length_toList] at this;omega
 show aZ _ _ _ _;unfold Builtin.len_;simp only [List.getElem?_toArray,List.getElem?_cons_zero];rw [an,aE KB];simp only [pure_bind];rw [an];refine gR b aj _ ?_;simp only [pure_bind];exact ⟨((n:Int),()),by rw [a]; rfl,hk⟩
end
def om (n:Nat):Xaa:=⟨(Lib.itoa (n:Int)).toArray⟩
def Fz {h:Hp} (p:iV h) (n:Nat) (hn:n<=2^60):HC Xaz 81 #[vI n] h fun v h'=>v=.string (om n)/\Ext h h':=by
 intro W a;subst a;refine (Tryz.strconv_Itoa n ad ad W (Je aw p)).mono ?_;rintro e w' ⟨b,k,os,rfl⟩;refine ⟨_,b,⟨rfl,rfl,rfl⟩,rfl,?_⟩;refine ⟨by show W.heap.size<=(W.heap++os).size; simp,fun i hi _=>?_⟩;show (W.heap++os)[i]?=_;rw [Array.getElem?_append_left hi]
def mu {n:Nat} (hn:n<=2^60):(om n).size<=1000:=by
 show (Lib.itoa (n:Int)).toArray.size<=1000
 have:=Lib.itoa_length_le (n:Int) ad ad
 simp
 omega
structure Lb where
 u:Nat
 s:Nat
 i:Nat
 n:Xaa
deriving DecidableEq
def nS (x:Lb):List Xab:=[vI (x.u:Int),vI (x.s:Int),vI (x.i:Int),.string x.n]
structure LW where
 lb:List Lb
 num:Ky->Option Nat
 nn:Nat
 uV:Ky->Option Nat
 ne:Nat
 gl:Xaa->Option Nat
 ng:Nat
def Tj:LW:=⟨[],fun _=>none,0,fun _=>none,0,fun _=>none,0⟩
def LW.has (w:LW) (k:Ky):Bool:=(w.num k).isSome || (w.uV k).isSome
def LW.own (w:LW) (u:Nat) (s:Xaa):Option Ky:=if w.has (u,s) then some (u,s) else (w.gl s).map fun o=>(o,s)
def LW.word (w:LW) (k:Ky):Xaa:=match w.num k with
 | some n=>(⟨#[76]⟩:Xaa)++om n
 | none=>(⟨#[69]⟩:Xaa)++om ((w.uV k).getD 0)
structure LM (h:Hp) (gN gE gG:Nat) (w:LW):Prop where
 n:HD h gN w.num w.nn
 e:HD h gE w.uV w.ne
 g:ez eI h gG w.gl w.ng
def LM.ai {ws:List Nat} {h h':Hp} {gN gE gG:Nat} {w:LW} (m:LM h gN gE gG w) (k:Ch ws h h') (h1:gN∉ws) (h2:gE∉ws) (a:gG∉ws):LM h' gN gE gG w :=
 ⟨m.n.ai k h1,m.e.ai k h2,m.g.ai k a⟩
structure Qq (w:LW):Prop where
 n:∀ k i,w.num k=some i->i<=2^50
 e:∀ k i,w.uV k=some i->i<=2^50
abbrev Qm (h:Hp) (g:Nat) (us lb:cd) (gN gE gG:Nat) (sp:Int):Prop:=bF h g 99 [us.v,lb.v,.map (some gN),.map (some gE),.map (some gG),.slice none 0 0,vI sp]
section
variable {h:Hp} {g gN gE gG:Nat} {us lb:cd} {sp:Int} {w:LW}
def MC (b:Qm h g us lb gN gE gG sp) (m:LM h gN gE gG w) (u:Nat) (s:Xaa):HC Xaz 95 #[ptr g,.agg #[vI (u:Int),.string s]] h fun v h'=>v=.bool (w.has (u,s))/\Ext h h':=by
 refine bi (args:=[ptr g,.agg #[vI (u:Int),.string s]]) mixed Tryz.func95 aw (re (some ⟨g,0,none⟩) u s) ?_;unfold la bX dZ aK cr;refine bG ?_;intro h1 b1 a z1;have b':=b.ai a aj;have m':=m.ai a aj aj aj;refine aH rfl ?_;rw [aC];refine az b' (some gN,()) (ak ?_);refine az b1 ((u:Int),s,()) (ak ?_);refine HI m'.n u s ?_;refine aH rfl ?_;rw [aC];refine az b' (some gE,()) (ak ?_);refine az b1 ((u:Int),s,()) (ak ?_);refine HI m'.e u s ?_;unfold LW.has;refine ao ?_ ?_<;>intro q
 ·exact ⟨by rw [q]; rfl,a⟩
 ·exact ⟨by rw [q]; rfl,a⟩
def PA (b:Qm h g us lb gN gE gG sp) (m:LM h gN gE gG w) (u:Nat) (s:Xaa):HC Xaz 67 #[ptr g,vI (u:Int),.string s] h fun v h'=>v=.tuple #[Qr ((w.own u s).getD (0,s)),.bool (w.own u s).isSome]/\Ext h h':=by
 refine bi (args:=[ptr g,vI (u:Int),.string s]) mixed Tryz.func67 aw (rc (some ⟨g,0,none⟩) u s) ?_;unfold lB bd bX bK cm aK cr;refine bG ?_;intro h1 b1 n z1;refine bG ?_;intro h2 b2 k z2;have b12:=b1.ai k aj;refine bQ b2 ?_;intro h3 c l z3;have c:bF h3 h1.size 110 [vI (u:Int),.string s]:=c;have e:Ext h h3:=bZ (n.trans k) l;have b13:=b12.ai l (by simp; omega);refine az c ((u:Int),s,()) (ak ?_);refine aJ (MC (b.ai e aj) (m.ai e aj aj aj) u s) ?_;rintro _ r ⟨rfl,d⟩;refine ⟨(w.has (u,s),()),rfl,ak ?_⟩;have e04:=e.trans d;have q3:=c.lt;refine ao ?_ ?_<;>intro q
 ·have f:w.own u s=some (u,s):=by unfold LW.own; rw [Y8 q]
  rw [f];refine az (c.ai d aj) ((u:Int),s,()) (ak ?_);refine bQ (b13.ai d aj) ?_;intro i a j p;have a:bF i h.size 110 [vI (u:Int),.string s]:=a;refine az a ((u:Int),s,()) ?_;exact ⟨rfl,bZ e04 j⟩
 ·have f:w.own u s=(w.gl s).map fun o=>(o,s):=by unfold LW.own; rw [Y1 (by rw [q]; simp)]
  rw [f];refine aH rfl ?_;rw [aC];refine az (b.ai e04 aj) (some gG,()) (ak ?_);refine Er (m.ai e04 aj aj aj).g s ?_;refine bQ (b13.ai d aj) ?_;intro i a j p;have a:bF i h.size 110 [vI (((w.gl s).getD 0:Nat):Int),.string s]:=a;refine az a ((((w.gl s).getD 0:Nat):Int),s,()) ?_;refine ⟨?_,bZ e04 j⟩
  all_goals (cases w.gl s <;> rfl)
def CY (pw:iV h) (b:Qm h g us lb gN gE gG sp) (m:LM h gN gE gG w) (a:Qq w) (u:Nat) (s:Xaa):HC Xaz 47 #[ptr g,.agg #[vI (u:Int),.string s]] h fun v h'=>v=.string (w.word (u,s))/\Ext h h':=by
 refine bi (args:=[ptr g,.agg #[vI (u:Int),.string s]]) mixed Tryz.func47 aw (pM (some ⟨g,0,none⟩) u s) ?_;unfold kM jE bX aK cr;refine bG ?_;intro h1 b1 c z1;have b':=b.ai c aj;have m':=m.ai c aj aj aj;have pw1:=pw.ai c aj;refine aH rfl ?_;rw [aC];refine az b' (some gN,()) (ak ?_);refine az b1 ((u:Int),s,()) (ak ?_);refine HI m'.n u s ?_;unfold LW.word;cases hn:w.num (u,s) with
 | some n =>
  refine cL rfl ?_;have hs:=a.n _ _ hn;refine aJ (Fz pw1 n ad) ?_;rintro _ h2 ⟨rfl,d⟩;refine ⟨(om n,()),rfl,ak ?_⟩
  have:=mu (n:=n) ad
  refine dA ad ?_;exact ⟨rfl,c.trans d⟩
 | none =>
  refine cC rfl ?_;have hs:(w.uV (u,s)).getD 0<=2^50:=by
   cases f:w.uV (u,s) with
   | none=>simp
   | some i=>exact a.e _ _ f
  refine aH rfl ?_;rw [aC];refine az b' (some gE,()) (ak ?_);refine az b1 ((u:Int),s,()) (ak ?_);refine U4 m'.e u s ?_;refine aJ (Fz pw1 _ ad) ?_;rintro _ h2 ⟨rfl,d⟩;refine ⟨(om ((w.uV (u,s)).getD 0),()),rfl,ak ?_⟩;refine ⟨⟨(b1.ai d aj).cells _ rfl,(b'.ai d aj).cells _ rfl,trivial⟩,?_⟩
  have:=mu (n:=(w.uV (u,s)).getD 0) ad
  refine dA ad ?_;exact ⟨rfl,c.trans d⟩
end
end Go.Sx.Ob
namespace Go.Sx.Lk
open Go.Proofs Go.Sx.Ob
def rf {es:List cX} (hn:(bh es).Nodup) {e:cX} (c:e∈es):dH es e.name=e.x:=by
 obtain ⟨d,f,h1,h2⟩:=mY (show e.name∈bh es from Zm c);rw [h2]
 have:∀ l:List cX,(l.map (·.name)).Nodup->d∈l->e∈l->d=e:=by
  intro l
  induction l with
  | nil=>intro _ h; simp at h
  | cons x l g =>
   intro hn f c;rw [ZF,bc9] at hn;rcases Zo.1 f with a | a <;> rcases Zo.1 c with b | b
   ·rw [a,b]
   ·exact (hn.1 (by rw [<- a,h1]; exact Zm b)).elim
   ·exact (hn.1 (by rw [<- b,<- h1]; exact Zm a)).elim
   ·exact g hn.2 a b
 rw [this es hn f c]
def _root_.Go.Sx.Ob.LW.bad (w:LW) (u:Nat) (x:cE):Option Xaa:=(x.ah.find? fun t=>(w.own u t.1).isNone).map (·.1)
def mK (s:Xaa):cE:=⟨[(s,1)],0⟩
def _root_.Go.Sx.Ob.LW.lin (w:LW) (u:Nat) (x:cE):cE:=dC (fun s=>(w.own u s).map fun k=>mK (w.word k)) x
structure FT (x:cE):Prop where
 nf:Nf x.ah
 num:x.num<4294967296
 len:x.ah.length<=2^20
 sz:∀ t,t∈x.ah->t.1.size<=maxLen
def kW {a b:Xaa} (h:iP a b):a≠b:=fun e=>by subst e; exact absurd h (by unfold iP; simp)
def FT.nodup {x:cE} (g:FT x):(x.ah.map (·.1)).Nodup:=by
 rw [az9,Z3];exact g.nf.T9.imp fun h=>kW h
def SA (w:LW) (u:Nat) (x:cE) (h:Hp) (v:Xab) (h':Hp):Prop :=
 Ext h h'/\match w.bad u x with
 | some s=>v=.tuple #[gF none 0 0 Gs,.string s,.bool false]
 | none=>∃ p l c,v=.tuple #[gF p l c (w.lin u x),.string ⟨#[]⟩,.bool true]/\SL h' h.size 66 2 p l c ((w.lin u x).ah.map dh)
def Ir:Tryz.prog.underlying 57=some (.slice 66):=aw
def Ig (s:Xaa) (n:Int):Instr.fill (fun j=>some (j*2,2)) ((Array.range (1*2)).map ((Value.agg #[.string ⟨#[]⟩,.int .u32 0]).cells[· % (Value.agg #[.string ⟨#[]⟩,.int .u32 0]).cells.size]!)) [(0,.agg #[.string s,.int .u32 n])]=some ([.string s,.int .u32 n]:List Xab).toArray:=aw
def Ib (s:Xaa) (p:Xac) (l c:Nat) (n:Int):Instr.fill (fun j=>some (j*3,3)) ((Array.range (1*3)).map ((Value.agg #[.string ⟨#[]⟩,.slice none 0 0,.int .u32 0]).cells[· % (Value.agg #[.string ⟨#[]⟩,.slice none 0 0,.int .u32 0]).cells.size]!)) [(0,.agg #[.string s,.slice p l c,.int .u32 n])]=some ([.string s,.slice p l c,.int .u32 n]:List Xab).toArray:=aw
theorem lY {α:Type} (f:α->Bool):∀ (l:List α) (i:Nat) (hi:i<l.length),(∀ j,(b:j<i)->f (l[j]'ad)=false)->f l[i]=true->l.find? f=some l[i]
 | [],i,hi,_,_=>by simp at hi
 | a::l,0,hi,_,h=>by simp at h; simp [h]
 | a::l,i+1,hi,h0,h=>by
  have c:f a=false:=h0 0 ad;rw [ch9,c];simp only [List.getElem_cons_succ] at h ⊢;exact lY f l i (by simpa using hi) (fun j b=>h0 (j+1) ad) h
def pj {α:Type} (f:α->Bool) (l:List α) (h:∀ j,(a:j<l.length)->f l[j]=false):l.find? f=none:=by
 rw [List.find?_eq_none];intro x b;obtain ⟨j,a,rfl⟩:=Zt b;rw [h j a]
 simp
section
variable {h:Hp} {g gN gE gG:Nat} {us lb:cd} {sp:Int} {w:LW}
def y6 (pw:iV h) (b:Qm h g us lb gN gE gG sp) (m:LM h gN gE gG w) (H:Qq w) (u:Nat) {p:Xac} {l c:Nat} {x:cE} (v:ik h p l x.ah) (P:FT x) :
  HC Xaz 46 #[ptr g,vI (u:Int),gF p l c x] h (SA w u x h):=by
 refine bi (args:=[ptr g,vI (u:Int),gF p l c x]) mixed Tryz.func46 aw (nU (some ⟨g,0,none⟩) u p l c x.num) ?_;unfold jA aY bj bn ay jE bz aT ax bK aS cm aK cr dp;have hll:=v.len;have hxl:=P.len;refine bG ?_;intro h1 b1 e1 z1;refine bG ?_;intro h2 b2 e2 z2;have b12:=b1.ai e2 aj;have e02:=e1.trans e2;refine az b12 ((p,l,c),()) (ak ?_);obtain ⟨ie,hie,hze,hse,hbe⟩:=jV GH;refine df (lU (l:=0) (c:=l) C9 hie hze ad (by rw [hbe]; omega) ad ?_);intro h3 b3 e3 z3;refine ⟨_,_,_,rfl,?_⟩;have e03:=e02.trans e3;have b13:=b12.ai e3 aj;have b23:=b2.ai e3 aj;have s3:SL h3 h2.size 88 3 (some ⟨h2.size,0,none⟩) 0 l (([]:List cX).map AN):=by
  refine ⟨rfl,aj,h2.size,[],_,rfl,Zc _,⟨ad,ad⟩,b3,?_⟩;rw [YY,as9,hse];omega
 refine az b13 ((p,l,c),()) (ak ?_)
 refine aU (cs:=Wx) (fun y m' h'=>∃ (i:Nat) (es:List cX),y.2.2.2.1=(i:Int)/\i<=l/\m'=l-i/\Ch [h2.size] h3 h'/\y.2.2.1.2.1=i/\sC h' h2.size y.2.2.1.1 i y.2.2.1.2.2 es/\(∀ j,(A:j<i)->(hl:j<x.ah.length)->(w.own u x.ah[j].1).isSome=true) /\
   es.map (fun e=>(e.name,e.x))=(x.ah.take i).map (fun t=>(t.1,mK (w.word ((w.own u t.1).getD (0,t.1)))))) ((⟨#[]⟩:Xaa),false,(some ⟨h2.size,0,none⟩,0,l),(0:Int),()) l rfl
  ⟨0,[],rfl,ad,ad,Ch.refl _ _,rfl,⟨s3,aj,List.Pairwise.nil,aj⟩,by intro j A; omega,rfl⟩ ?_
 rintro ⟨s14,b15,⟨p16,l17,l18⟩,n19,⟨⟩⟩ m' h4 ⟨i,es,hi,hil,rfl,o,Q,R,D,s⟩;simp only at hi Q R;subst hi Q;refine ak ?_;have B:Ext h h4:=Ch.trans e03 o (fun i hi hl=>by simp at hi; have:=e1.size; omega);have hel:es.length=l17:=by
  have:=Zg List.length s
  rw [YY,YY,Zi] at this;omega
 have z4:=o.size;have q3:=b3.lt;have q2:=b2.lt;have q1:=b1.lt;refine aP ?_ ?_<;>intro q
 ·have I:l17<x.ah.length:=ad
  obtain ⟨a,ha,hc⟩:=v.cells l17 I;have S:x.ah.take (l17+1)=x.ah.take l17++[x.ah[l17]]:=Y2 I;have hgt:x.ah[l17]=x.ah[l17]:=rfl;generalize J:x.ah[l17]=t at hc S;refine bP ha ?_;rw [cB l17];refine av (t.1,(t.2:Int),()) (aX B aj _ _ hc) (ak ?_);refine bG ?_;intro h5 b5 U z5;refine bQ b5 ?_;intro h6 E k6 z6;have E:bF h6 h4.size 66 [.string t.1,.int .u32 (t.2:Int)]:=E;have V:Ext h4 h6:=bZ U k6;have e06:=B.trans V;refine az E (t.1,()) (ak ?_);refine aJ (PA (b.ai e06 aj) (m.ai e06 aj aj aj) u t.1) ?_;rintro _ h7 ⟨rfl,e7⟩;generalize hk:(w.own u t.1).getD (0,t.1)=ky;refine ⟨((ky.1:Int),ky.2,(w.own u t.1).isSome,()),rfl,ak ?_⟩;refine bG ?_;intro h8 b8 e8 z8;refine bQ b8 ?_;intro h9 W k9 z9;have W:bF h9 h7.size 110 [vI (ky.1:Int),.string ky.2]:=W;have e79:Ext h7 h9:=bZ e8 k9;have e69:=e7.trans e79;have e49:=V.trans e69;have e09:=B.trans e49;have b69:=E.ai e69 aj;have q6:=E.lt;have q7:=e7.size;have q9:=W.lt;refine ao ?_ ?_<;>intro r
  ·have r:(w.own u t.1).isSome=false:=by simpa using r
   refine az b69 (t.1,()) (ak ?_);refine bQ ((b23.ai o (by simp; omega)).ai e49 aj) ?_;intro k K X z10;have K:bF k h1.size 60 [.slice none 0 0,.int .u32 0]:=K;refine ⟨⟨(b69.ai X (by simp; omega)).cells _ rfl,trivial⟩,?_⟩;refine az K ((none,0,0),(0:Int),()) ?_;refine ⟨bZ e09 X,?_⟩;have hb:w.bad u x=some t.1:=by
    unfold Ob.LW.bad;rw [lY _ x.ah l17 I (fun j A=>by simpa using D j A ad) (by rw [J]; simpa using r),J] <;> rfl
   rw [hb] <;> rfl
  ·have r:(w.own u t.1).isSome=true:=by simpa using r
   refine az b69 (t.1,()) (ak ?_);refine az W ((ky.1:Int),ky.2,()) (ak ?_);refine aJ (CY (pw.ai e09 aj) (b.ai e09 aj) (m.ai e09 aj aj aj) H ky.1 ky.2) ?_;rintro _ k ⟨rfl,F⟩;refine ⟨(w.word (ky.1,ky.2),()),rfl,ak ?_⟩;have b6a:=b69.ai F aj;have b9a:=W.ai F aj;have q10:=F.size;refine ⟨⟨b6a.cells _ rfl,trivial⟩,?_⟩;refine mF Ir rp ad ad (Ig _ _) ?_;intro h11 b11 L z11;have b6b:=b6a.ai L aj;have b9b:=b9a.ai L aj;refine ⟨⟨b9b.cells _ rfl,b6b.cells _ rfl,trivial⟩,?_⟩;have e411:=(e49.trans F).trans L;have o11:=R.ai e411 aj;have q11:=e411.size;refine gn (e:=88) (z:=.agg #[.string ⟨#[]⟩,.slice none 0 0,.int .u32 0]) (sz:=3) (by':=48) C9 GH rfl ad ad (Ib _ _ _ _ _) rfl rfl o11.out ad ad ad (fun h' e=>⟨(b9b.ai e aj).cells _ rfl,(b6b.ai e aj).cells _ rfl,trivial⟩) ?_;intro p' c' h12 s12 G Y;have hq:∀ i,i∈aF p16->(i=h2.size\/h3.size<=i)/\i<h4.size:=fun i hi=>by have:=R.out.cj hi; omega
   have Z:Ch [h2.size] h3 h12:=Ch.trans (o.trans (e411.mono aj) (fun i hi hl=>hi)) G (fun i hi hl=>by have:=hq i hi; simp; omega);have M:∀ i,h4.size<=i->i∉aF p16:=fun i h1 h2=>by have:=hq i h2; omega
   refine ⟨⟨(b9b.ai G (M _ ad)).cells _ rfl,(b6b.ai G (M _ ad)).cells _ rfl,trivial⟩,?_⟩;have hm:SL h11 h2.size 66 2 (some ⟨k.size,0,none⟩) 1 1 ((mK (w.word ky)).ah.map dh) :=
    ⟨rfl,fun y hy=>by rw [Zh.1 hy]; rfl,k.size,[],[],rfl,ad,⟨ad,ad⟩,b11,by simp [mK]⟩
   have o12:sC h12 h2.size p' (l17+1) c' (es++[⟨t.1,some ⟨k.size,0,none⟩,1,1,mK (w.word ky)⟩]):=by
    refine o11.push (m:=⟨t.1,some ⟨k.size,0,none⟩,1,1,mK (w.word ky)⟩) hm (fun i hi=>?_) (by rw [Za]; exact s12) G (fun i hi=>?_)
    ·have hi:i=k.size:=by simpa [aF] using hi
     subst hi;refine ⟨fun y hy j A=>?_,M _ ad⟩
     have:=((R.fI y hy).cj A).2
     omega
    ·rcases Y with rfl | ⟨a',rfl,ha'⟩
     ·exact .inl hi
     ·simp [aF] at hi; right; omega
   have hw:=iC l17;rw [hw];refine aG (cs:=Wx) (s14,b15,(p',l17+1,c'),((l17+1:Nat):Int),()) (l-(l17+1)) rfl ad rfl
    ⟨l17+1,_,rfl,ad,rfl,Z,rfl,o12,fun j A hjl=>?_,?_⟩
   ·by_cases hjl':j<l17
    ·exact D j hjl' hjl
    ·have:j=l17:=ad
     subst this;rw [J]; exact r
   ·rw [Za,s,S,Za];simp only [List.map_cons,List.map_nil];rw [hk]
 ·have hi:l17=x.ah.length:=ad
  subst hi;have s:es.map (fun e=>(e.name,e.x))=x.ah.map (fun t=>(t.1,mK (w.word ((w.own u t.1).getD (0,t.1))))):=by rw [s,Zu (Zc _)]
  have hnm:bh es=x.ah.map (·.1):=by
   have:=Zg (List.map (·.1)) s
   rw [Zs,Zs] at this;exact this
  have d:∀ e,e∈es->∃ t,t∈x.ah/\e.name=t.1/\e.x=mK (w.word ((w.own u t.1).getD (0,t.1))):=by
   intro e f
   have:(e.name,e.x)∈es.map (fun e=>(e.name,e.x)):=Zm f
   rw [s] at this;obtain ⟨t,C,N⟩:=Y9.1 this;rw [Prod.mk.injEq] at N;exact ⟨t,C,N.1.symm,N.2.symm⟩
  have hwsz:∀ ky:Ky,(w.word ky).size<=maxLen:=by
   intro ky;unfold LW.word;have hsz:∀ (a:Xaa) n,n<=2^50->a.size=1->(a++om n).size<=maxLen:=fun a n hn ha=>by
    rw [be9,ha]
    have:=mu (n:=n) ad
    unfold maxLen;omega
   split
   ·rename_i n hn;exact hsz _ _ (H.n _ _ hn) rfl
   ·refine hsz _ _ ?_ rfl;cases f:w.uV ky with
    | none=>simp
    | some i=>exact H.e _ _ f
  have eo:EqsOk es:=⟨by rw [hnm]; exact P.nodup,ad,fun e f=>by obtain ⟨t,C,h1,_⟩:=d e f; rw [h1]; exact P.sz t C,
   fun e f=>by obtain ⟨t,C,_,h1⟩:=d e f; rw [h1]; show 1<=2^40; decide,
   fun e f t' O=>by
    obtain ⟨t,C,_,h1⟩:=d e f;rw [h1] at O;rw [Zh.1 O];exact hwsz _⟩
  refine az ((b13).ai o (by simp; omega)) ((p,l,c),(x.num:Int),()) ?_;refine ak ?_;have ve:=DO R;have htot:(es.flatMap (·.x.ah)).length<=2^39:=by
   have:∀ l:List cX,(∀ e,e∈l->e.x.ah.length=1)->(l.flatMap (·.x.ah)).length=l.length:=by
    intro l
    induction l with
    | nil=>intro _; rfl
    | cons a l ih=>intro hl; rw [ZN,Y0,ih (fun e f=>hl e (by simp [f])),hl a aj,Z1,Nat.add_comm]
   rw [this es (fun e f=>by obtain ⟨t,C,_,h1⟩:=d e f; rw [h1]; rfl)];omega
  refine aJ (NP (v.ai B aj) ve eo (fun e f=>by obtain ⟨t,C,_,h1⟩:=d e f; rw [h1]; show 1<=2^20; decide) htot ad hxl P.sz) ?_;rintro _ h5 ⟨⟨p',l',c',rfl,s5⟩,U⟩;have hlin:nJ (dC (cF es) x) vQ=w.lin u x:=by
   rw [zk (ft _ _) (mW P.num)];unfold Ob.LW.lin;refine qS (fun t C=>?_);have hin:t.1∈bh es:=by rw [hnm]; exact Zm C
   obtain ⟨j,A,rfl⟩:=Zt C;have hoj:=D j ad A;obtain ⟨ky,hky⟩:=ZZ.1 hoj;unfold cF;rw [Y8 ((eP es _).2 hin),hky];obtain ⟨e,f,hen⟩:=Y9.1 hin;obtain ⟨t',O,h1,h2⟩:=d e f;rw [<- hen,rf eo.nodup f,h2,<- h1,hen,hky] <;> rfl
  rw [hlin] at s5 ⊢;refine ⟨((p',l',c'),((w.lin u x).num:Int),()),rfl,ak ?_⟩;have q5:=U.size;refine bQ ((b23.ai o (by simp; omega)).ai U aj) ?_;intro h6 E k6 z6;have E:bF h6 h1.size 60 [.slice p' l' c',.int .u32 ((w.lin u x).num:Int)]:=E;refine az E ((p',l',c'),((w.lin u x).num:Int),()) ?_;refine ⟨bZ (B.trans U) k6,?_⟩;have hb:w.bad u x=none:=by
   unfold Ob.LW.bad;rw [pj _ x.ah (fun j A=>by simpa using D j ad A)] <;> rfl
  rw [hb];exact ⟨p',l',c',rfl,(s5.br k6 (fun j A=>by have:=(s5.cj A).1; simp; omega)).mono ad⟩
end
end Go.Sx.Lk
