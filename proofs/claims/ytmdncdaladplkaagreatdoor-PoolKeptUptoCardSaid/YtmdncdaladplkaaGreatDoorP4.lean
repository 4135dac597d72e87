/- Contracts over heaps, part 4. Condition: as each statement says. -/
import Derived.Test.YtmdncdaladplkaaGreatDoorP3
import Derived.Test.YtmdncdaladplkaaGreatDoorSxK
import Derived.Test.YtmdncdaladplkaaGreatDoorBtE
set_option linter.all false
set_option maxRecDepth 100000
set_option maxHeartbeats 4000000
namespace Go.Sx
open Go.Proofs
def yQ (es:List cV) (s:Xaa):Option tE:=((lx es s).bind λk=>es[k]?).map λe=>⟨e.p,e.l,e.c,e.x⟩
def yX {es:List cV} {s:Xaa} {y:tE} (h:yQ es s=some y):∃ e,e∈es/\e.name=s/\y=⟨e.p,e.l,e.c,e.x⟩/\dC es s=e.x:=by
 unfold yQ at h;cases a:lx es s with
 | none=>rw [a] at h; cases h
 | some k =>
  obtain ⟨hk,h1,h2⟩:=pZ a;rw [a,do9,ad9 hk] at h;exact ⟨_,ah9 hk,h1,(bb9 h).symm,h2⟩
def MK {es:List cV} {e:cV} (hn:∀ d,d∈es->d.name≠e.name):yQ (es++[e])=dW (yQ es) e.name ⟨e.p,e.l,e.c,e.x⟩:=by
 funext s
 unfold yQ;rw [HO hn]
 by_cases h:s=e.name
 ·subst h;rw [cK,cK,do9,bp9 ad]
  simp
 ·rw [cn _ _ h,cn _ _ h];cases a:lx es s with
  | none=>rfl
  | some k =>
   obtain ⟨hk,_,_⟩:=pZ a;rw [do9,do9,bw9 hk]
def cF (es:List cV) (s:Xaa):Option bK:=if cE es s=true then some (dC es s) else none
def Xu (es:List cV):(λs=>(yQ es s).map (·.x))=cF es:=by
 funext s
 unfold cF cE;cases a:lx es s with
 | none=>simp [yQ,a]
 | some k =>
  obtain ⟨hk,_,h2⟩:=pZ a;simp only [Option.isSome_some,if_true];rw [h2];unfold yQ;rw [a,do9,ad9 hk] <;> rfl
def PC {h:Hp} {p:Xac} {l c:Nat} {x:bK} (v:iA h p l x.af) {q:Xac} {m d:Nat} {es:List cV} (u:vQ h q m es) (L:EqsOk es) (het:∀ e,e∈es->e.x.af.length<=2^20) (htot:(es.flatMap (·.x.af)).length<=2^39) (hlen:es.length<=2^20) (Q:x.af.length<=2^20) (r:∀ t,t∈x.af->t.1.size<=maxLen) :
  HC Xaz 38 #[iD p l c x,.slice q m d] h λw h'=>(∃ p' l' c',w=iD p' l' c' (nS (dB (cF es) x) vZ)/\SL h' h.size 64 2 p' l' c' ((nS (dB (cF es) x) vZ).af.map cT))/\Ext h h':=by
 refine aX (args:=[iD p l c x,.slice q m d]) mixed Tryz.func38 av (FC p l c x.num q m d) ?_;unfold Em aR aY bz aK cv dp aE bm bZ aS;have hll:=u.len;refine bn ?_;intro h1 b1 e1 z1;refine bn ?_;intro h2 b2 e2 z2;refine zX (en:=eL) ?_;intro h3 m3 R z3;have b13:=(b1.aj e2 ai).aj R ai;have b23:=b2.aj R ai;have e03:=(e1.trans e2).trans R;refine aM (cs:=cz) (λy w h'=>∃ (i n:Nat),y.1=(i:Int)/\i<=es.length/\w=es.length-i/\eu eL h' h2.size (yQ (es.take i)) n/\Ch [h2.size] h3 h') ((0:Int),()) es.length rfl
  ⟨0,0,rfl,ad,ad,m3,Ch.refl _ _⟩ ?_
 rintro ⟨n5,⟨⟩⟩ w h4 ⟨i,n,hi,hile,rfl,S,A⟩;simp only at hi;subst hi;refine ak ?_;have b:Ext h h4:=bS e03 A;have hz4:=A.size;refine aI ?_ ?_<;>intro g1
 ·have f:i<es.length:=ad
  refine eS ?_;obtain ⟨a,ha,hc⟩:=(u.aj b).cells i f;refine aF ha ?_;rw [cg i];have C:es.take (i+1)=es.take i++[es[i]]:=af9 f;have hsz:=L.sz es[i] (ah9 f);have D:∀ d,d∈es.take i->d.name≠es[i].name:=by
   intro d E o;obtain ⟨j,F,rfl⟩:=bh9 E;rw [au9] at F;rw [List.getElem_take] at o;have hn:(es.map (·.name)).Nodup:=L.nodup;exact dv9.1 hn j i (by rw [ab9]; omega) (by rw [ab9]; omega) ad (by simpa using o)
  generalize es[i]=e at hc C hsz D;refine ar (e.name,(e.p,e.l,e.c),(e.x.num:Int),()) hc (ak ?_);refine bn ?_;intro h5 b5 G z5;refine bJ b5 ?_;intro h6 b6 k6 z6;have b6:br h6 h4.size 116 [.string e.name,.slice e.p e.l e.c,.int .u32 e.x.num]:=b6;have H:Ext h4 h6:=bS G k6;refine ay b6 (e.name,()) (ak ?_);rw [aw];refine ay b6 ((e.p,e.l,e.c),(e.x.num:Int),()) (ak ?_);refine Pb (S.aj H ai) hsz ⟨e.p,e.l,e.c,e.x⟩ ?_;intro h7 m7 M z7;have hw:=gK i;refine aC (cs:=cz) (((i+1:Nat):Int),()) (es.length-(i+1)) rfl ad (as9 (λz=>[Value.int .i64 z]) hw) ⟨i+1,_,rfl,ad,rfl,by rw [C,MK D]; exact m7,Ch.trans (Ch.trans A H ai) M (λj F _=>F)⟩
 ·have U:es.take i=es:=bo9 ad;rw [U] at S;have b14:=b13.aj A (by simp; omega);have b24:=b23.aj A (by simp; omega);refine ay b14 ((p,l,c),(x.num:Int),()) (ak ?_);have mL:Jy h4 h2.size (yQ es) n:=⟨S,λs y g=>by
   obtain ⟨e,o,_,rfl,_⟩:=yX g;exact (u.fF e o).aj b ai⟩
  have k:∀ s y,yQ es s=some y->y.x.af.length<=2^20:=λs y g=>by
   obtain ⟨e,o,_,rfl,_⟩:=yX g;exact het e o
  have hz0:=b.size
  refine aG (GQ (c:=c) (v.aj b ai) mL ad r (λs y g=>⟨by have:=k s y g; omega,by
    obtain ⟨e,o,_,rfl,_⟩:=yX g;exact L.ts e o⟩) ?_) ?_
  ·have:=rA (of:=λs=>(yQ es s).map (·.x)) (B:=2^20) ad (λs y g=>by
    cases V:yQ es s with
    | none=>simp only [V] at g; cases g
    | some z =>
     simp only [V,Option.map_some,Option.some.injEq] at g;rw [<- g]; exact k s z V) x.af
   exact cd9 this (cd9 (cz9 _ Q) bH)
  ·rintro _ h5 ⟨⟨p5,l5,c5,rfl,W⟩,G⟩;rw [Xu] at W ⊢;have X:(dB (cF es) x).af.length<=2^40:=by
    have hn:=eQ (cF es) x;have h1:((dB (cF es) x).af.map (·.1)).Nodup:=cs9.2 (hn.1.imp λh=>ko h);have h2:=kJ ((dB (cF es) x).af.map (·.1)) ((x.af++es.flatMap (·.x.af)).map (·.1)) h1 (λs hs=>by
     obtain ⟨t,ht,rfl⟩:=ap9.1 hs;rcases qC ht with ⟨p,I,e,_⟩ | ⟨p,y,u,I,ho,J,e⟩
     ·rw [<- e]; exact ay9 (be9 _ I)
     ·rw [<- e];refine ay9 (bi9 _ ?_);unfold cF at ho
      by_cases hw:cE es p.1=true
      ·rw [ag9 hw] at ho;obtain ⟨d,E,_,Y⟩:=lj ((dY es _).1 hw);have ho:=bb9 ho;rw [<- ho,Y] at J;exact ff9.2 ⟨d,E,J⟩
      ·rw [ac9 hw] at ho; cases ho)
    rw [ab9,ab9,ae9] at h2;omega
   refine ⟨((p5,l5,c5),((dB (cF es) x).num:Int),()),rfl,ak ?_⟩;have K:∀ t,t∈(dB (cF es) x).af->t.1.size<=maxLen:=by
    intro t ht;rcases qC ht with ⟨p,I,e,_⟩ | ⟨p,y,u,I,ho,J,e⟩
    ·rw [<- e]; exact r p I
    ·unfold cF at ho
     by_cases hw:cE es p.1=true
     ·rw [ag9 hw] at ho;obtain ⟨d,E,_,Y⟩:=lj ((dY es _).1 hw);have ho:=bb9 ho;rw [<- ho,Y] at J;rw [<- e]; exact L.ts d E u J
     ·rw [ac9 hw] at ho; cases ho
   have ha:=WQ (h:=h5) (p:=p5) (q:=none) (l:=l5) (c:=c5) (m:=0) (d:=0) (x:=dB (cF es) x) (y:=vZ) (ym W) ⟨rfl,λi hi=>by simp [vZ] at hi⟩ (λi hi=>(W.cj hi).2) (λi hi=>by simp [ax] at hi) (by simpa [vZ] using X) K (λt ht=>by simp [vZ] at ht);refine aG ha ?_;rintro _ h6 ⟨e6,N,O,P,rfl,s6⟩;refine ⟨((N,O,P),((nS (dB (cF es) x) vZ).num:Int),()),rfl,ak ?_⟩;have b6:=(b24.aj G ai).aj e6 ai;have hz5:=G.size;refine bJ b6 ?_;intro h7 Z M z7;have Z:br h7 h1.size 53 [.slice N O P,.int .u32 ((nS (dB (cF es) x) vZ).num:Int)]:=Z;refine ay Z ((N,O,P),((nS (dB (cF es) x) vZ).num:Int),()) ?_;have e06:=(b.trans G).trans e6;exact ⟨⟨N,O,P,rfl,(s6.bf M (λj F=>by have:=(s6.cj F).1; simp; omega)).mono ad⟩,bS e06 M⟩
def zC {x:bK} (h:Nf x.af) (hn:x.num<4294967296):nS x vZ=x:=by
 unfold nS vZ;simp only [List.append_nil,Nat.add_zero,G2 h,Nat.mod_eq_of_lt hn]
end Go.Sx
namespace Go.Sx.Ob
open Go.Proofs
abbrev Ky:=Nat × Xaa
def FY (k:Ky):Xab:=.agg #[vI (k.1:Int),.string k.2]
def Pw (b:Bool) (n:Int) (s:Xaa) (h:Hp) (K:Unit->Hp->Prop):aQ Xaz (Instr.checkKey b 10000 121 (.agg #[vI n,.string s])) h K=K () h:=av
def Pe:Tryz.prog.underlying 121=some (.struct (wJ Xaz 121)):=av
def WV:Tryz.prog.stoodInHeld 121=false:=av
def YY (n m:Int) (s t:Xaa):(wJ Xaz 121).all (okF Xaz #[vI n,.string s] #[vI m,.string t])=true:=av
def X7 (n m:Int) (s t:Xaa):(wJ Xaz 121).all (IB #[vI n,.string s] #[vI m,.string t])=(n==m && (s==t && true)):=by
 rw [<- df9]
 kernel_rfl
def kyT:yC Xaz 121 FY where
 check b a h K hk:=by rw [show FY a=.agg #[vI (a.1:Int),.string a.2] from rfl,Pw]; exact hk
 kind:=⟨_,Pe,λa b=>rfl⟩
 eqv a b h K hk:=by
  show aQ Xaz (Op.equal 121 (.agg #[vI (a.1:Int),.string a.2]) (.agg #[vI (b.1:Int),.string b.2])) h K;rw [ij Pe WV (YY _ _ _ _),X7];have e:decide (a=b)=(((a.1:Nat):Int)==((b.1:Nat):Int) && (a.2==b.2 && true)):=by
   obtain ⟨c,d⟩:=a;obtain ⟨b1,f⟩:=b;show decide ((c,d)=(b1,f))=(((c:Nat):Int)==((b1:Nat):Int) && (d==f && true));rw [sV,di9];simp only [Prod.mk.injEq]
   by_cases h1:c=b1
   ·by_cases h2:d=f
    ·simp [h1,h2]
    ·simp [h1,h2]
   ·have:¬ ((c:Nat):Int)=b1:=ad
    simp only [h1,false_and,decide_false]
    have:(((c:Nat):Int)==((b1:Nat):Int))=false:=by simpa using this
    rw [this,Bool.false_and]
  rw [<- e];exact hk
 bits a:=by
  show ((2:Nat)==2 && _)=true;simp [Instr.sameBits,FY,sV]
 inj a b h:=by
  obtain ⟨c,d⟩:=a;obtain ⟨b1,f⟩:=b;simp only [FY,Value.agg.injEq,Array.mk.injEq,List.cons.injEq,Value.int.injEq,Value.string.injEq,and_true,true_and] at h;rw [Prod.mk.injEq];exact ⟨ad,h.2⟩
def SL.part {P:Program} {L:Lp} {K:Xab->Hp->Prop} {k:T} {h:Hp} {b:Nat} {e:TypeId} {sz:Nat} {p:Xac} {l c:Nat} {xs:List (List Xab)} (s:SL h b e sz p l c xs) {i:Nat} (hi:i<xs.length) {vs:List Xab} {o:Nat} (D:o+vs.length<=sz)
  (u:vs.all df=true) {a:Xax} (w:p=some a) (hk:∀ h',SL h' b e sz p l c (xs.set i (iw xs[i] o vs))->Ch (ax p) h h'->h'.size=h.size->k L K h'):T.aD ((a.add (i*sz)).add o) vs k L K h:=by
 subst w;obtain ⟨g,d,rest,rfl,q,r,f,y⟩:=s.2.2;have t:xs[i].length=sz:=s.2.1 _ (ah9 hi);have j:(xs.take i).flatten.length=i*sz:=by
  rw [dy _ (λx j=>s.2.1 x (cy9 j)),au9,cp9 ad]
 have z:xs[i]=xs[i].take o++((xs[i].drop o).take vs.length++xs[i].drop (o+vs.length)):=by
  rw [<- fo9,cc9,cc9]
 have e0:xs.flatten=(xs.take i).flatten++(xs[i]++(xs.drop (i+1)).flatten):=by
  conv=>lhs; rw [<- cc9 i xs,ax9 hi]
  rw [fb9,er9]
 have A:d++(xs.flatten++rest)=(d++(xs.take i).flatten++xs[i].take o)++((xs[i].drop o).take vs.length++(xs[i].drop (o+vs.length)++((xs.drop (i+1)).flatten++rest))):=by
  rw [e0]
  conv=>lhs; rw [z]
  simp only [List.append_assoc]
 have ml:iw xs[i] o vs=xs[i].take o++(vs++xs[i].drop (o+vs.length)):=by rw [ig _ _ _ ad,az9]
 have B:(xs.set i (iw xs[i] o vs)).flatten=(xs.take i).flatten++((iw xs[i] o vs)++(xs.drop (i+1)).flatten):=by
  rw [List.set_eq_take_append_cons_drop,ag9 hi]
  simp
 rw [A] at f;rw [aw,aw];have m:(d++(xs.take i).flatten++xs[i].take o).length=d.length+i*sz+o:=by rw [ae9,ae9,j,au9,cp9 ad]
 rw [<- m];refine cG f u (by simp; omega) ?_;intro h' n k' C;rw [AN (by rw [au9,bs9]; omega)] at n;refine hk h' ⟨by rw [cv9]; exact s.1,λx j=>?_,g,d,rest,rfl,q,r,?_,y⟩ (by simpa [ax] using k') C
 ·rcases dk9 j with j | rfl
  ·exact s.2.1 x j
  ·rw [jg]; exact t
 ·rw [B,ml];simpa [List.append_assoc] using n
def Ma:Tryz.prog.underlying 104=some (.map 121 3):=av
def VO:(Tryz.prog.info? 3).bind (·.zero)=some (vI 0):=av
abbrev IK (h:Hp) (g:Nat) (f:Ky->Option Nat) (n:Nat):Prop:=jA FY eI h g f n
section
variable {L:Lp} {K:Xab->Hp->Prop} {h:Hp} {g n:Nat} {f:Ky->Option Nat}
def IQ (m:IK h g f n) (u:Nat) (s:Xaa) {k:Int->Bool->T} (hk:k (((f (u,s)).getD 0:Nat):Int) (f (u,s)).isSome L K h):T.dP Xaz (Instr.lookup 104 (.map (some g)) (.agg #[vI (u:Int),.string s]) true) true [(false,[.int .i64]),(false,[.bool])] k L K h:=by
 obtain ⟨D,m,a,hn⟩:=m;show aQ Xaz (Instr.lookup 104 (.map (some g)) (FY (u,s)) true) h _;refine sY kyT Ma VO m (u,s) true _ ?_;refine ⟨((((f (u,s)).getD 0:Nat):Int),(f (u,s)).isSome,()),?_,hk⟩;rw [ag9 rfl,uc,a (u,s)]
 all_goals (cases f (u,s) <;> rfl)
variable {H:Int->T}
def XG (m:IK h g f n) (u:Nat) (s:Xaa) (hk:H (((f (u,s)).getD 0:Nat):Int) L K h):T.dP Xaz (Instr.lookup 104 (.map (some g)) (.agg #[vI (u:Int),.string s]) false) false [(false,[.int .i64])] H L K h:=by
 obtain ⟨D,m,a,hn⟩:=m;show aQ Xaz (Instr.lookup 104 (.map (some g)) (FY (u,s)) false) h _;refine sY kyT Ma VO m (u,s) false _ ?_;refine ⟨((((f (u,s)).getD 0:Nat):Int),()),?_,hk⟩;simp only [Bool.false_eq_true,if_false];rw [uc,a (u,s)]
 all_goals (cases f (u,s) <;> rfl)
def VL (m:IK h g f n) (u:Nat) (s:Xaa) {v:Int} {w:Nat} (hv:v=(w:Int)) {k:T} (hk:∀ h',IK h' g (uF f (u,s) w) (if (f (u,s)).isSome then n else n+1)->Ch [g] h h'->h'.size=h.size->k L K h') :
  T.fI Xaz (Instr.mapUpdate 104 (.map (some g)) (.agg #[vI (u:Int),.string s]) (vI v)) k L K h:=by
 subst hv;exact L6 (en:=eI) kyT Ma m (u,s) w hk
def Za (m:IK h g f n) (hk:H (n:Int) L K h):T.dP Xaz (Builtin.len_ #[104] 3 #[.map (some g)]) false [(false,[.int .i64])] H L K h:=by
 obtain ⟨D,m,e,hn⟩:=m;obtain ⟨es,clock,b,c,d⟩:=m;have a:es.size=n:=by
  have:=as9 List.length c
  simp only [List.length_map,Array.length_toList] at this;omega
 show aQ _ _ _ _;unfold Builtin.len_;simp only [List.getElem?_toArray,List.getElem?_cons_zero];rw [an,az Ma];simp only [pure_bind];rw [an];refine gU b ai _ ?_;simp only [pure_bind];exact ⟨((n:Int),()),by rw [a]; rfl,hk⟩
end
def mj (n:Nat):Xaa:=⟨(Lib.itoa (n:Int)).toArray⟩
def Gt {h:Hp} (p:eU h) (n:Nat) (hn:n<=2^60):HC Xaz 59 #[vI n] h λv h'=>v=.string (mj n)/\Ext h h':=by
 intro W a;subst a;refine (Tryz.strconv_Itoa n ad ad W (Kx av p)).mono ?_;rintro e w' ⟨b,k,os,rfl⟩;refine ⟨_,b,⟨rfl,rfl,rfl⟩,rfl,?_⟩;refine ⟨by show W.heap.size<=(W.heap++os).size; simp,λi hi _=>?_⟩;show (W.heap++os)[i]?=_;rw [Array.getElem?_append_left hi]
def mS {n:Nat} (hn:n<=2^60):(mj n).size<=1000:=by
 show (Lib.itoa (n:Int)).toArray.size<=1000
 have:=Lib.itoa_length_le (n:Int) ad ad
 simp
 omega
structure Lb where
 u:Nat
 s:Nat
 i:Nat
 n:Xaa
deriving DecidableEq
def RF (x:Lb):List Xab:=[vI (x.u:Int),vI (x.s:Int),vI (x.i:Int),.string x.n]
structure LW where
 lb:List Lb
 num:Ky->Option Nat
 nn:Nat
 tA:Ky->Option Nat
 ne:Nat
 gl:Xaa->Option Nat
 ng:Nat
def VI:LW:=⟨[],λ_=>none,0,λ_=>none,0,λ_=>none,0⟩
def LW.has (w:LW) (k:Ky):Bool:=(w.num k).isSome || (w.tA k).isSome
def LW.own (w:LW) (u:Nat) (s:Xaa):Option Ky:=if w.has (u,s) then some (u,s) else (w.gl s).map λo=>(o,s)
def LW.word (w:LW) (k:Ky):Xaa:=match w.num k with
 | some n=>(⟨#[76]⟩:Xaa)++mj n
 | none=>(⟨#[69]⟩:Xaa)++mj ((w.tA k).getD 0)
structure LM (h:Hp) (gN gE gG:Nat) (w:LW):Prop where
 n:IK h gN w.num w.nn
 e:IK h gE w.tA w.ne
 g:eu eI h gG w.gl w.ng
def LM.aj {ws:List Nat} {h h':Hp} {gN gE gG:Nat} {w:LW} (m:LM h gN gE gG w) (k:Ch ws h h') (h1:gN∉ws) (h2:gE∉ws) (a:gG∉ws):LM h' gN gE gG w :=
 ⟨m.n.aj k h1,m.e.aj k h2,m.g.aj k a⟩
structure RO (w:LW):Prop where
 n:∀ k i,w.num k=some i->i<=2^50
 e:∀ k i,w.tA k=some i->i<=2^50
abbrev SR (h:Hp) (g:Nat) (us lb:bC) (gN gE gG:Nat) (sp:Int):Prop:=br h g 108 [us.v,lb.v,.map (some gN),.map (some gE),.map (some gG),.slice none 0 0,vI sp]
section
variable {h:Hp} {g gN gE gG:Nat} {us lb:bC} {sp:Int} {w:LW}
def Og (b:SR h g us lb gN gE gG sp) (m:LM h gN gE gG w) (u:Nat) (s:Xaa):HC Xaz 85 #[ptr g,.agg #[vI (u:Int),.string s]] h λv h'=>v=.bool (w.has (u,s))/\Ext h h':=by
 refine aX (args:=[ptr g,.agg #[vI (u:Int),.string s]]) mixed Tryz.func85 av (ry (some ⟨g,0,none⟩) u s) ?_;unfold lN dp fR aS cH;refine bn ?_;intro h1 c a z1;have b':=b.aj a ai;have m':=m.aj a ai ai ai;refine aF rfl ?_;rw [aw];refine ay b' (some gN,()) (ak ?_);refine ay c ((u:Int),s,()) (ak ?_);refine IQ m'.n u s ?_;refine aF rfl ?_;rw [aw];refine ay b' (some gE,()) (ak ?_);refine ay c ((u:Int),s,()) (ak ?_);refine IQ m'.e u s ?_;unfold LW.has;refine ao ?_ ?_<;>intro q
 ·exact ⟨by rw [q]; rfl,a⟩
 ·exact ⟨by rw [q]; rfl,a⟩
def RI (b:SR h g us lb gN gE gG sp) (m:LM h gN gE gG w) (u:Nat) (s:Xaa):HC Xaz 58 #[ptr g,vI (u:Int),.string s] h λv h'=>v=.tuple #[FY ((w.own u s).getD (0,s)),.bool (w.own u s).isSome]/\Ext h h':=by
 refine aX (args:=[ptr g,vI (u:Int),.string s]) mixed Tryz.func58 av (rq (some ⟨g,0,none⟩) u s) ?_;unfold lZ bj dp bR bZ aS cH;refine bn ?_;intro h1 n p z1;refine bn ?_;intro h2 r k z2;have b12:=n.aj k ai;refine bJ r ?_;intro h3 c l z3;have c:br h3 h1.size 121 [vI (u:Int),.string s]:=c;have e:Ext h h3:=bS (p.trans k) l;have b13:=b12.aj l (by simp; omega);refine ay c ((u:Int),s,()) (ak ?_);refine aG (Og (b.aj e ai) (m.aj e ai ai ai) u s) ?_;rintro _ x ⟨rfl,d⟩;refine ⟨(w.has (u,s),()),rfl,ak ?_⟩;have e04:=e.trans d;have q3:=c.lt;refine ao ?_ ?_<;>intro q
 ·have f:w.own u s=some (u,s):=by unfold LW.own; rw [ag9 q]
  rw [f];refine ay (c.aj d ai) ((u:Int),s,()) (ak ?_);refine bJ (b13.aj d ai) ?_;intro i a j t;have a:br i h.size 121 [vI (u:Int),.string s]:=a;refine ay a ((u:Int),s,()) ?_;exact ⟨rfl,bS e04 j⟩
 ·have f:w.own u s=(w.gl s).map λo=>(o,s):=by unfold LW.own; rw [ac9 (by rw [q]; simp)]
  rw [f];refine aF rfl ?_;rw [aw];refine ay (b.aj e04 ai) (some gG,()) (ak ?_);refine Fh (m.aj e04 ai ai ai).g s ?_;refine bJ (b13.aj d ai) ?_;intro i a j t;have a:br i h.size 121 [vI (((w.gl s).getD 0:Nat):Int),.string s]:=a;refine ay a ((((w.gl s).getD 0:Nat):Int),s,()) ?_;refine ⟨?_,bS e04 j⟩
  all_goals (cases w.gl s <;> rfl)
def DH (pw:eU h) (b:SR h g us lb gN gE gG sp) (m:LM h gN gE gG w) (a:RO w) (u:Nat) (s:Xaa):HC Xaz 35 #[ptr g,.agg #[vI (u:Int),.string s]] h λv h'=>v=.string (w.word (u,s))/\Ext h h':=by
 refine aX (args:=[ptr g,.agg #[vI (u:Int),.string s]]) mixed Tryz.func35 av (pS (some ⟨g,0,none⟩) u s) ?_;unfold ly fo dp aS cH;refine bn ?_;intro h1 f c z1;have b':=b.aj c ai;have m':=m.aj c ai ai ai;have pw1:=pw.aj c ai;refine aF rfl ?_;rw [aw];refine ay b' (some gN,()) (ak ?_);refine ay f ((u:Int),s,()) (ak ?_);refine IQ m'.n u s ?_;unfold LW.word;cases hn:w.num (u,s) with
 | some n =>
  refine bU rfl ?_;have hs:=a.n _ _ hn;refine aG (Gt pw1 n ad) ?_;rintro _ h2 ⟨rfl,d⟩;refine ⟨(mj n,()),rfl,ak ?_⟩
  have:=mS (n:=n) ad
  refine cX ad ?_;exact ⟨rfl,c.trans d⟩
 | none =>
  refine bX rfl ?_;have hs:(w.tA (u,s)).getD 0<=2^50:=by
   cases j:w.tA (u,s) with
   | none=>simp
   | some i=>exact a.e _ _ j
  refine aF rfl ?_;rw [aw];refine ay b' (some gE,()) (ak ?_);refine ay f ((u:Int),s,()) (ak ?_);refine XG m'.e u s ?_;refine aG (Gt pw1 _ ad) ?_;rintro _ h2 ⟨rfl,d⟩;refine ⟨(mj ((w.tA (u,s)).getD 0),()),rfl,ak ?_⟩;refine ⟨⟨(f.aj d ai).cells _ rfl,(b'.aj d ai).cells _ rfl,trivial⟩,?_⟩
  have:=mS (n:=(w.tA (u,s)).getD 0) ad
  refine cX ad ?_;exact ⟨rfl,c.trans d⟩
end
end Go.Sx.Ob
namespace Go.Sx.Lk
open Go.Proofs Go.Sx.Ob
def rz {es:List cV} (hn:(aU es).Nodup) {e:cV} (c:e∈es):dC es e.name=e.x:=by
 obtain ⟨d,f,h1,h2⟩:=lj (show e.name∈aU es from ay9 c);rw [h2]
 have:∀ l:List cV,(l.map (·.name)).Nodup->d∈l->e∈l->d=e:=by
  intro l
  induction l with
  | nil=>intro _ h; simp at h
  | cons x l g =>
   intro hn f c;rw [bq9,el9] at hn;rcases bd9.1 f with a | a <;> rcases bd9.1 c with b | b
   ·rw [a,b]
   ·exact (hn.1 (by rw [<- a,h1]; exact ay9 b)).elim
   ·exact (hn.1 (by rw [<- b,<- h1]; exact ay9 a)).elim
   ·exact g hn.2 a b
 rw [this es hn f c]
def _root_.Go.Sx.Ob.LW.bad (w:LW) (u:Nat) (x:bK):Option Xaa:=(x.af.find? λt=>(w.own u t.1).isNone).map (·.1)
def nk (s:Xaa):bK:=⟨[(s,1)],0⟩
def _root_.Go.Sx.Ob.LW.lin (w:LW) (u:Nat) (x:bK):bK:=dB (λs=>(w.own u s).map λk=>nk (w.word k)) x
structure GU (x:bK):Prop where
 nf:Nf x.af
 num:x.num<4294967296
 len:x.af.length<=2^20
 sz:∀ t,t∈x.af->t.1.size<=maxLen
def ko {a b:Xaa} (h:iW a b):a≠b:=λe=>by subst e; exact absurd h (by unfold iW; simp)
def GU.nodup {x:bK} (g:GU x):(x.af.map (·.1)).Nodup:=by
 rw [ei9,cs9];exact g.nf.Wu.imp λh=>ko h
def U7 (w:LW) (u:Nat) (x:bK) (h:Hp) (v:Xab) (h':Hp):Prop :=
 Ext h h'/\match w.bad u x with
 | some s=>v=.tuple #[iD none 0 0 Hw,.string s,.bool false]
 | none=>∃ p l c,v=.tuple #[iD p l c (w.lin u x),.string ⟨#[]⟩,.bool true]/\SL h' h.size 64 2 p l c ((w.lin u x).af.map cT)
def JO:Tryz.prog.underlying 50=some (.slice 64):=av
def JE (s:Xaa) (n:Int):Instr.fill (λj=>some (j*2,2)) ((Array.range (1*2)).map ((Value.agg #[.string ⟨#[]⟩,.int .u32 0]).cells[· % (Value.agg #[.string ⟨#[]⟩,.int .u32 0]).cells.size]!)) [(0,.agg #[.string s,.int .u32 n])]=some ([.string s,.int .u32 n]:List Xab).toArray:=av
def JA (s:Xaa) (p:Xac) (l c:Nat) (n:Int):Instr.fill (λj=>some (j*3,3)) ((Array.range (1*3)).map ((Value.agg #[.string ⟨#[]⟩,.slice none 0 0,.int .u32 0]).cells[· % (Value.agg #[.string ⟨#[]⟩,.slice none 0 0,.int .u32 0]).cells.size]!)) [(0,.agg #[.string s,.slice p l c,.int .u32 n])]=some ([.string s,.slice p l c,.int .u32 n]:List Xab).toArray:=av
theorem mF {α:Type} (f:α->Bool):∀ (l:List α) (i:Nat) (hi:i<l.length),(∀ j,(b:j<i)->f (l[j]'ad)=false)->f l[i]=true->l.find? f=some l[i]
 | [],i,hi,_,_=>by simp at hi
 | a::l,0,hi,_,h=>by simp at h; simp [h]
 | a::l,i+1,hi,h0,h=>by
  have c:f a=false:=h0 0 ad;rw [fj9,c];simp only [List.getElem_cons_succ] at h ⊢;exact mF f l i (by simpa using hi) (λj b=>h0 (j+1) ad) h
def pz {α:Type} (f:α->Bool) (l:List α) (h:∀ j,(a:j<l.length)->f l[j]=false):l.find? f=none:=by
 rw [List.find?_eq_none];intro x b;obtain ⟨j,a,rfl⟩:=bh9 b;rw [h j a]
 simp
section
variable {h:Hp} {g gN gE gG:Nat} {us lb:bC} {sp:Int} {w:LW}
def zm (pw:eU h) (b:SR h g us lb gN gE gG sp) (m:LM h gN gE gG w) (G:RO w) (u:Nat) {p:Xac} {l c:Nat} {x:bK} (v:iA h p l x.af) (O:GU x) :
  HC Xaz 34 #[ptr g,vI (u:Int),iD p l c x] h (U7 w u x h):=by
 refine aX (args:=[ptr g,vI (u:Int),iD p l c x]) mixed Tryz.func34 av (nZ (some ⟨g,0,none⟩) u p l c x.num) ?_;unfold jI aR aY bz aK fo cv bg aE bR bm bZ aS cH fH;have hll:=v.len;have hxl:=O.len;refine bn ?_;intro h1 b1 e1 z1;refine bn ?_;intro h2 b2 e2 z2;have b12:=b1.aj e2 ai;have e02:=e1.trans e2;refine ay b12 ((p,l,c),()) (ak ?_);obtain ⟨ie,hie,hze,hse,hbe⟩:=oz NC;refine dt (rl (l:=0) (c:=l) DV hie hze ad (by rw [hbe]; omega) ad ?_);intro h3 b3 e3 z3;refine ⟨_,_,_,rfl,?_⟩;have e03:=e02.trans e3;have b13:=b12.aj e3 ai;have b23:=b2.aj e3 ai;have s3:SL h3 h2.size 116 3 (some ⟨h2.size,0,none⟩) 0 l (([]:List cV).map Bg):=by
  refine ⟨rfl,ai,h2.size,[],_,rfl,am9 _,⟨ad,ad⟩,b3,?_⟩;rw [ab9,dx9,hse];omega
 refine ay b13 ((p,l,c),()) (ak ?_)
 refine aM (cs:=Zi) (λy m' h'=>∃ (i:Nat) (es:List cV),y.2.2.2.1=(i:Int)/\i<=l/\m'=l-i/\Ch [h2.size] h3 h'/\y.2.2.1.2.1=i/\sM h' h2.size y.2.2.1.1 i y.2.2.1.2.2 es/\(∀ j,(A:j<i)->(hl:j<x.af.length)->(w.own u x.af[j].1).isSome=true) /\
   es.map (λe=>(e.name,e.x))=(x.af.take i).map (λt=>(t.1,nk (w.word ((w.own u t.1).getD (0,t.1)))))) ((⟨#[]⟩:Xaa),false,(some ⟨h2.size,0,none⟩,0,l),(0:Int),()) l rfl
  ⟨0,[],rfl,ad,ad,Ch.refl _ _,rfl,⟨s3,ai,List.Pairwise.nil,ai⟩,by intro j A; omega,rfl⟩ ?_
 rintro ⟨s14,b15,⟨p16,l17,l18⟩,n19,⟨⟩⟩ m' h4 ⟨i,es,hi,hil,rfl,o,P,Q,C,s⟩;simp only at hi P Q;subst hi P;refine ak ?_;have B:Ext h h4:=Ch.trans e03 o (λi hi hl=>by simp at hi; have:=e1.size; omega);have hel:es.length=l17:=by
  have:=as9 List.length s
  rw [ab9,ab9,au9] at this;omega
 have z4:=o.size;have q3:=b3.lt;have q2:=b2.lt;have q1:=b1.lt;refine aI ?_ ?_<;>intro q
 ·have H:l17<x.af.length:=ad
  obtain ⟨a,ha,hc⟩:=v.cells l17 H;have R:x.af.take (l17+1)=x.af.take l17++[x.af[l17]]:=af9 H;have hgt:x.af[l17]=x.af[l17]:=rfl;generalize I:x.af[l17]=t at hc R;refine bM ha ?_;rw [cg l17];refine ar (t.1,(t.2:Int),()) (aP B ai _ _ hc) (ak ?_);refine bn ?_;intro h5 b5 S z5;refine bJ b5 ?_;intro h6 D k6 z6;have D:br h6 h4.size 64 [.string t.1,.int .u32 (t.2:Int)]:=D;have U:Ext h4 h6:=bS S k6;have e06:=B.trans U;refine ay D (t.1,()) (ak ?_);refine aG (RI (b.aj e06 ai) (m.aj e06 ai ai ai) u t.1) ?_;rintro _ h7 ⟨rfl,e7⟩;generalize hk:(w.own u t.1).getD (0,t.1)=ky;refine ⟨((ky.1:Int),ky.2,(w.own u t.1).isSome,()),rfl,ak ?_⟩;refine bn ?_;intro h8 b8 e8 z8;refine bJ b8 ?_;intro h9 V k9 z9;have V:br h9 h7.size 121 [vI (ky.1:Int),.string ky.2]:=V;have e79:Ext h7 h9:=bS e8 k9;have e69:=e7.trans e79;have e49:=U.trans e69;have e09:=B.trans e49;have b69:=D.aj e69 ai;have q6:=D.lt;have q7:=e7.size;have q9:=V.lt;refine ao ?_ ?_<;>intro r
  ·have r:(w.own u t.1).isSome=false:=by simpa using r
   refine ay b69 (t.1,()) (ak ?_);refine bJ ((b23.aj o (by simp; omega)).aj e49 ai) ?_;intro k J W z10;have J:br k h1.size 53 [.slice none 0 0,.int .u32 0]:=J;refine ⟨⟨(b69.aj W (by simp; omega)).cells _ rfl,trivial⟩,?_⟩;refine ay J ((none,0,0),(0:Int),()) ?_;refine ⟨bS e09 W,?_⟩;have hb:w.bad u x=some t.1:=by
    unfold Ob.LW.bad;rw [mF _ x.af l17 H (λj A=>by simpa using C j A ad) (by rw [I]; simpa using r),I] <;> rfl
   rw [hb] <;> rfl
  ·have r:(w.own u t.1).isSome=true:=by simpa using r
   refine ay b69 (t.1,()) (ak ?_);refine ay V ((ky.1:Int),ky.2,()) (ak ?_);refine aG (DH (pw.aj e09 ai) (b.aj e09 ai) (m.aj e09 ai ai ai) G ky.1 ky.2) ?_;rintro _ k ⟨rfl,E⟩;refine ⟨(w.word (ky.1,ky.2),()),rfl,ak ?_⟩;have b6a:=b69.aj E ai;have b9a:=V.aj E ai;have q10:=E.size;refine ⟨⟨b6a.cells _ rfl,trivial⟩,?_⟩;refine oB JO uY ad ad (JE _ _) ?_;intro h11 b11 K z11;have b6b:=b6a.aj K ai;have b9b:=b9a.aj K ai;refine ⟨⟨b9b.cells _ rfl,b6b.cells _ rfl,trivial⟩,?_⟩;have e411:=(e49.trans E).trans K;have o11:=Q.aj e411 ai;have q11:=e411.size;refine gz (e:=116) (z:=.agg #[.string ⟨#[]⟩,.slice none 0 0,.int .u32 0]) (sz:=3) (by':=48) DV NC rfl ad ad (JA _ _ _ _ _) rfl rfl o11.out ad ad ad (λh' e=>⟨(b9b.aj e ai).cells _ rfl,(b6b.aj e ai).cells _ rfl,trivial⟩) ?_;intro p' c' h12 s12 F X;have hq:∀ i,i∈ax p16->(i=h2.size\/h3.size<=i)/\i<h4.size:=λi hi=>by have:=Q.out.cj hi; omega
   have Y:Ch [h2.size] h3 h12:=Ch.trans (o.trans (e411.mono ai) (λi hi hl=>hi)) F (λi hi hl=>by have:=hq i hi; simp; omega);have L:∀ i,h4.size<=i->i∉ax p16:=λi h1 h2=>by have:=hq i h2; omega
   refine ⟨⟨(b9b.aj F (L _ ad)).cells _ rfl,(b6b.aj F (L _ ad)).cells _ rfl,trivial⟩,?_⟩;have hm:SL h11 h2.size 64 2 (some ⟨k.size,0,none⟩) 1 1 ((nk (w.word ky)).af.map cT) :=
    ⟨rfl,λy hy=>by rw [an9.1 hy]; rfl,k.size,[],[],rfl,ad,⟨ad,ad⟩,b11,by simp [nk]⟩
   have o12:sM h12 h2.size p' (l17+1) c' (es++[⟨t.1,some ⟨k.size,0,none⟩,1,1,nk (w.word ky)⟩]):=by
    refine o11.push (m:=⟨t.1,some ⟨k.size,0,none⟩,1,1,nk (w.word ky)⟩) hm (λi hi=>?_) (by rw [ao9]; exact s12) F (λi hi=>?_)
    ·have hi:i=k.size:=by simpa [ax] using hi
     subst hi;refine ⟨λy hy j A=>?_,L _ ad⟩
     have:=((Q.fF y hy).cj A).2
     omega
    ·rcases X with rfl | ⟨a',rfl,ha'⟩
     ·exact .inl hi
     ·simp [ax] at hi; right; omega
   have hw:=gK l17;rw [hw];refine aC (cs:=Zi) (s14,b15,(p',l17+1,c'),((l17+1:Nat):Int),()) (l-(l17+1)) rfl ad rfl
    ⟨l17+1,_,rfl,ad,rfl,Y,rfl,o12,λj A hjl=>?_,?_⟩
   ·by_cases Z:j<l17
    ·exact C j Z hjl
    ·have:j=l17:=ad
     subst this;rw [I]; exact r
   ·rw [ao9,s,R,ao9];simp only [List.map_cons,List.map_nil];rw [hk]
 ·have hi:l17=x.af.length:=ad
  subst hi;have s:es.map (λe=>(e.name,e.x))=x.af.map (λt=>(t.1,nk (w.word ((w.own u t.1).getD (0,t.1))))):=by rw [s,bo9 (am9 _)]
  have hnm:aU es=x.af.map (·.1):=by
   have:=as9 (List.map (·.1)) s
   rw [bg9,bg9] at this;exact this
  have d:∀ e,e∈es->∃ t,t∈x.af/\e.name=t.1/\e.x=nk (w.word ((w.own u t.1).getD (0,t.1))):=by
   intro e f
   have:(e.name,e.x)∈es.map (λe=>(e.name,e.x)):=ay9 f
   rw [s] at this;obtain ⟨t,ht,M⟩:=ap9.1 this;rw [Prod.mk.injEq] at M;exact ⟨t,ht,M.1.symm,M.2.symm⟩
  have hwsz:∀ ky:Ky,(w.word ky).size<=maxLen:=by
   intro ky;unfold LW.word;have hsz:∀ (a:Xaa) n,n<=2^50->a.size=1->(a++mj n).size<=maxLen:=λa n hn ha=>by
    rw [en9,ha]
    have:=mS (n:=n) ad
    unfold maxLen;omega
   split
   ·rename_i n hn;exact hsz _ _ (G.n _ _ hn) rfl
   ·refine hsz _ _ ?_ rfl;cases f:w.tA ky with
    | none=>simp
    | some i=>exact G.e _ _ f
  have eo:EqsOk es:=⟨by rw [hnm]; exact O.nodup,ad,λe f=>by obtain ⟨t,ht,h1,_⟩:=d e f; rw [h1]; exact O.sz t ht,
   λe f=>by obtain ⟨t,ht,_,h1⟩:=d e f; rw [h1]; show 1<=2^40; decide,
   λe f t' N=>by
    obtain ⟨t,ht,_,h1⟩:=d e f;rw [h1] at N;rw [an9.1 N];exact hwsz _⟩
  refine ay ((b13).aj o (by simp; omega)) ((p,l,c),(x.num:Int),()) ?_;refine ak ?_;have ve:=EE Q;have htot:(es.flatMap (·.x.af)).length<=2^39:=by
   have:∀ l:List cV,(∀ e,e∈l->e.x.af.length=1)->(l.flatMap (·.x.af)).length=l.length:=by
    intro l
    induction l with
    | nil=>intro _; rfl
    | cons a l ih=>intro hl; rw [cf9,ae9,ih (λe f=>hl e (by simp [f])),hl a ai,cn9,Nat.add_comm]
   rw [this es (λe f=>by obtain ⟨t,ht,_,h1⟩:=d e f; rw [h1]; rfl)];omega
  refine aG (PC (v.aj B ai) ve eo (λe f=>by obtain ⟨t,ht,_,h1⟩:=d e f; rw [h1]; show 1<=2^20; decide) htot ad hxl O.sz) ?_;rintro _ h5 ⟨⟨p',l',c',rfl,s5⟩,S⟩;have hlin:nS (dB (cF es) x) vZ=w.lin u x:=by
   rw [zC (eQ _ _) (jB O.num)];unfold Ob.LW.lin;refine re (λt ht=>?_);have hin:t.1∈aU es:=by rw [hnm]; exact ay9 ht
   obtain ⟨j,A,rfl⟩:=bh9 ht;have hoj:=C j ad A;obtain ⟨ky,hky⟩:=cq9.1 hoj;unfold cF;rw [ag9 ((dY es _).2 hin),hky];obtain ⟨e,f,hen⟩:=ap9.1 hin;obtain ⟨t',N,h1,h2⟩:=d e f;rw [<- hen,rz eo.nodup f,h2,<- h1,hen,hky] <;> rfl
  rw [hlin] at s5 ⊢;refine ⟨((p',l',c'),((w.lin u x).num:Int),()),rfl,ak ?_⟩;have q5:=S.size;refine bJ ((b23.aj o (by simp; omega)).aj S ai) ?_;intro h6 D k6 z6;have D:br h6 h1.size 53 [.slice p' l' c',.int .u32 ((w.lin u x).num:Int)]:=D;refine ay D ((p',l',c'),((w.lin u x).num:Int),()) ?_;refine ⟨bS (B.trans S) k6,?_⟩;have hb:w.bad u x=none:=by
   unfold Ob.LW.bad;rw [pz _ x.af (λj A=>by simpa using C j ad A)] <;> rfl
  rw [hb];exact ⟨p',l',c',rfl,(s5.bf k6 (λj A=>by have:=(s5.cj A).1; simp; omega)).mono ad⟩
end
theorem zB {h:Hp} {a:Xax}:∀ (b us:List Xab) (i:Nat),aH h a i b->aH h a (i+b.length) us->aH h a i (b++us)
 | [],us,i,_,h2=>by simpa using h2
 | v::b,us,i,h1,h2=>⟨h1.1,zB b us (i+1) h1.2 (by rw [cn9] at h2; rw [show i+1+b.length=i+(b.length+1) from ad]; exact h2)⟩
theorem AV {h:Hp} {a:Xax}:∀ (b:List Xab) (o i:Nat),aH h (a.add o) i b->aH h a (o+i) b
 | [],_,_,_=>trivial
 | v::b,o,i,h1=>⟨by have:=h1.1; rw [add_add] at this; exact this,AV b o (i+1) h1.2⟩
theorem mZ {h:Hp} {a:Xax} {sz:Nat}:∀ (xs:List (List Xab)) (k:Nat),(∀ x,x∈xs->x.length=sz)->(∀ i,(hi:i<xs.length)->aH h (a.add ((k+i)*sz)) 0 xs[i])->aH h a (k*sz) xs.flatten
 | [],_,_,_=>trivial
 | x::xs,k,hl,hc=>by
  rw [er9];refine zB _ _ _ ?_ ?_
  ·have:=hc 0 ai
   rw [eh9] at this;exact AV _ _ 0 this
  ·rw [hl x ai,<- Nat.succ_mul];exact mZ xs (k+1) (λy b=>hl y (by simp [b])) (λi hi=>by
    have:=hc (i+1) (by simpa using hi)
    rw [show k+1+i=k+(i+1) from ad];exact this)
structure Ym (h:Hp) (p:Xac) (l:Nat) (ws:List (bC × cB)):Prop where
 len:l=ws.length
 cells:∀ i,(hi:i<ws.length)->∃ a,p=some a/\aH h (a.add (i*10)) 0 (uN ws[i])
theorem zF {α β:Type} (R:α->β->Prop):∀ (us:List α),(∀ i,(hi:i<us.length)->∃ b,R us[i] b)->∃ a:List β,a.length=us.length/\∀ i,(hi:i<us.length)->(d:i<a.length)->R us[i] a[i]
 | [],_=>⟨[],rfl,λi hi=>by simp at hi⟩
 | u::us,h=>by
  obtain ⟨b,d⟩:=h 0 ai;obtain ⟨a,hl,e⟩:=zF R us (λi hi=>h (i+1) (by simpa using hi));refine ⟨b::a,by simp [hl],λi hi c=>?_⟩
  match i with
  | 0=>exact d
  | i+1=>exact e i (by simpa using hi) (by simpa using c)
variable {H:Hp} {O:Xac} {U:Nat}
def E6 {us:List cB} (v:Ge H O U us):∃ ws:List (bC × cB),ws.map (·.2)=us/\Ym H O U ws/\∀ u,u∈ws->jj H u.1.p u.1.l u.2:=by
 have d:∀ i,(hi:i<(List.range us.length).length)->∃ s:bC,∀ o:(List.range us.length)[i]<us.length,∃ a,O=some a/\aH H (a.add ((List.range us.length)[i]*10)) 0 (Ob.encI s.p s.l s.c us[(List.range us.length)[i]])/\jj H s.p s.l us[(List.range us.length)[i]]:=by
  intro i hi;have f:i<us.length:=by simpa using hi
  obtain ⟨a,q,m,c,e,hc,hv⟩:=v.cells i f;refine ⟨⟨q,m,c⟩,λo=>⟨a,e,?_,?_⟩⟩
  ·simp only [List.getElem_range]; exact hc
  ·simp only [List.getElem_range]; exact hv
 obtain ⟨g,k,r⟩:=zF (λ(j:Nat) (s:bC)=>∀ o:j<us.length,∃ a,O=some a/\aH H (a.add (j*10)) 0 (Ob.encI s.p s.l s.c us[j])/\jj H s.p s.l us[j]) (List.range us.length) d;rw [dx9] at k;have n:(g.zip us).map (·.2)=us:=by rw [List.map_snd_zip ad]
 have b:(g.zip us).length=us.length:=by rw [List.length_zip]; omega
 refine ⟨g.zip us,n,⟨by rw [b]; exact v.len,λi hi=>?_⟩,λu t=>?_⟩
 ·rw [b] at hi;have h1:=r i (by simpa using hi) ad;simp only [List.getElem_range] at h1;obtain ⟨a,e,hc,_⟩:=h1 hi;refine ⟨a,e,?_⟩;rw [List.getElem_zip];exact hc
 ·obtain ⟨i,hi,rfl⟩:=bh9 t;rw [b] at hi;have h1:=r i (by simpa using hi) ad;simp only [List.getElem_range] at h1;obtain ⟨a,e,_,hv⟩:=h1 hi;rw [List.getElem_zip];exact hv
def qB (ws:List (bC × cB)):(ws.map uN).flatten.all df=true:=by
 rw [bn9];intro v hv;obtain ⟨x,a,hv⟩:=fx9.1 hv;obtain ⟨t,_,rfl⟩:=ap9.1 a;simp only [uN,Ob.encI,List.mem_cons,List.not_mem_nil,or_false] at hv;rcases hv with rfl | rfl | rfl | rfl | rfl | rfl | rfl | rfl | rfl | rfl <;> rfl
def pQ (ws:List (bC × cB)):∀ y,y∈ws.map uN->y.length=10:=by
 intro y a;obtain ⟨u,_,rfl⟩:=ap9.1 a;rfl
def Ym.src {ws:List (bC × cB)} (v:Ym H O U ws):(O=none/\ws.map uN=[])\/∃ a,O=some a/\aH H a 0 (ws.map uN).flatten:=by
 cases O with
 | none =>
  left
  refine ⟨rfl,?_⟩;cases ws with
  | nil=>rfl
  | cons u us =>
   obtain ⟨a,b,_⟩:=v.cells 0 ai;cases b
 | some a =>
  refine .inr ⟨a,rfl,?_⟩
  have:=mZ (h:=H) (a:=a) (sz:=10) (ws.map uN) 0 (pQ ws) (λi hi=>by
   rw [ab9] at hi;obtain ⟨a',b,hc⟩:=v.cells i hi;cases b;rw [aj9,by9];exact hc)
  rwa [Nat.zero_mul] at this
def Es {c:Nat} {ws:List (bC × cB)} (v:Ym H O U ws) (hl:ws.length<=2^30) :
  HC Xaz 57 #[.slice O U c] H λw h'=>(∃ p' c',w=.slice p' U c'/\SL h' H.size 55 10 p' U c' (ws.map uN))/\Ext H h':=by
 refine aX (args:=[.slice O U c]) mixed Tryz.func57 av (gR O U c) ?_;unfold eF bg bm;have hll:=v.len;cases O with
 | none =>
  rcases v.src with ⟨_,h2⟩ | ⟨a,b,_⟩
  ·refine bU rfl ?_
   have:ws=[]:=by simpa using h2
   subst this;subst hll;exact ⟨⟨none,0,rfl,SL.nil _ _ _ _⟩,Ch.refl _ _⟩
  ·cases b
 | some a =>
  refine bX rfl ?_;refine rk (e:=55) (z:=.agg iz.toArray) (sz:=10) (by':=104) CN GN rfl v.src (by simpa using hll) (pQ ws) (qB ws) ad ad ?_;intro p' c' h' f g;exact ⟨⟨p',c',rfl,f⟩,g⟩
structure LcB (h:Hp) (b B:Nat) (p:Xac) (l c:Nat) (ws:List (bC × cB)):Prop where
 out:SL h b 55 10 p l c (ws.map uN)
 lt:∀ i,i∈ax p->i<B
 fF:∀ u,u∈ws->SL h B 64 2 u.1.p u.1.l u.1.c (u.2.e.af.map cT)
def _root_.Go.Sx.Ob.LW.Ak (w:LW) (u:Nat) (us:List cB):Option Xaa:=us.findSome? λx=>w.bad u x.e
def _root_.Go.Sx.Ob.LW.fG (w:LW) (u:Nat) (x:cB):cB:={ x with e:=w.lin u x.e }
def Yq (w:LW) (u:Nat) (us:List cB) (l:Nat) (h:Hp) (v:Xab) (h':Hp):Prop :=
 Ext h h'/\match w.Ak u us with
 | some s=>v=.tuple #[.slice none 0 0,.string s,.bool false]
 | none=>∃ p c B ws,v=.tuple #[.slice p l c,.string ⟨#[]⟩,.bool true]/\LcB h' h.size B p l c ws/\h.size<=B/\ws.map (·.2)=us.map (w.fG u)
theorem Ly (w:LW) (u:Nat):∀ (us:List cB) (i:Nat) (hi:i<us.length) (s:Xaa),(∀ j,(b:j<i)->w.bad u (us[j]'ad).e=none)->w.bad u us[i].e=some s->w.Ak u us=some s
 | [],i,hi,_,_,_=>by simp at hi
 | a::l,0,hi,s,_,h=>by unfold Ob.LW.Ak; simp at h; simp [h]
 | a::l,i+1,hi,s,h0,h=>by
  have c:w.bad u a.e=none:=h0 0 ad;have ih:=Ly w u l i (by simpa using hi) s (λj b=>h0 (j+1) ad) (by simpa using h);unfold Ob.LW.Ak at ih ⊢;rw [List.findSome?_cons,c];exact ih
def NT (w:LW) (u:Nat) (us:List cB) (h:∀ j,(a:j<us.length)->w.bad u us[j].e=none):w.Ak u us=none:=by
 unfold Ob.LW.Ak;rw [db9];intro x b;obtain ⟨j,a,rfl⟩:=bh9 b;exact h j a
section
variable {h:Hp} {g gN gE gG:Nat} {us lb:bC} {sp:Int} {w:LW}
def AM (pw:eU h) (b:SR h g us lb gN gE gG sp) (m:LM h gN gE gG w) (lb':RO w) (u:Nat) {p:Xac} {l c:Nat} {xs:List cB} (v:Ge h p l xs) (hn:xs.length<=2^20) (gx:∀ x,x∈xs->GU x.e) :
  HC Xaz 33 #[ptr g,vI (u:Int),.slice p l c] h (Yq w u xs l h):=by
 refine aX (args:=[ptr g,vI (u:Int),.slice p l c]) mixed Tryz.func33 av (oE (some ⟨g,0,none⟩) u p l c) ?_;unfold jR aR aY bz aK cv aE bR bm bZ aS cH fH;have hll:=v.len;obtain ⟨ws,H,vd,hit⟩:=E6 v;have hwl:ws.length=xs.length:=by rw [<- H,ab9]
 refine aG (Es (c:=c) vd ad) ?_;rintro _ h1 ⟨⟨p3,c3,rfl,s3⟩,e1⟩;refine ⟨((p3,l,c3),()),rfl,ak ?_⟩;have f:∀ i,i∈ax p3->h.size<=i/\i<h1.size:=λi hi=>s3.cj hi
 refine aM (cs:=YQ) (λy m' h'=>∃ (i:Nat) (d:List (bC × cB)),y.2.2.2.1=(i:Int)/\i<=l/\m'=l-i/\Ch (ax p3) h1 h'/\d.length=l/\SL h' h.size 55 10 p3 l c3 (d.map uN) /\
   (∀ j,(k:j<i)->(hv:j<d.length)->SL h' h1.size 64 2 d[j].1.p d[j].1.l d[j].1.c (d[j].2.e.af.map cT))/\d.map (·.2)=(xs.take i).map (w.fG u)++xs.drop i/\∀ j,(k:j<i)->(U:j<xs.length)->w.bad u xs[j].e=none)
  ((none,0,0),(⟨#[]⟩:Xaa),false,(0:Int),()) l rfl ⟨0,ws,rfl,ad,ad,Ch.refl _ _,ad,s3,by intro j k; omega,by simpa using H,by intro j k; omega⟩ ?_
 rintro ⟨p6,s9,b10,n11,⟨⟩⟩ m' h2 ⟨i,d,hi,hil,rfl,k2,hvl,s2,own,et,A⟩;simp only at hi;subst hi;refine ak ?_;have B:Ext h h2:=Ch.trans e1 k2 (λi hi hl=>by have:=f i hi; omega);have z1:=e1.size;have z2:=k2.size;refine aI ?_ ?_<;>intro q
 ·have r:i<xs.length:=ad
  obtain ⟨aa,pp,ll,V,ha,I,J⟩:=v.cells i r;have gxi:=gx xs[i] (ah9 r);have K:xs.take (i+1)=xs.take i++[xs[i]]:=af9 r;have C:xs.drop i=xs[i]::xs.drop (i+1):=ax9 r;generalize L:xs[i]=x at I J K gxi C;refine bM ha ?_;rw [cg i];refine ar (x.kind,x.name,x.inst.op,x.inst.a,x.inst.b,x.inst.n,x.inst.form,(pp,ll,V),(x.e.num:Int),x.n,()) (aP B ai _ _ I) (ak ?_);refine bn ?_;intro h3 b3 e3 z3;refine bJ b3 ?_;intro h4 W k4 z4;have W:br h4 h2.size 55 (Ob.encI pp ll V x):=W;have D:Ext h2 h4:=bS e3 k4;have e04:=B.trans D;rw [aw];refine ay W ((pp,ll,V),(x.e.num:Int),()) (ak ?_);refine aG (zm (c:=V) (pw.aj e04 ai) (b.aj e04 ai) (m.aj e04 ai ai ai) lb' u (J.aj e04).lin.vw gxi) ?_;rintro _ h5 ⟨e5,X⟩;have z4':=W.lt;have z5:=e5.size;cases Y:w.bad u x.e with
  | some s =>
   rw [Y] at X;subst X;refine ⟨((none,0,0),(0:Int),s,false,()),rfl,ak ?_⟩;refine bn ?_;intro h6 b6 e6 z6;refine bJ b6 ?_;intro h7 Z k7 z7;refine bU rfl ?_;refine ⟨bS ((e04.trans e5).trans e6) k7,?_⟩;rw [Ly w u xs i r s (λj k=>A j k ad) (by rw [L]; exact Y)]
  | none =>
   rw [Y] at X;obtain ⟨E,F,G,rfl,s7⟩:=X;refine ⟨((E,F,G),((w.lin u x.e).num:Int),(⟨#[]⟩:Xaa),true,()),rfl,ak ?_⟩;refine bn ?_;intro h6 b6 e6 z6;refine bJ b6 ?_;intro h7 Z k7 z7;have Z:br h7 h5.size 53 [.slice E F G,.int .u32 ((w.lin u x.e).num:Int)]:=Z;have M:Ext h5 h7:=bS e6 k7;have e27:=(D.trans e5).trans M;refine bX rfl ?_;refine ay Z ((E,F,G),((w.lin u x.e).num:Int),()) (ak ?_);have s27:=s2.aj e27 ai;have t:i<d.length:=ad
   obtain ⟨a3,N⟩:∃ a3,p3=some a3:=by
    cases hp3:p3 with
    | some a=>exact ⟨a,rfl⟩
    | none =>
     rw [hp3] at s27;have h1:=s27.2.2.2;have h2:d=[]:=by simpa using h1
     rw [h2] at t;simp at t
   refine bM N ?_;refine SL.part (P:=Xaz) s27 (i:=i) (by rw [ab9]; exact t) (o:=7) ai (by simp [df]) N ?_;intro h8 s8 k8 z8;have hvi:d[i].2=x:=by
    have h1:(d.map (·.2))[i]?=some d[i].2:=by rw [cl9,ad9 t]; rfl
    rw [et,bp9 (by rw [ab9,au9]; omega),C] at h1;rw [ab9,au9,show i-min i xs.length=0 from ad] at h1;simpa using h1.symm
   have O:(d.map uN).set i (iw ((d.map uN)[i]'(by rw [ab9]; exact t)) 7 [.slice E F G,.int .u32 ((w.lin u x.e).num:Int)])=(d.set i (⟨E,F,G⟩,w.fG u x)).map uN:=by
    rw [fh9,aj9]
    congr 1
    rcases hvv:d[i] with ⟨⟨v1,v2,v3⟩,v4⟩
    have:v4=x:=by rw [<- hvi,hvv]
    subst this;rfl
   rw [O] at s8;have z7':h2.size<=h7.size:=e27.size;have hw:=gK i;rw [hw];refine aC (cs:=YQ) (p6,s9,b10,((i+1:Nat):Int),()) (l-(i+1)) rfl ad rfl
    ⟨i+1,d.set i (⟨E,F,G⟩,w.fG u x),rfl,ad,rfl,Ch.trans (k2.trans (e27.mono ai) (λi hi _=>hi)) k8 (λi hi _=>hi),by rw [cv9]; exact hvl,s8,λj k Q=>?_,?_,λj k hjx=>?_⟩
   ·have R:∀ x,h1.size<=x->x∉ax p3:=λx h1 h2=>by have:=f x h2; omega
    by_cases z:j=i
    ·subst z;simp only [List.getElem_set_self]
     have:SL h7 h1.size 64 2 E F G ((w.fG u x).e.af.map cT):=Sx.SL.mono (s7.aj M ai) (by have:=D.size; omega)
     exact this.bf k8 (λx U=>R x (this.cj U).1)
    ·have S:j<i:=ad
     rw [cv9] at Q;simp only [List.getElem_set_ne (Ne.symm z)]
     have:=(own j S Q).aj e27 ai
     exact this.bf k8 (λx U=>R x (this.cj U).1)
   ·rw [fh9,et,K,ao9,C];have hl1:((xs.take i).map (w.fG u)).length=i:=by rw [ab9,au9]; omega
    rw [List.set_append_right _ _ ad,hl1,fg9,List.set_cons_zero]
    simp
   ·by_cases z:j=i
    ·subst z;rw [L]; exact Y
    ·exact A j ad hjx
 ·have hi:i=l:=ad
  subst hi;refine ⟨B,?_⟩;rw [NT w u xs (λj k=>A j ad k)];refine ⟨p3,c3,h1.size,d,rfl,⟨s2,λi hi=>(f i hi).2,λu hu=>?_⟩,z1,?_⟩
  ·obtain ⟨j,k,rfl⟩:=bh9 hu;exact own j ad k
  ·rw [et,bo9 ad,dl9 ad,cb9]
end
def kf (n sec i:Nat) (x:cB) (w:LW):LW :=
 if x.kind=1 then { w with num:=uF w.num (n,x.name) w.lb.length,nn:=if (w.num (n,x.name)).isSome then w.nn else w.nn+1,lb:=w.lb++[⟨n,sec,i,x.name⟩] } else w
def js (n sec:Nat):Nat->List cB->LW->LW
 | _,[],w=>w
 | i,x::l,w=>js n sec (i+1) l (kf n sec i x w)
def wF (n:Nat) (w:LW) (e:tI):LW:={ w with tA:=uF w.tA (n,e.1) w.ne,ne:=if (w.tA (n,e.1)).isSome then w.ne else w.ne+1 }
def HP (n:Nat) (u:cm) (w:LW):LW:=u.bi.foldl (wF n) (js n 1 0 u.data (js n 0 0 u.text w))
def oD:Nat->List cm->LW->LW
 | _,[],w=>w
 | n,u::us,w=>oD (n+1) us (HP n u w)
theorem DF (n sec:Nat) (x:cB):∀ (l:List cB) (i:Nat) (w:LW),js n sec i (l++[x]) w=kf n sec (i+l.length) x (js n sec i l w)
 | [],i,w=>rfl
 | y::l,i,w=>by
  simp only [List.cons_append,js,List.length_cons];rw [DF n sec x l (i+1) _,show i+1+l.length=i+(l.length+1) from ad]
theorem DC (u:cm):∀ (l:List cm) (n:Nat) (w:LW),oD n (l++[u]) w=HP (n+l.length) u (oD n l w)
 | [],n,w=>rfl
 | y::l,n,w=>by
  simp only [List.cons_append,oD,List.length_cons];rw [DC u l (n+1) _,show n+1+l.length=n+(l.length+1) from ad]
def IM (n sec i:Nat) (x:cB) (w:LW):(kf n sec i x w).lb.length<=w.lb.length+1:=by
 unfold kf;split
 ·simp
 ·omega
theorem nw (n sec:Nat):∀ (l:List cB) (i:Nat) (w:LW),(js n sec i l w).lb.length<=w.lb.length+l.length
 | [],i,w=>by simp [js]
 | x::l,i,w=>by
  have h1:=nw n sec l (i+1) (kf n sec i x w);have h2:=IM n sec i x w;simp only [js,List.length_cons];omega
theorem QM (n:Nat):∀ (l:List tI) (w:LW),(l.foldl (wF n) w).lb=w.lb
 | [],w=>rfl
 | e::l,w=>by rw [bt9,QM n l]; rfl
def PM (n:Nat) (u:cm) (w:LW):(HP n u w).lb.length<=w.lb.length+(u.text.length+u.data.length):=by
 unfold HP;rw [QM];have h1:=nw n 1 u.data 0 (js n 0 0 u.text w);have h2:=nw n 0 u.text 0 w;omega
def wH (us:List cm):Nat:=(us.map λu=>u.text.length+u.data.length+u.bi.length+u.aT.length).sum
theorem HZ:∀ (l:List cm) (n:Nat) (w:LW),(oD n l w).lb.length<=w.lb.length+wH l
 | [],n,w=>by simp [oD,wH]
 | u::l,n,w=>by
  have h1:=HZ l (n+1) (HP n u w);have h2:=PM n u w;simp only [oD,wH,List.map_cons,List.sum_cons] at *;omega
def NA (us:List cm) (i:Nat) (hi:i<us.length):wH (us.take i)+(us[i].text.length+us[i].data.length+us[i].bi.length+us[i].aT.length)+wH (us.drop (i+1))=wH us:=by
 have:us=us.take i++us[i]::us.drop (i+1):=by rw [<- ax9 hi,cc9]
 conv=>rhs; rw [this]
 unfold wH;rw [ao9,List.sum_append,bq9,cu9];omega
structure Gi (h:Hp) (B:Nat) (us lb:bC) (sp:Int) (w:LW):Prop where
 box:SR h (B+3) us lb B (B+1) (B+2) sp
 maps:LM h B (B+1) (B+2) w
 rF:SL h (B+4) 157 4 lb.p lb.l lb.c (w.lb.map RF)
def Gi.aj {h h':Hp} {B:Nat} {us lb:bC} {sp:Int} {w:LW} (s:Gi h B us lb sp w) (e:Ext h h'):Gi h' B us lb sp w :=
 ⟨s.box.aj e ai,s.maps.aj e ai ai ai,s.rF.aj e ai⟩
def Gi.lt {h:Hp} {B:Nat} {us lb:bC} {sp:Int} {w:LW} (s:Gi h B us lb sp w):B+4<=h.size:=by have:=s.box.lt; omega
def Zk:Tryz.prog.underlying 106=some (.slice 157):=av
def aat:(Tryz.prog.info? 157).map (λi=>(i.zero,i.size,i.bytes))=some (some (.agg #[vI 0,vI 0,vI 0,.string ⟨#[]⟩]),4,40):=av
def Px (a b c:Int) (s:Xaa):Instr.fill (λj=>some (j*4,4)) ((Array.range (1*4)).map ((Value.agg #[vI 0,vI 0,vI 0,.string ⟨#[]⟩]).cells[· % (Value.agg #[vI 0,vI 0,vI 0,.string ⟨#[]⟩]).cells.size]!)) [(0,.agg #[vI a,vI b,vI c,.string s])]=some ([vI a,vI b,vI c,.string s]:List Xab).toArray:=av
section
variable {h0:Hp} {B:Nat} {us:bC} {sp:Int}
def I0 {h:Hp} {lb:bC} {w:LW} (hB:h0.size=B) (e0:Ext h0 h) (s:Gi h B us lb sp w) {p:Xac} {l c:Nat} {yR:List cm} (v:xZ h0 p l yR) (hlen:w.lb.length+wH yR<=2^30) (hnu:yR.length<=2^20) (hwl:lb.l=w.lb.length) :
  HC Xaz 31 #[ptr (B+3),.slice p l c] h λx h'=>x=.tuple #[]/\∃ f,Gi h' B us f sp (oD 0 yR w)/\Ext h0 h':=by
 refine aX (args:=[ptr (B+3),.slice p l c]) mixed Tryz.func31 av (oK (some ⟨B+3,0,none⟩) p l c) ?_;unfold j1 aR aY bz aK bg dp aE bR bm bZ aS;have hll:=v.len;refine aM (cs:=cz) (λy H h'=>∃ (n:Nat) (f:bC),y.1=(n:Int)/\n<=l/\H=l-n/\Ext h0 h'/\Gi h' B us f sp (oD 0 (yR.take n) w)) ((0:Int),()) l rfl ⟨0,lb,rfl,ad,ad,e0,s⟩ ?_;clear s e0;rintro ⟨n2,⟨⟩⟩ H h1 ⟨n,lb1,hn,hnl,rfl,e1,s1⟩;simp only at hn;subst hn;refine ak ?_;refine aI ?_ ?_<;>intro q
 ·have R:n<yR.length:=ad
  obtain ⟨a,m,o,F,td,ha,hc,hu⟩:=v.cells n R;have htk:yR.take (n+1)=yR.take n++[yR[n]]:=af9 R;have hL:=NA yR n R;have hwn:=HZ (yR.take n) 0 w;generalize yR[n]=u at hc hu htk hL;generalize hw1:oD 0 (yR.take n) w=L at *;refine bM ha ?_;rw [cg n];refine ar ((m.p,m.l,m.c),(o.p,o.l,o.c),(F.p,F.l,F.c),(td.p,td.l,td.c),()) (aP e1 ai _ _ hc) (ak ?_);refine bn ?_;intro h2 b2 e2 z2;refine bJ b2 ?_;intro h3 S k3 z3;have S:br h3 h1.size 70 [m.v,o.v,F.v,td.v]:=S;have e13:Ext h1 h3:=bS e2 k3;refine ay S ((m.p,m.l,m.c),()) (ak ?_);rw [aw];refine ay S ((o.p,o.l,o.c),()) (ak ?_);refine oB SP slZ ad ad (RU m.p m.l m.c o.p o.l o.c) ?_;intro h4 b4 e4 z4;have b4:br h4 h3.size 46 [m.v,o.v]:=b4;have e14:=e13.trans e4;have b34:=S.aj e4 ai;have l1:=s1.lt;have q3:=S.lt;have hsec:∀ k,k<2->∃ s:bC,([m.v,o.v]:List Xab).drop k=s.v::([m.v,o.v]:List Xab).drop (k+1)/\Ge h0 s.p s.l (Aq u k):=by
   intro k hk
   have:k=0\/k=1:=ad
   rcases this with rfl | rfl
   ·exact ⟨m,rfl,hu.text⟩
   ·exact ⟨o,rfl,hu.data⟩
  let I:Nat->LW:=λk=>if k=0 then L else if k=1 then js n 0 0 u.text L else js n 1 0 u.data (js n 0 0 u.text L)
  have hwS:∀ k,k<2->I (k+1)=js n k 0 (Aq u k) (I k):=by
   intro k hk
   have:k=0\/k=1:=ad
   rcases this with rfl | rfl <;> rfl
  have hwSl:∀ k,k<=2->(I k).lb.length<=L.lb.length+(if k=0 then 0 else if k=1 then u.text.length else u.text.length+u.data.length):=by
   intro k hk
   have:k=0\/k=1\/k=2:=ad
   rcases this with rfl | rfl | rfl
   ·simp [I]
   ·exact nw n 0 u.text 0 L
   ·have h1:=nw n 0 u.text 0 L;have h2:=nw n 1 u.data 0 (js n 0 0 u.text L);show (js n 1 0 u.data (js n 0 0 u.text L)).lb.length<=L.lb.length+(u.text.length+u.data.length);omega
  refine aM (cs:=cz) (λy H h'=>∃ (k:Nat) (f:bC),y.1=(k:Int)/\k<=2/\H=2-k/\Ext h0 h'/\Gi h' B us f sp (I k)/\(h1.size∉ax f.p/\h3.size∉ax f.p)/\br h' h1.size 70 [m.v,o.v,F.v,td.v]/\br h' h3.size 46 [m.v,o.v]) ((0:Int),()) 2 rfl
   ⟨0,lb1,rfl,ad,ad,e1.trans e14,s1.aj e14,⟨λhm=>by have:=(s1.rF.cj hm).2; omega,λhm=>by have:=(s1.rF.cj hm).2; omega⟩,b34,b4⟩ ?_
  clear b4 b34 e4 e14 S z4;rintro ⟨n26,⟨⟩⟩ H h5 ⟨k,lb2,hk,hk2,rfl,e5,s5,d2,U,P⟩;simp only at hk;subst hk;refine ak ?_;refine aI ?_ ?_<;>intro q
  ·have hk:k<2:=ad
   obtain ⟨sl,hsl,vs⟩:=hsec k hk;have hwk:=hwS k hk;have hwkl:=hwSl k ad;have V:(Aq u k).length+(if k=0 then 0 else if k=1 then u.text.length else u.text.length+u.data.length)<=u.text.length+u.data.length:=by
    have:k=0\/k=1:=ad
    rcases this with rfl | rfl
    ·simp [Aq]
    ·simp [Aq]; omega
   refine bM rfl ?_;rw [aw];refine aZ P ((sl.p,sl.l,sl.c),()) (by rw [show 0+(k:Int).toNat*1=k from ad,hsl]; rfl) ?_;refine ak ?_;generalize hxs:Aq u k=xs at vs hwk V;generalize hwkk:I k=wk at *;have lk:=vs.len;refine aM (cs:=cz) (λy H h'=>∃ (i:Nat) (f:bC),y.1=(i:Int)/\i<=sl.l/\H=sl.l-i/\Ext h0 h'/\Gi h' B us f sp (js n k 0 (xs.take i) wk)/\(h1.size∉ax f.p/\h3.size∉ax f.p)/\br h' h1.size 70 [m.v,o.v,F.v,td.v]/\br h' h3.size 46 [m.v,o.v]) ((0:Int),()) sl.l rfl
    ⟨0,lb2,rfl,ad,ad,e5,s5,d2,U,P⟩ ?_
   clear e5 s5 U P;rintro ⟨n31,⟨⟩⟩ H W ⟨i,d,hi,hil,rfl,Q,M,d3,U,P⟩;simp only at hi;subst hi;refine ak ?_;refine aI ?_ ?_<;>intro q
   ·have J:i<xs.length:=ad
    obtain ⟨aa,pp,ll,cc,X,K,Y⟩:=vs.cells i J;have htk2:xs.take (i+1)=xs.take i++[xs[i]]:=af9 J;have hli:(js n k 0 (xs.take i) wk).lb.length<=wk.lb.length+i:=by
     have:=nw n k (xs.take i) 0 wk
     rw [au9] at this;omega
    have C:js n k 0 (xs.take (i+1)) wk=kf n k i xs[i] (js n k 0 (xs.take i) wk):=by
     rw [htk2,DF,au9,by9,cp9 ad]
    generalize xs[i]=x at K Y C;generalize hwi:js n k 0 (xs.take i) wk=wi at *;refine bM X ?_;rw [cg i];refine ar (x.kind,x.name,x.inst.op,x.inst.a,x.inst.b,x.inst.n,x.inst.form,(pp,ll,cc),(x.e.num:Int),x.n,()) (aP Q ai _ _ K) (ak ?_);refine bn ?_;intro h7 b7 e7 z7;refine bJ b7 ?_;intro h8 G k8 z8;have G:br h8 W.size 55 (Ob.encI pp ll cc x):=G;have t:Ext W h8:=bS e7 k8;have bu8:=U.aj t ai;have bs8:=P.aj t ai;have s8:=M.aj t;have hw:=gK i;have l6:=M.lt;have q6:=G.lt;refine ay G (x.kind,()) (ak ?_);refine ao ?_ ?_<;>intro r
    ·have r:x.kind=1:=by simpa using r
     have hp:kf n k i x wi={ wi with num:=uF wi.num (n,x.name) wi.lb.length,nn:=if (wi.num (n,x.name)).isSome then wi.nn else wi.nn+1,lb:=wi.lb++[⟨n,k,i,x.name⟩] }:=by unfold kf; rw [ag9 r]
     refine aF rfl ?_;rw [aw];refine ay s8.box (some B,()) (ak ?_);rw [aw];refine ay G (x.name,()) (ak ?_);refine aF rfl ?_;rw [aw];refine ay s8.box ((d.p,d.l,d.c),()) (ak ?_);have hlb3:d.l=wi.lb.length:=by rw [s8.rF.1,ab9]
     refine VL s8.maps.n n x.name (w:=wi.lb.length) ad ?_;intro h9 m9 E z9;have x9:=s8.box.aj E ai;have me9:=s8.maps.e.aj E ai;have mg9:=s8.maps.g.aj E ai;have ls9:=s8.rF.bf E (λj N=>by have:=(s8.rF.cj N).1; simp; omega);have b9:=G.aj E (by simp; omega);refine aF rfl ?_;rw [aw];refine ay x9 ((d.p,d.l,d.c),()) (ak ?_);refine ay b9 (x.name,()) (ak ?_);refine gz (e:=157) (z:=.agg #[vI 0,vI 0,vI 0,.string ⟨#[]⟩]) (sz:=4) (by':=40) Zk aat rfl ad ad (Px _ _ _ _) rfl rfl ls9 ad ad ad (λh' e=>⟨(b9.aj e ai).cells _ rfl,(x9.aj e ai).cells _ rfl,trivial⟩) ?_;intro p' c' h10 s10 A hp10;have O:∀ j,j<B+4->j∉ax d.p:=λj h1 h2=>by have:=(s8.rF.cj h2).1; omega
     have nin2:∀ j,W.size<=j->j∉ax d.p:=λj h1 h2=>by have:=(M.rF.cj h2).2; omega
     have b10:=b9.aj A (nin2 _ ad);have x10:=x9.aj A (O _ ad);refine ⟨⟨b10.cells _ rfl,trivial⟩,?_⟩;refine aF rfl ?_;rw [aw];refine bJ x10 ?_;intro h11 Z D z11;have Z:SR h11 (B+3) us ⟨p',d.l+1,c'⟩ B (B+1) (B+2) sp:=Z;rw [hw];have e611:Ext h0 h11:=Ch.trans (Ch.trans (bS (Q.trans t) E) A (λj N hl=>by have:=(s8.rF.cj N).1; omega)) D (λj N hl=>by simp at N; omega);have q56:h1.size<h3.size:=q3;have q36:h3.size<W.size:=P.lt;have d4:h1.size∉ax p'/\h3.size∉ax p':=by
      rcases hp10 with rfl | ⟨a',rfl,ha'⟩
      ·exact d3
      ·simp only [ax,List.mem_singleton]; omega
     refine aC (cs:=cz) (((i+1:Nat):Int),()) (sl.l-(i+1)) rfl ad rfl ⟨i+1,⟨p',d.l+1,c'⟩,rfl,ad,rfl,e611,?_,d4,?_,?_⟩
     ·rw [C,hp];refine ⟨Z,⟨(m9.aj A (O _ ad)).aj D ai,(me9.aj A (O _ ad)).aj D ai,(mg9.aj A (O _ ad)).aj D ai⟩,?_⟩;show SL h11 (B+4) 157 4 p' (d.l+1) c' ((wi.lb++[(⟨n,k,i,x.name⟩:Lb)]).map RF);rw [ao9];exact s10.bf D (λj N=>by have:=(s10.cj N).1; simp; omega)
     ·exact ((bu8.aj E (by simp; omega)).aj A d3.1).aj D (by simp; omega)
     ·exact ((bs8.aj E (by simp; omega)).aj A d3.2).aj D (by simp; omega)
    ·have r:¬ x.kind=1:=by simpa using r
     have hp:kf n k i x wi=wi:=by unfold kf; rw [ac9 r]
     rw [hw];refine aC (cs:=cz) (((i+1:Nat):Int),()) (sl.l-(i+1)) rfl ad rfl ⟨i+1,d,rfl,ad,rfl,Q.trans t,by rw [C,hp]; exact s8,d3,bu8,bs8⟩
   ·have hi:i=xs.length:=ad
    subst hi;rw [bo9 (am9 _)] at M;have hw:=gK k;rw [hw];refine aC (cs:=cz) (((k+1:Nat):Int),()) (2-(k+1)) rfl ad rfl ⟨k+1,d,rfl,ad,rfl,Q,by rw [hwk]; exact M,d3,U,P⟩
  ·have hk:k=2:=ad
   subst hk;clear P;rw [aw];refine ay U ((F.p,F.l,F.c),()) (ak ?_);have ve:=hu.bi;have le:=ve.len;have hw2:I 2=js n 1 0 u.data (js n 0 0 u.text L):=rfl;have hne:∀ (i:Nat),(hi:i<u.bi.length)->(u.bi.take (i+1)).foldl (wF n) (I 2)=wF n ((u.bi.take i).foldl (wF n) (I 2)) (u.bi[i]'ad):=by
    intro i hi;rw [af9 hi,ck9] <;> rfl
   refine aM (cs:=cz) (λy H h'=>∃ (i:Nat),y.1=(i:Int)/\i<=F.l/\H=F.l-i/\Ext h0 h'/\Gi h' B us lb2 sp ((u.bi.take i).foldl (wF n) (I 2))) ((0:Int),()) F.l rfl
    ⟨0,rfl,ad,ad,e5,s5⟩ ?_
   clear e5 s5 U;rintro ⟨n30,⟨⟩⟩ H W ⟨i,hi,hil,rfl,Q,M⟩;simp only at hi;subst hi;refine ak ?_;refine aI ?_ ?_<;>intro q
   ·have J:i<u.bi.length:=ad
    obtain ⟨aa,pp,ll,cc,X,K,Y,hsz⟩:=ve.cells i J;have hne:=hne i J;generalize u.bi[i]=x at K Y hsz hne;generalize hwi:(u.bi.take i).foldl (wF n) (I 2)=wi at *;refine bM X ?_;rw [cg i];refine ar (x.1,(pp,ll,cc),(x.2.num:Int),()) (aP Q ai _ _ K) (ak ?_);refine bn ?_;intro h7 b7 e7 z7;refine bJ b7 ?_;intro h8 G k8 z8;have G:br h8 W.size 116 [.string x.1,.slice pp ll cc,.int .u32 (x.2.num:Int)]:=G;have t:Ext W h8:=bS e7 k8;have s8:=M.aj t;have l6:=M.lt;have q6:=G.lt;refine aF rfl ?_;rw [aw];refine ay s8.box (some (B+1),()) (ak ?_);refine ay G (x.1,()) (ak ?_);refine aF rfl ?_;rw [aw];refine ay s8.box (some (B+1),()) (ak ?_);refine Za s8.maps.e ?_;refine ⟨⟨G.cells _ rfl,s8.box.cells _ rfl,trivial⟩,?_⟩;refine VL s8.maps.e n x.1 (w:=wi.ne) rfl ?_;intro h9 m9 E z9;have hw:=gK i;rw [hw];refine aC (cs:=cz) (((i+1:Nat):Int),()) (F.l-(i+1)) rfl ad rfl ⟨i+1,rfl,ad,rfl,bS (Q.trans t) E,?_⟩;rw [hne];exact ⟨s8.box.aj E ai,⟨s8.maps.n.aj E ai,m9,s8.maps.g.aj E ai⟩,s8.rF.bf E (λj N=>by have:=(s8.rF.cj N).1; simp; omega)⟩
   ·have hi:i=u.bi.length:=ad
    subst hi;rw [bo9 (am9 _)] at M;have hw:=gK n;rw [hw];refine aC (cs:=cz) (((n+1:Nat):Int),()) (l-(n+1)) rfl ad rfl ⟨n+1,lb2,rfl,ad,rfl,Q,?_⟩;rw [htk,DC,au9,by9,cp9 ad,hw1];exact M
 ·have hn:n=yR.length:=ad
  subst hn;rw [bo9 (am9 _)] at s1;exact ⟨rfl,lb1,s1,e1⟩
end
def wW (n:Nat) (w:LW) (s:Xaa):LW:={ w with gl:=dW w.gl s n,ng:=if (w.gl s).isSome then w.ng else w.ng+1 }
def HM (n:Nat) (u:cm) (w:LW):LW:=u.aT.foldl (wW n) w
def lV:Nat->List cm->LW->Except (Nat × Xaa) LW
 | _,[],w=>.ok w
 | n,u::us,w=>match u.aT.find? λg=>(w.gl g).isSome with
  | some g=>.error (n,g)
  | none=>lV (n+1) us (HM n u w)
theorem RD (n:Nat):∀ (l:List Xaa) (w:LW),(l.foldl (wW n) w).lb=w.lb/\(l.foldl (wW n) w).num=w.num/\(l.foldl (wW n) w).nn=w.nn/\(l.foldl (wW n) w).tA=w.tA/\(l.foldl (wW n) w).ne=w.ne
 | [],w=>⟨rfl,rfl,rfl,rfl,rfl⟩
 | e::l,w=>by rw [bt9]; exact RD n l _
section
variable {h0:Hp} {B:Nat} {us lb:bC} {sp:Int}
def Mu {h:Hp} {w:LW} (hB:h0.size=B) (e0:Ext h0 h) (s:Gi h B us lb sp w) {p:Xac} {l c:Nat} {yR:List cm} (v:xZ h0 p l yR) (hnu:yR.length<=2^20) :
  HC Xaz 32 #[ptr (B+3),.slice p l c] h λx h'=>Ext h0 h'/\match lV 0 yR w with
   | .error q=>x=.tuple #[.agg #[vI 22,vI (q.1:Int),.string q.2],.bool true]
   | .ok w'=>x=.tuple #[.agg #[vI 0,vI 0,.string ⟨#[]⟩],.bool false]/\Gi h' B us lb sp w':=by
 refine aX (args:=[ptr (B+3),.slice p l c]) mixed Tryz.func32 av (pu (some ⟨B+3,0,none⟩) p l c) ?_;unfold lu aR aY bz aK dp bR bm bZ aS cH;have hll:=v.len;generalize o:lV 0 yR w=M;refine bn ?_;intro h1 F Y z1;have l0:=s.lt;refine aM (cs:=iv) (λy z h'=>∃ (n:Nat) (w':LW),y.2.1=(n:Int)/\n<=l/\z=l-n/\Ext h0 h'/\Gi h' B us lb sp w'/\br h' h.size 77 [vI 0,vI 0,.string ⟨#[]⟩]/\lV n (yR.drop n) w'=M) (false,(0:Int),()) l rfl
  ⟨0,w,rfl,ad,ad,e0.trans Y,s.aj Y,F,o⟩ ?_
 have z0:=e0.size;have R:∀ i,i∈ax lb.p->i<h.size:=λi hi=>(s.rF.cj hi).2
 clear o s F;rintro ⟨b3,n4,⟨⟩⟩ z h2 ⟨n,w,hn,hnl,rfl,S,s,F,o⟩;simp only at hn;subst hn;refine ak ?_;have q1:=F.lt;refine aI ?_ ?_<;>intro q
 ·have H:n<yR.length:=ad
  obtain ⟨a,N,O,P,b,ha,hc,Z⟩:=v.cells n H;rw [ax9 H] at o;generalize yR[n]=u at hc Z o;refine bM ha ?_;rw [cg n];refine ar ((N.p,N.l,N.c),(O.p,O.l,O.c),(P.p,P.l,P.c),(b.p,b.l,b.c),()) (aP S ai _ _ hc) (ak ?_);refine bn ?_;intro h3 d e3 z3;refine bJ d ?_;intro h4 I k4 z4;have I:br h4 h2.size 70 [N.v,O.v,P.v,b.v]:=I;have A:Ext h2 h4:=bS e3 k4;have e04:=S.trans A;have s4:=s.aj A;have b14:=F.aj A ai;have vg:=Z.aT;have lg:=vg.len;have mg:=vg.many;have q4:=I.lt;have l2:=s.lt;rw [aw];refine ay I ((b.p,b.l,b.c),()) (ak ?_);refine aM (cs:=iv) (λy z h'=>∃ (i:Nat),y.2.1=(i:Int)/\i<=b.l/\z=b.l-i/\h'=h4/\∀ j,(f:j<i)->(hx:j<u.aT.length)->(w.gl u.aT[j]).isSome=false) (b3,(0:Int),()) b.l rfl
   ⟨0,rfl,ad,ad,rfl,by intro j f; omega⟩ ?_
  rintro ⟨J,n23,⟨⟩⟩ z h5 ⟨i,hi,hil,rfl,rfl,C⟩;simp only at hi;subst hi;refine ak ?_;refine aI ?_ ?_<;>intro q
  ·have k:i<u.aT.length:=ad
   obtain ⟨aa,D,t,E⟩:=vg.cells i k;refine bM D ?_;rw [cg i];refine ar (u.aT[i],()) (aP e04 ai _ _ t) (ak ?_);refine aF rfl ?_;rw [aw];refine ay s4.box (some (B+2),()) (ak ?_);refine Fh s4.maps.g u.aT[i] ?_;refine ao ?_ ?_<;>intro r
   ·refine bJ b14 ?_;intro h6 U k6 z6;have U:br h6 h.size 77 [vI 22,vI (n:Int),.string u.aT[i]]:=U;refine ay U ((22:Int),(n:Int),u.aT[i],()) ?_;have hf:M=.error (n,u.aT[i]):=by
     rw [<- o,lV,mF _ u.aT i k (λj f=>C j f ad) r]
    subst hf;exact ⟨bS e04 k6,rfl⟩
   ·have hw:=gK i;rw [hw];refine aC (cs:=iv) (J,((i+1:Nat):Int),()) (b.l-(i+1)) rfl ad rfl ⟨i+1,rfl,ad,rfl,rfl,λj f hx=>?_⟩
    by_cases V:j=i
    ·subst V; exact r
    ·exact C j ad hx
  ·have hi:i=u.aT.length:=ad
   subst hi;have W:lV (n+1) (yR.drop (n+1)) (HM n u w)=M:=by
    rw [<- o,lV,pz _ u.aT (λj f=>C j f f)]
   refine ay I ((b.p,b.l,b.c),()) (ak ?_);refine aM (cs:=cz) (λy z h'=>∃ (i:Nat),y.1=(i:Int)/\i<=b.l/\z=b.l-i/\Ext h0 h'/\Gi h' B us lb sp ((u.aT.take i).foldl (wW n) w)/\br h' h.size 77 [vI 0,vI 0,.string ⟨#[]⟩]) ((0:Int),()) b.l rfl
    ⟨0,rfl,ad,ad,e04,s4,b14⟩ ?_
   clear s4 b14;rintro ⟨n27,⟨⟩⟩ z h6 ⟨i,hi,hil',rfl,X,m,K⟩;simp only at hi;subst hi;refine ak ?_;refine aI ?_ ?_<;>intro q
   ·have k:i<u.aT.length:=ad
    obtain ⟨aa,D,t,E⟩:=vg.cells i k;have L:(u.aT.take (i+1)).foldl (wW n) w=wW n ((u.aT.take i).foldl (wW n) w) u.aT[i]:=by
     rw [af9 k,ck9] <;> rfl
    generalize u.aT[i]=x at t E L;generalize (u.aT.take i).foldl (wW n) w=wi at *;refine bM D ?_;rw [cg i];refine ar (x,()) (aP X ai _ _ t) (ak ?_);refine aF rfl ?_;rw [aw];refine ay m.box (some (B+2),()) (ak ?_);have l6:=m.lt;refine sJ m.maps.g E (w:=n) rfl ?_;intro h7 m7 G z7;have hw:=gK i;rw [hw];refine aC (cs:=cz) (((i+1:Nat):Int),()) (b.l-(i+1)) rfl ad rfl ⟨i+1,rfl,ad,rfl,bS X G,?_,K.aj G (by simp; omega)⟩;rw [L];exact ⟨m.box.aj G ai,⟨m.maps.n.aj G ai,m.maps.e.aj G ai,m7⟩,m.rF.bf G (λj f=>by have:=(m.rF.cj f).1; simp; omega)⟩
   ·have hi:i=u.aT.length:=ad
    subst hi;rw [bo9 (am9 _)] at m;have hw:=gK n;rw [hw];exact aC (cs:=iv) (J,((n+1:Nat):Int),()) (l-(n+1)) rfl ad rfl ⟨n+1,_,rfl,ad,rfl,X,m,K,W⟩
 ·have hn:n=yR.length:=ad
  subst hn;rw [dl9 (am9 _)] at o;subst o;refine bJ F ?_;intro h3 d Q z3;have d:br h3 h.size 77 [vI 0,vI 0,.string ⟨#[]⟩]:=d;refine ay d ((0:Int),(0:Int),(⟨#[]⟩:Xaa),()) ?_;refine ⟨bS S Q,rfl,?_⟩;exact ⟨s.box.aj Q (by simp; omega),s.maps.aj Q (by simp; omega) (by simp; omega) (by simp; omega),s.rF.bf Q (λj f=>by have:=R j f; simp; omega)⟩
end
end Go.Sx.Lk
namespace Go.Sx.Ob
open Go.Proofs
def Yw (x:cB):Bool:=decide (x.kind=2) && uB x.inst.op
def kO (l:List cB):Nat:=(l.filter Yw).length
def J8 (l:List cB) (i:Nat) (hi:i<l.length):kO (l.take (i+1))=kO (l.take i)+if Yw l[i]=true then 1 else 0:=by
 unfold kO;rw [af9 hi,List.filter_append,ae9]
 congr 1
 by_cases hk:Yw l[i]=true <;> simp [hk]
def A6 (l:List cB):kO l<=l.length:=dr9 _ _
def MD {h:Hp} (t:zY h) {a b c d:bC} {u:cm} (v:vp h a b c d u):HC Xaz 36 #[GH a b c d] h λw h'=>w=vI ((if fC u=0 then kO u.text else 0:Nat):Int)/\Ext h h':=by
 refine aX (args:=[GH a b c d]) mixed Tryz.func36 av (An a.p a.l a.c b.p b.l b.c c.p c.l c.c d.p d.l d.c) ?_;unfold xM aR aY bz aK bj cY aE bm bZ aS;refine bn ?_;intro h1 j o z1;have j:br h1 h.size 70 [a.v,b.v,c.v,d.v]:=j;refine ay j ((a.p,a.l,a.c),(b.p,b.l,b.c),(c.p,c.l,c.c),(d.p,d.l,d.c),()) (ak ?_);refine aG (xE (t.aj o ai) (v.aj o)) ?_;rintro _ h2 ⟨rfl,A⟩;refine ⟨((fC u:Int),()),rfl,ak ?_⟩;have e02:=o.trans A;refine ao ?_ ?_<;>intro r
 ·have r:¬ fC u=0:=by simpa using r
  rw [ac9 r];exact ⟨rfl,e02⟩
 have r:fC u=0:=by simpa using r
 rw [ag9 r];have b2:=j.aj A ai;refine ay b2 ((a.p,a.l,a.c),()) (ak ?_);have n:=v.text.len;have m1:=v.text.many;refine aM (cs:=fV) (λy m h'=>∃ i:Nat,y.2.1=(i:Int)/\y.1=(kO (u.text.take i):Int)/\m=u.text.length-i/\i<=u.text.length/\Ext h h') ((0:Int),(0:Int),()) u.text.length rfl
  ⟨0,rfl,rfl,rfl,ad,e02⟩ ?_
 rintro ⟨K,L,⟨⟩⟩ m g ⟨i,hi,hn,rfl,E,eg⟩;simp only at hi hn;subst hi hn;refine ak ?_;refine aI ?_ ?_<;>intro q
 ·have f:i<u.text.length:=ad
  obtain ⟨M,pp,B,C,rfl',hc,z⟩:=(v.text.aj eg).cells i f;have ht:=J8 u.text i f;have F:kO (u.text.take i)<=i:=by have:=A6 (u.text.take i); rw [au9] at this; omega
  generalize u.text[i]=x at hc z ht;refine eS (aF rfl' ?_);rw [cg i];refine ar (x.kind,x.name,x.inst.op,x.inst.a,x.inst.b,x.inst.n,x.inst.form,(pp,B,C),(x.e.num:Int),x.n,()) hc (ak ?_);refine bn ?_;intro N G H O;refine bJ G ?_;intro g2 k I P;have k:br g2 g.size 55 (encI pp B C x):=k;have J:Ext g g2:=bS H I;have eg2:=eg.trans J;refine ay k (x.kind,()) (ak ?_);refine ao ?_ ?_<;>intro r
  ·have r:x.kind=2:=by simpa using r
   rw [aw];refine ay k (x.inst.op,()) (ak ?_);refine aG (HE (t.aj eg2 ai) x.inst.op z.op.1 z.op.2) ?_;rintro _ Q ⟨rfl,D⟩;refine ⟨(uB x.inst.op,()),rfl,ak ?_⟩;refine ao ?_ ?_<;>intro s
   ·rw [ag9 (by unfold Yw; rw [ak9 r,s]; rfl)] at ht;refine aC (cs:=fV) (((kO (u.text.take i)+1:Nat):Int),((i+1:Nat):Int),()) (u.text.length-(i+1)) rfl ad (by rw [wrap_i64 ad ad,wrap_i64 ad ad]; rfl) ?_;exact ⟨i+1,rfl,by rw [ht],rfl,ad,eg2.trans D⟩
   ·rw [ac9 (by unfold Yw; rw [ak9 r,s]; decide)] at ht;refine aC (cs:=fV) ((kO (u.text.take i):Int),((i+1:Nat):Int),()) (u.text.length-(i+1)) rfl ad (by rw [wrap_i64 ad ad]; rfl) ?_;exact ⟨i+1,rfl,by rw [ht]; rfl,rfl,ad,eg2.trans D⟩
  ·have r:¬ x.kind=2:=by simpa using r
   rw [ac9 (by unfold Yw; rw [al9 r]; simp)] at ht;refine aC (cs:=fV) ((kO (u.text.take i):Int),((i+1:Nat):Int),()) (u.text.length-(i+1)) rfl ad (by rw [wrap_i64 ad ad]; rfl) ?_;exact ⟨i+1,rfl,by rw [ht]; rfl,rfl,ad,eg2⟩
 ·have:i=u.text.length:=ad
  subst this;rw [bj9];exact ⟨rfl,eg⟩
end Go.Sx.Ob
namespace Go.Sx.Lk
open Go.Proofs Go.Sx.Ob
variable {fs:List cV}
structure lM where
 s:bC
 ws:List (bC × cB)
def ZM:lM:=⟨mG,[]⟩
structure oa (h:Hp) (b:Nat) (x:lM):Prop where
 out:SL h b 55 10 x.s.p x.s.l x.s.c (x.ws.map uN)
 fF:∀ u,u∈x.ws->SL h b 64 2 u.1.p u.1.l u.1.c (u.2.e.af.map cT)
variable {O:Hp} {H U V:Nat}
def oa.aj {h':Hp} {x:lM} {ws:List Nat} (s:oa O H x) (k:Ch ws O h') (h1:∀ i,i∈ax x.s.p->i∉ws) (h2:∀ u,u∈x.ws->∀ i,i∈ax u.1.p->i∉ws):oa h' H x :=
 ⟨s.out.bf k h1,λu a=>(s.fF u a).bf k (h2 u a)⟩
def oa.ext {h':Hp} {x:lM} (s:oa O H x) (k:Ext O h'):oa h' H x:=s.aj k ai ai
def oa.mono {h:Hp} {b b':Nat} {x:lM} (s:oa h b x) (a:b'<=b):oa h b' x:=⟨s.out.mono a,λu c=>(s.fF u c).mono a⟩
structure mK (h:Hp) (b N:Nat) (S:Nat->lM):Prop where
 sec:∀ k,k<N->oa h b (S k)
 ap:∀ k j,k<N->j<N->k≠j->∀ x,x∈ax (S k).s.p->x∉ax (S j).s.p
def mK.ext {h h':Hp} {b N:Nat} {S:Nat->lM} (s:mK h b N S) (k:Ext h h'):mK h' b N S:=⟨λj a=>(s.sec j a).ext k,s.ap⟩
def mK.om {h':Hp} {S:Nat->lM} {ws:List Nat} (s:mK O H U S) (k:Ch ws O h') (d:∀ i,i∈ws->i<H):mK h' H U S :=
 ⟨λj a=>(s.sec j a).aj k (λi hi c=>by have:=((s.sec j a).out.cj hi).1; have:=d i c; omega) (λu e i hi c=>by have:=(((s.sec j a).fF u e).cj hi).1; have:=d i c; omega),s.ap⟩
variable {Y:Xac}
def mK.tG {h':Hp} {S:Nat->lM} {e:TypeId} {sz l c:Nat} {xs:List (List Xab)} (s:mK O H U S) (t:SL O V e sz Y l c xs) (k:Ch (ax Y) O h') (h1:e≠55) (h2:e≠64):mK h' H U S :=
 ⟨λj a=>(s.sec j a).aj k (λi hi d=>xc t (s.sec j a).out h1 i d hi) (λu f i hi d=>xc t ((s.sec j a).fF u f) h2 i d hi),s.ap⟩
def my (S:Nat->lM) (k:Nat) (x:lM):Nat->lM:=λj=>if j=k then x else S j
def mK.nil (h:Hp) (b:Nat) (S:Nat->lM):mK h b 0 S:=⟨λk hk=>absurd hk ad,λk j hk=>absurd hk ad⟩
variable {Z:Nat->lM}
def mK.add {h':Hp} (s:mK O H U Z) (e:Ext O h') (l:H<=O.size) {x:lM} (g:oa h' O.size x):mK h' H (U+1) (my Z U x):=by
 have s':=s.ext e;refine ⟨λk hk=>?_,λk j hk m i y d a=>?_⟩
 ·unfold my
  by_cases c:k=U
  ·rw [ag9 c]; exact g.mono l
  ·rw [ac9 c]; exact s'.sec k ad
 ·unfold my at d a
  by_cases c:k=U <;> by_cases f:j=U
  ·omega
  ·rw [ag9 c] at d;rw [ac9 f] at a;have h1:=(g.out.cj d).1;have h2:=((s.sec j ad).out.cj a).2;omega
  ·rw [ac9 c] at d;rw [ag9 f] at a;have h1:=(g.out.cj a).1;have h2:=((s.sec k ad).out.cj d).2;omega
  ·rw [ac9 c] at d;rw [ac9 f] at a;exact s.ap k j ad ad i y d a
def mK.put {h':Hp} (s:mK O H U Z) (hk:V<U) {i:Nat} (hi:i<(Z V).ws.length) {q:bC × cB} (A:SL O H 64 2 q.1.p q.1.l q.1.c (q.2.e.af.map cT))
  (B:SL h' H 55 10 (Z V).s.p (Z V).s.l (Z V).s.c (((Z V).ws.set i q).map uN)) (c:Ch (ax (Z V).s.p) O h'):mK h' H U (my Z V ⟨(Z V).s,(Z V).ws.set i q⟩):=by
 have d:∀ {p:Xac} {l c:Nat} {ts:dr},SL O H 64 2 p l c (ts.map cT)->SL h' H 64 2 p l c (ts.map cT):=λt=>t.bf c (λx r f=>xc t (s.sec V hk).out bH x r f)
 refine ⟨λj g=>?_,λj m g f w y z n=>?_⟩
 ·unfold my
  by_cases a:j=V
  ·rw [ag9 a];refine ⟨B,λu o=>?_⟩;rcases dk9 o with o | rfl
   ·exact d ((s.sec V hk).fF u o)
   ·exact d A
  ·rw [ac9 a];exact ⟨(s.sec j g).out.bf c (λx r f=>s.ap j V g hk a x r f),λu o=>d ((s.sec j g).fF u o)⟩
 ·have C:∀ j,(my Z V ⟨(Z V).s,(Z V).ws.set i q⟩ j).s=(Z j).s:=by
   intro j;unfold my
   by_cases a:j=V
   ·rw [ag9 a,a]
   ·rw [ac9 a]
  rw [C] at z n;exact s.ap j m g f w y z n
def zo (S:Nat->lM) (n:Nat):List Xab:=[(S (2*n)).s.v,(S (2*n+1)).s.v,mG.v,mG.v]
def oh (S:Nat->lM) (n:Nat):List (List Xab):=(List.range n).map (zo S)
def JY (S:Nat->lM) (n:Nat) (a b:lM):oh (my (my S (2*n) a) (2*n+1) b) (n+1)=oh S n++[[a.s.v,b.s.v,mG.v,mG.v]]:=by
 unfold oh;rw [List.range_succ,ao9]
 congr 1
 ·apply cm9;intro i hi;have hi:i<n:=ef9.1 hi;unfold zo my;rw [ac9 ad,ac9 ad,ac9 ad,ac9 ad]
 ·show [zo _ n]=_;unfold zo my;rw [ac9 ad,ag9 rfl,ag9 rfl]
def km (S:Nat->lM) (n:Nat):(oh S n).length=n:=by unfold oh; simp
def Eo (S:Nat->lM) (n i:Nat) (hi:i<(oh S n).length):(oh S n)[i]=zo S i:=by
 have:i<n:=by simpa [km] using hi
 show ((List.range n).map (zo S))[i]'(by simpa using this)=_;rw [aj9,List.getElem_range]
def fl (D:List (Xaa × bK)):List cV:=D.map λq=>⟨q.1,none,0,0,q.2⟩
def fQ (e:cV):Xaa × bK:=(e.name,e.x)
def qY (D:List (Xaa × bK)):(fl D).map fQ=D:=by
 unfold fl;rw [bg9];exact List.map_id _
def Nh {es:List cV} (h:es.map fQ=fs.map fQ):aU es=aU fs:=by
 have:=as9 (List.map (·.1)) h
 rw [bg9,bg9] at this;exact this
def KZ {es:List cV} (h:es.map fQ=fs.map fQ) (s:Xaa):lx es s=lx fs s:=by
 unfold lx;have a:∀ l:List cV,l.findIdx? (λe=>decide (e.name=s))=(l.map fQ).findIdx? λq=>decide (q.1=s):=by
  intro l;rw [fn9] <;> rfl
 rw [a,a,h]
def EJ {es:List cV} (h:es.map fQ=fs.map fQ):cE es=cE fs:=by
 funext s
 unfold cE;rw [KZ h]
def EI {es:List cV} (h:es.map fQ=fs.map fQ):dC es=dC fs:=by
 funext s
 unfold dC;rw [KZ h];cases lx fs s with
 | none=>rfl
 | some k =>
  have a:es[k]?.map (·.x)=fs[k]?.map (·.x):=by
   have h1:(es.map fQ)[k]?=(fs.map fQ)[k]?:=by rw [h]
   rw [cl9,cl9] at h1;have h2:=as9 (Option.map (·.2)) h1;rw [Option.map_map,Option.map_map] at h2;exact h2
  show (es[k]?.map (·.x)).getD vZ=(fs[k]?.map (·.x)).getD vZ;rw [a]
def LD {es:List cV} (h:es.map fQ=fs.map fQ):fy es=fy fs:=by
 funext s
 unfold fy;rw [EJ h,EI h,Nh h]
def CM {es:List cV} (h:es.map fQ=fs.map fQ):dG es=dG fs:=by
 unfold dG;rw [EJ h,EI h]
def jF (D:List (Xaa × bK)):List (Xaa × bK):=D.map λq=>(q.1,fy (fl D) q.1)
def oM (D:List (Xaa × bK)) (x:bK):bK:=dB (cF (fl D)) x
def HT {es:List cV} (h:es.map fQ=fs.map fQ):cF es=cF fs:=by
 funext s
 unfold cF;rw [EJ h,EI h]
def eK:Nat->List cm->List (Nat × tI)
 | _,[]=>[]
 | n,u::us=>u.bi.map (λe=>(n,e))++eK (n+1) us
theorem te (u:cm):∀ (l:List cm) (n:Nat),eK n (l++[u])=eK n l++u.bi.map λe=>(n+l.length,e)
 | [],n=>by simp [eK]
 | y::l,n=>by
  simp only [List.cons_append,eK,List.length_cons];rw [te u l (n+1),show n+1+l.length=n+(l.length+1) from ad,az9]
def oO (w:LW) (us:List cm):List (Xaa × bK):=(eK 0 us).map λq=>(w.word (q.1,q.2.1),w.lin q.1 q.2.2)
def tg (w:LW) (n:Nat) (u:cm):Option Xaa:=(w.Ak n u.text).or ((w.Ak n u.data).or (u.bi.findSome? λe=>w.bad n e.2))
def fX (w:LW):Nat->List cm->Option (Nat × Xaa)
 | _,[]=>none
 | n,u::us=>match tg w n u with
  | some s=>some (n,s)
  | none=>fX w (n+1) us
def B2 (w:LW) (us:List cm) (n:Nat) (hn:n<us.length):fX w n (us.drop n)=match tg w n us[n] with
  | some s=>some (n,s)
  | none=>fX w (n+1) (us.drop (n+1)):=by
 rw [ax9 hn,fX]
noncomputable def mR (D:List (Xaa × bK)):Option Nat:=by
 classical
 exact D.findIdx? λq=>decide (lK (dG (fl D)) q.1)
structure Fl where
 r6:Nat
 unit:Nat
 name:Xaa
structure LP where
 w:LW
 us:List cm
 D:List (Xaa × bK)
def LP.fG (P:LP) (n:Nat) (x:cB):cB:={ x with e:=oM (jF P.D) (P.w.lin n x.e) }
noncomputable def nB (us:List cm):Except Fl LP :=
 if us.length=0 then .error ⟨25,0,dZ⟩
 else if 64<us.length then .error ⟨4,0,dZ⟩
 else match us.findIdx? λu=>decide (fC u≠0) with
 | some n=>.error ⟨31,n,dZ⟩
 | none=>match lV 0 us (oD 0 us VI) with
  | .error q=>.error ⟨22,q.1,q.2⟩
  | .ok w=>match fX w 0 us with
   | some q=>.error ⟨23,q.1,q.2⟩
   | none=>match mR (oO w us) with
    | some i=>.error ⟨24,((eK 0 us).map λq=>(q.1,q.2.1)).getD i (0,dZ) |>.1,((eK 0 us).map λq=>(q.1,q.2.1)).getD i (0,dZ) |>.2⟩
    | none=>.ok ⟨w,us,oO w us⟩
def cR (u:cm):List bK:=u.text.map (·.e)++u.data.map (·.e)++u.bi.map (·.2)
def Ik {x:bK} (h:SQ x=true):Good x:=by
 unfold SQ at h;simp only [Bool.and_eq_true,decide_eq_true_eq] at h;obtain ⟨t,n⟩:=x;obtain ⟨rfl,rfl⟩:=h;exact ⟨⟨List.Pairwise.nil,ai⟩,ai,bH⟩
def Ia {x:cB} (h:cI x H=true) (hc:∀ t,t∈x.e.af->t.2<4294967296) (hn:x.e.num<4294967296):Good x.e:=by
 have z:z3 x=true->Good x.e:=Ik;unfold cI at h
 repeat' split at h
 all_goals try simp only [Bool.and_eq_true] at h
 ·exact z h.1.2
 ·have h1:=h.1.1.2;unfold AZ at h1;simp only [Bool.and_eq_true] at h1;have h2:=h1.2;split at h2
  ·simp only [Bool.and_eq_true] at h2;exact FK h2.2 hc hn
  ·simp only [Bool.and_eq_true] at h2;exact Ik h2.2
 ·exact z h.2
 ·exact z h.1.2
 ·exact z h.2
 ·exact FK h.1.1.1.2 hc hn
 ·exact z h.2
 ·cases h
theorem tu {sec:Nat}:∀ {l:List cB} {D:List Xaa},fv sec D l=true->∀ x,x∈l->cI x sec=true
 | [],_,_,x,a=>by simp at a
 | y::l,D,h,x,a=>by
  unfold fv at h;rw [bm9] at h;rcases bd9.1 a with rfl | a
  ·have:=h.1
   unfold zu at this;rw [bm9] at this;exact this.1
  ·exact tu h.2 x a
theorem vH:∀ {l:List tI} {D:List Xaa},iy D l=true->∀ e,e∈l->cD e.1.data.toList=true/\oW none e.2.af=true
 | [],_,_,x,a=>by simp at a
 | y::l,D,h,x,a=>by
  unfold iy at h;rw [bm9] at h;rcases bd9.1 a with rfl | a
  ·have:=h.1
   unfold Er at this;simp only [Bool.and_eq_true] at this;exact ⟨this.1.2,this.2⟩
  ·exact vH h.2 x a
variable {a:cm}
def Cl (h:fC a=0) (hc:∀ x,x∈cR a->x.num<4294967296/\∀ t,t∈x.af->t.2<4294967296):∀ x,x∈cR a->Good x:=by
 have h1:=(Bp h).2;unfold xS at h1;simp only [Bool.and_eq_true] at h1;obtain ⟨⟨⟨h1,h2⟩,d⟩,e⟩:=h1;intro x b;have hcx:=hc x b;unfold cR at b;rcases ar9.1 b with b | b
 ·rcases ar9.1 b with b | b
  ·obtain ⟨y,c,rfl⟩:=ap9.1 b;exact Ia (tu h1 y c) hcx.2 hcx.1
  ·obtain ⟨y,c,rfl⟩:=ap9.1 b;exact Ia (tu h2 y c) hcx.2 hcx.1
 ·obtain ⟨y,c,rfl⟩:=ap9.1 b;exact FK (vH d y c).2 hcx.2 hcx.1
structure IJ (us:List cm):Prop where
 many:us.length<=2^20
 items:wH us<=2^20
 num:∀ u,u∈us->∀ x,x∈cR u->x.num<4294967296/\∀ t,t∈x.af->t.2<4294967296
 af:((us.flatMap cR).flatMap (·.af)).length<=2^20
variable {b:bK}
def IJ.len {us:List cm} (s:IJ us) (c:a∈us) (d:b∈cR a):b.af.length<=2^20:=by
 have h1:b∈us.flatMap cR:=ff9.2 ⟨a,c,d⟩;exact cd9 (iP (·.af) h1) s.af
def Kw (of:Xaa->Option bK) (t:Xaa × Nat):bK:=match of t.1 with
 | none=>⟨[t],0⟩
 | some y=>wA y t.2
def gI (of:Xaa->Option bK) (o:bK) (t:Xaa × Nat):bK:=kB o (Kw of t)
variable {c:dr}
def Lr (l:dr) {k:dr} (hk:Nf k) (hc:∀ s,cf k s % 4294967296=cf c s % 4294967296):He (Gf l) k=Gf (l++c) :=
 (FO (BK l) hk).Nt (BK _) λs=>by
  have h1:=hc s;have h2:=FJ (Gf l) k s;have h3:=Cu l s;have h4:=Cu (l++c) s;rw [DD] at h4;omega
theorem DI {of:Xaa->Option bK} (a:∀ s y,of s=some y->Nf y.af):∀ (ts l:dr) (n:Nat),n<4294967296->(∀ t,t∈ts->t.2≠0/\t.2<4294967296) ->
  ts.foldl (gI of) ⟨Gf l,n⟩=⟨Gf (l++ts.flatMap (tv of)),ts.foldl (hZ of) n⟩
 | [],l,n,_,_=>ai
 | t::ts,l,n,hn,ht=>by
  have h1:gI of ⟨Gf l,n⟩ t=⟨Gf (l++tv of t),hZ of n t⟩/\hZ of n t<4294967296:=by
   have ht0:=ht t ai;unfold gI Kw tv hZ kB;cases b:of t.1 with
   | none =>
    refine ⟨?_,hn⟩;simp only [Nat.add_zero];rw [eb9 hn]
    congr 1
    exact Lr l ⟨ai,by simpa using ht0⟩ λs=>rfl
   | some y =>
    refine ⟨?_,fz9 _ bH⟩;unfold wA;simp only;rw [fv9 y.num t.2]
    congr 1
    refine Lr l (Ms (a _ _ b)) λs=>?_
    rw [NB]
    have:=Fu t.2 y.af s
    rw [<- this]
    congr 2
    exact cm9 λp _=>by rw [fv9]
  rw [bt9,h1.1,DI a ts _ _ h1.2 (λu c=>ht u (aq9 _ c)),az9,cf9,bt9]
def Y3:Gf []=[]:=G2 Nf.nil
def F1 {of:Xaa->Option bK} (a:∀ s y,of s=some y->Nf y.af) {x:bK} (b:Nf x.af) (hn:x.num<4294967296):x.af.foldl (gI of) ⟨[],x.num⟩=dB of x:=by
 have:=DI a x.af [] x.num hn b.2
 rw [cw9,Y3] at this;exact this
def De {of:Xaa->Option bK} (a:∀ s y,of s=some y->Nf y.af) {x:bK} (b:Nf x.af) (hn:x.num<4294967296) (i:Nat):(x.af.take i).foldl (gI of) ⟨[],x.num⟩=dB of ⟨x.af.take i,x.num⟩ :=
 F1 (x:=⟨x.af.take i,x.num⟩) a ⟨b.1.sublist (List.take_sublist _ _),λt ht=>b.2 t (cy9 ht)⟩ hn
def Bl {of:Xaa->Option bK} {t:Xaa × Nat} (ht:t∈(dB of b).af):∃ u,u∈b.af/\((of u.1=none/\t.1=u.1)\/∃ y w,of u.1=some y/\w∈y.af/\w.1=t.1):=by
 obtain ⟨p,e,c⟩:=F9 ht;obtain ⟨u,f,a⟩:=ff9.1 e;refine ⟨u,f,?_⟩;unfold tv at a;cases d:of u.1 with
 | none =>
  rw [d] at a;simp only [List.mem_singleton] at a;exact Or.inl ⟨rfl,by rw [<- c,a]⟩
 | some y =>
  rw [d] at a;obtain ⟨w,g,rfl⟩:=ap9.1 a;exact Or.inr ⟨y,w,rfl,g,c⟩
def Bm (h:Nf c) {S:List Xaa} (b:∀ t,t∈c->t.1∈S):c.length<=S.length:=by
 have:=kJ (c.map (·.1)) S (cs9.2 (h.1.imp λh=>ko h)) (λs a=>by
  obtain ⟨t,ht,rfl⟩:=ap9.1 a;exact b t ht)
 rwa [ab9] at this
def UB:Option Nat->Int
 | none=>-1
 | some k=>(k:Int)
def Xs {es:List cV} {s:Xaa} {i:Nat} (hi:i<es.length) (h:∀ j,(a:j<i)->(es[j]'ad).name≠s) (b:es[i].name=s):lx es s=some i:=by
 unfold lx;rw [bf9];exact ⟨hi,ak9 b,λj a=>by simpa using h j a⟩
def Hs {es:List cV} (v:vQ O Y H es) (hl:es.length<=2^60) (s:Xaa):ug Xaz 101 [.slice Y H U,.string s] O (vI (UB (lx es s))):=by
 refine eW mixed Tryz.func101 av (ph Y H U s) ?_;unfold lA aR aY bz aK aS;have n:=v.len;refine aM (cs:=fV) (λy m h'=>∃ i:Nat,y.2.1=(i:Int)/\m=es.length-i/\i<=es.length/\h'=O/\∀ j,j<i->(b:j<es.length)->es[j].name≠s) ((0:Int),(0:Int),()) es.length rfl
  ⟨0,rfl,rfl,ad,rfl,λj b=>absurd b ad⟩ ?_
 rintro ⟨g,w,⟨⟩⟩ m h' ⟨i,hi,rfl,k,rfl,hn⟩;simp only at hi;subst hi;refine ak ?_;refine aI ?_ ?_<;>intro q
 ·have f:i<es.length:=ad
  obtain ⟨a,o,hc⟩:=v.cells i f;refine bM o ?_;rw [cg i];refine ar (es[i].name,()) ⟨hc.1,trivial⟩ (ak ?_);rw [sr];refine aI ?_ ?_<;>intro r
  ·refine ⟨as9 (Value.int .i64) ?_,rfl⟩;rw [Xs f (λj b=>hn j b ad) r] <;> rfl
  ·refine aC (cs:=fV) (g,((i+1:Nat):Int),()) (es.length-(i+1)) rfl ad (by rw [wrap_i64 ad ad]; rfl) ?_;exact ⟨i+1,rfl,rfl,ad,rfl,λj b t=>by
    by_cases e:j=i
    ·subst e; exact r
    ·exact hn j ad t⟩
 ·have:i=es.length:=ad
  subst this;refine ⟨as9 (Value.int .i64) ?_,rfl⟩;rw [H8 λd u=>by
   obtain ⟨j,b,rfl⟩:=bh9 u;exact hn j b b]
  rfl
end Go.Sx.Lk
namespace Go.Sx
open Go.Proofs
def ltB (a b:Xaa):Op.bytesLess (ByteArray.toList a) (ByteArray.toList b)=decide (iW a b):=by
 rw [ByteArray.toList_eq,ByteArray.toList_eq,Proofs.bytesLess_eq] <;> rfl
def Xk (h:Hp) (a:Nat) (x y:dr) (N:Int) (i j:Nat) (h':Hp):Prop :=
 i<=x.length/\j<=y.length/\Ch [a] h h'/\∃ O p l c f,br h' a 53 [.slice p l c,.int .u32 N]/\SL h' h.size 64 2 p l c (O.map cT)/\He x y=O++fT f (x.drop i) (y.drop j)/\(x.length-i)+(y.length-j)<=f/\O.length<=i+j
def OE (f:Nat):fT f [] []=[]:=by cases f <;> rfl
variable {H:Nat} {U:Xaa × Nat} {O V:dr}
def WC {y:dr} (h:y=[]\/∃ q r,y=q::r/\iW U.1 q.1):fT (H+1) (U::O) y=U::fT H O y:=by
 rcases h with rfl | ⟨q,r,rfl,h⟩
 ·rfl
 ·show (if iW U.1 q.1 then _ else _)=_;rw [ag9 h]
def W6 {y:dr} (h:O=[]\/∃ p r,O=p::r/\iW U.1 p.1):fT (H+1) O (U::y)=U::fT H O y:=by
 rcases h with rfl | ⟨p,r,rfl,h⟩
 ·rfl
 ·show (if iW p.1 U.1 then _ else if iW U.1 p.1 then _ else _)=_;rw [ac9 (DX h),ag9 h]
def Ti {q:Xaa × Nat} {y:dr} (h1:¬ iW U.1 q.1) (h2:¬ iW q.1 U.1):fT (H+1) (U::O) (q::y)=if (U.2+q.2) % 4294967296=0 then fT H O y else (U.1,(U.2+q.2) % 4294967296)::fT H O y:=by
 show (if iW U.1 q.1 then _ else if iW q.1 U.1 then _ else _)=_;rw [ac9 h1,ac9 h2]
def goX:dr->dr->Bool
 | [],_=>false
 | _::_,[]=>true
 | p::_,q::_=>decide (iW p.1 q.1)
def G8 (h:goX O V=true):∃ p r,O=p::r/\(V=[]\/∃ q s,V=q::s/\iW p.1 q.1):=by
 cases O with
 | nil=>cases h
 | cons p r =>
  cases V with
  | nil=>exact ⟨p,r,rfl,.inl rfl⟩
  | cons q s=>exact ⟨p,r,rfl,.inr ⟨q,s,rfl,ai9 h⟩⟩
def Ey (h:goX O V=false):O=[]\/∃ p r q s,O=p::r/\V=q::s/\¬ iW p.1 q.1:=by
 cases O with
 | nil=>exact .inl rfl
 | cons p r =>
  cases V with
  | nil=>cases h
  | cons q s=>exact .inr ⟨p,r,q,s,rfl,rfl,aw9 h⟩
def Ax {α:Type} {l r:List α} {p:α} (h:l.drop H=p::r):H<l.length:=by
 rcases cj9 H l.length with h1 | h1
 ·exact h1
 ·rw [ce9 h1] at h; cases h
def G' {h:Hp} {p q:Xac} {c m d:Nat} {x y:bK} (v:iA h p H x.af) (u:iA h q m y.af) (hp:∀ i,i∈ax p->i<h.size) (hq:∀ i,i∈ax q->i<h.size)
  (hl:x.af.length+y.af.length<=2^40) :
  HC Xaz 74 #[iD p H c x,iD q m d y] h λw h'=>Ext h h'/\∃ p' l' c',w=iD p' l' c' (kB x y)/\SL h' h.size 64 2 p' l' c' ((kB x y).af.map cT):=by
 refine aX (args:=[.agg #[.slice p H c,.int .u32 x.num],.agg #[.slice q m d,.int .u32 y.num]]) mixed Tryz.func74 av (rV p H c x.num q m d y.num) ?_;unfold nv aR aY bz aK bg aE bm aS cH;have hll:=v.len;have hmm:=u.len;refine bn ?_;intro h1 b1 N z1;refine bn ?_;intro h2 b2 B z2;refine bn ?_;intro W b3 e3 z3;have b1:=(b1.aj B ai).aj e3 ai;have b2:=b2.aj e3 ai;rw [aw,aw];refine ay b1 ((x.num:Int),()) (ak ?_);refine ay b2 ((y.num:Int),()) (ak ?_);refine bn ?_;intro h4 b4 e4 z4;refine bJ b4 ?_;intro h5 b5 k5 z5;rw [Lo] at b5;have b5:br h5 W.size 53 [.slice none 0 0,.int .u32 (((x.num+y.num) % 4294967296:Nat):Int)]:=b5;have P:Ext W h5:=bS e4 k5;have b1:=b1.aj P ai;have b2:=b2.aj P ai;have b3:=b3.aj P ai;have e05:=((N.trans B).trans e3).trans P;have hz5:=e05.size;refine aM (cs:=fV) (λz w h'=>∃ i j:Nat,z.1=(i:Int)/\z.2.1=(j:Int)/\w=(x.af.length-i)+(y.af.length-j)/\Xk h5 W.size x.af y.af (((x.num+y.num) % 4294967296:Nat):Int) i j h')
  ((0:Int),(0:Int),()) (x.af.length+y.af.length) rfl ⟨0,0,rfl,rfl,rfl,dw9 _,dw9 _,Ch.refl _ _,[],none,0,0,x.af.length+y.af.length,b5,SL.nil _ _ _ _,rfl,ad,ai⟩ ?_
 rintro ⟨n1,n2,⟨⟩⟩ w h6 ⟨i,j,hi,I,rfl,hil,hjl,X,O,C,lo,co,f,D,Y,hO,hf,hOl⟩;simp only at hi I;subst hi I;refine ak ?_;have hb5:=b5.lt;have hz6:=X.size;have b1:=b1.aj X (by simp; omega);have b2:=b2.aj X (by simp; omega);have b3:=b3.aj X (by simp; omega);have Z:Ext h h6:=bS e05 X;have v6:=v.aj Z ai;have u6:=u.aj Z ai;have hlo:lo=O.length:=by rw [Y.1,ab9]
 have hwi:=gK i;have hwj:=gK j;have n:∀ i,i∈ax C->h5.size<=i:=λi hi=>(Y.cj hi).1
 have hpm:∀ (k:Nat) (a:Xax) (w:dr) (vs:List Xab),(some a=p\/some a=q)->aH h6 (a.add (k*2)) 0 vs->∀ h',Ch (ax C) h6 h'->aH h' (a.add (k*2)) 0 vs:=λk a w vs s hc h' kk=>aP kk (by
  rw [fw];intro hm;have h1:=n _ hm;rcases s with s | s
  ·have:=hp a.block (by rw [<- s]; simp [ax]); omega
  ·have:=hq a.block (by rw [<- s]; simp [ax]); omega) _ _ hc
 have push:∀ (t:Xaa × Nat) (i' j':Nat) (r:Hp) (J:Xac) (K:Nat),i'<=x.af.length->j'<=y.af.length->i+j+1<=i'+j'->fT f (x.af.drop i) (y.af.drop j)=t::fT (f-1) (x.af.drop i') (y.af.drop j')->(x.af.length-i')+(y.af.length-j')<=f-1 ->
   SL r h5.size 64 2 J (lo+1) K (O.map cT++[cT t])->Ch (ax C) h6 r->∀ h8,br h8 W.size 53 [.slice J (lo+1) K,.int .u32 (((x.num+y.num) % 4294967296:Nat):Int)]->Ch [W.size] r h8->Xk h5 W.size x.af y.af (((x.num+y.num) % 4294967296:Nat):Int) i' j' h8:=by
  intro t i' j' r J K hi' hj' hij L hf' Q o h8 b8 R;refine ⟨hi',hj',Ch.trans (Ch.trans X o (λj I hl=>by have:=n j I; omega)) R (λj I _=>I),O++[t],J,lo+1,K,f-1,b8,?_,?_,hf',by simp; omega⟩
  ·rw [ao9];exact Q.bf R (λj I=>by have:=(Q.cj I).1; simp; omega)
  ·rw [hO,L]; simp
 refine fO (cs:=qd) (λz h'=>z.1=(decide (i<x.af.length) || decide (j<y.af.length))/\h6=h') ?_ ?_
 ·refine ay b1 ((p,H,c),()) (ak ?_);refine aI ?_ ?_<;>intro g1
  ·refine dE (cs:=qd) (true,()) rfl rfl ⟨?_,rfl⟩;rw [ak9 (show i<x.af.length from ad)] <;> rfl
  ·refine ay b2 ((q,m,d),()) (ak ?_);refine dE (cs:=qd) (decide ((j:Int)<(m:Int)),()) rfl rfl ⟨?_,rfl⟩;rw [al9 (show ¬ i<x.af.length from ad),fa9];show decide ((j:Int)<(m:Int))=decide (j<y.af.length);rw [fw9];omega
 rintro ⟨b10,⟨⟩⟩ h6' ⟨S,rfl⟩;simp only at S;subst S;refine ak ?_;refine ao ?_ ?_<;>intro g1
 ·simp only [Bool.or_eq_true,decide_eq_true_eq] at g1;obtain ⟨M,rfl⟩:∃ M,f=M+1:=⟨f-1,ad⟩
  refine fO (cs:=qd) (λz h'=>z.1=goX (x.af.drop i) (y.af.drop j)/\h6=h') ?_ ?_
  ·refine ay b2 ((q,m,d),()) (ak ?_);refine ao ?_ ?_<;>intro g2
   ·have g2:(j:Int)=(m:Int):=by simpa using g2
    refine dE (cs:=qd) (true,()) rfl rfl ⟨?_,rfl⟩;rw [show y.af.drop j=[] from ce9 ad,ax9 (l:=x.af) (i:=i) ad] <;> rfl
   ·have g2:¬ (j:Int)=(m:Int):=by simpa using g2
    have hjlt:j<y.af.length:=ad
    refine ay b1 ((p,H,c),()) (ak ?_);refine aI ?_ ?_<;>intro g3
    ·have hilt:i<x.af.length:=ad
     have b:x.af.drop i=x.af[i]::x.af.drop (i+1):=ax9 hilt;have g:y.af.drop j=y.af[j]::y.af.drop (j+1):=ax9 hjlt;obtain ⟨a,s,hc⟩:=v6.cells i hilt;obtain ⟨a',E,F⟩:=u6.cells j hjlt;subst s E;refine ay b1 ((some a,H,c),()) (ak ?_);refine bM rfl ?_;rw [cg i];refine ar (x.af[i].1,()) (de hc).1 (ak ?_);refine ay b2 ((some a',m,d),()) (ak ?_);refine bM rfl ?_;rw [cg j];refine ar (y.af[j].1,()) (de F).1 (ak ?_);rw [ltB];refine dE (cs:=qd) (decide (iW x.af[i].1 y.af[j].1),()) rfl rfl ⟨?_,rfl⟩;rw [b,g] <;> rfl
    ·refine dE (cs:=qd) (false,()) rfl rfl ⟨?_,rfl⟩;rw [show x.af.drop i=[] from ce9 ad] <;> rfl
  rintro ⟨b11,⟨⟩⟩ h6' ⟨U,rfl⟩;simp only at U;subst U;refine ak ?_;refine ao ?_ ?_<;>intro g2
  ·obtain ⟨pp,rr,A,hor⟩:=G8 g2;have hilt:=Ax A;have b:x.af.drop i=x.af[i]::x.af.drop (i+1):=ax9 hilt;rw [b] at A;cases A;have L:fT (M+1) (x.af.drop i) (y.af.drop j)=x.af[i]::fT (M+1-1) (x.af.drop (i+1)) (y.af.drop j):=by
    rw [b];exact WC hor
   obtain ⟨a,s,hc⟩:=v6.cells i hilt;subst s;refine ay D ((C,lo,co),()) (ak ?_);refine ay b1 ((some a,H,c),()) (ak ?_);refine bM rfl ?_;rw [cg i];refine ar (x.af[i].1,(x.af[i].2:Int),()) hc (ak ?_);refine gz (vs:=cT x.af[i]) A2 uY rfl ad ad av rfl rfl Y ad ad ad (λh' e=>⟨(b1.aj e ai).cells _ rfl,(D.aj e ai).cells _ rfl,trivial⟩) ?_;intro J K r Q o hp7;have b17:=b1.aj o (λG=>by have:=n _ G; omega);have b67:=D.aj o (λG=>by have:=n _ G; omega);refine ⟨⟨hpm i a x.af _ (.inl rfl) hc r o,b17.cells _ rfl,trivial⟩,?_⟩;refine bJ b67 ?_;intro h8 b8 R z8;refine aC (cs:=fV) (((i+1:Nat):Int),(j:Int),()) ((x.af.length-(i+1))+(y.af.length-j)) rfl ad (by rw [hwi]; rfl) ⟨i+1,j,rfl,rfl,rfl,?_⟩;exact push _ (i+1) j r J K ad hjl ad L ad Q o h8 b8 R
  ·have g2:=Ey g2;refine fO (cs:=qd) (λz h'=>z.1=goX (y.af.drop j) (x.af.drop i)/\h6=h') ?_ ?_
   ·refine ay b1 ((p,H,c),()) (ak ?_);refine ao ?_ ?_<;>intro g3
    ·have g3:(i:Int)=(H:Int):=by simpa using g3
     refine dE (cs:=qd) (true,()) rfl rfl ⟨?_,rfl⟩;rw [show x.af.drop i=[] from ce9 ad,ax9 (l:=y.af) (i:=j) ad] <;> rfl
    ·have g3:¬ (i:Int)=(H:Int):=by simpa using g3
     have hilt:i<x.af.length:=ad
     have hjlt:j<y.af.length:=by
      rcases cj9 j y.af.length with h | h
      ·exact h
      ·rcases g2 with g2 | ⟨_,_,_,_,_,g2,_⟩
       ·have:=fq9.1 g2; omega
       ·rw [ce9 h] at g2; cases g2
     have b:x.af.drop i=x.af[i]::x.af.drop (i+1):=ax9 hilt;have g:y.af.drop j=y.af[j]::y.af.drop (j+1):=ax9 hjlt;obtain ⟨a,s,hc⟩:=v6.cells i hilt;obtain ⟨a',E,F⟩:=u6.cells j hjlt;subst s E;refine ay b2 ((some a',m,d),()) (ak ?_);refine bM rfl ?_;rw [cg j];refine ar (y.af[j].1,()) (de F).1 (ak ?_);refine ay b1 ((some a,H,c),()) (ak ?_);refine bM rfl ?_;rw [cg i];refine ar (x.af[i].1,()) (de hc).1 (ak ?_);rw [ltB];refine dE (cs:=qd) (decide (iW y.af[j].1 x.af[i].1),()) rfl rfl ⟨?_,rfl⟩;rw [b,g] <;> rfl
   rintro ⟨b12,⟨⟩⟩ h6' ⟨V,rfl⟩;simp only at V;subst V;refine ak ?_;refine ao ?_ ?_<;>intro g3
   ·obtain ⟨pp,rr,A,hor⟩:=G8 g3;have hjlt:=Ax A;have g:y.af.drop j=y.af[j]::y.af.drop (j+1):=ax9 hjlt;rw [g] at A;cases A;have L:fT (M+1) (x.af.drop i) (y.af.drop j)=y.af[j]::fT (M+1-1) (x.af.drop i) (y.af.drop (j+1)):=by
     rw [g];exact W6 hor
    obtain ⟨a,s,hc⟩:=u6.cells j hjlt;subst s;refine ay D ((C,lo,co),()) (ak ?_);refine ay b2 ((some a,m,d),()) (ak ?_);refine bM rfl ?_;rw [cg j];refine ar (y.af[j].1,(y.af[j].2:Int),()) hc (ak ?_);refine gz (vs:=cT y.af[j]) A2 uY rfl ad ad av rfl rfl Y ad ad ad (λh' e=>⟨(b2.aj e ai).cells _ rfl,(D.aj e ai).cells _ rfl,trivial⟩) ?_;intro J K r Q o hp7;have b27:=b2.aj o (λG=>by have:=n _ G; omega);have b67:=D.aj o (λG=>by have:=n _ G; omega);refine ⟨⟨hpm j a y.af _ (.inr rfl) hc r o,b27.cells _ rfl,trivial⟩,?_⟩;refine bJ b67 ?_;intro h8 b8 R z8;refine aC (cs:=fV) ((i:Int),((j+1:Nat):Int),()) ((x.af.length-i)+(y.af.length-(j+1))) rfl ad (by rw [hwj]; rfl) ⟨i,j+1,rfl,rfl,rfl,?_⟩;exact push _ i (j+1) r J K hil ad ad L ad Q o h8 b8 R
   ·have g3:=Ey g3;have hb:i<x.af.length/\j<y.af.length:=by
     rcases g2 with g2 | ⟨_,_,_,_,N,B,_⟩
     ·have h1:=fq9.1 g2;rcases g3 with g3 | ⟨_,_,_,_,_,B,_⟩
      ·have h2:=fq9.1 g3; omega
      ·rw [g2] at B; cases B
     ·exact ⟨Ax N,Ax B⟩
    obtain ⟨hilt,hjlt⟩:=hb;have b:x.af.drop i=x.af[i]::x.af.drop (i+1):=ax9 hilt;have g:y.af.drop j=y.af[j]::y.af.drop (j+1):=ax9 hjlt;have n1:¬ iW x.af[i].1 y.af[j].1:=by
     rcases g2 with g2 | ⟨_,_,_,_,N,B,hn⟩
     ·rw [b] at g2; cases g2
     ·rw [b] at N; rw [g] at B; cases N; cases B; exact hn
    have n2:¬ iW y.af[j].1 x.af[i].1:=by
     rcases g3 with g3 | ⟨_,_,_,_,N,B,hn⟩
     ·rw [g] at g3; cases g3
     ·rw [g] at N; rw [b] at B; cases N; cases B; exact hn
    have L:fT (M+1) (x.af.drop i) (y.af.drop j)=if (x.af[i].2+y.af[j].2) % 4294967296=0 then fT M (x.af.drop (i+1)) (y.af.drop (j+1)) else (x.af[i].1,(x.af[i].2+y.af[j].2) % 4294967296)::fT M (x.af.drop (i+1)) (y.af.drop (j+1)):=by
     rw [b,g];exact Ti n1 n2
    obtain ⟨a,s,hc⟩:=v6.cells i hilt;obtain ⟨a',E,F⟩:=u6.cells j hjlt;subst s E;refine ay b1 ((some a,H,c),()) (ak ?_);refine bM rfl ?_;rw [cg i];refine ar ((x.af[i].2:Int),()) (de hc).2 (ak ?_);refine ay b2 ((some a',m,d),()) (ak ?_);refine bM rfl ?_;rw [cg j];refine ar ((y.af[j].2:Int),()) (de F).2 (ak ?_);rw [Lo];refine fO (cs:=[]) (λz h'=>Xk h5 W.size x.af y.af (((x.num+y.num) % 4294967296:Nat):Int) (i+1) (j+1) h') ?_ ?_
    ·refine ao ?_ ?_<;>intro g4
     ·have g4:¬ (x.af[i].2+y.af[j].2) % 4294967296=0:=by
       have:¬ (((x.af[i].2+y.af[j].2) % 4294967296:Nat):Int)=0:=by simpa using g4
       omega
      rw [ac9 g4] at L;refine ay D ((C,lo,co),()) (ak ?_);refine ay b1 ((some a,H,c),()) (ak ?_);refine bM rfl ?_;refine ar (x.af[i].1,()) (de hc).1 (ak ?_);refine gz (vs:=cT (x.af[i].1,(x.af[i].2+y.af[j].2) % 4294967296)) A2 uY rfl ad ad av rfl rfl Y ad ad ad (λh' e=>⟨aP e ai _ _ (de hc).1,(b1.aj e ai).cells _ rfl,(D.aj e ai).cells _ rfl,trivial⟩) ?_;intro J K r Q o hp7;have b17:=b1.aj o (λG=>by have:=n _ G; omega);have b67:=D.aj o (λG=>by have:=n _ G; omega);refine ⟨⟨hpm i a x.af _ (.inl rfl) (de hc).1 r o,b17.cells _ rfl,trivial⟩,?_⟩;refine bJ b67 ?_;intro h8 b8 R z8;exact dE (cs:=[]) () rfl rfl (push _ (i+1) (j+1) r J K ad ad ad L ad Q o h8 b8 R)
     ·have g4:(x.af[i].2+y.af[j].2) % 4294967296=0:=by
       have:(((x.af[i].2+y.af[j].2) % 4294967296:Nat):Int)=0:=by simpa using g4
       omega
      rw [ag9 g4] at L;exact dE (cs:=[]) () rfl rfl ⟨ad,ad,X,O,C,lo,co,M,D,Y,by rw [hO,L],ad,ad⟩
    ·rintro ⟨⟩ r I7;exact aC (cs:=fV) (((i+1:Nat):Int),((j+1:Nat):Int),()) ((x.af.length-(i+1))+(y.af.length-(j+1))) rfl ad (by rw [hwi,hwj]; rfl) ⟨i+1,j+1,rfl,rfl,rfl,I7⟩
 ·simp only [Bool.or_eq_false_iff,decide_eq_false_iff_not] at g1;rw [ce9 ad,ce9 ad,OE,cb9] at hO;refine ay D ((C,lo,co),(((x.num+y.num) % 4294967296:Nat):Int),()) (ak ?_);refine bJ b3 ?_;intro r b7 o z7;have b7:br r h2.size 53 [.slice C lo co,.int .u32 (((x.num+y.num) % 4294967296:Nat):Int)]:=b7;refine ay b7 ((C,lo,co),(((x.num+y.num) % 4294967296:Nat):Int),()) ?_;refine ⟨bS Z o,C,lo,co,rfl,?_⟩;show SL r h.size 64 2 C lo co ((He x.af y.af).map cT);rw [hO];exact (Y.bf o (λj I=>by have:=n j I; simp; omega)).mono ad
end Go.Sx
namespace Go.Sx.Lk
open Go.Proofs Go.Sx.Ob
def VF (q:Nat) (p b:Xax) (r:Int):T :=
  T.ah p [.slice 64,.int .u32] <| λ(c:Xac) (d e:Nat) (f:Int) =>
  T.ah b [.slice 64,.int .u32] <| λ(g:Xac) (h j:Nat) (k:Int) =>
  cv 74 [.agg #[.slice c d e,aE f],.agg #[.slice g h j,aE k]] false [(true,[.slice 64,.int .u32])] <| λ(l:Xac) (m n:Nat) (o:Int) =>
  T.aD p [.slice l m n,aE o] <|
  T.again q [vI (bY (r+(1:Int)))]
variable {Y:Lp} {Z:Xab->Hp->Prop} {O b:Xac}
def Ig {h:Hp} {lv c d e c5 f n:Nat} {p:Int} {o y:bK} (g:br h c 53 [.slice O e c5,.int .u32 o.num]) (k:br h d 53 [.slice b f n,.int .u32 y.num])
  (t:iA h O e o.af) (u:iA h b f y.af) (w:∀ i,i∈ax O->i<h.size) (x:∀ i,i∈ax b->i<h.size) (hl:o.af.length+y.af.length<=2^40)
  (hk:∀ p' l' c' h',Ch [c] h h'->br h' c 53 [.slice p' l' c',.int .u32 (kB o y).num]->SL h' h.size 64 2 p' l' c' ((kB o y).af.map cT)->T.again lv [vI (IntKind.wrap .i64 (p+(1:Int)))] Y Z h') :
  VF lv ⟨c,0,none⟩ ⟨d,0,none⟩ p Y Z h:=by
 unfold VF cv bY aE;refine ay g ((O,e,c5),(o.num:Int),()) (ak ?_);refine ay k ((b,f,n),(y.num:Int),()) (ak ?_);refine aG (G' t u w x hl) ?_;rintro _ h1 ⟨q,p',l',c',rfl,r⟩;refine ⟨((p',l',c'),((kB o y).num:Int),()),rfl,ak ?_⟩;refine bJ (g.aj q ai) ?_;intro h2 l s z2;have l:br h2 c 53 [.slice p' l' c',.int .u32 ((kB o y).num:Int)]:=l;have hg:=g.lt;exact hk p' l' c' h2 (Ch.trans (Ch.mono q ai) s (λj m hl=>m)) l (r.bf s (λj m=>by have:=(r.cj m).1; simp; omega))
variable {H:Hp}
def Y' {g:Nat} {s:Xaa} {n:Nat} (b:br H g 64 [.string s,.int .u32 n]):iA H (some ⟨g,0,none⟩) 1 [(s,n)] :=
 ⟨rfl,λi hi=>by
  have:i=0:=by simpa using hi
  subst this;exact ⟨_,rfl,by rw [aw]; exact b.cells _ rfl⟩⟩
def Dv {es:List cV} {s:Xaa} {k:Nat} (h:lx es s=some k):∃ hk:k<es.length,cF es s=some es[k].x:=by
 have h0:=h;unfold lx at h;rw [bf9] at h;obtain ⟨hk,_⟩:=h;refine ⟨hk,?_⟩;unfold cF cE dC;rw [h0];simp [hk]
def DL {es:List cV} {s:Xaa} (h:lx es s=none):cF es s=none:=by
 unfold cF cE;rw [h,ac9 ai]
variable {U:bK}
def HS {es:List cV} {s:Xaa} (h:cF es s=some U):∃ e,e∈es/\U=e.x:=by
 cases b:lx es s with
 | none=>rw [DL b] at h; cases h
 | some k =>
  obtain ⟨hk,h1⟩:=Dv b;rw [h1] at h;exact ⟨_,ah9 hk,(bb9 h).symm⟩
def Lg {es:List cV} {S:List Xaa} (b:∀ t,t∈U.af->t.1∈S) (c:∀ e,e∈es->∀ t,t∈e.x.af->t.1∈S):∀ t,t∈(dB (cF es) U).af->t.1∈S:=by
 intro t ht;obtain ⟨u,f,h | ⟨y,w,g,j,k⟩⟩:=Bl ht
 ·rw [h.2]; exact b u f
 ·obtain ⟨e,d,rfl⟩:=HS g;rw [<- k]; exact c e d w j
def LA {l c m d:Nat} {es:List cV} (v:iA H O l U.af) (u:vQ H b m es) (hp:∀ i,i∈ax O->i<H.size) (hb:∀ e,e∈es->∀ i,i∈ax e.p->i<H.size)
  (hm:es.length<=2^40) (hx:Nf U.af) (hn:U.num<4294967296) (V:∀ e,e∈es->Nf e.x.af) {S:List Xaa} (hS:S.length<=2^30) (X:∀ t,t∈U.af->t.1∈S) (Y:∀ e,e∈es->∀ t,t∈e.x.af->t.1∈S) :
  HC Xaz 76 #[iD O l c U,.slice b m d] H λw h'=>Ext H h'/\∃ p' l' c',w=iD p' l' c' (dB (cF es) U)/\SL h' H.size 64 2 p' l' c' ((dB (cF es) U).af.map cT):=by
 refine aX (args:=[.agg #[.slice O l c,.int .u32 U.num],.slice b m d]) mixed Tryz.func76 av (rm O l c U.num b m d) ?_;unfold lW aR bz aK cY cv bg aE bm aS;have hll:=v.len;have hmm:=u.len;have Z:∀ s y,cF es s=some y->Nf y.af:=λs y hy=>by
  obtain ⟨e,he,rfl⟩:=HS hy;exact V e he
 have hlx:=Bm hx X;refine bn ?_;intro h1 b1 e1 z1;refine bn ?_;intro h2 b2 e2 z2;have b1:=b1.aj e2 ai;rw [aw];refine ay b1 ((U.num:Int),()) (ak ?_);refine bn ?_;intro h3 b3 e3 z3;refine bJ b3 ?_;intro h4 b4 k4 z4;have b4:br h4 h2.size 53 [.slice none 0 0,.int .u32 (U.num:Int)]:=b4;have F:Ext h2 h4:=bS e3 k4;have b1:=b1.aj F ai;have b2:=b2.aj F ai;have e04:=(e1.trans e2).trans F;have hb4:=b4.lt;have hz04:=e04.size;refine aM (cs:=cz) (λy w h'=>∃ (i:Nat) (b:Xac) (m d:Nat),y.1=(i:Int)/\i<=U.af.length/\w=U.af.length-i/\Ch [h2.size] h4 h'/\br h' h2.size 53 [.slice b m d,.int .u32 (((U.af.take i).foldl (gI (cF es)) ⟨[],U.num⟩).num:Int)] /\
  SL h' h4.size 64 2 b m d (((U.af.take i).foldl (gI (cF es)) ⟨[],U.num⟩).af.map cT)) ((0:Int),()) U.af.length rfl ⟨0,none,0,0,rfl,ad,ad,Ch.refl _ _,b4,SL.nil _ _ _ _⟩ ?_
 rintro ⟨n8,⟨⟩⟩ w h5 ⟨i,q5,m5,d5,hi,hile,rfl,k5,b5,D⟩;simp only at hi;subst hi;refine ak ?_;have b15:=b1.aj k5 (by simp; omega);have hz5:=k5.size;have G:Ext H h5:=bS e04 k5;have v5:=v.aj G ai;have u5:=u.aj G;refine ay b15 ((O,l,c),()) (ak ?_);have hw:=gK i;have hacc:=De Z hx hn i;have hal:((U.af.take i).foldl (gI (cF es)) ⟨[],U.num⟩).af.length<=S.length:=by
  rw [hacc];exact Bm (eQ _ _) (Lg (λt ht=>X t (cy9 ht)) Y)
 refine aI ?_ ?_<;>intro g1
 ·have r:i<U.af.length:=ad
  have I:(U.af.take (i+1)).foldl (gI (cF es)) ⟨[],U.num⟩=gI (cF es) ((U.af.take i).foldl (gI (cF es)) ⟨[],U.num⟩) U.af[i]:=by
   rw [af9 r,ck9] <;> rfl
  obtain ⟨a,rfl,hc⟩:=v5.cells i r;have htm:=ah9 r;generalize U.af[i]=t at hc I htm;generalize hA:(U.af.take i).foldl (gI (cF es)) ⟨[],U.num⟩=A at b5 D hal I hacc;obtain ⟨c1,c2⟩:=de hc;have hab:=hp a.block (by simp [ax]);refine ay b15 ((some a,l,c),()) (ak ?_);refine bM rfl ?_;rw [cg i];refine ar (t.1,()) c1 (ak ?_);refine jD (Hs u5 ad t.1) ?_;refine ay b15 ((some a,l,c),()) (ak ?_);refine bM rfl ?_;refine ar (t.1,(t.2:Int),()) hc (ak ?_);refine oB JO uY ad ad (JE _ _) ?_;intro Q b6 e6 z6;refine bn ?_;intro h7 b7 e7 z7;refine bJ b7 ?_;intro h8 b8 k8 z8;have b8:br h8 Q.size 53 [.slice (some ⟨h5.size,0,none⟩) 1 1,.int .u32 ((0:Nat):Int)]:=b8;have f:Ext h5 h8:=bS (e6.trans e7) k8;have b68:=b6.aj (bS e7 k8:Ext Q h8) ai;have b58:=b5.aj f ai;have b18:=b15.aj f ai;have s8:=D.bf f (λj g=>ai)
  have B:∀ y:bK,Kw (cF es) t=y->∀ p' l' c' h',Ext h5 h8->∀ h9,Ch [Q.size] h8 h9->Ch [h2.size] h9 h'->br h' h2.size 53 [.slice p' l' c',.int .u32 (kB A y).num] ->
    SL h' h9.size 64 2 p' l' c' ((kB A y).af.map cT)->Ch [h2.size] h4 h'/\br h' h2.size 53 [.slice p' l' c',.int .u32 (((U.af.take (i+1)).foldl (gI (cF es)) ⟨[],U.num⟩).num:Int)] /\
     SL h' h4.size 64 2 p' l' c' (((U.af.take (i+1)).foldl (gI (cF es)) ⟨[],U.num⟩).af.map cT):=by
   intro y hy p' l' c' h' _ h9 R k9 b9 s9;rw [I];unfold gI;rw [hy]
   have:=f.size
   have:=R.size
   exact ⟨Ch.trans (Ch.trans (Ch.trans k5 f ai) R (λj g hl=>by simp at g; omega)) k9 (λj g _=>g),b9,s9.mono ad⟩
  refine aI ?_ ?_<;>intro g2
  ·cases n:lx es t.1 with
   | none=>rw [n] at g2; exact absurd g2 (by unfold UB; decide)
   | some k =>
    obtain ⟨hk,hlo⟩:=Dv n;obtain ⟨ae,rfl,J⟩:=(u5.aj f).cells k hk;have hem:=ah9 hk;have vy:=(u5.aj f).fF _ hem;generalize es[k]=e at J hem vy hlo;have hble:=hb e hem;have hyl:=Bm (V e hem) (Y e hem);refine cX ⟨by show (0:Int)<=(k:Int); omega,by show (k:Int)<_; omega⟩ (aF rfl ?_);rw [show Int.toNat (UB (some k))=k from Int.toNat_natCast k];refine ar ((e.p,e.l,e.c),(e.x.num:Int),()) ⟨by rw [add_add]; exact J.2.1,by rw [add_add]; exact J.2.2.1,trivial⟩ ?_;refine ak ?_;refine ay b18 ((some a,l,c),()) (ak ?_);refine bM rfl ?_;refine ar ((t.2:Int),()) (aP f ai _ _ c2) (ak ?_)
    have:=f.size
    refine aG (JR vy ad (λj g=>by have:=hble j g; omega) t.2) ?_;rintro _ h9 ⟨R,p9,l9,c9,rfl,s9⟩;refine ⟨((p9,l9,c9),((wA e.x t.2).num:Int),()),rfl,ak ?_⟩;refine ⟨⟨(b18.aj R ai).cells _ rfl,trivial⟩,?_⟩;refine bJ (b8.aj R ai) ?_;intro h10 K k10 z10;have K:br h10 Q.size 53 [.slice p9 l9 c9,.int .u32 ((wA e.x t.2).num:Int)]:=K;have E:Ch [Q.size] h8 h10:=Ch.trans (Ch.mono R ai) k10 (λj g hl=>g);have C:Ext h5 h10:=bS f E;refine Ig (lv:=0) (o:=A) (y:=wA e.x t.2) (b5.aj C ai) K (D.bf C (λj g=>ai)).Mp (s9.bf k10 (λj g=>by have:=(s9.cj g).1; simp; omega)).Mp
     (λj g=>by have:=(D.cj g).2; have:=C.size; omega) (λj g=>by have:=(s9.cj g).2; omega) (by have:=C0 t.2 e.x.af; show A.af.length+(fA t.2 e.x.af).length<=_; omega) ?_
    intro p' l' c' L M N P;obtain ⟨r1,r2,r3⟩:=B (wA e.x t.2) (by unfold Kw; rw [hlo]) p' l' c' L f h10 E M N P;exact aC (cs:=cz) (((i+1:Nat):Int),()) (U.af.length-(i+1)) rfl ad (as9 (λz=>[Value.int .i64 z]) hw) ⟨i+1,p',l',c',rfl,ad,rfl,r1,r2,r3⟩
  ·have n:lx es t.1=none:=by
    cases n:lx es t.1 with
    | none=>rfl
    | some k=>rw [n] at g2; exact absurd (show (0:Int)<=((k:Nat):Int) from ad) g2
   refine Ig (lv:=0) (o:=A) (y:=⟨[t],0⟩) b58 b8 s8.Mp (Y' b68) (λj g=>by have:=(D.cj g).2; have:=f.size; omega) (λj g=>by simp [ax] at g; have:=f.size; have:=b68.lt; omega) (by show A.af.length+1<=_; omega) ?_;intro p' l' c' L M N P;obtain ⟨r1,r2,r3⟩:=B ⟨[t],0⟩ (by unfold Kw; rw [DL n]) p' l' c' L f h8 ((Ch.refl [Q.size] h8)) M N P;exact aC (cs:=cz) (((i+1:Nat):Int),()) (U.af.length-(i+1)) rfl ad (as9 (λz=>[Value.int .i64 z]) hw) ⟨i+1,p',l',c',rfl,ad,rfl,r1,r2,r3⟩
 ·have hi:i=U.af.length:=ad
  subst hi;rw [bj9,F1 Z hx hn] at b5 D;refine ay b5 ((q5,m5,d5),((dB (cF es) U).num:Int),()) (ak ?_);refine bJ (b2.aj k5 (by simp; omega)) ?_;intro h7 b7 k7 z7;have b7:br h7 h1.size 53 [.slice q5 m5 d5,.int .u32 ((dB (cF es) U).num:Int)]:=b7;refine ay b7 ((q5,m5,d5),((dB (cF es) U).num:Int),()) ?_;exact ⟨bS G k7,q5,m5,d5,rfl,(D.bf k7 (λj g=>by have:=(D.cj g).1; simp; omega)).mono ad⟩
def wE {es:List cV} {s:Xaa} {j:Nat} (h:lx es s=some j):∃ e,es[j]?=some e/\e.name=s:=by
 unfold lx at h;rw [bf9] at h;obtain ⟨b,h1,_⟩:=h;exact ⟨es[j],ad9 b,by simpa using h1⟩
def U4 {es:List cV} (hn:(aU es).Nodup) {i j:Nat} {d e:cV} (hi:es[i]?=some d) (b:es[j]?=some e) (h:d.name=e.name):i=j:=by
 obtain ⟨h1,rfl⟩:=bc9.1 hi;obtain ⟨h2,rfl⟩:=bc9.1 b;refine (List.getElem_inj (h₀:=by unfold aU; rw [ab9]; exact h1) (h₁:=by unfold aU; rw [ab9]; exact h2) hn).1 ?_;unfold aU;rw [aj9,aj9];exact h
def LY {es:List cV} (hn:(aU es).Nodup) {k j:Nat} {e:cV} (f:es[k]?=some e) {t:Xaa × Nat} (ht:t∈e.x.af) (c:lx es t.1=some j):∃ d,es[j]?=some d/\dG es e.name d.name:=by
 obtain ⟨d,g,b⟩:=wE c;refine ⟨d,g,?_,?_⟩
 ·rw [mE,rz hn (cr9 f)];exact ⟨t,ht,b.symm⟩
 ·unfold cE;rw [b,c] <;> rfl
def Ut {es:List cV} (hn:(aU es).Nodup) {k:Nat} {e:cV} (f:es[k]?=some e) {z:Xaa} (h:dG es e.name z):∃ t,t∈e.x.af/\∃ j d,lx es t.1=some j/\es[j]?=some d/\d.name=z:=by
 obtain ⟨h1,h2⟩:=h;rw [mE,rz hn (cr9 f)] at h1;obtain ⟨t,ht,rfl⟩:=h1;unfold cE at h2;obtain ⟨j,c⟩:=cq9.1 h2;obtain ⟨d,g,b⟩:=wE c;exact ⟨t,ht,j,d,c,g,b⟩
structure qU (es:List cV) (i0:Nat) (a:Xaa) (kc i:Nat) (W:List Nat) (sn:List Bool):Prop where
 len:sn.length=es.length
 V6:∀ w,w∈W->∃ e,es[w]?=some e/\rh (dG es) a e.name
 src:sn[i0]?≠some true
 cl:∀ k e,es[k]?=some e->(k=i0\/sn[k]?=some true)->k∉W->∀ m t,e.x.af[m]?=some t->(k=kc->m<i)->∀ j,lx es t.1=some j->j≠i0/\sn[j]?=some true
variable {es:List cV} {i0 kc i:Nat} {a:Xaa} {W:List Nat} {sn:List Bool}
def qU.start {e:cV} (b:es[i0]?=some e) (f:e.name=a):qU es i0 a es.length 0 [i0] (List.replicate es.length false):=by
 have c:∀ k:Nat,(List.replicate es.length false)[k]?≠some true:=by
  intro k h
  have:=cr9 h
  rw [List.mem_replicate] at this;cases this.2
 refine ⟨ai,λw d=>?_,c i0,λk e b h hk=>?_⟩
 ·rw [an9] at d;subst d;exact ⟨e,b,by rw [f]; exact .refl _⟩
 ·rcases h with h | h
  ·subst h; simp at hk
  ·exact absurd h (c k)
def qU.pop (s:qU es i0 a es.length 0 (W++[kc]) sn):qU es i0 a kc 0 W sn/\∃ e,es[kc]?=some e/\rh (dG es) a e.name:=by
 refine ⟨⟨s.len,λw d=>s.V6 w (by simp [d]),s.src,λk e c h hk m t ht f j g=>?_⟩,s.V6 kc ai⟩
 by_cases b:k=kc
 ·exact absurd (f b) ad
 ·refine s.cl k e c h (by simp [hk,b]) m t ht (λl=>?_) j g;obtain ⟨hl,_⟩:=bc9.1 c;omega
def qU.skip (s:qU es i0 a kc i W sn) {e:cV} (n:es[kc]?=some e) {t:Xaa × Nat} (ht:e.x.af[i]?=some t) (h:∀ j,lx es t.1=some j->j≠i0/\sn[j]?=some true):qU es i0 a kc (i+1) W sn:=by
 refine ⟨s.len,s.V6,s.src,λk d c o hk m u f p j l=>?_⟩
 by_cases hc:k=kc/\m=i
 ·obtain ⟨rfl,rfl⟩:=hc;rw [n] at c;cases c;rw [ht] at f;cases f;exact h j l
 ·refine s.cl k d c o hk m u f (λb=>?_) j l
  have:=p b
  have:m≠i:=λg=>hc ⟨b,g⟩
  omega
def qU.push (s:qU es i0 a kc i W sn) (hn:(aU es).Nodup) {e:cV} (B:es[kc]?=some e) (F:rh (dG es) a e.name) {t:Xaa × Nat} (ht:e.x.af[i]?=some t) {j:Nat} (C:lx es t.1=some j) (h0:j≠i0) :
  qU es i0 a kc (i+1) (W++[j]) (sn.set j true):=by
 obtain ⟨d,D,n⟩:=LY hn B (cr9 ht) C;obtain ⟨o,_⟩:=bc9.1 D;have c:(sn.set j true)[j]?=some true:=by rw [eu9 (by rw [s.len]; exact o)]
 have p:∀ x:Nat,sn[x]?=some true->(sn.set j true)[x]?=some true:=by
  intro x q
  by_cases g:j=x
  ·subst g; exact c
  ·rw [dt9 g]; exact q
 refine ⟨by rw [cv9]; exact s.len,λw l=>?_,by rw [dt9 h0]; exact s.src,λk f r E hk m u y G H b=>?_⟩
 ·rw [ar9,an9] at l;rcases l with l | rfl
  ·exact s.V6 w l
  ·exact ⟨d,D,F.trans (.one n)⟩
 ·rw [ar9,an9] at hk;have z:j≠k:=λe=>hk (Or.inr e.symm)
  rw [dt9 z] at E
  by_cases hc:k=kc/\m=i
  ·obtain ⟨rfl,rfl⟩:=hc;rw [B] at r;cases r;rw [ht] at y;cases y;rw [C] at b;cases b;exact ⟨h0,c⟩
  ·obtain ⟨h1,h2⟩:=s.cl k f r E (λq=>hk (Or.inl q)) m u y (λh=>by
    have:=G h
    have:m≠i:=λA=>hc ⟨h,A⟩
    omega) H b
   exact ⟨h1,p _ h2⟩
def qU.done (s:qU es i0 a kc i W sn) {e:cV} (g:es[kc]?=some e) (hi:e.x.af.length<=i):qU es i0 a es.length 0 W sn:=by
 refine ⟨s.len,s.V6,s.src,λk d b h hk m u f n j l=>s.cl k d b h hk m u f (λc=>?_) j l⟩;subst c;rw [g] at b;cases b;obtain ⟨hl,_⟩:=bc9.1 f;omega
def qU.no (s:qU es i0 a es.length 0 [] sn) (hn:(aU es).Nodup) {e:cV} (b:es[i0]?=some e) (o:e.name=a):¬ lK (dG es) a:=by
 have c:∀ k e,es[k]?=some e->(k=i0\/sn[k]?=some true)->∀ z,dG es e.name z->∃ j d,es[j]?=some d/\d.name=z/\j≠i0/\sn[j]?=some true:=by
  intro k e b h z q;obtain ⟨t,ht,j,d,u,f,g⟩:=Ut hn b q;obtain ⟨m,w⟩:=List.getElem?_of_mem ht;obtain ⟨x,_⟩:=bc9.1 b;obtain ⟨h1,h2⟩:=s.cl k e b h ai m t w (λC=>ad) j u;exact ⟨j,d,f,g,h1,h2⟩
 have l:∀ y z,rh (dG es) y z->z=a->(∃ j d,es[j]?=some d/\d.name=y/\j≠i0/\sn[j]?=some true)->False:=by
  intro y z r
  induction r with
  | refl y =>
   rintro rfl ⟨j,d,f,n,h1,_⟩;exact h1 (U4 hn f b (n.trans o.symm))
  | head A r B =>
   rintro rfl ⟨j,d,f,rfl,h1,h2⟩;exact B rfl (c j d f (Or.inr h2) _ A)
 rintro ⟨y,p,r⟩;rw [<- o] at p;exact l y a r rfl (c i0 e b (Or.inl rfl) y p)
def Uw (hn:(aU es).Nodup) {e:cV} (f:es[kc]?=some e) (g:rh (dG es) a e.name) {t:Xaa × Nat} (ht:t∈e.x.af) {d:cV} (h:es[i0]?=some d) (j:d.name=a) (k:lx es t.1=some i0):lK (dG es) a:=by
 obtain ⟨l,c,b⟩:=LY hn f ht k;rw [h] at c;cases c;rw [j] at b;cases g with
 | refl _=>exact ⟨_,b,.refl _⟩
 | head h1 h2=>exact ⟨_,h1,h2.trans (.one b)⟩
def Xb:Tryz.prog.underlying 243=some (.slice 4):=av
def Z0:(Tryz.prog.info? 4).map (λi=>(i.zero,i.size,i.bytes))=some (some (.bool false),1,1):=av
def vJ:Tryz.prog.underlying 135=some (.slice 3):=av
def UW:(Tryz.prog.info? 3).map (λi=>(i.zero,i.size,i.bytes))=some (some (vI 0),1,8):=av
def VG (b:Bool):List Xab:=[.bool b]
def N7 (n:Nat):List Xab:=[vI (n:Int)]
def QB {α:Type} (f:α->Xab) (l:List α):(l.map λx=>[f x]).flatten=l.map f:=by
 induction l with
 | nil=>rfl
 | cons a l b=>rw [bq9,er9,b]; rfl
def ZW {g:Nat} {e:TypeId} {sz:Nat} {cells:List Xab} (xs:List (List Xab)) (b:br H g e cells) (hc:cells=xs.flatten) (hl:∀ x,x∈xs->x.length=sz) (hn:xs.length<9223372036854775808):SL H g e sz (some ⟨g,0,none⟩) xs.length xs.length xs:=by
 subst hc;exact ⟨rfl,hl,g,[],[],rfl,am9 _,⟨am9 _,hn⟩,by simpa using b,ai⟩
def F5 (n:Int):Instr.fill (λj=>some (j*1,1)) ((Array.range (1*1)).map ((Value.int .i64 0).cells[· % (Value.int .i64 0).cells.size]!)) [(0,vI n)]=some ([vI n]:List Xab).toArray:=av
def P1 {h:Hp} {n:Nat} (hn:n<=2^40) {k:Xac->Nat->Nat->T} (hk:∀ h',SL h' h.size 4 1 (some ⟨h.size,0,none⟩) n n ((List.replicate n false).map VG)->Ext h h'->h'.size=h.size+1->k (some ⟨h.size,0,none⟩) n n Y Z h') :
  T.dP Xaz (Instr.makeSlice 243 (vI (n:Int)) (vI (n:Int))) false [(false,[.slice 0])] k Y Z h:=by
 obtain ⟨q,d,e,f,g⟩:=oz Z0;refine dt (rl (l:=n) (c:=n) Xb d e (am9 _) (by rw [g]; omega) ad ?_);intro j m o p;refine ⟨_,_,_,rfl,hk j ?_ o p⟩;have hc:(List.range (n*q.size)).map ((Value.bool false).cells[· % (Value.bool false).cells.size]!)=((List.replicate n false).map VG).flatten:=by
  rw [f,Nat.mul_one];show _=((List.replicate n false).map λb=>[Value.bool b]).flatten;rw [QB];apply fy9
  ·simp
  ·intro i h1 h2;rw [aj9,aj9,List.getElem_replicate];show (#[Value.bool false]:Array Xab)[((List.range n)[i]'(by simpa using h1)) % 1]! = _;rw [Nat.mod_one] <;> rfl
 have:=ZW ((List.replicate n false).map VG) m hc (λx r=>by obtain ⟨b,_,rfl⟩:=ap9.1 r; rfl) (by simp; omega)
 rw [ab9,List.length_replicate] at this;exact this
def nF (sn:List Bool):Nat:=sn.count false
theorem Qn:∀ (sn:List Bool) (j:Nat),sn[j]?=some false->nF (sn.set j true)+1=nF sn
 | [],j,h=>by simp at h
 | b::l,0,h=>by
  simp at h;subst h;simp [nF]
 | b::l,j+1,h=>by
  have ih:=Qn l j (by simpa using h);unfold nF at ih ⊢;rw [List.set_cons_succ,List.count_cons,List.count_cons];omega
def Td (sn:List Bool) (j:Nat):(sn.map VG).set j [.bool true]=(sn.set j true).map VG:=by rw [fh9]; rfl
def OJ (p:Xac) (c:Nat):(if c=0 then p else Option.map (λa=>Addr.add a 0) p)=p:=by
 split
 ·rfl
 ·cases p with
  | none=>rfl
  | some a=>show some (a.add 0)=some a; rw [add_zero']
open Classical in
def TK {l c:Nat} {es:List cV} (v:vQ H O l es) (hn:(aU es).Nodup) (hl:es.length<=2^40) (ht:∀ e,e∈es->e.x.af.length<=2^40) {i0:Nat} {e0:cV} (F:es[i0]?=some e0) :
  HC Xaz 100 #[.slice O l c,vI (i0:Int),vI (i0:Int)] H λw h'=>Ext H h'/\w=.bool (decide (lK (dG es) e0.name)):=by
 refine aX (args:=[.slice O l c,vI (i0:Int),vI (i0:Int)]) mixed Tryz.func100 av (qZ O l c i0 i0) ?_;unfold me aR aY bz aK cY bg bY cC fR aS cH fH;obtain rfl:=v.len;obtain ⟨hi0,_⟩:=bc9.1 F;refine P1 hl ?_;intro h1 sB1 e1 z1;refine oB vJ UW ad ad (F5 _) ?_;intro h2 b2 e2 z2;have sW2:SL h2 h1.size 3 1 (some ⟨h1.size,0,none⟩) 1 1 ([i0].map N7):=ZW [[vI (i0:Int)]] b2 rfl ai ai;have sB2:=sB1.bf e2 ai;have e02:=e1.trans e2;refine aM (cs:=[(false,[.bool]),(false,[.slice 0])]) (λy m h'=>∃ (W:List Nat) (sn:List Bool),m=nF sn+W.length/\m<=es.length+1/\Ext H h'/\h1.size<=h'.size/\SL h' H.size 4 1 (some ⟨H.size,0,none⟩) es.length es.length (sn.map VG)/\SL h' h1.size 3 1 y.2.1.1 y.2.1.2.1 y.2.1.2.2 (W.map N7)/\qU es i0 e0.name es.length 0 W sn)
  (false,(some ⟨h1.size,0,none⟩,1,1),()) _ rfl ⟨[i0],List.replicate es.length false,rfl,by simp [nF],e02,ad,sB2,sW2,qU.start F rfl⟩ ?_
 rintro ⟨b9,⟨p10,R,l12⟩,⟨⟩⟩ m h3 ⟨W,sn,rfl,hM,e3,z3,sB3,s,I3⟩;simp only at s;refine ak ?_;have u:R=W.length:=by have:=s.1; rwa [ab9] at this
 have hWn:∀ w,w∈W->w<es.length:=λw hw=>by
  obtain ⟨e,E,_⟩:=I3.V6 w hw;exact (bc9.1 E).1
 refine aI ?_ ?_<;>intro g1
 ·rcases List.eq_nil_or_concat W with rfl | ⟨r,kc,rfl⟩
  ·simp at u; omega
  ·rw [List.concat_eq_append] at u s I3 hWn hM;have hM':nF sn+(r.length+1)<=es.length+1:=by simpa using hM
   have u:R=r.length+1:=by simpa using u
   subst u;obtain ⟨I4,e,E,hr⟩:=I3.pop;have hkc:=(bc9.1 E).1;have hem:=cr9 E;have hw1:IntKind.wrap .i64 (((r.length+1:Nat):Int)-1)=(r.length:Int):=by rw [wrap_i64 ad ad]; omega
   obtain ⟨a,rfl,hc⟩:=SL.cells s (i:=r.length) ai;have hc:aH h3 (a.add (r.length*1)) 0 [vI (kc:Int)]:=by simpa [N7] using hc
   rw [hw1,show Int.toNat (r.length:Int)=r.length from ad];refine bM rfl ?_;refine ar ((kc:Int),()) hc (ak ?_);have hcap:r.length+1<=l12:=by
    obtain ⟨g,pre,rest,_,_,hlc,_⟩:=s.2.2;exact hlc.1
   refine cX ⟨ad,ad,ad⟩ ?_;rw [OJ,gb9,gb9];have sW4:=SL.take s (k:=r.length) ad;rw [<- List.map_take,eg9] at sW4;have hte:=ht e hem;refine aM (cs:=Tu) (λy m h'=>∃ (W:List Nat) (b:List Bool) (i:Nat),y.2.2.1=(i:Int)/\i<=e.x.af.length/\m=e.x.af.length-i/\nF b+W.length+1=nF sn+(r.length+1)/\Ext H h'/\h1.size<=h'.size /\
    SL h' H.size 4 1 (some ⟨H.size,0,none⟩) es.length es.length (b.map VG)/\SL h' h1.size 3 1 y.2.1.1 y.2.1.2.1 y.2.1.2.2 (W.map N7)/\qU es i0 e0.name kc i W b)
    (b9,(some a,r.length,l12),(0:Int),()) _ rfl ⟨r,sn,0,rfl,ad,rfl,ad,e3,z3,sB3,sW4,I4⟩ ?_
   rintro ⟨n,⟨A,l17,B⟩,n19,⟨⟩⟩ m5 h5 ⟨W,b,i,hi,hile,rfl,S,Q,z5,C,o,U⟩;simp only at hi o;subst hi;refine ak ?_;have V:l17=W.length:=by have:=o.1; rwa [ab9] at this
   subst V;have v5:=v.aj Q;obtain ⟨ae,rfl,X⟩:=v5.cells kc hkc;have hek:es[kc]=e:=(bc9.1 E).2;rw [hek] at X;have vt:=v5.fF e hem;have hll:=vt.len;have hw:=gK i;have Y:aH h5 ((ae.add (kc*3)).add 1) 0 [.slice e.p e.l e.c]:=⟨by rw [add_add]; exact X.2.1,trivial⟩
   refine bM rfl ?_;rw [cg kc];refine ar ((e.p,e.l,e.c),()) Y (ak ?_);refine aI ?_ ?_<;>intro g2
   ·have J:i<e.x.af.length:=ad
    refine bM rfl ?_;refine ar ((e.p,e.l,e.c),()) Y (ak ?_);obtain ⟨at',hp',Z⟩:=vt.cells i J;have G:e.x.af[i]?=some e.x.af[i]:=ad9 J;have htm:=ah9 J;generalize e.x.af[i]=t at Z G htm;refine eS (aF hp' ?_);rw [cg i];refine ar (t.1,()) ⟨Z.1,trivial⟩ (ak ?_);refine jD (Hs v5 ad t.1) ?_;refine ao ?_ ?_<;>intro D
    ·have D:UB (lx es t.1)=(i0:Int):=by simpa using D
     have K:lx es t.1=some i0:=by
      cases f:lx es t.1 with
      | none=>rw [f] at D; exact absurd D (by show ¬ ((-1:Int)=_); omega)
      | some j =>
       rw [f] at D
       have:(j:Int)=i0:=D
       rw [show j=i0 from ad]
     refine ⟨Q,?_⟩;rw [ak9 (Uw hn E hr htm F rfl K)]
    ·have D:¬ UB (lx es t.1)=(i0:Int):=by simpa using D
     cases f:lx es t.1 with
     | none =>
      refine bX (by show decide ((-1:Int)>=0)=false; decide) ?_;refine aC (cs:=Tu) (n,(A,W.length,B),((i+1:Nat):Int),()) (e.x.af.length-(i+1)) rfl ad (as9 (λz=>[Value.bool n,.slice A W.length B,Value.int .i64 z]) hw)
       ⟨W,b,i+1,rfl,ad,rfl,S,Q,z5,C,o,U.skip E G (λj K=>by rw [f] at K; cases K)⟩
     | some j =>
      rw [f] at D;have hj0:j≠i0:=λhh=>D (by rw [hh]; rfl)
      obtain ⟨d,hd,_⟩:=wE f;have hjl:=(bc9.1 hd).1;refine bU (ak9 (show (0:Int)<=((j:Nat):Int) from ad)) ?_;have L:j<b.length:=by rw [U.len]; exact hjl
      obtain ⟨ab,M,hcb⟩:=SL.cells C (i:=j) (by rw [ab9]; exact L);rw [aj9] at hcb;refine cX ⟨by show (0:Int)<=(j:Int); omega,by show (j:Int)<_; omega⟩ (aF M ?_);rw [show Int.toNat (UB (some j))=j from Int.toNat_natCast j];refine ar (b[j],()) hcb (ak ?_);have I:b[j]?=some b[j]:=ad9 L;cases hb:b[j] with
      | true =>
       rw [hb] at I;refine bX rfl ?_;refine aC (cs:=Tu) (n,(A,W.length,B),((i+1:Nat):Int),()) (e.x.af.length-(i+1)) rfl ad (as9 (λz=>[Value.bool n,.slice A W.length B,Value.int .i64 z]) hw)
        ⟨W,b,i+1,rfl,ad,rfl,S,Q,z5,C,o,U.skip E G (λj' K=>by rw [f] at K; cases K; exact ⟨hj0,I⟩)⟩
      | false =>
       rw [hb] at I;refine bU rfl ?_;refine cX ⟨by show (0:Int)<=(j:Int); omega,by show (j:Int)<_; omega⟩ (aF M ?_);refine SL.store (P:=Xaz) C (i:=j) (by rw [ab9]; exact L) (vs:=[.bool true]) rfl rfl M ?_;intro h6 sB6 k6 z6;rw [Td] at sB6;have N:∀ q,q∈ax (some (⟨H.size,0,none⟩:Xax))->q=H.size:=λq f=>by simpa [ax] using f
       have sW6:=o.bf k6 (λq f hm=>by have:=(o.cj f).1; have:=N q hm; omega);have e6:Ext H h6:=Ch.trans Q k6 (λq f hl=>by have:=N q f; omega);refine eZ (vs:=N7 j) vJ UW rfl ad ad (F5 _) rfl rfl sW6 ad ad ad ?_;intro p' c' h7 sW7 k7 hp7;have e7:Ext H h7:=Ch.trans e6 k7 (λq f hl=>by have:=(sW6.cj f).1; omega);have sB7:=sB6.bf k7 (λq f hm=>by have:=N q f; have:=(sW6.cj hm).1; omega);have hnf:=Qn b j I;refine aC (cs:=Tu) (n,(p',W.length+1,c'),((i+1:Nat):Int),()) (e.x.af.length-(i+1)) rfl ad (as9 (λz=>[Value.bool n,.slice p' (W.length+1) c',Value.int .i64 z]) hw)
        ⟨W++[j],b.set j true,i+1,rfl,ad,rfl,by rw [ae9]; show nF (b.set j true)+(W.length+1)+1=_; omega,e7,by have:=k7.size; omega,sB7,by rw [ao9]; exact sW7,U.push hn E hr G f hj0⟩
   ·refine aC (cs:=[(false,[.bool]),(false,[.slice 0])]) (n,(A,W.length,B),()) (nF b+W.length) rfl (by rw [List.concat_eq_append,ae9]; show nF b+W.length<nF sn+(r.length+1); omega) rfl ⟨W,b,rfl,ad,Q,z5,C,o,U.done E ad⟩
 ·have hW:W=[]:=ec9.1 ad;subst hW;refine ⟨e3,?_⟩;rw [al9 (I3.no hn F rfl)]
noncomputable def XA (es:List cV) (i:Nat):Bool:=by
 classical
 exact decide (∃ e,es[i]?=some e/\lK (dG es) e.name)
def EC {es:List cV} {i:Nat} {e:cV} (c:es[i]?=some e) {d:Decidable (lK (dG es) e.name)}:decide (lK (dG es) e.name)=XA es i:=by
 unfold XA;refine fw9.2 ⟨λh=>⟨e,c,h⟩,?_⟩;rintro ⟨f,b,h⟩;rw [c] at b;cases b;exact h
noncomputable def nq (es:List cV) (n:Nat):List Nat:=(List.range n).filter (XA es)
def Jc (es:List cV) (i:Nat):nq es (i+1)=nq es i++if XA es i=true then [i] else []:=by
 unfold nq;rw [List.range_succ,List.filter_append]
 congr 1
 by_cases h:XA es i=true <;> simp [h]
def ME (es:List cV) (i:Nat):(nq es i).length<=i:=by
 unfold nq
 have:=dr9 (XA es) (List.range i)
 simpa using this
def Ro {l c:Nat} {es:List cV} (v:vQ H O l es) (hn:(aU es).Nodup) (hl:es.length<=2^40) (ht:∀ e,e∈es->e.x.af.length<=2^40) :
  HC Xaz 75 #[.slice O l c] H λw h'=>Ext H h'/\∃ p' l' c',w=.slice p' l' c'/\SL h' H.size 3 1 p' l' c' ((nq es es.length).map N7):=by
 refine aX (args:=[.slice O l c]) mixed Tryz.func75 av (qp O l c) ?_;unfold lh aY bz bj bg bm aS fH;have hll:=v.len;refine aM (cs:=kX) (λy m h'=>∃ i:Nat,y.2.1=(i:Int)/\m=es.length-i/\i<=es.length/\Ext H h'/\SL h' H.size 3 1 y.1.1 y.1.2.1 y.1.2.2 ((nq es i).map N7)) ((none,0,0),(0:Int),()) es.length rfl
  ⟨0,rfl,rfl,ad,Ch.refl _ _,SL.nil _ _ _ _⟩ ?_
 rintro ⟨⟨k,b,n⟩,D,⟨⟩⟩ m h1 ⟨i,hi,rfl,s,d,f⟩;simp only at hi f;subst hi;refine ak ?_;have t:b=(nq es i).length:=by have:=f.1; rwa [ab9] at this
 have hbl:=ME es i;refine aI ?_ ?_<;>intro q
 ·have o:i<es.length:=ad
  have hw:=gK i;have he:=ad9 o;have hbs:=Jc es i;refine aG (TK (c:=c) (v.aj d) hn hl ht he) ?_;rintro _ h2 ⟨g,rfl⟩;rw [EC he];refine ⟨(XA es i,()),rfl,ak ?_⟩;have s2:=f.bf g ai;refine ao ?_ ?_<;>intro r
  ·rw [ag9 r] at hbs
   have:=(d.trans g).size
   refine eZ (vs:=N7 i) vJ UW rfl ad ad (F5 _) rfl rfl s2 ad ad ad ?_;intro p' c' F u A B;refine aC (cs:=kX) ((p',b+1,c'),((i+1:Nat):Int),()) (es.length-(i+1)) rfl ad (as9 (λz=>[Value.slice p' (b+1) c',Value.int .i64 z]) hw) ?_;exact ⟨i+1,rfl,rfl,ad,Ch.trans (d.trans g) A (λj C hl=>by have:=(s2.cj C).1; omega),by rw [hbs,ao9]; exact u⟩
  ·rw [ac9 (by rw [r]; simp),cb9] at hbs;refine aC (cs:=kX) ((k,b,n),((i+1:Nat):Int),()) (es.length-(i+1)) rfl ad (as9 (λz=>[Value.slice k b n,Value.int .i64 z]) hw) ?_;exact ⟨i+1,rfl,rfl,ad,d.trans g,by rw [hbs]; exact s2⟩
 ·have:i=es.length:=ad
  subst this;exact ⟨d,k,b,n,rfl,f⟩
noncomputable def dU (es:List cV):Option Nat:=by
 classical
 exact es.findIdx? λe=>decide (lK (dG es) e.name)
def Ka {es:List cV} {i:Nat} {r:List Nat} (h:nq es es.length=i::r):i<es.length/\dU es=some i:=by
 unfold nq at h;obtain ⟨b,f,h1,h2,g,_⟩:=List.filter_eq_cons_iff.1 h;have e:es.length=b.length+(f.length+1):=by
  have:=as9 List.length h1
  simpa using this
 have c:b.length=i:=by
  have:=as9 (λl:List Nat=>l[b.length]?) h1
  simp only [List.getElem?_append_right (Nat.le_refl _),Nat.sub_self,List.getElem?_cons_zero] at this;rw [dp9 ad] at this;exact bb9 this
 subst c;have d:b.length<es.length:=ad
 refine ⟨d,?_⟩;unfold dU;rw [bf9];refine ⟨d,?_,λj k=>?_⟩
 ·rw [EC (ad9 d)];exact g
 ·rw [EC (ad9 ad)];refine h2 j ?_
  have:=as9 (λl:List Nat=>l[j]?) h1
  simp only [List.getElem?_append_left k] at this;rw [dp9 ad] at this;exact cr9 this.symm
def MW {es:List cV} (h:nq es es.length=[]):dU es=none:=by
 unfold nq at h;unfold dU;rw [bz9];intro e b;obtain ⟨i,hi⟩:=List.getElem?_of_mem b;rw [EC hi]
 have:=List.filter_eq_nil_iff.1 h i (ef9.2 (bc9.1 hi).1)
 simpa using this
def VT (of:Xaa->Option bK):Nat->bK->bK
 | 0,x=>x
 | t+1,x=>dB of (VT of t x)
theorem uy (of:Xaa->Option bK):∀ (l:dr) (n:Nat),n<4294967296->l.foldl (hZ of) n<4294967296
 | [],n,h=>h
 | t::l,n,h=>by
  rw [bt9];refine uy of l _ ?_;unfold hZ;split
  ·exact h
  ·exact fz9 _ bH
structure uO (S:List Xaa) (x:bK):Prop where
 nf:Nf x.af
 num:x.num<4294967296
 fF:∀ t,t∈x.af->t.1∈S
def uO.put {S:List Xaa} {es:List cV} (b:∀ e,e∈es->uO S e.x) (h:uO S U):uO S (dB (cF es) U) :=
 ⟨eQ _ _,uy _ _ _ h.num,Lg h.fF λe c=>(b e c).fF⟩
theorem uO.it {S:List Xaa} {es:List cV} (b:∀ e,e∈es->uO S e.x) {x:bK} (h:uO S x):∀ t,uO S (VT (cF es) t x)
 | 0=>h
 | t+1=>(uO.it b h t).put b
structure T4 (B:Nat) (h0 h':Hp) (p:Xac) (l c:Nat) (es ms:List cV) (f:Nat->Nat):Prop where
 out:SL h' h0.size 116 3 p l c (ms.map Bg)
 len:ms.length=es.length
 eq:∀ j e m,es[j]?=some e->ms[j]?=some m->m.name=e.name/\m.x=VT (cF es) (f j) e.x
 fF:∀ m,m∈ms->iA h' m.p m.l m.x.af
 low:∀ m,m∈ms->∀ i,i∈ax m.p->(B<=i/\i<h'.size)/\i∉ax p
def Tn (ms:List cV) (i:Nat) (m:cV):(ms.map Bg).set i (Bg m)=(ms.set i m).map Bg:=by rw [fh9]
def TU {l:Nat} {es:List cV} (v:vQ H O l es):(O=none/\es.map Bg=[])\/∃ a,O=some a/\aH H a 0 (es.map Bg).flatten:=by
 cases O with
 | none =>
  refine .inl ⟨rfl,?_⟩;cases es with
  | nil=>rfl
  | cons e es =>
   obtain ⟨a,b,_⟩:=v.cells 0 ai;cases b
 | some a =>
  refine .inr ⟨a,rfl,?_⟩
  have:=mZ (h:=H) (a:=a) (sz:=3) (es.map Bg) 0 (λx c=>by obtain ⟨e,_,rfl⟩:=ap9.1 c; rfl) (λi hi=>by
   obtain ⟨a',b,hc⟩:=v.cells i (by simpa using hi);cases b;rw [aj9,by9];exact hc)
  rwa [Nat.zero_mul] at this
def Nc (e:cV):(Bg e).all df=true:=by unfold Bg; simp [df]
def Jz (es:List cV):(es.map Bg).flatten.all df=true:=by
 rw [bn9];intro x c;obtain ⟨l,hl,b⟩:=fx9.1 c;obtain ⟨e,_,rfl⟩:=ap9.1 hl;exact bn9.1 (Nc e) x b
def Ng {l c:Nat} {es:List cV} {B:Nat} (hB:B<=H.size) (v:vQ H O l es) (hb:∀ e,e∈es->∀ i,i∈ax e.p->B<=i/\i<H.size) (hn:(aU es).Nodup) (hl:es.length<=2^30) {S:List Xaa} (hS:S.length<=2^30) (u:∀ e,e∈es->uO S e.x) :
  HC Xaz 47 #[.slice O l c] H λw h'=>Ext H h'/\match dU es with
   | some i=>w=.tuple #[.slice none 0 0,vI (i:Int),vI 24]
   | none=>∃ p' l' c' ms,w=.tuple #[.slice p' l' c',vI 0,vI 0]/\T4 B H h' p' l' c' es ms (λ_=>es.length):=by
 refine aX (args:=[.slice O l c]) mixed Tryz.func47 av (oS O l c) ?_;unfold jT aR aY bz aK cv bg jc aE bR bm aS;have hll:=v.len;have hlt:∀ e,e∈es->e.x.af.length<=2^40:=λe A=>by have:=Bm (u e A).nf (u e A).fF; omega
 refine aG (Ro (c:=c) v hn ad hlt) ?_;rintro _ h1 ⟨X,p1,l1,c1,rfl,s1⟩;refine ⟨((p1,l1,c1),()),rfl,ak ?_⟩;have L:l1=(nq es es.length).length:=by have:=s1.1; rwa [ab9] at this
 refine aI ?_ ?_<;>intro g
 ·cases C:nq es es.length with
  | nil=>rw [C] at L; simp at L; omega
  | cons i r =>
   obtain ⟨hi,hf⟩:=Ka C;obtain ⟨a,rfl,hc⟩:=SL.cells s1 (i:=0) (by rw [ab9,C]; simp);have hc:aH h1 a 0 [vI (i:Int)]:=by
    rw [aj9,Nat.zero_mul,add_zero'] at hc;simp only [C,List.getElem_cons_zero] at hc;exact hc
   refine bM rfl ?_;refine ar ((i:Int),()) hc (ak ?_);refine ⟨⟨hc,trivial⟩,X,?_⟩;rw [hf]
 ·have hbn:nq es es.length=[]:=ec9.1 ad;rw [MW hbn];refine rk (ys:=es.map Bg) DV NC rfl (TU (v.aj X)) (by rw [ab9]; exact hll) (λy hy=>by obtain ⟨e,_,rfl⟩:=ap9.1 hy; rfl) (Jz es) ad ad ?_;intro Y Z h2 s2 e2;have z1:=X.size;have e02:=X.trans e2;have o0:T4 B H h2 Y l Z es es λ_=>0:=⟨s2.mono z1,rfl,λj e m A E=>by rw [A] at E; cases E; exact ⟨rfl,rfl⟩,λm E=>(v.fF m E).aj e02 ai,λm E i hi=>by
   have h1:=hb m E i hi
   have:=e02.size
   exact ⟨⟨h1.1,ad⟩,λM=>by have:=(s2.cj M).1; omega⟩⟩
  refine aM (cs:=cz) (λy m h'=>∃ (t:Nat) (ms:List cV),y.1=(t:Int)/\m=es.length-t/\t<=es.length/\Ext H h'/\T4 B H h' Y l Z es ms λ_=>t) ((0:Int),()) es.length rfl ⟨0,es,rfl,rfl,ad,e02,o0⟩ ?_;rintro ⟨n10,⟨⟩⟩ m3 h3 ⟨t,ms,hi,rfl,hle,e3,o3⟩;simp only at hi;subst hi;refine ak ?_;refine aI ?_ ?_<;>intro q
  ·have hwt:=gK t;refine aM (cs:=cz) (λy m h'=>∃ (i:Nat) (ms:List cV),y.1=(i:Int)/\m=es.length-i/\i<=es.length/\Ext H h'/\T4 B H h' Y l Z es ms λj=>if j<i then t+1 else t) ((0:Int),()) es.length rfl ⟨0,ms,rfl,rfl,ad,e3,by simpa using o3⟩ ?_;rintro ⟨n11,⟨⟩⟩ m4 h4 ⟨i,f,hi,rfl,hle4,e4,k⟩;simp only at hi;subst hi;refine ak ?_;refine aI ?_ ?_<;>intro r
   ·have D:i<es.length:=ad
    have n:i<f.length:=by rw [k.len]; exact D
    have hwi:=gK i;obtain ⟨a,rfl,hc⟩:=SL.cells k.out (i:=i) (by rw [ab9]; exact n);rw [aj9] at hc;obtain ⟨F,N⟩:=k.eq i es[i] f[i] (ad9 D) (ad9 n);have hmm:=ah9 n;have hemm:=ah9 D;have vm:=k.fF _ hmm;have lm:=k.low _ hmm;rw [ac9 ad] at N;have Q:f[i]?=some f[i]:=ad9 n;have R:es[i]?=some es[i]:=ad9 D;generalize f[i]=m at hc F N hmm vm lm Q;generalize es[i]=e at F N hemm R;have G:uO S m.x:=by rw [N]; exact uO.it u (u e hemm) t
    refine bM rfl ?_;rw [cg i];refine ar ((m.p,m.l,m.c),(m.x.num:Int),()) ⟨by rw [add_add]; exact hc.2.1,by rw [add_add]; exact hc.2.2.1,trivial⟩ ?_;refine ak ?_;have z4:=e4.size;refine aG (LA (c:=m.c) (d:=c) vm (v.aj e4) (λj s=>(lm j s).1.2) (λe A j s=>by have:=hb e A j s; omega) ad G.nf G.num (λe A=>(u e A).nf) hS G.fF λe A=>(u e A).fF) ?_;rintro _ h5 ⟨e5,p5,l5,c5,rfl,s5⟩;refine ⟨((p5,l5,c5),((dB (cF es) m.x).num:Int),()),rfl,ak ?_⟩;have z5:=e5.size;refine bM rfl ?_;have so:=k.out.bf e5 ai;refine SL.part (P:=Xaz) so (i:=i) (by rw [ab9]; exact n) (vs:=[.slice p5 l5 c5,.int .u32 ((dB (cF es) m.x).num:Int)]) (o:=1) ai (by simp [df]) rfl ?_;intro h6 s6 k6 z6;have hse:(f.map Bg).set i (iw ((f.map Bg)[i]'(by rw [ab9]; exact n)) 1 [.slice p5 l5 c5,.int .u32 ((dB (cF es) m.x).num:Int)])=(f.set i ⟨m.name,p5,l5,c5,dB (cF es) m.x⟩).map Bg:=by
     rw [<- Tn]
     congr 1
     rw [aj9]
     have:f[i]=m:=(bc9.1 Q).2
     rw [this] <;> rfl
    rw [hse] at s6;have I:∀ j,j∈ax (some a)->H.size<=j/\j<h4.size:=λj s=>k.out.cj s
    have e6:Ext H h6:=Ch.trans (e4.trans e5) k6 (λj s hl=>by have:=I j s; omega);refine aC (cs:=cz) (((i+1:Nat):Int),()) (es.length-(i+1)) rfl ad (as9 (λz=>[Value.int .i64 z]) hwi) ⟨i+1,_,rfl,rfl,ad,e6,⟨s6,by rw [cv9]; exact k.len,λj e' K J b=>?_,λK b=>?_,λK b j s=>?_⟩⟩
    ·by_cases U:i=j
     ·subst U;rw [eu9 n] at b;cases b;rw [R] at J;cases J;refine ⟨F,?_⟩;rw [ag9 ad];show dB (cF es) m.x=dB (cF es) (VT (cF es) t e.x);rw [N]
     ·rw [dt9 U] at b;obtain ⟨h1,h2⟩:=k.eq j e' K J b;refine ⟨h1,h2.trans ?_⟩
      by_cases V:j<i
      ·rw [ag9 V,ag9 ad]
      ·rw [ac9 V,ac9 ad]
    ·rcases dk9 b with b | rfl
     ·exact ((k.fF K b).aj e5 ai).aj k6 (λj s=>(k.low K b j s).2)
     ·exact (s5.bf k6 (λj s M=>by have:=(s5.cj s).1; have:=I j M; omega)).Mp
    ·rcases dk9 b with b | rfl
     ·obtain ⟨h1,h2⟩:=k.low K b j s;exact ⟨⟨h1.1,ad⟩,h2⟩
     ·obtain ⟨h1,h2⟩:=s5.cj s;exact ⟨⟨ad,ad⟩,λM=>by have:=I j M; omega⟩
   ·have:i=es.length:=ad
    subst this;refine aC (cs:=cz) (((t+1:Nat):Int),()) (es.length-(t+1)) rfl ad (as9 (λz=>[Value.int .i64 z]) hwt) ⟨t+1,f,rfl,rfl,ad,e4,⟨k.out,k.len,λj e m A E=>?_,k.fF,k.low⟩⟩;obtain ⟨h1,h2⟩:=k.eq j e m A E;rw [ag9 (bc9.1 A).1] at h2;exact ⟨h1,h2⟩
  ·have:t=es.length:=ad
   subst this;exact ⟨e3,Y,l,Z,ms,rfl,o3⟩
theorem sO (s:Xaa):∀ l:dr,ik (λr=>if r=s then 1 else 0) l=cf l s
 | []=>rfl
 | p::l=>by
  rw [fz,ft,sO s l]
  congr 1
  split <;> simp
theorem pX:∀ l:dr,ik (λ_=>0) l=0
 | []=>rfl
 | p::l=>by rw [fz,pX l]; simp
def K6 {y:bK} (e:Nf U.af) (g:Nf y.af) (nx:U.num<4294967296) (j:y.num<4294967296) (h:∀ f,kg f U=kg f y):U=y:=by
 have h0:=h λ_=>0
 unfold kg at h0;rw [pX,pX] at h0;have hn:U.num=y.num:=ad
 have ht:U.af=y.af:=e.Nt g λs=>by
  have h1:=h λr=>if r=s then 1 else 0
  unfold kg at h1;rw [sO,sO] at h1;omega
 obtain ⟨a,b⟩:=U;obtain ⟨c,d⟩:=y;simp only at hn ht;rw [hn,ht]
def Ke (of:Xaa->Option bK) (f:Xaa->Nat) (s:Xaa):Nat:=match of s with
 | none=>f s
 | some y=>kg f y
def gu (of:Xaa->Option bK) (f:Xaa->Nat) (x:bK):kg f (dB of x)=kg (Ke of f) x:=O0 (λs=>by unfold Ke; rfl) x
theorem BM {f g:Xaa->Nat}:∀ {l:dr},(∀ t,t∈l->f t.1=g t.1)->ik f l=ik g l
 | [],_=>rfl
 | p::l,h=>by rw [fz,fz,h p ai,BM λt ht=>h t (aq9 _ ht)]
def qv {f g:Xaa->Nat} {x:bK} (h:∀ t,t∈x.af->f t.1=g t.1):kg f x=kg g x:=by
 unfold kg;rw [BM h]
section
variable {own:Xaa->Bool} {lin:Xaa->bK}
def XJ (own:Xaa->Bool) (lin:Xaa->bK) (t:Nat) (s:Xaa):Option bK:=if own s=true then some (sB own lin t s) else none
def zV (own:Xaa->Bool) (lin:Xaa->bK) (s:Xaa):Option bK:=if own s=true then some (lin s) else none
def tW (t:Nat) (v:Xaa):sB own lin (t+1) v=dB (XJ own lin t) (lin v):=rfl
theorem DQ (b:∀ v,own v=true->(lin v).num<4294967296):∀ (t:Nat) (v:Xaa),own v=true->dB (zV own lin) (sB own lin t v)=sB own lin (t+1) v
 | 0,v,hv=>rfl
 | t+1,v,hv=>by
  rw [tW (t+1) v,tW t v];refine K6 (eQ _ _) (eQ _ _) (uy _ _ _ (uy _ _ _ (b v hv))) (uy _ _ _ (b v hv)) λf=>?_
  rw [gu,gu,gu];refine qv λu _=>?_
  generalize u.1=s;unfold Ke XJ
  by_cases c:own s=true
  ·rw [ag9 c,ag9 c];show kg (Ke (zV own lin) f) (sB own lin t s)=kg f (sB own lin (t+1) s);rw [<- DQ b t s c,gu]
  ·rw [ac9 c,ac9 c];show (match zV own lin s with | none=>f s | some y=>kg f y)=f s;unfold zV;rw [ac9 c]
theorem Gs (b:∀ v,own v=true->(lin v).num<4294967296):∀ (t:Nat) (v:Xaa),own v=true->VT (zV own lin) t (lin v)=sB own lin t v
 | 0,v,hv=>rfl
 | t+1,v,hv=>by
  show dB (zV own lin) (VT (zV own lin) t (lin v))=_;rw [Gs b t v hv,DQ b t v hv]
end
def Uk {es:List cV} (hn:(aU es).Nodup) (c:∀ e,e∈es->e.x.num<4294967296) {e:cV} (j:e∈es):VT (cF es) es.length e.x=fy es e.name:=by
 have f:cE es e.name=true:=by
  unfold cE;cases g:lx es e.name with
  | some k=>rfl
  | none =>
   unfold lx at g;rw [bz9] at g
   have:=g e j
   simp at this
 have b:∀ v,cE es v=true->(dC es v).num<4294967296:=by
  intro v hv;unfold cE at hv;obtain ⟨k,hk⟩:=cq9.1 hv;obtain ⟨d,l,h⟩:=wE hk;rw [<- h,rz hn (cr9 l)];exact c d (cr9 l)
 have h1:=Gs b es.length e.name f;rw [rz hn j] at h1;have h2:zV (cE es) (dC es)=cF es:=rfl;rw [h2] at h1;rw [h1];unfold fy K0 aU;rw [ab9]
def Ao (K:Ky->Prop) (a b:Ky->Xaa) (x y:bK):Prop:=∀ f g:Xaa->Nat,(∀ k,K k->f (a k)=g (b k))->kg f x=kg g y
def Ao.symm {K:Ky->Prop} {a b:Ky->Xaa} {x y:bK} (h:Ao K a b x y):Ao K b a y x:=λf g c=>(h g f λk hk=>(c k hk).symm).symm
structure xf {δ:Type} (Q:List δ) (ky:δ->Ky) (K:Ky->Prop) (a b:Ky->Xaa) (xa xb:δ->bK):Prop where
 nd:(Q.map ky).Nodup
 SW:∀ q,q∈Q->K (ky q)
 ia:∀ k k',K k->K k'->a k=a k'->k=k'
 ib:∀ k k',K k->K k'->b k=b k'->k=k'
 Vz:∀ k,K k->k∉Q.map ky->a k=b k
 rel:∀ q,q∈Q->Ao K a b (xa q) (xb q)
 fa:∀ q,q∈Q->Nf (xa q).af
 fb:∀ q,q∈Q->Nf (xb q).af
def xf.symm {δ:Type} {Q:List δ} {ky:δ->Ky} {K:Ky->Prop} {a b:Ky->Xaa} {xa xb:δ->bK} (t:xf Q ky K a b xa xb):xf Q ky K b a xb xa :=
 ⟨t.nd,t.SW,t.ib,t.ia,λk hk hn=>(t.Vz k hk hn).symm,λq c=>(t.rel q c).symm,t.fb,t.fa⟩
def wD {δ:Type} (Q:List δ) (ky:δ->Ky) (a:Ky->Xaa) (xa:δ->bK):List (Xaa × bK):=Q.map λq=>(a (ky q),xa q)
def xD (D:List (Xaa × bK)):Sx.aU (fl D)=D.map (·.1):=by
 have:=as9 (List.map (·.1)) (qY D)
 rw [bg9] at this;exact this
def uo {D:List (Xaa × bK)} {s:Xaa}:cE (fl D) s=true↔s∈D.map (·.1):=by rw [dY,xD]
theorem V5:∀ {l:dr} {t:Xaa × Nat},Nf l->t∈l->cf l t.1=t.2
 | [],t,_,h=>by simp at h
 | p::l,t,n,h=>by
  rcases bd9.1 h with h | h
  ·subst h;exact n.ot
  ·rw [ft,ac9 (ko (n.head t h)),by9];exact V5 n.tail h
def Qk {l:dr} (n:Nf l) {s:Xaa}:s∈l.map (·.1)↔cf l s % 4294967296≠0:=by
 constructor
 ·intro h;obtain ⟨t,ht,rfl⟩:=ap9.1 h;rw [V5 n ht]
  have:=n.2 t ht
  omega
 ·intro h;apply ey9;intro k;exact h (by rw [Ay λp b e=>k (ap9.2 ⟨p,b,e⟩)])
section
variable {δ:Type} {Q:List δ} {ky:δ->Ky} {K:Ky->Prop} {a b:Ky->Xaa} {xa xb:δ->bK}
def BE:(wD Q ky a xa).map (·.1)=(Q.map ky).map a:=by
 unfold wD;rw [bg9,bg9] <;> rfl
def xf.XC (t:xf Q ky K a b xa xb):((wD Q ky a xa).map (·.1)).Nodup:=by
 rw [BE];have h:=t.nd;rw [ei9] at h ⊢;rw [cs9];refine List.Pairwise.imp_of_mem ?_ h;intro k k' hk c d e;obtain ⟨q,f,rfl⟩:=ap9.1 hk;obtain ⟨r,g,rfl⟩:=ap9.1 c;exact d (t.ia _ _ (t.SW q f) (t.SW r g) e)
def xf.own (t:xf Q ky K a b xa xb) {k:Ky} (hk:K k):cE (fl (wD Q ky a xa)) (a k)=true↔k∈Q.map ky:=by
 rw [uo,BE,ap9];constructor
 ·rintro ⟨k',c,e⟩;obtain ⟨q,d,rfl⟩:=ap9.1 c;rw [<- t.ia _ _ (t.SW q d) hk e];exact c
 ·intro h;exact ⟨k,h,rfl⟩
def xf.lin (t:xf Q ky K a b xa xb) {q:δ} (c:q∈Q):dC (fl (wD Q ky a xa)) (a (ky q))=xa q:=by
 have h2:(⟨a (ky q),none,0,0,xa q⟩:cV)∈fl (wD Q ky a xa):=ap9.2 ⟨(a (ky q),xa q),ap9.2 ⟨q,c,rfl⟩,rfl⟩;exact rz (by rw [xD]; exact t.XC) h2
def Ao.cf {x y:bK} (h:Ao K a b x y) {k:Ky} (d:∀ k',K k'->a k'=a k->k'=k) (f:∀ k',K k'->b k'=b k->k'=k):cf x.af (a k) % 4294967296=cf y.af (b k) % 4294967296:=by
 have h0:=h (λ_=>0) (λ_=>0) λ_ _=>rfl
 have h1:=h (λr=>if r=a k then 1 else 0) (λr=>if r=b k then 1 else 0) λk' c=>by
  by_cases e:k'=k
  ·subst e
   simp
  ·rw [ac9 λx=>e (d k' c x),ac9 λx=>e (f k' c x)]
 unfold kg at h0 h1;rw [pX,pX] at h0;rw [sO,sO] at h1;omega
def xf.Zb (t:xf Q ky K a b xa xb) {q r:δ} (d:q∈Q) (f:r∈Q) (h:dG (fl (wD Q ky a xa)) (a (ky q)) (a (ky r))):dG (fl (wD Q ky b xb)) (b (ky q)) (b (ky r)):=by
 obtain ⟨h1,h2⟩:=h;refine ⟨?_,(t.symm.own (t.SW r f)).2 (ay9 f)⟩;unfold cU at h1 ⊢;rw [t.lin d,Qk (t.fa q d)] at h1;rw [t.symm.lin d,Qk (t.fb q d)];rw [(t.rel q d).cf (λk' c e=>t.ia _ _ c (t.SW r f) e) (λk' c e=>t.ib _ _ c (t.SW r f) e)] at h1;exact h1
def xf.IG (t:xf Q ky K a b xa xb) {s u:Xaa} (h:dG (fl (wD Q ky a xa)) s u):∃ r,r∈Q/\u=a (ky r):=by
 have h2:=h.2;rw [uo,BE] at h2;obtain ⟨k,hk,rfl⟩:=ap9.1 h2;obtain ⟨r,c,rfl⟩:=ap9.1 hk;exact ⟨r,c,rfl⟩
def xf.V6 (t:xf Q ky K a b xa xb) {u v:Xaa} (h:rh (dG (fl (wD Q ky a xa))) u v):∀ q r,q∈Q->r∈Q->u=a (ky q)->v=a (ky r)->rh (dG (fl (wD Q ky b xb))) (b (ky q)) (b (ky r)):=by
 induction h with
 | refl u =>
  intro q r c d f g;rw [t.ia _ _ (t.SW q c) (t.SW r d) (f.symm.trans g)];exact .refl _
 | head e _ k =>
  intro q r c d f g;subst f;obtain ⟨m,j,rfl⟩:=t.IG e;exact .head (t.Zb c j e) (k m r j d rfl g)
def xf.ZA (t:xf Q ky K a b xa xb) {q:δ} (c:q∈Q) (h:lK (dG (fl (wD Q ky a xa))) (a (ky q))):lK (dG (fl (wD Q ky b xb))) (b (ky q)):=by
 obtain ⟨y,h1,h2⟩:=h;obtain ⟨m,d,rfl⟩:=t.IG h1;exact ⟨_,t.Zb c d h1,t.V6 h2 m q d c rfl rfl⟩
def xf.onc (t:xf Q ky K a b xa xb) {q:δ} (c:q∈Q):lK (dG (fl (wD Q ky a xa))) (a (ky q))↔lK (dG (fl (wD Q ky b xb))) (b (ky q)):=⟨t.ZA c,t.symm.ZA c⟩
def xf.YX (t:xf Q ky K a b xa xb):mR (wD Q ky a xa)=dU (fl (wD Q ky b xb)):=by
 classical
 unfold mR dU;have h2:∀ D:List (Xaa × bK),∀ P:Xaa->Bool,(fl D).findIdx? (λe=>P e.name)=D.findIdx? λy=>P y.1:=by
  intro D P;unfold fl;rw [fn9] <;> rfl
 have h3:=h2 (wD Q ky b xb) (λs=>decide (lK (dG (fl (wD Q ky b xb))) s));rw [h3];have c:∀ l:List δ,(∀ q,q∈l->q∈Q)->(l.map λq=>(a (ky q),xa q)).findIdx? (λy=>decide (lK (dG (fl (wD Q ky a xa))) y.1))=(l.map λq=>(b (ky q),xb q)).findIdx? (λy=>decide (lK (dG (fl (wD Q ky b xb))) y.1)):=by
  intro l
  induction l with
  | nil=>intro _; rfl
  | cons q l d =>
   intro hl;rw [bq9,bq9,List.findIdx?_cons,List.findIdx?_cons,d λr f=>hl r (aq9 _ f)];have g:decide (lK (dG (fl (wD Q ky a xa))) (a (ky q)))=decide (lK (dG (fl (wD Q ky b xb))) (b (ky q))):=fw9.2 (t.onc (hl q (da9 ..)));simp only [g]
 exact c Q λq h=>h
theorem xf.K0 (t:xf Q ky K a b xa xb):∀ (n:Nat) (q:δ),q∈Q->Ao K a b (sB (cE (fl (wD Q ky a xa))) (dC (fl (wD Q ky a xa))) n (a (ky q))) (sB (cE (fl (wD Q ky b xb))) (dC (fl (wD Q ky b xb))) n (b (ky q)))
 | 0,q,c=>by
  show Ao K a b (dC (fl (wD Q ky a xa)) (a (ky q))) (dC (fl (wD Q ky b xb)) (b (ky q)));rw [t.lin c,t.symm.lin c];exact t.rel q c
 | n+1,q,c=>by
  intro f g d;rw [tW,tW,gu,gu,t.lin c,t.symm.lin c];refine t.rel q c _ _ λk hk=>?_
  unfold Ke XJ
  by_cases e:k∈Q.map ky
  ·rw [ag9 ((t.own hk).2 e),ag9 ((t.symm.own hk).2 e)];obtain ⟨r,j,rfl⟩:=ap9.1 e;exact xf.K0 t n r j f g d
  ·rw [ac9 λh=>e ((t.own hk).1 h),ac9 λh=>e ((t.symm.own hk).1 h)];exact d k hk
def Vc {D:List (Xaa × bK)} (s:Xaa):fy (fl D) s=sB (cE (fl D)) (dC (fl D)) D.length s:=by
 unfold fy K0;rw [xD,ab9]
def PZ {D:List (Xaa × bK)} (s:Xaa):cE (fl (jF D)) s=cE (fl D) s:=by
 have h:(jF D).map (·.1)=D.map (·.1):=by
  unfold jF;rw [bg9] <;> rfl
 rw [ek9,uo,uo,h]
def sW {D:List (Xaa × bK)} (hn:(D.map (·.1)).Nodup) (s:Xaa):cF (fl (jF D)) s=if cE (fl D) s=true then some (fy (fl D) s) else none:=by
 unfold cF;rw [PZ]
 by_cases h:cE (fl D) s=true
 ·rw [ag9 h,ag9 h];rw [uo] at h;obtain ⟨y,c,rfl⟩:=ap9.1 h;have h0:(jF D).map (·.1)=D.map (·.1):=by
   unfold jF;rw [bg9] <;> rfl
  have h2:(⟨y.1,none,0,0,fy (fl D) y.1⟩:cV)∈fl (jF D):=ap9.2 ⟨(y.1,fy (fl D) y.1),ap9.2 ⟨y,c,rfl⟩,rfl⟩;exact as9 some (rz (by rw [xD,h0]; exact hn) h2)
 ·rw [ac9 h,ac9 h]
def xf.put (t:xf Q ky K a b xa xb) {x y:bK} (h:Ao K a b x y):Ao K a b (oM (jF (wD Q ky a xa)) x) (oM (jF (wD Q ky b xb)) y):=by
 intro f g c;unfold oM;rw [gu,gu];refine h _ _ λk hk=>?_
 unfold Ke;rw [sW t.XC,sW t.symm.XC]
 by_cases d:k∈Q.map ky
 ·rw [ag9 ((t.own hk).2 d),ag9 ((t.symm.own hk).2 d)];obtain ⟨r,e,rfl⟩:=ap9.1 d;have j:(wD Q ky a xa).length=Q.length:=by unfold wD; rw [ab9]
  have l:(wD Q ky b xb).length=Q.length:=by unfold wD; rw [ab9]
  simp only [Vc,j,l];exact t.K0 Q.length r e f g c
 ·rw [ac9 λh=>d ((t.own hk).1 h),ac9 λh=>d ((t.symm.own hk).1 h)];exact c k hk
def KX {D:List (Xaa × bK)} (hn:(D.map (·.1)).Nodup) (hc:∀ v,¬ lK (dG (fl D)) v) {x:bK}:∀ u,u∈(oM (jF D) x).af->cE (fl D) u.1=false:=by
 intro u d;unfold oM at d;rcases qC d with ⟨p,f,e,ho⟩ | ⟨p,y,v,f,ho,hv,e⟩
 ·rw [sW hn] at ho;cases c:cE (fl D) u.1 with
  | false=>rfl
  | true=>rw [ag9 c] at ho; cases ho
 ·rw [sW hn] at ho
  by_cases c:cE (fl D) p.1=true
  ·rw [ag9 c] at ho;have ho:=bb9 ho;subst ho
   have:=(uh (own:=cE (fl D)) (lin:=dC (fl D)) (names:=Sx.aU (fl D)) (λs=>dY _ s) hc ((dY _ _).1 c) v hv).1
   rw [<- e];exact this
  ·rw [ac9 c] at ho; cases ho
def Kd {D:List (Xaa × bK)} (h:mR D=none):∀ v,¬ lK (dG (fl D)) v:=by
 classical
 intro v hv;unfold mR at h;rw [bz9] at h;have c:∃ u,cE (fl D) u=true/\lK (dG (fl D)) u:=by
  obtain ⟨y,h1,h2⟩:=hv;refine ⟨y,h1.2,?_⟩;have d:rh (dG (fl D)) v y:=.one h1;cases h2 with
  | refl=>exact ⟨_,h1,.refl _⟩
  | head e r=>exact ⟨_,e,r.trans d⟩
 obtain ⟨u,h1,h2⟩:=c;rw [uo] at h1;obtain ⟨q,f,rfl⟩:=ap9.1 h1
 have:=h q f
 exact absurd h2 (aw9 this)
def xf.same (t:xf Q ky K a b xa xb) (hc:mR (wD Q ky a xa)=none) {x y:bK} (h:Ao K a b x y) (e:x.num<4294967296) (g:y.num<4294967296):oM (jF (wD Q ky a xa)) x=oM (jF (wD Q ky b xb)) y:=by
 classical
 have ca:=Kd hc;have j:∀ v,¬ lK (dG (fl (wD Q ky b xb))) v:=Kd (by
  have h1:=t.YX;have h2:=t.symm.YX;rw [hc] at h1
  have:mR (wD Q ky b xb)=dU (fl (wD Q ky b xb)):=by
   unfold mR dU fl;rw [fn9] <;> rfl
  rw [this,<- h1])
 refine K6 (eQ _ _) (eQ _ _) (jB e) (jB g) λf=>?_
 have l:kg f (oM (jF (wD Q ky a xa)) x)=kg (λs=>if cE (fl (wD Q ky a xa)) s=true then 0 else f s) (oM (jF (wD Q ky a xa)) x):=qv λu d=>by
  rw [KX t.XC ca u d] <;> rfl
 have m:kg f (oM (jF (wD Q ky b xb)) y)=kg (λs=>if cE (fl (wD Q ky b xb)) s=true then 0 else f s) (oM (jF (wD Q ky b xb)) y):=qv λu d=>by
  rw [KX t.symm.XC j u d] <;> rfl
 rw [l,m];refine t.put h _ _ λk hk=>?_
 by_cases c:k∈Q.map ky
 ·rw [ag9 ((t.own hk).2 c),ag9 ((t.symm.own hk).2 c)]
 ·rw [ac9 λh=>c ((t.own hk).1 h),ac9 λh=>c ((t.symm.own hk).1 h),t.Vz k hk c]
end
def LZ {l c:Nat} {xs:List Xaa} (n:l=xs.length) (hc:∀ i,(hi:i<xs.length)->∃ a,O=some a/\aH H (a.add (i*1)) 0 [.string xs[i]]) (hl:xs.length<=2^61) (s:Xaa):ug Xaz 52 [.slice O l c,.string s] H (.bool (hQ xs s)):=by
 refine eW mixed Tryz.func52 av (j0 O l c s) ?_;unfold iR aR aY bz aK cC fR aS cH;refine aM (cs:=iv) (λy m h'=>∃ i:Nat,y.2.1=(i:Int)/\m=xs.length-i/\i<=xs.length/\h'=H/\hQ (xs.take i) s=false) (false,(0:Int),()) xs.length rfl
  ⟨0,rfl,rfl,ad,rfl,rfl⟩ ?_
 rintro ⟨e,j,⟨⟩⟩ m h' ⟨i,hi,rfl,f,rfl,hn⟩;simp only at hi;subst hi;refine ak ?_;refine aI ?_ ?_<;>intro q
 ·have b:i<xs.length:=ad
  obtain ⟨a,g,d⟩:=hc i b;refine bM g ?_;rw [cg i];refine ar (xs[i],()) d (ak ?_);have hs:=Z1 xs s i b;rw [sr];refine ao ?_ ?_<;>intro r
  ·have r:=ai9 r;refine ⟨as9 Value.bool ?_,rfl⟩;unfold hQ;exact (ed9.2 ⟨_,ah9 b,ak9 r⟩).symm
  ·rw [hn,r] at hs;refine aC (cs:=iv) (e,((i+1:Nat):Int),()) (xs.length-(i+1)) rfl ad (by rw [wrap_i64 ad ad]; rfl) ?_;exact ⟨i+1,rfl,rfl,ad,rfl,hs⟩
 ·have:i=xs.length:=ad
  subst this;rw [bj9] at hn;exact ⟨by rw [hn],rfl⟩
def j9 (us:List cm) (n:Nat) (s:Xaa):Option Nat :=
 if (us[n]?.map λu=>hQ (gf u) s)=some true then some n else us.findIdx? λu=>hQ u.aT s
structure NY (us:List cm):Prop where
 many:us.length<=2^20
 text:∀ u,u∈us->u.text.length<=2^20
 data:∀ u,u∈us->u.data.length<=2^20
 bi:∀ u,u∈us->u.bi.length<=2^20
def Hk {l c:Nat} {us:List cm} (v:xZ H O l us) (sz:NY us) {n:Nat} (hn:n<us.length) (s:Xaa) :
  HC Xaz 72 #[.slice O l c,vI (n:Int),.string s] H λw h'=>w=vI (UB (j9 us n s))/\Ext H h':=by
 refine aX (args:=[.slice O l c,vI (n:Int),.string s]) mixed Tryz.func72 av (oF O l c n s) ?_;unfold j2 aR aY bz aK bj cv aS;have hll:=v.len;have hmany:=sz.many;have d:us[n]?=some us[n]:=ad9 hn;obtain ⟨a,sa,sb,sc,sd,rfl,hc,C⟩:=v.cells n hn;have hm:=ah9 hn;generalize us[n]=u at d hc C hm;refine bM rfl ?_;rw [cg n];refine ar ((sa.p,sa.l,sa.c),(sb.p,sb.l,sb.c),(sc.p,sc.l,sc.c),(sd.p,sd.l,sd.c),()) hc (ak ?_);refine aG (Fs C (sz.text u hm) (sz.data u hm) (sz.bi u hm)) ?_;rintro _ h1 ⟨D,E,F,rfl,G,o⟩;refine ⟨((D,E,F),()),rfl,ak ?_⟩;have t:(gf u).length<=2^61:=by
  have h1:=sz.text u hm;have h2:=sz.data u hm;have h3:=sz.bi u hm;unfold gf eM;rw [ae9,ae9,ab9,ab9,ab9];have h4:=dr9 (λx:cB=>decide (x.kind=1)) u.text;have h5:=dr9 (λx:cB=>decide (x.kind=1)) u.data;omega
 refine aJ (EY G t s) ?_;refine ao ?_ ?_<;>intro q
 ·refine ⟨?_,o⟩;unfold j9;rw [d,ez9,q,ag9 rfl] <;> rfl
 ·have I:j9 us n s=us.findIdx? λu=>hQ u.aT s:=by
   unfold j9;rw [d,ez9,q,ac9 ai]
  rw [I];refine aM (cs:=fV) (λy m h'=>∃ i:Nat,y.2.1=(i:Int)/\m=us.length-i/\i<=us.length/\h'=h1/\∀ j,j<i->(b:j<us.length)->hQ us[j].aT s=false) ((0:Int),(0:Int),()) us.length rfl
   ⟨0,rfl,rfl,ad,rfl,λj b=>absurd b ad⟩ ?_
  rintro ⟨J,P,⟨⟩⟩ m h' ⟨i,hi,rfl,K,rfl,f⟩;simp only at hi;subst hi;refine ak ?_;refine aI ?_ ?_<;>intro q
  ·have k:i<us.length:=ad
   obtain ⟨a',Q,R,S,z,A,B,g⟩:=(v.aj o).cells i k;refine eS (aF A ?_);rw [cg i];refine ar ((z.p,z.l,z.c),()) ⟨by rw [add_add]; exact B.2.2.2.1,trivial⟩ ?_;refine ak ?_;refine aJ (LZ g.aT.len (λj b=>by
    obtain ⟨a,L,hc,_⟩:=g.aT.cells j b;exact ⟨a,L,hc⟩) (by have:=g.aT.many; omega) s) ?_
   refine ao ?_ ?_<;>intro r
   ·refine ⟨?_,o⟩;rw [show us.findIdx? (λu=>hQ u.aT s)=some i from by
     rw [bf9];exact ⟨k,r,λj b=>by rw [f j b ad]; simp⟩]
    rfl
   ·refine aC (cs:=fV) (J,((i+1:Nat):Int),()) (us.length-(i+1)) rfl ad (by rw [wrap_i64 ad ad]; rfl) ?_;exact ⟨i+1,rfl,rfl,ad,rfl,λj b M=>by
     by_cases e:j=i
     ·subst e; exact r
     ·exact f j ad M⟩
  ·have:i=us.length:=ad
   subst this;refine ⟨?_,o⟩;rw [show us.findIdx? (λu=>hQ u.aT s)=none from by
    rw [bz9];intro u N;obtain ⟨j,b,rfl⟩:=bh9 N;exact f j b b]
   rfl
def ri (n sec:Nat):Nat->List cB->List Lb
 | _,[]=>[]
 | i,x::l=>(if x.kind=1 then [⟨n,sec,i,x.name⟩] else [])++ri n sec (i+1) l
def H5 (n:Nat) (u:cm):List Lb:=ri n 0 0 u.text++ri n 1 0 u.data
def cr:Nat->List cm->List Lb
 | _,[]=>[]
 | n,u::us=>H5 n u++cr (n+1) us
def AE (x:Lb):Ky:=(x.u,x.n)
def jN (q:Nat × tI):Ky:=(q.1,q.2.1)
def oG (l:List Ky) (k:Ky):Option Nat:=l.findIdx? λx=>decide (x=k)
variable {V:Ky}
def pR {l:List Ky} :oG l V=none↔V∉l:=by
 unfold oG;rw [bz9];constructor
 ·intro h hk
  have:=h V hk
  simp at this
 ·intro h x b;exact al9 λe=>h (e▸b)
def kb {l:List Ky} {k:Ky} {i:Nat} (h:oG l k=some i):∃ hi:i<l.length,l[i]=k:=by
 unfold oG at h;rw [bf9] at h;obtain ⟨h1,h2,_⟩:=h;exact ⟨h1,ai9 h2⟩
def CQ {l:List Ky} (h:V∈l):∃ i,oG l V=some i:=by
 cases hk:oG l V with
 | some i=>exact ⟨i,rfl⟩
 | none=>exact absurd h (pR.1 hk)
def Ea {l:List Ky} (hn:V∉l):oG (l++[V])=uF (oG l) V l.length:=by
 funext k
 unfold uF
 by_cases hk:k=V
 ·subst hk;rw [ag9 rfl];have h0:=pR.2 hn;unfold oG at h0 ⊢;rw [ee9,h0]
  simp
 ·rw [ac9 hk];unfold oG;rw [ee9]
  have:decide (V=k)=false:=al9 λe=>hk e.symm
  simp [List.findIdx?_cons,this]
structure WI (w:LW) (L:List Lb) (E:List Ky):Prop where
 lb:w.lb=L
 num:w.num=oG (L.map AE)
 tA:w.tA=oG E
 ne:w.ne=E.length
theorem WI.Vz {w:LW} {L:List Lb} {E:List Ky} (i0:WI w L E) {n sec:Nat}:∀ (l:List cB) (i:Nat) {w:LW} {L:List Lb} (i0:WI w L E) (hn:(eM l).Nodup) (b:∀ s,s∈eM l->(n,s)∉L.map AE),WI (js n sec i l w) (L++ri n sec i l) E
 | [],i,w,L,i0,hn,b=>by simpa [js,ri] using i0
 | x::l,i,w,L,i0,hn,b=>by
  rw [uC] at hn b;rw [js,ri,<- az9]
  by_cases hk:x.kind=1
  ·simp only [hk,if_true,List.singleton_append,List.nodup_cons,List.mem_cons] at hn b;have hx:=b x.name (.inl rfl);refine WI.Vz i0 l (i+1) ?_ hn.2 (λs c=>?_)
   ·unfold kf;rw [ag9 hk,ag9 hk];refine ⟨by show w.lb++_=_; rw [i0.lb],?_,i0.tA,i0.ne⟩;show uF w.num (n,x.name) w.lb.length=_;rw [ao9,List.map_singleton];show _=oG (L.map AE++[(n,x.name)]);rw [Ea hx,i0.num,i0.lb,ab9]
   ·rw [ag9 hk,ao9,ar9];rintro (h | h)
    ·exact b s (.inr c) h
    ·have:(n,s)=(n,x.name):=by simpa [AE] using h
     have:s=x.name:=(du9 this).2
     exact hn.1 (this▸c)
  ·simp only [hk,if_false,List.nil_append] at hn b;rw [ac9 hk,cb9];refine WI.Vz i0 l (i+1) ?_ hn b;unfold kf;rw [ac9 hk];exact i0
theorem WI.eqs {L:List Lb} {n:Nat}:∀ (l:List tI) {w:LW} {E:List Ky} (i0:WI w L E) (hn:(l.map (·.1)).Nodup) (b:∀ s,s∈l.map (·.1)->(n,s)∉E),WI (l.foldl (wF n) w) L (E++l.map λe=>(n,e.1))
 | [],w,E,i0,hn,b=>by simpa using i0
 | x::l,w,E,i0,hn,b=>by
  simp only [List.map_cons,List.nodup_cons,List.mem_cons] at hn b;have hx:=b x.1 (.inl rfl);rw [bt9,bq9,show E++(n,x.1)::l.map (λe=>(n,e.1))=(E++[(n,x.1)])++l.map λe=>(n,e.1) from ai];refine WI.eqs l ?_ hn.2 (λs c=>?_)
  ·refine ⟨i0.lb,i0.num,?_,?_⟩
   ·show uF w.tA (n,x.1) w.ne=_;rw [Ea hx,i0.tA,i0.ne]
   ·show (if (w.tA (n,x.1)).isSome then w.ne else w.ne+1)=_;rw [i0.tA,pR.2 hx,ae9,i0.ne] <;> rfl
  ·rw [ar9];rintro (h | h)
   ·exact b s (.inr c) h
   ·have:(n,s)=(n,x.1):=by simpa using h
    have:s=x.1:=(du9 this).2
    exact hn.1 (this▸c)
theorem ya (n sec:Nat):∀ (l:List cB) (i:Nat),(ri n sec i l).map AE=(eM l).map λs=>(n,s)
 | [],i=>rfl
 | x::l,i=>by
  rw [ri,uC,ao9,ao9,ya n sec l (i+1)]
  by_cases hk:x.kind=1 <;> simp [hk,AE]
variable {c:LW} {d:cm}
def WI.unt {L:List Lb} {E:List Ky} {n:Nat} (i0:WI c L E) (hn:(gf d).Nodup) (h1:∀ k,k∈L.map AE->k.1<n) (h2:∀ k,k∈E->k.1<n):WI (HP n d c) (L++H5 n d) (E++d.bi.map λe=>(n,e.1)):=by
 unfold gf at hn;rw [ct9,ct9] at hn;obtain ⟨⟨f,g,j⟩,l,o⟩:=hn;unfold HP H5;rw [<- az9];refine WI.eqs _ (WI.Vz i0 _ _ (WI.Vz i0 _ _ i0 f (λs b h=>by have:=h1 _ h; simp at this)) g (λs b h=>?_)) l (λs b h=>by have:=h2 _ h; simp at this);rw [ao9,ar9] at h;rcases h with h | h
 ·have:=h1 _ h; simp at this
 ·rw [ya] at h;obtain ⟨t,ht,m⟩:=ap9.1 h
  have:t=s:=(du9 m).2
  exact j t ht s b this
theorem WI.yR:∀ (us:List cm) (n:Nat) {w:LW} {L:List Lb} {E:List Ky} (i0:WI w L E) (hn:∀ u,u∈us->(gf u).Nodup) (h1:∀ k,k∈L.map AE->k.1<n) (h2:∀ k,k∈E->k.1<n),WI (oD n us w) (L++cr n us) (E++(eK n us).map jN)
 | [],n,w,L,E,i0,hn,h1,h2=>by simpa [oD,cr,eK] using i0
 | u::us,n,w,L,E,i0,hn,h1,h2=>by
  rw [oD,cr,eK,ao9,<- az9,<- az9];have b:(u.bi.map λe=>(n,e)).map jN=u.bi.map λe=>(n,e.1):=by rw [bg9]; rfl
  rw [b];refine WI.yR us (n+1) (WI.unt i0 (hn u ai) h1 h2) (λv hv=>hn v (by simp [hv])) (λk hk=>?_) (λk hk=>?_)
  ·rw [ao9,ar9] at hk;rcases hk with hk | hk
   ·have:=h1 _ hk; omega
   ·unfold H5 at hk;rw [ao9,ya,ya,<- ao9] at hk;obtain ⟨s,_,rfl⟩:=ap9.1 hk;show n<n+1;omega
  ·rcases ar9.1 hk with hk | hk
   ·have:=h2 _ hk; omega
   ·obtain ⟨s,_,rfl⟩:=ap9.1 hk;show n<n+1;omega
def yr (h:fC d=0):(gf d).Nodup:=by
 have h1:=(Bp h).2;rw [yW] at h1;unfold yT at h1;simp only [Bool.and_eq_true,decide_eq_true_eq] at h1;exact h1.2.2.2.1
def VM {us:List cm} (b:∀ u,u∈us->fC u=0):WI (oD 0 us VI) (cr 0 us) ((eK 0 us).map jN):=by
 have:=WI.yR us 0 (w:=VI) (L:=[]) (E:=[]) ⟨rfl,rfl,rfl,rfl⟩ (λu c=>yr (b u c)) ai ai
 simpa using this
def PE {n:Nat} {u:cm} {w:LW}:(HM n u w).lb=w.lb/\(HM n u w).num=w.num/\(HM n u w).tA=w.tA/\(HM n u w).ne=w.ne:=by
 have h:=RD n u.aT w;exact ⟨h.1,h.2.1,h.2.2.2.1,h.2.2.2.2⟩
theorem Dt:∀ (us:List cm) (n:Nat) (w w':LW),lV n us w=.ok w'->w'.lb=w.lb/\w'.num=w.num/\w'.tA=w.tA/\w'.ne=w.ne
 | [],n,w,w',h=>by
  unfold lV at h;cases h;exact ⟨rfl,rfl,rfl,rfl⟩
 | u::us,n,w,w',h=>by
  rw [lV] at h;split at h
  ·cases h
  ·have h1:=Dt us (n+1) _ w' h;have h2:=PE (n:=n) (u:=u) (w:=w);exact ⟨h1.1.trans h2.1,h1.2.1.trans h2.2.1,h1.2.2.1.trans h2.2.2.1,h1.2.2.2.trans h2.2.2.2⟩
def WI.meet {us:List cm} {n:Nat} {w':LW} {L:List Lb} {E:List Ky} (i0:WI c L E) (h:lV n us c=.ok w'):WI w' L E:=by
 have:=Dt us n c w' h
 exact ⟨this.1.trans i0.lb,this.2.1.trans i0.num,this.2.2.1.trans i0.tA,this.2.2.2.trans i0.ne⟩
def WI.Lf {w:LW} {L:List Lb} {E:List Ky} (i0:WI w L E) (h1:L.length<=2^50) (h2:E.length<=2^50):RO w:=by
 refine ⟨λk i h=>?_,λk i h=>?_⟩
 ·rw [i0.num] at h;obtain ⟨hi,_⟩:=kb h;rw [ab9] at hi;omega
 ·rw [i0.tA] at h;obtain ⟨hi,_⟩:=kb h;omega
end Go.Sx.Lk
