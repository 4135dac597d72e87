/- Contracts over heaps, part 3. Condition: as each statement says. -/
import Derived.Test.YtmdncdaladplkaaGreatDoorP2
import Derived.Test.YtmdncdaladplkaaGreatDoorDobjShelf
import Derived.Test.YtmdncdaladplkaaGreatDoorBtE
import Derived.LaidEql
import Derived.Stop.Asserts
import Derived.RowKitTokens
import Derived.Lib.ItoaLen
set_option linter.all false
set_option maxRecDepth 100000
set_option maxHeartbeats 4000000
namespace Go.Sx.Ob
open Go.Proofs
def XW (s:Xaa):List Xab:=[.string s]
abbrev SN (h:Hp) (b:Nat) (p:Xac) (l c:Nat) (xs:List Xaa):Prop:=SL h b 9 1 p l c (xs.map XW)
variable {Y:Hp} {H U V:Nat} {O:Xac}
def SN.len {xs:List Xaa} (s:SN Y H O U V xs):U=xs.length:=by
 have:=s.1
 rwa [ab9] at this
def SN.cell {xs:List Xaa} (s:SN Y H O U V xs) {i:Nat} (hi:i<xs.length):∃ a,O=some a/\aF Y (a.add (i*1)) 0 [.string xs[i]]:=by
 obtain ⟨a,d,hc⟩:=SL.cells s (i:=i) (by rw [ab9]; exact hi);refine ⟨a,d,?_⟩;rw [am9] at hc;exact hc
def YV (D:List Xaa) (s:Xaa) (i:Nat) (hi:i<D.length):gw (D.take (i+1)) s=(gw (D.take i) s || decide (D[i]=s)):=by
 unfold gw;rw [ag9 hi,List.any_append]
 simp
def Ek {xs:List Xaa} (v:SN Y H O U V xs) (hl:xs.length<=2^61) (s:Xaa):uo Xaz 52 [.slice O U V,.string s] Y (.bool (gw xs s)):=by
 refine eX mixed Tryz.func52 av (jC O U V s) ?_;unfold iw aR aY bq aH bH dX aM ct;have n:=SN.len v;refine aQ (cs:=jP) (fun y m h'=>∃ i:Nat,y.2.1=(i:Int)/\m=xs.length-i/\i<=xs.length/\h'=Y/\gw (xs.take i) s=false) (false,(0:Int),()) xs.length rfl
  ⟨0,rfl,rfl,ad,rfl,rfl⟩ ?_
 rintro ⟨e,j,⟨⟩⟩ m h' ⟨i,hi,rfl,f,rfl,hn⟩;simp only at hi;subst hi;refine ak ?_;refine aK ?_ ?_<;>intro q
 ·have d:i<xs.length:=ad
  obtain ⟨a,g,hc⟩:=SN.cell v d;refine bK g ?_;rw [cr i];refine ar (xs[i],()) hc (ak ?_);have hs:=YV xs s i d;rw [rG];refine ao ?_ ?_<;>intro r
  ·have r:=ah9 r;refine ⟨aq9 Value.bool ?_,rfl⟩;unfold gw;exact (dy9.2 ⟨_,al9 d,ai9 r⟩).symm
  ·rw [hn,r] at hs;refine aD (cs:=jP) (e,((i+1:Nat):Int),()) (xs.length-(i+1)) rfl ad (by rw [wrap_i64 ad ad]; rfl) ?_;exact ⟨i+1,rfl,rfl,ad,rfl,hs⟩
 ·have:i=xs.length:=ad
  subst this;rw [bl9] at hn;exact ⟨by rw [hn],rfl⟩
def eG (l:List cz):List Xaa:=(l.filter fun x=>decide (x.kind=1)).map (·.name)
def xI (l:List cz) (i:Nat) (hi:i<l.length):eG (l.take (i+1))=eG (l.take i)++if l[i].kind=1 then [l[i].name] else []:=by
 unfold eG;rw [ag9 hi,List.filter_append,ao9]
 congr 1
 by_cases hk:l[i].kind=1 <;> simp [hk]
variable {Z:Lp} {a:Xab->Hp->Prop} {b:Xac->Nat->Nat->T}
def SN.push {h:Hp} {xs:List Xaa} (v:SN h H O U V xs) (x:Xaa) (hl:xs.length<=2^40) (d:H<=h.size) 
  (hk:∀ p' c' h',SN h' H p' (U+1) c' (xs++[x])->Ch (aG O) h h'->b p' (U+1) c' Z a h') :
  T.ef Xaz (Instr.buildSlice 68 1 #[(0,.string x)]) false [(false,[.slice 0])] (fun q m e=>T.ef Xaz (Builtin.append_ #[68,68] 68 #[.slice O U V,.slice q m e]) false [(false,[.slice 0])] b) Z a h:=by
 have n:=SN.len v;refine fg (vs:=[.string x]) J5 XP rfl ad ad av rfl rfl v d ad ad ?_;intro p' c' h' f ch _;refine hk p' c' h' ?_ ch;unfold SN;rw [ao9];exact f
def SN.ext {a b':Hp} {xs:List Xaa} (e:Ext Y a) (v:SN a H O U V xs) (d:Y.size<=H) (k:Ch (aG O) a b'):Ext Y b' :=
 Ch.trans e k (fun i hi hl=>by have:=(Ob.SL.cw v i hi).1; omega)
def DH {c:Nat} {us:List cz} (v:FD Y O H us) (u:us.length<=2^20) :
  HC Xaz 129 #[.slice O H c] Y fun w h'=>∃ p' l' c',w=.slice p' l' c'/\SN h' Y.size p' l' c' (eG us)/\Ext Y h':=by
 refine aX (args:=[.slice O H c]) mixed Tryz.func129 av (nT O H c) ?_;unfold jG aR aY bq aH bd aZ aM cR;have n:=v.len;refine aQ (cs:=kA) (fun y m h'=>∃ i:Nat,y.2.1=(i:Int)/\m=us.length-i/\i<=us.length/\Ext Y h'/\(eG (us.take i)).length<=i/\SN h' Y.size y.1.1 y.1.2.1 y.1.2.2 (eG (us.take i))) ((none,0,0),(0:Int),()) us.length rfl
  ⟨0,rfl,rfl,ad,Ch.refl _ _,by simp [eG],SL.nil _ _ _ _⟩ ?_
 rintro ⟨⟨e,d,f⟩,z,⟨⟩⟩ m h1 ⟨i,hi,rfl,g,a,j,s⟩;simp only at hi s;subst hi;refine ak ?_;have hz:=a.size;refine aK ?_ ?_<;>intro q
 ·have b:i<us.length:=ad
  obtain ⟨A,pp,B,C,rfl',hc,k⟩:=(v.aj a).cells i b;have ht:=xI us i b;generalize us[i]=x at hc k ht;refine gR (bf rfl' ?_);rw [cr i];refine ar (x.kind,()) ⟨hc.1,trivial⟩ (ak ?_);refine ao ?_ ?_<;>intro r
  ·have r:x.kind=1:=by simpa using r
   rw [af9 r] at ht;refine gR (bf rfl' ?_);refine ar (x.name,()) ⟨by rw [add_add]; exact hc.2.1,trivial⟩ ?_;refine ak ?_;refine SN.push s x.name ad ad ?_;intro p' c' h2 o t;refine aD (cs:=kA) ((p',d+1,c'),((i+1:Nat):Int),()) (us.length-(i+1)) rfl ad (by rw [wrap_i64 ad ad]; rfl) ?_;exact ⟨i+1,rfl,rfl,ad,SN.ext a s (au9 _) t,by rw [ht,ae9]; simp; omega,by rw [ht]; exact o⟩
  ·have r:¬ x.kind=1:=by simpa using r
   rw [ac9 r,bz9] at ht;refine aD (cs:=kA) ((e,d,f),((i+1:Nat):Int),()) (us.length-(i+1)) rfl ad (by rw [wrap_i64 ad ad]; rfl) ?_;exact ⟨i+1,rfl,rfl,ad,a,by rw [ht]; omega,by rw [ht]; exact s⟩
 ·have:i=us.length:=ad
  subst this;rw [bl9] at s;exact ⟨e,d,f,rfl,s,a⟩
def Tf {h:Hp} {b' c:Nat} {xs:List Xaa} (s:SN h H O U c xs) {q:Xac} {d:Nat} {us:List Xaa} (v:SN h b' q V d us)
  (hl:U+V<=2^40) (F:H<=h.size)
  (hk:∀ p' c' h',SN h' H p' (U+V) c' (xs++us)->Ch (aG O) h h'->b p' (U+V) c' Z a h') :
  T.ef Xaz (Builtin.append_ #[68,68] 68 #[.slice O U c,.slice q V d]) false [(false,[.slice 0])] b Z a h:=by
 obtain ⟨i,hi,G,f,r⟩:=pR XP;refine dt ?_;cases q with
 | none =>
  have h1:us=[]:=by
   have:=v.2.2.2
   simpa using this
  have h0:V=0:=by have:=SN.len v; rw [h1] at this; exact this
  have I:d=0:=v.2.2.1;subst h0 h1 I;have u:U<=c:=by
   cases O with
   | none =>
    have h2:=s.2.2.2;have h3:=s.1;rw [h2] at h3;simp at h3;omega
   | some e =>
    obtain ⟨g,w,rest,rfl,A,n,_⟩:=s.2.2;exact n.1
  simp [Builtin.append_,an,az J5,bY hi,cP hi,Builtin.lenOf,Builtin.firstCells,u];have j:∃ p' l' c',Value.slice O U c=.slice p' l' c'/\b p' l' c' Z a h:=⟨O,U,c,rfl,by simpa using hk O c h (by simpa using s) (Ch.refl _ _)⟩
  cases O with
  | none=>exact j
  | some e=>exact j
 | some e =>
  have hc:aF h e 0 (us.map XW).flatten:=by
   obtain ⟨g,w,rest,rfl,A,n,o,N⟩:=v.2.2;refine o.cells _ ?_;rw [ea9,ej9]
  have B:(us.map XW).flatten.all dl=true:=by
   rw [bm9];intro x J;obtain ⟨y,C,D⟩:=List.mem_flatten.1 J;obtain ⟨z,_,rfl⟩:=an9.1 C;rw [ak9.1 D] <;> rfl
  refine pG J5 hi G (by rw [f]; rfl) (by rw [f]; exact s) (ys:=us.map XW) (by rw [ab9]; exact SN.len v) (fun y C=>?_) hc B (by rw [r]; omega) ad F ?_
  ·obtain ⟨t,_,rfl⟩:=an9.1 C;rw [f] <;> rfl
  ·intro p' c' h' E k' M;rw [f,<- ao9] at E;exact ⟨_,_,_,rfl,hk p' c' h' E k'⟩
def fN (u:cg):List Xaa:=eG u.text++eG u.data++u.bg.map (·.1)
def vX (l:List cz):(eG l).length<=l.length:=by
 unfold eG;rw [ab9];exact do9 _ _
def EJ {a b c d:bI} {u:cg} (v:uA Y a b c d u) (h1:u.text.length<=2^20) (h2:u.data.length<=2^20) (U:u.bg.length<=2^20) :
  HC Xaz 98 #[F5 a b c d] Y fun w h'=>∃ p' l' c',w=.slice p' l' c'/\SN h' Y.size p' l' c' (fN u)/\Ext Y h':=by
 refine aX (args:=[F5 a b c d]) mixed Tryz.func98 av (ry a.p a.l a.c b.p b.l b.c c.p c.l c.c d.p d.l d.c) ?_;unfold mi aR aY bq aH bM bd aM cR;refine bm ?_;intro n g o z1;have g:br n Y.size 70 [a.v,b.v,c.v,d.v]:=g;simp only [ay];refine aw g ((a.p,a.l,a.c),()) (ak ?_);refine aw g ((b.p,b.l,b.c),()) (ak ?_);refine aE (DH (c:=a.c) (v.text.aj o) h1) ?_;rintro _ V ⟨p8,z,l10,rfl,J,r⟩;refine ⟨((p8,z,l10),()),rfl,ak ?_⟩;have b2:=g.aj r ai;refine ⟨⟨b2.cells _ rfl,trivial⟩,?_⟩;refine aE (DH (c:=b.c) (v.data.aj (o.trans r)) h2) ?_;rintro _ L ⟨A,j,B,rfl,k,t⟩;refine ⟨((A,j,B),()),rfl,ak ?_⟩;have b3:=b2.aj t ai;have q1:=o.size;have q2:=r.size;have q3:=t.size;refine ⟨⟨b3.cells _ rfl,trivial⟩,?_⟩;have e:SN L n.size p8 z l10 (eG u.text):=J.aj t ai;have n8:=SN.len J;have n11:=SN.len k;have k8:=vX u.text;have k11:=vX u.data;have e03:=(o.trans r).trans t;refine Tf e k ad ad ?_;intro C D W E F;have e4:=SN.ext e03 e ad F;have M:Y.size∉aG p8:=fun hi=>by have:=(Ob.SL.cw e _ hi).1; omega
 have b4:=b3.aj F M;refine ⟨⟨b4.cells _ rfl,b4.cells _ rfl,trivial⟩,?_⟩;have nc:=v.bg.len;have N:∀ i,i<u.bg.length->eG u.text++eG u.data++(u.bg.take (i+1)).map (·.1)=(eG u.text++eG u.data++(u.bg.take i).map (·.1))++[(u.bg.getD i (dS,GR)).1]:=by
  intro i hi;rw [ag9 hi,ao9,<- bb9,cf9,ad9 hi] <;> rfl
 refine aQ (cs:=kA) (fun y m h'=>∃ i:Nat,y.2.1=(i:Int)/\m=u.bg.length-i/\i<=u.bg.length/\(Ext Y h'/\n.size<=h'.size)/\br h' Y.size 70 [a.v,b.v,c.v,d.v]/\SN h' n.size y.1.1 y.1.2.1 y.1.2.2 (eG u.text++eG u.data++(u.bg.take i).map (·.1))) ((C,z+j,D),(0:Int),()) u.bg.length rfl
  ⟨0,rfl,rfl,ad,⟨e4,by have:=F.size; omega⟩,b4,by simpa using E⟩ ?_
 rintro ⟨⟨p1,K,O⟩,X,⟨⟩⟩ m Z ⟨i,hi,rfl,P,⟨x,Q⟩,G,s⟩;simp only at hi s;subst hi;refine ak ?_;have hz:=x.size;refine aw G ((c.p,c.l,c.c),()) (ak ?_);refine aK ?_ ?_<;>intro q
 ·have f:i<u.bg.length:=ad
  refine aw G ((c.p,c.l,c.c),()) (ak ?_);obtain ⟨aa,pp,ll,cc,rfl',hc,va,vn⟩:=(v.bg.aj x).cells i f;refine gR (bf rfl' ?_);rw [cr i];refine ar (u.bg[i].1,()) ⟨hc.1,trivial⟩ (ak ?_);have ns:=SN.len s;have R:(u.bg.getD i (dS,GR)).1=u.bg[i].1:=by
   rw [cf9,ad9 f] <;> rfl
  refine SN.push s _ (by simp only [List.length_append,List.length_map,List.length_take]; omega) Q ?_;intro p' c' h2 S H;have I:Y.size∉aG p1:=fun hi=>by have:=(Ob.SL.cw s _ hi).1; omega
  refine aD (cs:=kA) ((p',K+1,c'),((i+1:Nat):Int),()) (u.bg.length-(i+1)) rfl ad (by rw [wrap_i64 ad ad]; rfl) ?_;exact ⟨i+1,rfl,rfl,ad,⟨SN.ext x s ad H,by have:=H.size; omega⟩,G.aj H I,by rw [N i f,R]; exact S⟩
 ·have:i=u.bg.length:=ad
  subst this;rw [bl9] at s;exact ⟨p1,K,O,rfl,Sx.SL.mono s ad,x⟩
def SL.flat {h:Hp} {e:TypeId} {sz:Nat} {a:Xax} {xs:List (List Xab)} (s:SL h H e sz (some a) U V xs):aF h a 0 xs.flatten:=by
 obtain ⟨g,f,rest,rfl,i,j,d,k⟩:=s.2.2;refine d.cells _ ?_;rw [ea9,ej9]
def eH (h:Hp):Prop:=∃ e f,h[1]?=some (.cells (Lib.pow10Tab.map fun z=>Value.int .u64 z).toArray e f)
def eH.aj {ws:List Nat} {h':Hp} (p:eH Y) (k:Ch ws Y h') (a:1∉ws):eH h':=by
 obtain ⟨e,f,b⟩:=p;exact ⟨e,f,k.get b a⟩
def JO {W:World} {name:String} (a:Tryz.prog.globalNamed name=some 1) (p:eH W.heap):Lib.TabIs Xaz W name .u64 Lib.pow10Tab:=by
 obtain ⟨e,f,b⟩:=p;unfold Lib.TabIs World.var?;rw [a];show (match W.heap[1]? with | some (.cells cs _ _)=>some cs | _=>none)=_;rw [b]
def Rx:Tryz.prog.underlying 204=some (.slice 5):=av
def Ys:Tryz.prog.underlying 5=some (.int .u8):=av
def Yb:Tryz.prog.underlying 9=some .string:=av
def Pv {h:Hp} {e:List UInt8} {k:Xaa->T} (s:SL h H 5 1 O U V (Qm e)) (h0:e≠[]) (hk:k ⟨e.toArray⟩ Z a h) :
  T.ef Xaz (convert 204 9 (.slice O U V)) false [(false,[.string])] k Z a h:=by
 show aP Xaz (convert 204 9 (.slice O U V)) h _;unfold convert;rw [an,az Rx,an,az Yb];show aP Xaz (do match <- underlying 5 with
  | .int .u8=>Conv.bytesToString (.slice O U V)
  | .int .i32=>Conv.runesToString (.slice O U V)
  | _ => stuck "Convert: a slice of what to string?") h _
 rw [an,az Ys];cases O with
 | none =>
  have h1:Qm e=[]:=s.2.2.2
  have:e=[]:=by simpa [Qm] using h1
  exact absurd this h0
 | some d =>
  have hl:U=e.length:=by rw [s.1,IV]
  subst hl;have hf:=SL.flat s;rw [P9] at hf;exact xE d e V _ hf ⟨(⟨e.toArray⟩,()),rfl,hk⟩
def WR (n:Nat):IntKind.wrap .u8 (IntKind.wrap .i64 ((48:Int)+(Int.tmod (n:Int) (10:Int))))=((UInt8.ofNat (48+n % 10)).toNat:Int):=by
 have e:Int.tmod (n:Int) 10=((n % 10:Nat):Int):=by
  rw [Int.tmod_eq_emod_of_nonneg ad] <;> rfl
 rw [e,wrap_i64 ad ad,wrap_u8 ad ad]
 simp
 omega
end Go.Sx.Ob
namespace Go.Sx.BB
open Go.Sx Go.Sx.Ob
open Go.Proofs
def UC (b:UInt8):List Xab:=[.int .u8 (b.toNat:Int)]
end Go.Sx.BB
namespace Go.Sx.Ob
open Go.Proofs
variable {O:Hp} {H V Y:Nat} {U:Xac}
def wo {b':Nat} {e d:TypeId} {sz:Nat} {q:Xac} {c l' c':Nat} {xs ys:List (List Xab)} (s:SL O H e sz U Y c xs) (t:SL O b' d V q l' c' ys) (g:e≠d):∀ i,i∈aG U->i∉aG q:=fun i h1 h2=>by
 obtain ⟨j,f⟩:=SL.zu s i h1;obtain ⟨k,a⟩:=SL.zu t i h2;unfold br at f a;rw [f] at a;simp only [Option.some.injEq,Obj.cells.injEq] at a;exact g a.2.1
def SN.put {L:Lp} {K:Xab->Hp->Prop} {h:Hp} {xs:List Xaa} (v:SN h H U V Y xs) {i:Nat} (hi:i<xs.length) (x:Xaa) {a:Xax} (d:U=some a) {k:T}
  (hk:∀ h',SN h' H U V Y (xs.set i x)->Ch (aG U) h h'->h'.size=h.size->k L K h'):T.ax (a.add (i*1)) [.string x] k L K h:=by
 refine SL.store (P:=Xaz) v (i:=i) (vs:=XW x) (by rw [ab9]; exact hi) rfl rfl d ?_;intro h' e ch z;refine hk h' ?_ ch z;unfold SN;rw [fd9];exact e
def HE (zs:List Xaa) (j:Nat) (a:0<j) (hl:j<zs.length):(zs.set j (zs[j-1]'ad)).eraseIdx (j-1)=zs.eraseIdx j:=by
 apply df9;intro k;rw [List.getElem?_eraseIdx,List.getElem?_eraseIdx]
 by_cases h1:k<j-1
 ·rw [af9 h1,af9 ad,dq9 ad]
 ·rw [ac9 h1]
  by_cases h2:k<j
  ·have:k=j-1:=ad
   subst this;rw [af9 h2,show j-1+1=j from ad,eq9 hl,ad9 ad]
  ·rw [ac9 h2,dq9 ad]
def TA (zs:List Xaa) (j:Nat) (hl:j<zs.length) (x s:Xaa):gw (zs.set j x) s=(gw (zs.eraseIdx j) s || decide (x=s)):=by
 unfold gw;rw [List.set_eq_take_append_cons_drop,af9 hl,List.eraseIdx_eq_take_drop_succ];simp only [List.any_append,List.any_cons]
 all_goals (cases List.any (zs.take j) (fun t=>decide (t=s)) <;> cases List.any (zs.drop (j+1)) (fun t=>decide (t=s)) <;> cases decide (x=s) <;> rfl)
def qi {D:List Xaa} {s:Xaa}:gw D s=true↔s∈D:=by
 unfold gw;rw [dy9];constructor
 ·rintro ⟨t,ht,e⟩;rw [<- ah9 e];exact ht
 ·intro a;exact ⟨s,a,ai9 rfl⟩
def Av (l:List Xaa) (x:Xaa):(l++[x]).Nodup↔l.Nodup/\x∉l:=by
 rw [cq9];constructor
 ·rintro ⟨a,_,c⟩;exact ⟨a,fun d=>c x d x ai rfl⟩
 ·rintro ⟨a,b⟩;refine ⟨a,ai,fun y f z g e=>?_⟩;rw [ak9.1 g] at e;exact b (e▸f)
def tM {xs : List Xaa} (v : SN O H U V Y xs) (hm : xs.length <= 2 ^ 30) :
    HC Xaz 53 #[.slice U V Y] O fun w h' => ∃ p' c' ys, w = .slice p' (ys : List Xaa).length c' /\ ys.length <= xs.length /\ (ys.length = xs.length ↔ xs.Nodup) /\ Ext O h' := by
  refine aX (args := [.slice U V Y]) mixed Tryz.func53 av (om U V Y) ?_;unfold jF aR aY bq aH aT bd bn aZ aM cR;have n := SN.len v
  refine aQ (cs := kA) (fun y m h' => ∃ (i : Nat) (ys : List Xaa), y.2.1 = (i : Int) /\ m = xs.length - i /\ i <= xs.length /\ Ext O h' /\ SN h' O.size y.1.1 y.1.2.1 y.1.2.2 ys /\ ys.length <= i /\ (∀ s, gw ys s = gw (xs.take i) s) /\ (ys.length = i ↔ (xs.take i).Nodup)) ((none, 0, 0), (0 : Int), ()) xs.length rfl
    ⟨0, [], rfl, rfl, ad, Ch.refl _ _, SL.nil _ _ _ _, ai, fun s => rfl, ai⟩ ?_
  rintro ⟨⟨X, z, Z⟩, n4, ⟨⟩⟩ m h1 ⟨i, ys, hi, rfl, hle, D, s, M, A, B⟩;simp only at hi s;subst hi;refine ak ?_;have hz := D.size;have ny := SN.len s;refine aK (fun q => ?_) (fun q => ?_)
  · have E : i < xs.length :=ad
    have K : ∀ {g}, Ext O g -> ∃ a, U = some a /\ aF g (a.add (i * 1)) 0 [.string xs[i]] := by
      intro g e;obtain ⟨a, o, hc⟩ := SN.cell v E;exact ⟨a, o, aI e ai _ _ hc⟩
    have d : xs.take (i + 1) = xs.take i ++ [xs[i]] := ag9 E;generalize hxv : xs[i] = x at K d;obtain ⟨a, o, hc⟩ := K D;refine bK o ?_;rw [cr i];refine ar (x, ()) hc (ak ?_);refine aJ (Ek s ad x) ?_;rw [A];have u : gw (xs.take i) x = true ↔ x ∈ xs.take i := qi;refine ao (fun r => ?_) (fun r => ?_)
    · have r2 := u.1 r
      refine aD (cs := kA) ((X, z, Z), ((i + 1 : Nat) : Int), ()) (xs.length - (i + 1)) rfl ad (by rw [wrap_i64 ad ad]; rfl) ?_;refine ⟨i + 1, ys, rfl, rfl, ad, D, s, ad, fun t => ?_, ?_⟩
      · rw [A, d]
        by_cases e : x = t
        · subst e
          rw [r];exact (qi.2 (as9.2 (.inl r2))).symm
        · unfold gw
          rw [List.any_append];simp [e]
      · rw [d, Av]
        exact ⟨fun k => ad, fun k => absurd r2 k.2⟩
    · have r2 : x ∉ xs.take i := fun k => by rw [u.2 k] at r; cases r
      refine bK o ?_;refine ar (x, ()) hc (ak ?_);refine SN.push s x ad hz ?_;intro p' c' h2 s2 k2;have e2 := SN.ext D s (au9 _) k2
      refine aQ (cs := cF) (fun y m h' => ∃ (j : Nat) (zs : List Xaa), y.1 = (j : Int) /\ m = j /\ j <= ys.length /\ zs.length = ys.length + 1 /\ zs.eraseIdx j = ys /\ Ext O h' /\ SN h' O.size p' (z + 1) c' zs) ((z : Int), ()) ys.length rfl
        ⟨ys.length, ys ++ [x], by rw [ny], rfl, ad, ai, by rw [List.eraseIdx_append_of_length_le ad]; simp, e2, s2⟩ ?_
      rintro ⟨n16, ⟨⟩⟩ m h3 ⟨j, zs, hj, rfl, hjl, F, G, L, C⟩;simp only at hj;subst hj;refine ak ?_
      have N : ∃ a2, p' = some a2 := by
        obtain ⟨a2, h2, _⟩ := SN.cell C (i := 0) ad;exact ⟨a2, h2⟩
      obtain ⟨a2, f⟩ := N
      have last : (T.need (((0 : Int) <= (i : Int)) /\ ((i : Int) < (V : Int))) <|
         T.bi U fun (P : Xax) =>
         T.af (P.add ((Int.toNat (i : Int)) * 1)) [.string] <| fun (Q : Xaa) =>
         T.need (((0 : Int) <= (m : Int)) /\ ((m : Int) < ((z + 1 : Nat) : Int))) <|
         T.bi p' fun (R : Xax) =>
         T.ax (R.add ((Int.toNat (m : Int)) * 1)) [.string Q] <|
         T.again 0 [.slice p' (z + 1) c', vI (IntKind.wrap .i64 ((i : Int) + (1 : Int)))])
         ([] ++ [Jl (cs := kA) (fun y m h' => ∃ (i : Nat) (ys : List Xaa), y.2.1 = (i : Int) /\ m = xs.length - i /\ i <= xs.length /\ Ext O h' /\ SN h' O.size y.1.1 y.1.2.1 y.1.2.2 ys /\ ys.length <= i /\ (∀ s, gw ys s = gw (xs.take i) s) /\ (ys.length = i ↔ (xs.take i).Nodup)) (xs.length - i)] ++
          [Jl (cs := cF) (fun y m h' => ∃ (j : Nat) (zs : List Xaa), y.1 = (j : Int) /\ m = j /\ j <= ys.length /\ zs.length = ys.length + 1 /\ zs.eraseIdx j = ys /\ Ext O h' /\ SN h' O.size p' (z + 1) c' zs) m])
         (fun w h' => ∃ p' c' ys, w = .slice p' (ys : List Xaa).length c' /\ ys.length <= xs.length /\ (ys.length = xs.length ↔ xs.Nodup) /\ Ext O h') h3 := by
        obtain ⟨a, o, hc⟩ := K L;refine bK o ?_;rw [cr i];refine ar (x, ()) hc (ak ?_);refine bK f ?_;rw [cr m];refine SN.put C ad x f ?_;intro h4 S W z4;refine aD (cs := kA) ((p', z + 1, c'), ((i + 1 : Nat) : Int), ()) (xs.length - (i + 1)) rfl ad (by rw [wrap_i64 ad ad]; rfl) ?_;refine ⟨i + 1, zs.set m x, rfl, rfl, ad, SN.ext L C (au9 _) W, S, by rw [cx9]; omega, fun t => ?_, ?_⟩
        · rw [TA zs m ad, G, A, d]
          unfold gw;rw [List.any_append]
          simp
        · rw [cx9, d, Av, <- B, F]
          exact ⟨fun k => ⟨ad, r2⟩, fun k => ad⟩
      refine ao (fun q2 => ?_) (fun q2 => last);have q2 := ah9 q2;rw [wrap_i64 ad ad];obtain ⟨a3, I, J⟩ := SN.cell C (i := m - 1) ad;refine bK I ?_;rw [show Int.toNat ((m : Int) - 1) = m - 1 from ad];refine ar (zs[m - 1]'ad, ()) J (ak ?_);obtain ⟨a, o, hc⟩ := K L;refine bK o ?_;refine ar (x, ()) hc (ak ?_);refine ao (fun q3 => ?_) (fun q3 => ?_)
      · refine bK I ?_
        refine ar (zs[m - 1]'ad, ()) J (ak ?_);refine bK f ?_;rw [cr m];refine SN.put C ad _ f ?_;intro h4 S W z4;refine aD (cs := cF) (((m - 1 : Nat) : Int), ()) (m - 1) rfl ad (by rw [show (m : Int) - 1 = ((m - 1 : Nat) : Int) from ad]; rfl) ?_;exact ⟨m - 1, _, rfl, rfl, ad, by rw [cx9]; exact F, by rw [HE zs m ad ad]; exact G, SN.ext L C (au9 _) W, S⟩
      · have := last
        rw [cr i] at this;exact this
  · have : i = xs.length :=ad
    subst this;rw [bl9] at B;exact ⟨X, Z, ys, by rw [ny], M, B, D⟩
def Hj (e:sO):Bool:=cB e.1.data.toList && oz none e.2.ah
def yg (u:cg):Bool:=u.text.all (fun x=>cG x 0) && (u.data.all (fun x=>cG x 1) && (u.bg.all Hj && (decide (fN u).Nodup && dc (fN u) dS u.aS)))
def tO (x:cz) (l:List cz):eG (x::l)=(if x.kind=1 then [x.name] else [])++eG l:=by
 unfold eG
 by_cases h:x.kind=1 <;> simp [h]
def GJ (D:List Xaa) (x:cz) (s:Xaa):s∈uO D x↔s∈D\/s∈(if x.kind=1 then [x.name] else []):=by
 unfold uO;split <;> simp [or_comm]
theorem rU (sec:Nat):∀ (l:List cz) (D:List Xaa),fj sec D l=true↔(∀ x,x∈l->cG x sec=true)/\(∀ s,s∈eG l->s∉D)/\(eG l).Nodup
 | [],D=>by simp [fj,eG]
 | x::l,D=>by
  rw [fj,bk9,rU sec l,tO];unfold yO;rw [bk9,cq9]
  by_cases h:x.kind=1
  ·simp only [h,decide_true,Bool.true_and,if_true,Bool.not_eq_true',List.mem_cons,List.mem_append,List.mem_singleton,List.not_mem_nil,or_false];have i:gw D x.name=false↔x.name∉D:=by
    rw [<- Bool.not_eq_true,qi]
   rw [i];have j:∀ s,s∈uO D x↔s=x.name\/s∈D:=fun s=>by
    rw [GJ,af9 h];simp [or_comm]
   simp only [j];constructor
   ·rintro ⟨⟨a,b⟩,c,d,e⟩;refine ⟨?_,?_,?_,e,?_⟩
    ·rintro y (rfl | f)
     ·exact a
     ·exact c y f
    ·rintro s (rfl | g)
     ·exact b
     ·exact fun k=>d s g (.inr k)
    ·simp
    ·intro y f z n m;exact d z n (.inl (m▸f))
   ·rintro ⟨a,b,c,d,e⟩;refine ⟨⟨a x (.inl rfl),b _ (.inl rfl)⟩,fun y f=>a y (.inr f),fun s g k=>?_,d⟩;rcases k with rfl | k
    ·exact e _ rfl _ g rfl
    ·exact b s (.inr g) k
  ·have j:uO D x=D:=by unfold uO; rw [ac9 h]
   simp only [h,decide_false,Bool.false_and,if_false,Bool.not_false,and_true,List.mem_cons,List.nil_append,j];constructor
   ·rintro ⟨a,c,d,e⟩;refine ⟨?_,d,ai,e,ai⟩;rintro y (rfl | f)
    ·exact a
    ·exact c y f
   ·rintro ⟨a,b,_,d,_⟩;exact ⟨a x (.inl rfl),fun y f=>a y (.inr f),b,d⟩
theorem BR:∀ (l:List sO) (D:List Xaa),gQ D l=true↔(∀ x,x∈l->Hj x=true)/\(∀ s,s∈l.map (·.1)->s∉D)/\(l.map (·.1)).Nodup
 | [],D=>by simp [gQ]
 | x::l,D=>by
  rw [gQ,bk9,BR l,bo9,ed9];have g:DO D x=true↔x.1∉D/\Hj x=true:=by
   unfold DO Hj;rw [bk9,bk9,bk9,Bool.not_eq_true',<- Bool.not_eq_true,qi,and_assoc]
  rw [g];simp only [List.mem_cons];constructor
  ·rintro ⟨⟨a,b⟩,c,d,e⟩;refine ⟨?_,?_,?_,e⟩
   ·rintro y (rfl | h)
    ·exact b
    ·exact c y h
   ·rintro s (rfl | f)
    ·exact a
    ·exact fun k=>d s f (.inr k)
   ·exact fun f=>d _ f (.inl rfl)
  ·rintro ⟨a,b,c,d⟩;refine ⟨⟨b _ (.inl rfl),a x (.inl rfl)⟩,fun y h=>a y (.inr h),fun s f k=>?_,d⟩;rcases k with rfl | k
   ·exact c f
   ·exact b s (.inr f) k
theorem mD:∀ (l:List cz) (D:List Xaa) (s:Xaa),s∈cY D l↔s∈D\/s∈eG l
 | [],D,s=>by simp [cY,eG]
 | x::l,D,s=>by
  show s∈cY (uO D x) l↔_;rw [mD l,GJ,tO,as9,or_assoc]
theorem B5:∀ (l:List sO) (D:List Xaa) (s:Xaa),s∈aU D l↔s∈D\/s∈l.map (·.1)
 | [],D,s=>by simp [aU]
 | x::l,D,s=>by
  show s∈aU (x.1::D) l↔_;rw [B5 l,bo9,bd9,bd9,<- or_assoc,or_comm (a:=s=x.1)]
variable {Z a:List Xaa}
def MU (h:∀ s,s∈Z↔s∈a) (s:Xaa):gw Z s=gw a s:=by
 have:gw Z s=true↔gw a s=true:=by rw [qi,qi]; exact h s
 exact ec9.2 this
theorem uk {D E:List Xaa} (h:∀ s,s∈D↔s∈E):∀ (l:List Xaa) (o:Xaa),dc D o l=dc E o l
 | [],o=>rfl
 | x::l,o=>by
  rw [dc,dc,uk h l,TY,TY,MU h]
def yi (u:cg):xj u=yg u:=by
 have o:dc u.names dS u.aS=dc (fN u) dS u.aS:=by
  refine uk (fun s=>?_) _ _;unfold cg.names fN;rw [B5,mD,mD];simp [or_assoc]
 rw [ec9];unfold xj yg;rw [bk9,bk9,bk9,bk9,bk9,bk9,bk9,rU,rU,BR,o,bm9,bm9,bm9,decide_eq_true_iff];unfold fN;rw [cq9,cq9];have n:∀ s,s∈cY [] u.text↔s∈eG u.text:=fun s=>by rw [mD]; simp
 have p:∀ s,s∈cY (cY [] u.text) u.data↔s∈eG u.text\/s∈eG u.data:=fun s=>by rw [mD,n]
 simp only [n,p,List.mem_append];constructor
 ·rintro ⟨⟨⟨⟨a,t,b⟩,c,q,h⟩,i,r,c3⟩,g⟩;refine ⟨a,c,i,⟨⟨b,h,fun x j y l e=>q y l (e▸j)⟩,c3,fun x j y l e=>r y l (e▸j)⟩,g⟩
 ·rintro ⟨a,c,i,⟨⟨b,h,d⟩,c3,f⟩,g⟩;exact ⟨⟨⟨⟨a,fun s _=>ai,b⟩,c,fun s m k=>d s k s m rfl,h⟩,i,fun s m k=>f s k s m rfl,c3⟩,g⟩
def r9 {α:Type} (f:α->Bool) (l:List α) (hi:H<l.length):(l.drop H).all f=(f l[H] && (l.drop (H+1)).all f):=by
 rw [aw9 hi,fg9]
def ZY {x:bJ} (v:mY O U H x):ik O U H x.ah/\x.ah.length<=9223372036854775807/\∀ t,t∈x.ah->t.1.size<=maxLen:=⟨v.vw,by have:=v.many; omega,v.names⟩
def AB (D:List Xaa):Prop:=∀ g,g∈D->cB g.data.toList=true
def AB.snoc (h:AB Z) (k:AB a):AB (Z++a):=fun g b=>(as9.1 b).elim (h g) (k g)
def AB.item {x:cz} {sec:Nat} (r:cG x sec=true):AB (if x.kind=1 then [x.name] else []):=by
 intro g a;split at a
 ·rename_i b;rw [ak9.1 a];rw [EF b,bk9] at r;exact r.1
 ·simp at a
def Me {a b c d:bI} {u:cg} (v:uA O a b c d u):HC Xaz 70 #[F5 a b c d] O fun w h'=>w=vI (ft u:Nat)/\Ext O h':=by
 refine aX (args:=[F5 a b c d]) mixed Tryz.func70 av (oI a.p a.l a.c b.p b.l b.c c.p c.l c.c d.p d.l d.c) ?_;unfold kj aR aY bq aH aT cE bM bn aC aM;refine bm ?_;intro g1 D Y z1;have D:br g1 O.size 70 [a.v,b.v,c.v,d.v]:=D;have m1:=v.text.many;have m2:=v.data.many;have m3:=v.bg.many;have m4:=v.aS.many;have n1:=v.text.len;have n2:=v.data.len;have n3:=v.bg.len;have n4:=v.aS.len;simp only [ay];refine aw D ((a.p,a.l,a.c),()) (ak ?_);refine aw D ((b.p,b.l,b.c),()) (ak ?_);rw [wrap_i64 ad ad];unfold ft wA;refine ao ?_ ?_<;>intro q
 ·have q:=ah9 q;exact ⟨by rw [ai9 (show 8192<u.text.length+u.data.length from ad)]; rfl,Y⟩
 have q:=ar9 q;rw [aj9 (show ¬ 8192<u.text.length+u.data.length from ad),ey9];refine aw D ((c.p,c.l,c.c),()) (ak ?_);refine ao ?_ ?_<;>intro q
 ·have q:=ah9 q;exact ⟨by rw [ai9 (show 8192<u.bg.length from ad)]; rfl,Y⟩
 have q:=ar9 q;rw [aj9 (show ¬ 8192<u.bg.length from ad),ac9 ai,yi];generalize Z:yg u=U;unfold yg at Z;refine aQ (cs:=fH) (fun y w h'=>∃ i:Nat,y.2.1=(i:Int)/\w=u.text.length-i/\i<=u.text.length/\Ext O h'/\br h' O.size 70 [a.v,b.v,c.v,d.v]/\AB (eG (u.text.take i))/\((u.text.drop i).all (fun x=>cG x 0) && (u.data.all (fun x=>cG x 1) && (u.bg.all Hj && (decide (fN u).Nodup && dc (fN u) dS u.aS))))=U) ((0:Int),(0:Int),()) u.text.length rfl
  ⟨0,rfl,rfl,ad,Y,D,fun g t=>by simp [eG] at t,Z⟩ ?_
 clear Z;rintro ⟨L,n22,⟨⟩⟩ w h2 ⟨i,hi,rfl,s,m,o,F,f⟩;simp only at hi;subst hi;refine ak ?_;refine aw o ((a.p,a.l,a.c),()) (ak ?_);refine ao ?_ ?_
 case _ =>
  intro q;have q:=ah9 q;have j:i<u.text.length:=ad
  refine aw o ((a.p,a.l,a.c),()) (ak ?_);obtain ⟨aa,pp,M,G,rfl',hc,A⟩:=(v.text.aj m).cells i j;rw [r9 _ _ j] at f;have ht:=xI u.text i j;generalize u.text[i]=x at hc A f ht;refine gR (bf rfl' ?_);rw [cr i];refine ar (x.kind,x.name,x.inst.op,x.inst.a,x.inst.b,x.inst.n,x.inst.form,(pp,M,G),(x.e.num:Int),x.n,()) hc (ak ?_);refine aE (Dr (c:=G) (k:=0) A ad) ?_;rintro _ h3 ⟨rfl,z⟩;refine ⟨((if cG x 0 then 0 else 31:Int),()),rfl,ak ?_⟩;cases r:cG x 0 with
  | false =>
   refine bX ai ?_;refine ⟨by rw [<- f,r]; rfl,m.trans z⟩
  | true =>
   refine cv ai ?_;rw [r,bj9] at f;refine aD (cs:=fH) (L,((i+1:Nat):Int),()) (u.text.length-(i+1)) rfl ad (by rw [wrap_i64 ad ad]; rfl) ?_;exact ⟨i+1,rfl,rfl,ad,m.trans z,o.aj z ai,by rw [ht]; exact F.snoc (AB.item r),f⟩
 intro q;have q:=ar9 q
 have:i=u.text.length:=ad
 subst this;rw [de9,List.all_nil,bj9] at f;rw [bl9] at F;clear Y D;refine aQ (cs:=fH) (fun y w h'=>∃ i:Nat,y.2.1=(i:Int)/\w=u.data.length-i/\i<=u.data.length/\Ext O h'/\br h' O.size 70 [a.v,b.v,c.v,d.v]/\AB (eG (u.data.take i))/\((u.data.drop i).all (fun x=>cG x 1) && (u.bg.all Hj && (decide (fN u).Nodup && dc (fN u) dS u.aS)))=U) (L,(0:Int),()) u.data.length rfl
  ⟨0,rfl,rfl,ad,m,o,fun g t=>by simp [eG] at t,f⟩ ?_
 clear f m o;rintro ⟨N,n32,⟨⟩⟩ w h4 ⟨i,hi,rfl,s,m,o,H,f⟩;simp only at hi;subst hi;refine ak ?_;refine aw o ((b.p,b.l,b.c),()) (ak ?_);refine ao ?_ ?_
 case _ =>
  intro q;have q:=ah9 q;have j:i<u.data.length:=ad
  refine aw o ((b.p,b.l,b.c),()) (ak ?_);obtain ⟨aa,pp,M,G,rfl',hc,A⟩:=(v.data.aj m).cells i j;rw [r9 _ _ j] at f;have ht:=xI u.data i j;generalize u.data[i]=x at hc A f ht;refine gR (bf rfl' ?_);rw [cr i];refine ar (x.kind,x.name,x.inst.op,x.inst.a,x.inst.b,x.inst.n,x.inst.form,(pp,M,G),(x.e.num:Int),x.n,()) hc (ak ?_);refine aE (Dr (c:=G) (k:=1) A ad) ?_;rintro _ h3 ⟨rfl,z⟩;refine ⟨((if cG x 1 then 0 else 31:Int),()),rfl,ak ?_⟩;cases r:cG x 1 with
  | false =>
   refine bX ai ?_;refine ⟨by rw [<- f,r]; rfl,m.trans z⟩
  | true =>
   refine cv ai ?_;rw [r,bj9] at f;refine aD (cs:=fH) (N,((i+1:Nat):Int),()) (u.data.length-(i+1)) rfl ad (by rw [wrap_i64 ad ad]; rfl) ?_;exact ⟨i+1,rfl,rfl,ad,m.trans z,o.aj z ai,by rw [ht]; exact H.snoc (AB.item r),f⟩
 intro q;have q:=ar9 q
 have:i=u.data.length:=ad
 subst this;rw [de9,List.all_nil,bj9] at f;rw [bl9] at H;refine aQ (cs:=fH) (fun y w h'=>∃ i:Nat,y.2.1=(i:Int)/\w=u.bg.length-i/\i<=u.bg.length/\Ext O h'/\br h' O.size 70 [a.v,b.v,c.v,d.v]/\AB ((u.bg.take i).map (·.1))/\((u.bg.drop i).all Hj && (decide (fN u).Nodup && dc (fN u) dS u.aS))=U) (N,(0:Int),()) u.bg.length rfl
  ⟨0,rfl,rfl,ad,m,o,fun g t=>by simp at t,f⟩ ?_
 clear f m o;rintro ⟨P,n42,⟨⟩⟩ w h4 ⟨i,hi,rfl,s,m,o,I,f⟩;simp only at hi;subst hi;refine ak ?_;refine aw o ((c.p,c.l,c.c),()) (ak ?_);refine ao ?_ ?_
 case _ =>
  intro q;have q:=ah9 q;have j:i<u.bg.length:=ad
  refine aw o ((c.p,c.l,c.c),()) (ak ?_);obtain ⟨aa,pp,M,G,rfl',hc,A,vn⟩:=(v.bg.aj m).cells i j;rw [r9 _ _ j] at f;have ht:(u.bg.take (i+1)).map (·.1)=(u.bg.take i).map (·.1)++[u.bg[i].1]:=by rw [ag9 j,ao9]; rfl
  generalize u.bg[i]=x at hc A vn f ht;unfold Hj at f;refine gR (bf rfl' ?_);rw [cr i];refine ar (x.1,()) ⟨hc.1,trivial⟩ (ak ?_);refine aJ (tz x.1 _ (by have:maxLen=9223372036854775807:=rfl; omega)) ?_;cases s:cB x.1.data.toList with
  | false =>
   refine bX ai ?_;refine ⟨by rw [<- f,s]; rfl,m⟩
  | true =>
   refine cv ai ?_;rw [s,bj9] at f;refine aw o ((c.p,c.l,c.c),()) (ak ?_);refine gR (bf rfl' ?_);refine ar ((pp,M,G),(x.2.num:Int),()) ⟨by rw [add_add]; exact hc.2.1,by rw [add_add]; exact hc.2.2.1,trivial⟩ ?_;refine ak ?_;obtain ⟨w1,w2,w3⟩:=ZY A;refine iv (uH w1 w2 w3) ?_;intro h3 z;cases r:oz none x.2.ah with
   | false =>
    refine bX ai ?_;refine ⟨by rw [<- f,r]; rfl,m.trans z⟩
   | true =>
    refine cv ai ?_;rw [r,bj9] at f;refine aD (cs:=fH) (P,((i+1:Nat):Int),()) (u.bg.length-(i+1)) rfl ad (by rw [wrap_i64 ad ad]; rfl) ?_;exact ⟨i+1,rfl,rfl,ad,m.trans z,o.aj z ai,by rw [ht]; exact I.snoc (fun g t=>by rw [ak9.1 t]; exact s),f⟩
 intro q;have q:=ar9 q
 have:i=u.bg.length:=ad
 subst this;rw [de9,List.all_nil,bj9] at f;rw [bl9] at I;refine aw o ((a.p,a.l,a.c),(b.p,b.l,b.c),(c.p,c.l,c.c),(d.p,d.l,d.c),()) (ak ?_);refine aE (EJ (v.aj m) ad ad ad) ?_;rintro _ h5 ⟨Q,R,S,rfl,s5,e5⟩;refine ⟨((Q,R,S),()),rfl,ak ?_⟩;have hA:(fN u).length<=2^20:=by
  unfold fN
  have:=vX u.text
  have:=vX u.data
  simp only [List.length_append,List.length_map];omega
 have n5:=SN.len s5;refine aE (tM s5 ad) ?_;rintro _ h6 ⟨p41,l43,ys,rfl,hy1,V,e6⟩;refine ⟨((p41,ys.length,l43),()),rfl,ak ?_⟩;have e56:=e5.trans e6;have e06:=m.trans e56
 by_cases B:(fN u).Nodup
 case neg =>
  rw [aj9 B] at f;refine bX ?_ ⟨by rw [<- f]; rfl,e06⟩
  have:¬ ys.length=(fN u).length:=fun k=>B (V.1 k)
  rw [n5];simp only [bne_iff_ne,ne_eq];omega
 rw [ai9 B,bj9] at f;have hy:=V.2 B;refine cv (by rw [n5,hy]; simp) ?_;have s6:SN h6 h4.size Q R S (fN u):=s5.aj e6 ai;have b6:=o.aj e56 ai;have C:∀ g,g∈fN u->iB dS g:=fun g t=>F3 (((F.snoc H).snoc I) g t)
 generalize fN u=E at f s6 hA C;refine aQ (cs:=fH) (fun y w h'=>∃ i:Nat,y.2.1=(i:Int)/\w=u.aS.length-i/\i<=u.aS.length/\h'=h6/\dc E (oO u.aS i) (u.aS.drop i)=U) (P,(0:Int),()) u.aS.length rfl
  ⟨0,rfl,rfl,ad,rfl,f⟩ ?_
 clear f;rintro ⟨W,n52,⟨⟩⟩ w h7 ⟨i,hi,rfl,hile,rfl,f⟩;simp only at hi;subst hi;refine ak ?_;refine aw b6 ((d.p,d.l,d.c),()) (ak ?_);refine aK ?_ ?_<;>intro q
 ·have j:i<u.aS.length:=ad
  obtain ⟨aa,rfl',hc,A⟩:=(v.aS.aj e06).cells i j;rw [wJ _ _ j] at f;unfold TY at f;refine aK ?_ ?_<;>intro r2
  ·refine aw b6 ((d.p,d.l,d.c),()) (ak ?_);refine gR (bf rfl' ?_);rw [cr i,wrap_i64 (x:=(i:Int)-1) ad ad];refine ar (u.aS[i],()) hc (ak ?_);refine aw b6 ((d.p,d.l,d.c),()) (ak ?_);obtain ⟨ab,J,X,va'⟩:=(v.aS.aj e06).cells (i-1) ad;refine gR (bf J ?_);rw [show Int.toNat ((i:Int)-1)=i-1 from ad];refine ar (u.aS[i-1],()) X (ak ?_);have hla:oO u.aS i=u.aS[i-1]:=by
    unfold oO;rw [ac9 ad,cf9,ad9 ad] <;> rfl
   rw [leB];rw [hla] at f;refine ao ?_ ?_<;>intro K
   ·have K:decide (iB u.aS[i-1] u.aS[i])=false:=by simpa using K
    exact ⟨by rw [<- f,K,fb9]; rfl,e06⟩
   ·have K:decide (iB u.aS[i-1] u.aS[i])=true:=by simpa using K
    rw [K,dg9] at f;refine aw b6 ((d.p,d.l,d.c),()) (ak ?_);refine gR (bf rfl' ?_);refine ar (u.aS[i],()) hc (ak ?_);refine aJ (Ek s6 ad _) ?_;refine ⟨⟨b6.cells _ rfl,X,b6.cells _ rfl,hc,b6.cells _ rfl,trivial⟩,?_⟩;cases r:gw E u.aS[i] with
    | false =>
     refine bX ai ?_;exact ⟨by rw [<- f,r]; rfl,e06⟩
    | true =>
     refine cv ai ?_;rw [r,bj9] at f;exact aD (cs:=fH) (W,((i+1:Nat):Int),()) (u.aS.length-(i+1)) rfl ad (by rw [wrap_i64 ad ad]; rfl) ⟨i+1,rfl,rfl,ad,rfl,f⟩
  ·have hi0:i=0:=ad
   subst hi0;refine aw b6 ((d.p,d.l,d.c),()) (ak ?_);refine gR (bf rfl' ?_);refine ar (u.aS[0],()) hc (ak ?_);refine aJ (Ek s6 ad _) ?_;refine ⟨⟨b6.cells _ rfl,trivial⟩,?_⟩;cases r:gw E u.aS[0] with
   | false =>
    refine bX ai ?_;exact ⟨by rw [<- f,r]; rfl,e06⟩
   | true =>
    refine cv ai ?_;have t:decide (iB (oO u.aS 0) u.aS[0])=true:=ai9 (C _ (qi.1 r));rw [r,t,bj9,bj9] at f;exact aD (cs:=fH) (W,((0+1:Nat):Int),()) (u.aS.length-(0+1)) rfl ad (by rw [wrap_i64 ad ad]; rfl) ⟨0+1,rfl,rfl,ad,rfl,f⟩
 ·have:i=u.aS.length:=ad
  subst this;rw [de9] at f;exact ⟨by rw [<- f]; rfl,e06⟩
end Go.Sx.Ob
namespace Go.Sx
open Go.Proofs
section
variable {α:Type}
def vE (en:α->Xab) (D:List (Xaa × α)):List (Xaa × Xab):=D.map fun p=>(p.1,en p.2)
def gE (D:List (Xaa × α)) (s:Xaa):Option α:=(D.find? fun p=>decide (s=p.1)).map (·.2)
def pE (D:List (Xaa × α)) (s:Xaa) (v:α):List (Xaa × α):=if (gE D s).isSome then D.map fun p=>if s=p.1 then (p.1,v) else p else D++[(s,v)]
def nG (en:α->Xab) (D:List (Xaa × α)) (s:Xaa):look (vE en D) s=(gE D s).map en:=by
 unfold look gE vE
 induction D with
 | nil=>rfl
 | cons p D a =>
  by_cases h:s=p.1
  ·simp [h]
  ·simp only [List.map_cons,List.find?_cons,decide_eq_false h];exact a
def IZ (en:α->Xab) (D:List (Xaa × α)) (s:Xaa) (v:α):kR (vE en D) s (en v)=vE en (pE D s v):=by
 unfold kR pE;rw [nG];cases h:gE D s with
 | none=>simp [vE]
 | some q =>
  simp only [Option.map_some,Option.isSome_some,if_true,vE,List.map_map];refine ci9 fun p a=>?_
  simp only [Function.comp];split <;> simp_all
def x5 (D:List (Xaa × α)) (s:Xaa) (v:α):(pE D s v).length=if (gE D s).isSome then D.length else D.length+1:=by
 unfold pE;split <;> simp
def ya (D:List (Xaa × α)) (s t:Xaa) (v:α):gE (D++[(s,v)]) t=(gE D t).or (if t=s then some v else none):=by
 unfold gE;rw [List.find?_append];cases h:D.find? (fun p=>decide (t=p.1)) with
 | some q=>simp
 | none =>
  simp only [Option.none_or,Option.map_none,List.find?_cons,List.find?_nil]
  by_cases e:t=s
  ·simp [e]
  ·simp [e]
def Ih (D:List (Xaa × α)) (s t:Xaa) (v:α) (d:(gE D s).isSome):gE (D.map fun p=>if s=p.1 then (p.1,v) else p) t=if t=s then some v else gE D t:=by
 unfold gE at *
 induction D with
 | nil=>simp at d
 | cons p D f =>
  by_cases h:s=p.1
  ·by_cases e:t=s
   ·simp [h,e]
   ·have g:¬ t=p.1:=fun k=>e (k.trans h.symm)
    have i:∀ l:List (Xaa × α),(List.find? (fun p=>decide (t=p.1)) (List.map (fun p=>if s=p.1 then (p.1,v) else p) l)).map (·.2)=(List.find? (fun p=>decide (t=p.1)) l).map (·.2):=by
     intro l
     induction l with
     | nil=>rfl
     | cons q l a =>
      by_cases b:s=q.1
      ·have:¬ t=q.1:=fun k=>e (k.trans b.symm)
       simp only [List.map_cons,List.find?_cons,if_pos b,decide_eq_false this];exact a
      ·simp only [List.map_cons,List.find?_cons,if_neg b]
       by_cases ht:t=q.1
       ·simp [ht]
       ·simp only [decide_eq_false ht];exact a
    simp only [List.map_cons,List.find?_cons,if_pos h,decide_eq_false g,if_neg e];exact i D
  ·have c:(Option.map (fun x=>x.2) (List.find? (fun p=>decide (s=p.1)) D)).isSome:=by
    simpa [List.find?_cons,decide_eq_false h] using d
   simp only [List.map_cons,List.find?_cons,if_neg h]
   by_cases ht:t=p.1
   ·have:¬ t=s:=fun k=>h (k.symm.trans ht)
    simp [ht,if_neg (ht▸this)]
   ·simp only [decide_eq_false ht];exact f c
def QG (D:List (Xaa × α)) (s:Xaa) (v:α) (t:Xaa):gE (pE D s v) t=if t=s then some v else gE D t:=by
 unfold pE;split
 ·rename_i h;exact Ih D s t v h
 ·rename_i h;rw [ya]
  by_cases e:t=s
  ·subst e
   have:gE D t=none:=by simpa using h
   rw [this]; simp
  ·simp [e]
def dO (f:Xaa->Option α) (s:Xaa) (v:α):Xaa->Option α:=fun t=>if t=s then some v else f t
def cH (f:Xaa->Option α) (s:Xaa) (v:α):dO f s v s=some v:=by simp [dO]
def cj (f:Xaa->Option α) {s t:Xaa} (v:α) (h:t≠s):dO f s v t=f t:=by simp [dO,h]
def ej (en:α->Xab) (h:Hp) (g:Nat) (f:Xaa->Option α) (n:Nat):Prop:=∃ D:List (Xaa × α),ff h g (vE en D)/\(∀ s,gE D s=f s)/\D.length=n
def ej.aj {en:α->Xab} {ws:List Nat} {h h':Hp} {g:Nat} {f:Xaa->Option α} {n:Nat} (m:ej en h g f n) (k:Ch ws h h') (a:g∉ws):ej en h' g f n:=by
 obtain ⟨D,m,r⟩:=m;exact ⟨D,m.aj k a,r⟩
def ej.lt {en:α->Xab} {h:Hp} {g:Nat} {f:Xaa->Option α} {n:Nat} (m:ej en h g f n):g<h.size:=by
 obtain ⟨D,m,r⟩:=m;exact m.lt
def ej.new {en:α->Xab} {h:Hp} {g:Nat} (m:ff h g []):ej en h g (fun _=>none) 0:=⟨[],m,fun s=>rfl,rfl⟩
def ej.kR {en:α->Xab} {h':Hp} {g:Nat} {f:Xaa->Option α} {n:Nat} {D:List (Xaa × α)} (a:∀ s,gE D s=f s) (hn:D.length=n) {s:Xaa} {v:α} (m:ff h' g (Sx.kR (vE en D) s (en v))):ej en h' g (dO f s v) (if (f s).isSome then n else n+1):=by
 rw [IZ] at m;refine ⟨_,m,fun t=>?_,?_⟩
 ·rw [QG,a t]; rfl
 ·rw [x5,a s,hn]
end
def eI (n:Nat):Xab:=vI (n:Int)
def eB (b:Bool):Xab:=.bool b
def J4:Tryz.prog.underlying 105=some (.map 9 3):=av
def UA:Tryz.prog.underlying 152=some (.map 9 4):=av
def Vi:(Tryz.prog.info? 3).bind (·.zero)=some (vI 0):=av
def PY:(Tryz.prog.info? 4).bind (·.zero)=some (.bool false):=av
section
variable {L:Lp} {K:Xab->Hp->Prop} {h:Hp} {g n:Nat}
variable {H:Int->T}
def Kw {f:Xaa->Option Nat} (m:ej eI h g f n) (s:Xaa) (hk:H (((f s).getD 0:Nat):Int) L K h):T.ef Xaz (Instr.lookup 105 (.map (some g)) (.string s) false) false [(false,[.int .i64])] H L K h:=by
 obtain ⟨D,m,a,hn⟩:=m;refine j3 J4 wT Vi m s false _ ?_;refine ⟨((((f s).getD 0:Nat):Int),()),?_,hk⟩;simp only [Bool.false_eq_true,if_false];rw [nG,a s]
 all_goals (cases f s <;> rfl)
def EB {f:Xaa->Option Nat} (m:ej eI h g f n) (s:Xaa) {k:Int->Bool->T} (hk:k (((f s).getD 0:Nat):Int) (f s).isSome L K h):T.ef Xaz (Instr.lookup 105 (.map (some g)) (.string s) true) true [(false,[.int .i64]),(false,[.bool])] k L K h:=by
 obtain ⟨D,m,a,hn⟩:=m;refine j3 J4 wT Vi m s true _ ?_;refine ⟨((((f s).getD 0:Nat):Int),(f s).isSome,()),?_,hk⟩;rw [af9 rfl,nG,a s]
 all_goals (cases f s <;> rfl)
variable {O:Xaa->Option Bool}
def Pg (m:ej eB h g O n) (s:Xaa) {k:Bool->T} (hk:k ((O s).getD false) L K h):T.ef Xaz (Instr.lookup 152 (.map (some g)) (.string s) false) false [(false,[.bool])] k L K h:=by
 obtain ⟨D,m,a,hn⟩:=m;refine j3 UA wT PY m s false _ ?_;refine ⟨((O s).getD false,()),?_,hk⟩;simp only [Bool.false_eq_true,if_false];rw [nG,a s]
 all_goals (cases O s <;> rfl)
variable {U:Xaa} {V:T}
def rQ {f:Xaa->Option Nat} (m:ej eI h g f n) (a:U.size<=maxLen) {v:Int} {w:Nat} (hv:v=(w:Int)) (hk:∀ h',ej eI h' g (dO f U w) (if (f U).isSome then n else n+1)->Ch [g] h h'->h'.size=h.size->V L K h') :
  T.dZ Xaz (Instr.mapUpdate 105 (.map (some g)) (.string U) (vI v)) V L K h:=by
 subst hv;obtain ⟨D,m,b,hn⟩:=m;refine gF J4 wT m a _ _ ?_;intro h' c c' d;exact hk h' (ej.kR (en:=eI) b hn c) c' d
def XH (m:ej eB h g O n) (a:U.size<=maxLen) {b:Bool} (hk:∀ h',ej eB h' g (dO O U b) (if (O U).isSome then n else n+1)->Ch [g] h h'->h'.size=h.size->V L K h') :
  T.dZ Xaz (Instr.mapUpdate 152 (.map (some g)) (.string U) (.bool b)) V L K h:=by
 obtain ⟨D,m,c,hn⟩:=m;refine gF UA wT m a _ _ ?_;intro h' d c' e;exact hk h' (ej.kR (en:=eB) c hn d) c' e
def zp {α:Type} {en:α->Xab} {t:TypeId} {k:Option Nat->T} (hk:∀ h',ej en h' h.size (fun _=>none) 0->Ext h h'->h'.size=h.size+1->k (some h.size) L K h'):T.ef Xaz (Instr.makeMap t none) false [(false,[.map 0 0])] k L K h:=by
 refine nj _ ?_;intro h' m e z;exact ⟨(some h.size,()),rfl,hk h' (ej.new m) e z⟩
def ZN {α:Type} {en:α->Xab} {f:Xaa->Option α} (m:ej en h g f n) (hk:H (n:Int) L K h):T.ef Xaz (Builtin.len_ #[105] 3 #[.map (some g)]) false [(false,[.int .i64])] H L K h:=by
 obtain ⟨D,m,e,hn⟩:=m;obtain ⟨es,clock,b,c,d,i⟩:=m;have a:es.size=n:=by
  have:=aq9 List.length c
  simpa [vE,hn] using this
 show aP _ _ _ _;unfold Builtin.len_;simp only [List.getElem?_toArray,List.getElem?_cons_zero];rw [an,az J4];simp only [pure_bind];rw [an];refine gj b ai _ ?_;simp only [pure_bind];exact ⟨((n:Int),()),by rw [a]; rfl,hk⟩
def XO {a b:Nat} (hk:H ((min a b:Nat):Int) L K h):T.ef Xaz (Builtin.min_ #[3,3] 3 #[vI (a:Int),vI (b:Int)]) false [(false,[.int .i64])] H L K h:=by
 show aP _ _ _ _;refine ⟨(((min a b:Nat):Int),()),?_,hk⟩;show Value.int .i64 (if (b:Int)<(a:Int) then (b:Int) else (a:Int))=vI ((min a b:Nat):Int)
 congr 1
 split <;> omega
end
structure cT where
 name:Xaa
 p:Xac
 l:Nat
 c:Nat
 x:bJ
def AS (e:cT):List Xab:=[.string e.name,.slice e.p e.l e.c,.int .u32 e.x.num]
structure uS (h:Hp) (p:Xac) (l:Nat) (es:List cT):Prop where
 len:l=es.length
 cells:∀ i,(hi:i<es.length)->∃ a,p=some a/\aF h (a.add (i*3)) 0 (AS es[i])
 fx:∀ e,e∈es->ik h e.p e.l e.x.ah
def uS.aj {h h':Hp} {p:Xac} {l:Nat} {es:List cT} (v:uS h p l es) (k:Ext h h'):uS h' p l es :=
 ⟨v.len,fun i hi=>by
  obtain ⟨a,b,hc⟩:=v.cells i hi;exact ⟨a,b,aI k ai _ _ hc⟩,fun e c=>(v.fx e c).aj k ai⟩
def kW (es:List cT) (s:Xaa):Option Nat:=es.findIdx? fun e=>decide (e.name=s)
def G9 {es:List cT} {e:cT} (hn:∀ d,d∈es->d.name≠e.name) (s:Xaa):kW (es++[e]) s=dO (kW es) e.name es.length s:=by
 unfold kW dO;rw [dz9]
 by_cases h:s=e.name
 ·subst h
  have:es.findIdx? (fun d=>decide (d.name=e.name))=none:=by
   rw [bu9];intro d b;simpa using hn d b
  rw [this];simp [List.findIdx?_cons]
 ·have:¬ e.name=s:=fun k=>h k.symm
  rw [ac9 h];cases a:es.findIdx? (fun d=>decide (d.name=s)) with
  | none=>show _=List.findIdx? _ es; rw [a]; simp [List.findIdx?_cons,this]
  | some k=>show _=List.findIdx? _ es; rw [a]; simp
variable {Y:Xaa}
def Ht {es:List cT} (h:∀ d,d∈es->d.name≠Y):kW es Y=none:=by
 unfold kW;rw [bu9];intro d a;simpa using h d a
variable {O:Hp} {U:Xac} {H V b:Nat}
def A5 {es:List cT} (v:uS O U H es) (hl:es.length<=2^40) (hn:(es.map (·.name)).Nodup) (y:∀ e,e∈es->e.name.size<=maxLen) :
  HC Xaz 62 #[.slice U H V] O fun w h'=>(∃ g,w=.map (some g)/\ej eI h' g (kW es) es.length/\O.size<=g)/\Ext O h':=by
 refine aX (args:=[.slice U H V]) mixed Tryz.func62 av (yu U H V) ?_;unfold uB aR aY bq aH bR aC aZ bZ aM;refine zp (en:=eI) ?_;intro h1 A B z1;have hll:=v.len;refine aQ (cs:=cF) (fun x w h'=>∃ i:Nat,x.1=(i:Int)/\i<=es.length/\w=es.length-i/\ej eI h' O.size (kW (es.take i)) i/\Ext O h') ((0:Int),()) es.length rfl ⟨0,rfl,ad,ad,A,B⟩ ?_;rintro ⟨L,⟨⟩⟩ w h2 ⟨i,hi,r,rfl,n,o⟩;simp only at hi;subst hi;refine ak ?_;refine aK ?_ ?_<;>intro C
 ·have b:i<es.length:=ad
  obtain ⟨a,rfl,hc⟩:=(v.aj o).cells i b;have k:es.take (i+1)=es.take i++[es[i]]:=ag9 b;have hsz:=y es[i] (al9 b);have f:∀ d,d∈es.take i->d.name≠es[i].name:=by
   intro d D t;obtain ⟨j,E,rfl⟩:=bg9 D;rw [az9] at E;rw [List.getElem_take] at t;exact ev9.1 hn j i (by rw [ab9]; omega) (by rw [ab9]; omega) ad (by simpa using t)
  generalize es[i]=e at hc k hsz f;refine bK rfl ?_;rw [cr i];refine ar (e.name,(e.p,e.l,e.c),(e.x.num:Int),()) hc (ak ?_);refine bm ?_;intro M F G z3;refine bP F ?_;intro h4 q I z4;have q:br h4 h2.size 116 [.string e.name,.slice e.p e.l e.c,.int .u32 e.x.num]:=q;have m:Ext h2 h4:=bU G I;refine aw q (e.name,()) (ak ?_);refine rQ (w:=i) (n.aj m ai) hsz rfl ?_;intro N u J P;have hw:=hY i;have K:kW (es.take (i+1))=dO (kW (es.take i)) e.name i:=by
   rw [k]
   funext s
   rw [G9 f,az9,db9 ad]
  rw [Ht f] at u;refine aD (cs:=cF) (((i+1:Nat):Int),()) (es.length-(i+1)) rfl ad (aq9 (fun z=>[Value.int .i64 z]) hw) ⟨i+1,rfl,ad,rfl,by rw [K]; exact u,bU (o.trans m) J⟩
 ·have hi:i=es.length:=ad
  subst hi;rw [bl9] at n;exact ⟨⟨_,rfl,n,au9 _⟩,o⟩
def sE (of:Xaa->Option bJ) (t:Xaa × Nat):dm:=match of t.1 with
 | none=>[t]
 | some y=>y.ah.map fun u=>(u.1,t.2*u.2 % 4294967296)
def gC (of:Xaa->Option bJ) (n:Nat) (t:Xaa × Nat):Nat:=match of t.1 with
 | none=>n
 | some y=>(n+t.2*y.num % 4294967296) % 4294967296
def dr (of:Xaa->Option bJ) (x:bJ):bJ:=⟨FE (x.ah.flatMap (sE of)),x.ah.foldl (gC of) x.num⟩
structure sK where
 p:Xac
 l:Nat
 c:Nat
 x:bJ
def eL (y:sK):Xab:=gU y.p y.l y.c y.x
structure IL (h:Hp) (g:Nat) (f:Xaa->Option sK) (n:Nat):Prop where
 map:ej eL h g f n
 fx:∀ s y,f s=some y->ik h y.p y.l y.x.ah
def IL.aj {ws:List Nat} {h h':Hp} {g:Nat} {f:Xaa->Option sK} {n:Nat} (m:IL h g f n) (k:Ch ws h h') (b:g∉ws) (hi:∀ s y,f s=some y->∀ i,i∈aG y.p->i∉ws):IL h' g f n :=
 ⟨m.map.aj k b,fun s y a=>(m.fx s y a).aj k (hi s y a)⟩
def Yv:Tryz.prog.underlying 165=some (.map 9 53):=av
def YK:(Tryz.prog.info? 53).bind (·.zero)=some (.agg #[.slice none 0 0,.int .u32 0]):=av
variable {Z:Lp} {a:Xab->Hp->Prop} {e:Xaa->Option sK}
def BW {h:Hp} (m:ej eL h H e V) (s:Xaa) {k:Xac->Nat->Nat->Int->Bool->T} (h1:∀ y,e s=some y->k y.p y.l y.c (y.x.num:Int) true Z a h) (h0:e s=none->k none 0 0 0 false Z a h) :
  T.ef Xaz (Instr.lookup 165 (.map (some H)) (.string s) true) true [(true,[.slice 64,.int .u32]),(false,[.bool])] k Z a h:=by
 obtain ⟨D,m,d,hn⟩:=m;refine j3 Yv wT YK m s true _ ?_;rw [af9 rfl,nG,d s];cases b:e s with
 | none=>exact ⟨((none,0,0),(0:Int),false,()),rfl,h0 b⟩
 | some y=>exact ⟨((y.p,y.l,y.c),(y.x.num:Int),true,()),rfl,h1 y b⟩
variable {g:T}
def Oj {h:Hp} (m:ej eL h H e V) (b:Y.size<=maxLen) (y:sK) (hk:∀ h',ej eL h' H (dO e Y y) (if (e Y).isSome then V else V+1)->Ch [H] h h'->h'.size=h.size->g Z a h') :
  T.dZ Xaz (Instr.mapUpdate 165 (.map (some H)) (.string Y) (.agg #[.slice y.p y.l y.c,.int .u32 (y.x.num:Int)])) g Z a h:=by
 obtain ⟨D,m,d,hn⟩:=m;refine gF Yv wT m b _ _ ?_;intro h' i c' j;exact hk h' (ej.kR (en:=eL) d hn i) c' j
def XI (r:Option Nat) (p:Xac) (l:Nat) (c:Xax) (j:Nat) (k:T):T :=
  T.loop [aM] [vI (0:Int)] <| fun (a:Int) =>
  bq a l
  (T.need (fI a l) <|
  T.bi p <| fun (d:Xax) =>
  T.af (d.add (aH a 2)) [.string,.int .u32] <| fun (e:Xaa) (f:Int) =>
  T.new [bZ,aC (0:Int)] 64 <| fun (b:Xax) =>
  T.ax b [.string e,aC f] <|
  T.af b [.string] <| fun (Zb:Xaa) =>
  bR (Instr.lookup 196 (.map r) (.string Zb) false) false [(false,[.int .u32])] <| fun (g:Int) =>
  T.af (c.add 1) [.int .u32] <| fun (h:Int) =>
  T.af (b.add 1) [.int .u32] <| fun (i:Int) =>
  T.dZ Xaz (Instr.mapUpdate 196 (.map r) (.string Zb) (aC (IntKind.wrap .u32 (g+(IntKind.wrap .u32 (h*i)))))) <|
  T.again j [vI (bn (a+(1:Int)))]) k
variable {c:dm}
def Ti {h:Hp} {q:Nat} {nm:Xaa} {us:dm} {x:Nat} (A:Z.length=x) (v:ik h U b us) (hl:us.length<=2^40) (O:∀ t,t∈us->t.1.size<=maxLen) (m:ff h H (vm c)) (P:us≠[]->H∉aG U)
  (Q:br h V 64 [.string nm,.int .u32 (q:Int)]) (B:V≠H)
  (hk:∀ J h',ff h' H (vm ((us.map fun u=>(u.1,q*u.2 % 4294967296)).foldl jr c))->Ch [H] h h'->g (Z++[J]) a h'):XI (some H) U b ⟨V,0,none⟩ x g Z a h:=by
 have hll:=v.len;have R:∀ J:List Xab->Hp->Prop,(Z++[J])[x]?=some J:=by intro J; subst A; simp
 unfold XI bq aH bR bn fI aC bZ aM;refine aQ (cs:=cF) (fun y w h'=>∃ (i:Nat),y.1=(i:Int)/\i<=us.length/\w=us.length-i/\Ch [H] h h'/\ff h' H (vm (((us.take i).map fun u=>(u.1,q*u.2 % 4294967296)).foldl jr c))) ((0:Int),()) us.length rfl
  ⟨0,rfl,ad,ad,Ch.refl _ _,by simpa using m⟩ ?_
 rintro ⟨n8,⟨⟩⟩ w I ⟨i,hi,M,rfl,r,C⟩;simp only at hi;subst hi;refine ak ?_;refine aK ?_ ?_<;>intro S
 ·have e:i<us.length:=ad
  obtain ⟨d,rfl,hc⟩:=(v.aj r (by intro j E N; rw [ak9] at N; subst N; exact P (List.ne_nil_of_length_pos ad) E)).cells i e;have o:us.take (i+1)=us.take i++[us[i]]:=ag9 e;have hsz:=O us[i] (al9 e);generalize us[i]=t at hc o hsz;refine bK rfl ?_;rw [cr i];refine ar (t.1,(t.2:Int),()) hc (ak ?_);refine bm ?_;intro h5 W X z5;refine bP W ?_;intro h6 s Y z6;have s:br h6 I.size 64 (df t):=s;have f:Ext I h6:=bU X Y;have m6:=C.aj f ai;have a6:=(Q.aj r (by simpa using B)).aj f ai;refine aw s (t.1,()) (ak ?_);refine qv m6 _ ?_;rw [ay];refine aw a6 ((q:Int),()) (ak ?_);rw [ay];refine aw s ((t.2:Int),()) (ak ?_);generalize F:((us.take i).map fun u=>(u.1,q*u.2 % 4294967296)).foldl jr c=G at m6;refine I2 (n:=(ec G t.1+q*t.2 % 4294967296) % 4294967296) m6 hsz ?_ ?_
  ·rw [eu,eu,iU,ff9,iU,Int.natCast_mul]
  ·intro h7 m7 k7 z7;have hw:=hY i;have hf:((us.take (i+1)).map fun u=>(u.1,q*u.2 % 4294967296)).foldl jr c=vV G t.1 ((ec G t.1+q*t.2 % 4294967296) % 4294967296):=by
    rw [o,ao9,cg9,F] <;> rfl
   refine aD (cs:=cF) (((i+1:Nat):Int),()) (us.length-(i+1)) (R _) ad (aq9 (fun z=>[Value.int .i64 z]) hw) ⟨i+1,rfl,ad,rfl,?_,by rw [hf]; exact m7⟩;exact Ch.trans (Ch.trans r f ai) k7 (fun j E _=>E)
 ·have hi:i=us.length:=ad
  subst hi;rw [bl9] at C;exact hk _ _ C r
def UZ (d:Option Nat) (t:Xax) (x:Int) (u:Nat):T :=
 T.new [aZ,aC (0:Int)] 53 <| fun (c:Xax) =>
 T.ax c [aZ,aC x] <|
 bM 90 [.map d] false [(false,[.func #[63] #[] false])] <| fun (y:Xab) =>
 bM 89 [y] false [(false,[.slice 9])] <| fun (z:Xac) (w C:Nat) =>
 T.loop [aM] [vI (0:Int)] <| fun (n8:Int) =>
 bq n8 w
 (T.need (fI n8 w) <|
 T.bi z <| fun (A:Xax) =>
 T.af (A.add (aH n8 1)) [.string] <| fun (a:Xaa) =>
 bR (Instr.lookup 196 (.map d) (.string a) false) false [(false,[.int .u32])] <| fun (e:Int) =>
 cond (e != (0:Int))
  (T.af c [.slice 64] <| fun (f:Xac) (g b:Nat) =>
  bR (Instr.lookup 196 (.map d) (.string a) false) false [(false,[.int .u32])] <| fun (h:Int) =>
  bR (Instr.buildSlice 50 1 #[(0,.agg #[.string a,aC h])]) false [cR] <| fun (i:Xac) (j k:Nat) =>
  bR (Builtin.append_ #[50,50] 50 #[.slice f g b,.slice i j k]) false [cR] <| fun (l:Xac) (m n:Nat) =>
  T.ax c [.slice l m n] <|
  T.again u [vI (bn (n8+(1:Int)))])
  (T.again u [vI (bn (n8+(1:Int)))]))
 (T.af c [.slice 64,.int .u32] <| fun (B:Xac) (l10 o:Nat) (p:Int) =>
 T.ax t [.slice B l10 o,aC p] <|
 T.af t [.slice 64,.int .u32] <| fun (q:Xac) (b r:Nat) (s:Int) =>
 T.ret (.agg #[.slice q b r,aC s]))
def OZ {h:Hp} {lv:Nat} (C:Z.length=lv) (m:ff h H (vm c)) (hl:c.length<=2^40) (n:Int) (c0:br h V 53 [.slice none 0 0,.int .u32 0])
  (hk:∀ p l b h',SL h' h.size 64 2 p l b ((FM c).map df)->Ch [V] h h'->a (.agg #[.slice p l b,.int .u32 n]) h'):UZ (some H) ⟨V,0,none⟩ n lv Z a h:=by
 have M:∀ J:List Xab->Hp->Prop,(Z++[J])[lv]?=some J:=by intro J; subst C; simp
 have hg2:=c0.lt;unfold UZ bq aH bM bR bn fI aC aZ aM cR;refine bm ?_;intro h2 U W z2;refine bP U ?_;intro h3 y X z3;have y:br h3 h.size 53 [.slice none 0 0,.int .u32 n]:=y;have E:Ext h h3:=bU W X;have m3:=m.aj E ai;have c3:br h3 V 53 [.slice none 0 0,.int .u32 0]:=c0.aj E ai;refine aE (KH (some H) h3) ?_;rintro _ h4 ⟨rfl,rfl⟩;refine ⟨(.func (.func 117) #[] #[.pointer (some ⟨h3.size,0,none⟩)],()),rfl,ak ?_⟩;have Y:Ext h3 (h3.push (.cells #[.map (some H)] 196)):=Ext.push _ _;have t:(vm c).length<=2^40:=by unfold vm; rw [ab9]; exact hl
 refine aE (tM m3 t) ?_;rintro _ N ⟨pk,O,ck,rfl,A,e5⟩;refine ⟨((pk,O,ck),()),rfl,ak ?_⟩;have e35:=Y.trans e5;have o:(keysOf (vm c)).length<=2^40:=by
  unfold keysOf;rw [List.length_mergeSort,ab9];exact t
 have F:O=(keysOf (vm c)).length:=by rw [A.1,ab9]
 unfold FM at hk;generalize keysOf (vm c)=ks at A o F hk;have b5:=y.aj e35 ai;have c5:=c3.aj e35 ai;have m5:=m3.aj e35 ai;have e05:=E.trans e35;have hz3:=e35.size;have hb3:=y.lt;have hg:=m.lt;refine aQ (cs:=cF) (fun x w h'=>∃ (i:Nat) (p:Xac) (l b:Nat),x.1=(i:Int)/\i<=ks.length/\w=ks.length-i/\Ch [h.size] N h'/\br h' h.size 53 [.slice p l b,.int .u32 n] /\
  SL h' N.size 64 2 p l b (((ks.take i).filterMap fun k=>if ec c ⟨k.toArray⟩=0 then none else some ((⟨k.toArray⟩:Xaa),ec c ⟨k.toArray⟩)).map df)/\l<=i) ((0:Int),()) ks.length rfl
  ⟨0,none,0,0,rfl,ad,ad,Ch.refl _ _,b5,SL.nil _ _ _ _,ad⟩ ?_
 rintro ⟨n8,⟨⟩⟩ w h6 ⟨i,p,l,b,hi,P,rfl,q,B,r,hli⟩;simp only at hi;subst hi;refine ak ?_;have m6:=m5.aj q (by simp; omega);have hz6:=q.size;have G:Ext h h6:=bU e05 q;refine aK ?_ ?_<;>intro g1
 ·have f:i<ks.length:=ad
  have sk6:=A.bF q (fun j e=>by have:=(A.cw e).1; simp; omega);obtain ⟨d,rfl,hc⟩:=sk6.cells (i:=i) (by simpa using f);rw [am9] at hc;have s:ks.take (i+1)=ks.take i++[ks[i]]:=ag9 f;generalize ks[i]=k at hc s;refine bK rfl ?_;rw [cr i];refine ar ((⟨k.toArray⟩:Xaa),()) hc (ak ?_);have hw:=hY i;refine qv m6 _ (ao (fun V=>?_) (fun V=>?_))
  ·have V:((ec c ⟨k.toArray⟩:Nat):Int)≠0:=by simpa using V
   refine aw B ((p,l,b),()) (ak ?_);refine qv m6 _ ?_;refine fg (vs:=df (⟨k.toArray⟩,ec c ⟨k.toArray⟩)) AD ul rfl ad ad av rfl rfl r hz6 ad ad ?_;intro p' c' Q R u hp7;have b7:=B.aj u (fun hh=>by have:=(r.cw hh).1; omega);refine bP b7 ?_;intro h8 b8 S z8;refine aD (cs:=cF) (((i+1:Nat):Int),()) (ks.length-(i+1)) (M _) ad (aq9 (fun z=>[Value.int .i64 z]) hw) ⟨i+1,p',l+1,c',rfl,ad,rfl,?_,b8,?_,ad⟩
   ·exact Ch.trans (Ch.trans q u (fun j e hl=>by have:=(r.cw e).1; omega)) S (fun j e _=>e)
   ·rw [s,ee9,ao9];have I:([k].filterMap fun k=>if ec c ⟨k.toArray⟩=0 then none else some ((⟨k.toArray⟩:Xaa),ec c ⟨k.toArray⟩))=[((⟨k.toArray⟩:Xaa),ec c ⟨k.toArray⟩)]:=by
     simp only [List.filterMap_cons,List.filterMap_nil];rw [ac9 ad]
    rw [I];exact R.bF S (fun j e=>by have:=(R.cw e).1; simp; omega)
  ·have V:((ec c ⟨k.toArray⟩:Nat):Int)=0:=by simpa using V
   refine aD (cs:=cF) (((i+1:Nat):Int),()) (ks.length-(i+1)) (M _) ad (aq9 (fun z=>[Value.int .i64 z]) hw) ⟨i+1,p,l,b,rfl,ad,rfl,q,B,?_,ad⟩;rw [s,ee9];have I:([k].filterMap fun k=>if ec c ⟨k.toArray⟩=0 then none else some ((⟨k.toArray⟩:Xaa),ec c ⟨k.toArray⟩))=[]:=by
    simp only [List.filterMap_cons,List.filterMap_nil];rw [af9 ad]
   rw [I,bz9];exact r
 ·have hi:i=ks.length:=ad
  subst hi;rw [bl9] at r;have c6:=c5.aj q (by simp; omega);refine aw B ((p,l,b),n,()) (ak ?_);refine bP c6 ?_;intro Q b7 u z7;have b7:br Q V 53 [.slice p l b,.int .u32 n]:=b7;refine aw b7 ((p,l,b),n,()) ?_;have hz5:=e05.size;exact hk _ _ _ _ ((r.bF u (fun j e=>by have:=(r.cw e).1; simp; omega)).mono ad) (Ch.trans (G.mono ai) u (fun j e hl=>e))
variable {f:bJ}
def Gd {c:Nat} (v:ik O U H f.ah) (m:IL O V e b) (hl:f.ah.length<=2^40) (hs:∀ t,t∈f.ah->t.1.size<=maxLen) (hy:∀ s y,e s=some y->y.x.ah.length<=2^40/\∀ t,t∈y.x.ah->t.1.size<=maxLen)
  (hN:(f.ah.flatMap (sE fun s=>(e s).map (·.x))).length<=2^40) :
  HC Xaz 64 #[gU U H c f,.map (some V)] O fun w h'=>(∃ p' l' c',w=gU p' l' c' (dr (fun s=>(e s).map (·.x)) f)/\SL h' O.size 64 2 p' l' c' ((dr (fun s=>(e s).map (·.x)) f).ah.map df))/\Ext O h':=by
 refine aX (args:=[gU U H c f,.map (some V)]) mixed Tryz.func64 av (E6 U H c f.num (some V)) ?_;unfold DU aR aY bq aH bM bd bR aC aZ bZ aM ct;have hll:=v.len;refine bm ?_;intro h1 b1 e1 z1;refine bm ?_;intro h2 b2 e2 z2;refine nj _ ?_;intro h3 m3 M z3;refine ⟨(some h2.size,()),rfl,ak ?_⟩;have b13:=(b1.aj e2 ai).aj M ai;have b23:=b2.aj M ai;have e03:=(e1.trans e2).trans M;rw [ay];refine aw b13 ((f.num:Int),()) (ak ?_);refine aw b13 ((U,H,c),()) (ak ?_);have hh:h1.size=O.size+1:=z1;generalize N:(fun s=>(e s).map (·.x))=of at hN;have B:∀ s,of s=(e s).map (·.x):=fun s=>by rw [<- N]
 refine aQ (cs:=VZ) (fun y w h'=>∃ i:Nat,y.2.1=(i:Int)/\i<=f.ah.length/\w=f.ah.length-i/\y.1=(((f.ah.take i).foldl (gC of) f.num:Nat):Int)/\Ch [h2.size] h3 h'/\ff h' h2.size (vm (((f.ah.take i).flatMap (sE of)).foldl jr [])))
  ((f.num:Int),(0:Int),()) f.ah.length rfl ⟨0,rfl,ad,ad,rfl,Ch.refl _ _,m3⟩ ?_
 rintro ⟨n9,n10,⟨⟩⟩ w h4 ⟨i,hi,hile,rfl,I,K,P⟩;simp only at hi I;subst hi I;refine ak ?_;have C:Ext O h4:=bU e03 K;have hz4:=K.size;refine aK ?_ ?_<;>intro g1
 ·have o:i<f.ah.length:=ad
  obtain ⟨a,rfl,hc⟩:=(v.aj C ai).cells i o;have D:f.ah.take (i+1)=f.ah.take i++[f.ah[i]]:=ag9 o;have hsz:=hs f.ah[i] (al9 o);generalize f.ah[i]=t at hc D hsz;have hw:=hY i;refine bK rfl ?_;rw [cr i];refine ar (t.1,(t.2:Int),()) hc (ak ?_);refine bm ?_;intro h5 b5 e5 z5;refine bP b5 ?_;intro h6 G k6 z6;have G:br h6 h4.size 64 [.string t.1,.int .u32 (t.2:Int)]:=G;have r:Ext h4 h6:=bU e5 k6;have m6:=P.aj r ai;have e06:=C.trans r;have hz6:=r.size;refine aw G (t.1,()) (ak ?_);have k:((f.ah.take (i+1)).flatMap (sE of)).foldl jr []=(sE of t).foldl jr (((f.ah.take i).flatMap (sE of)).foldl jr []):=by
   rw [D,ds9,cg9]
   simp
  have u:(f.ah.take (i+1)).foldl (gC of) f.num=gC of ((f.ah.take i).foldl (gC of) f.num) t:=by
   rw [D,cg9]; rfl
  generalize (f.ah.take i).foldl (gC of) f.num=nn at u ⊢;generalize ((f.ah.take i).flatMap (sE of)).foldl jr []=D' at k m6 ⊢;refine BW (m.map.aj e06 ai) t.1 (fun y z=>?_) (fun Q=>?_)
  ·have A:of t.1=some y.x:=by rw [B,z]; rfl
   refine bm ?_;intro h7 R S z7;refine bP R ?_;intro h8 L W z8;have L:br h8 h6.size 53 [.slice y.p y.l y.c,.int .u32 (y.x.num:Int)]:=L;have d:Ext h6 h8:=bU S W;refine cv rfl ?_;refine aw L ((y.p,y.l,y.c),()) (ak ?_);have hh2:h2.size=O.size+2:=ad
   refine Ti (q:=t.2) (nm:=t.1) (us:=y.x.ah) rfl ((m.fx _ _ z).aj (e06.trans d) ai) (hy _ _ z).1 (hy _ _ z).2 (m6.aj d ai) (fun X hb=>by have:=(m.fx _ _ z).Xd X _ hb; omega) (G.aj d ai) ad ?_;intro J h9 Y E;have b69:=(G.aj d ai).aj E (by simp; omega);have b89:=L.aj E (by simp; omega);rw [ay];refine aw b69 ((t.2:Int),()) (ak ?_);rw [ay];refine aw b89 ((y.x.num:Int),()) (ak ?_);have F:IntKind.wrap .u32 ((nn:Int)+IntKind.wrap .u32 ((t.2:Int)*(y.x.num:Int)))=((gC of nn t:Nat):Int):=by
    unfold gC;rw [A];simp only;rw [eu,eu,iU,ff9,iU,Int.natCast_mul]
   refine aD (cs:=VZ) (((gC of nn t:Nat):Int),((i+1:Nat):Int),()) (f.ah.length-(i+1)) rfl ad (by rw [F,hw]; rfl) ⟨i+1,rfl,ad,rfl,by rw [u],Ch.trans (Ch.trans (Ch.trans K r ai) d ai) E (fun j Z _=>Z),?_⟩;rw [k];unfold sE;rw [A];exact Y
  ·have A:of t.1=none:=by rw [B,Q]; rfl
   refine bm ?_;intro h7 R S z7;refine bP R ?_;intro h8 L W z8;have d:Ext h6 h8:=bU S W;have b68:=G.aj d ai;refine bX rfl ?_;refine aw b68 (t.1,()) (ak ?_);refine qv (m6.aj d ai) _ ?_;rw [ay];refine aw b68 ((t.2:Int),()) (ak ?_);refine I2 (n:=(ec D' t.1+t.2) % 4294967296) (m6.aj d ai) hsz ?_ ?_
   ·rw [eu,iU,ff9]
   ·intro h9 Y E z9;have F:gC of nn t=nn:=by unfold gC; rw [A]
    refine aD (cs:=VZ) ((nn:Int),((i+1:Nat):Int),()) (f.ah.length-(i+1)) rfl ad (by rw [hw]; rfl) ⟨i+1,rfl,ad,rfl,by rw [u,F],Ch.trans (Ch.trans (Ch.trans K r ai) d ai) E (fun j Z _=>Z),?_⟩;rw [k];unfold sE;rw [A];exact Y
 ·have hi:i=f.ah.length:=ad
  subst hi;rw [bl9] at P ⊢;have hD:((f.ah.flatMap (sE of)).foldl jr []).length<=2^40:=by
   have:=wg (f.ah.flatMap (sE of)) []
   simp only [List.length_nil,Nat.zero_add] at this;omega
  refine OZ (lv:=1) rfl P hD _ (b23.aj K (by simp; omega)) ?_;intro p' l' c' h9 s9 E;exact ⟨⟨p',l',c',rfl,s9.mono ad⟩,bU C E⟩
structure TS where
 num:Xaa->Option Nat
 jU:Nat
 low:Xaa->Option Nat
 on:Xaa->Option Bool
 back:Xaa->Option Bool
 dh:List Xaa
def eV (v:Xaa) (st:TS):TS:={ st with num:=dO st.num v (st.jU+1),jU:=st.jU+1,low:=dO st.low v (st.jU+1),dh:=st.dh++[v],on:=dO st.on v true }
def fL (v w:Xaa) (st:TS):TS:=if w=v then { st with back:=dO st.back v true } else st
def Mg (v:Xaa) (n:Nat) (st:TS):TS:={ st with low:=dO st.low v (min ((st.low v).getD 0) n) }
def uq (iC:Xaa->TS->TS) (v w:Xaa) (st:TS):TS :=
 if (st.num w).getD 0=0 then Mg v (((iC w st).low w).getD 0) (iC w st)
 else if (st.on w).getD false=true then Mg v ((st.num w).getD 0) st
 else st
def eU (own:Xaa->Bool) (iC:Xaa->TS->TS) (v:Xaa) (st:TS) (w:Xaa):TS :=
 if own w=true then uq iC v w (fL v w st) else st
def qt (qT:Bool) (st:TS) (x:Xaa):TS:={ st with on:=dO st.on x false,back:=dO st.back x ((st.back x).getD false || qT) }
def sC (v:Xaa) (st:TS):Nat:=st.dh.findIdx (fun x=>decide (v=x))
def r5 (v:Xaa) (st:TS):TS:={ (st.dh.drop (sC v st)).foldl (qt (decide (1<st.dh.length-sC v st))) st with dh:=st.dh.take (sC v st) }
def cV (own:Xaa->Bool) (succ:Xaa->List Xaa):Nat->Xaa->TS->TS
 | 0,_,st=>st
 | f+1,v,st =>
  if (((succ v).foldl (eU own (cV own succ f) v) (eV v st)).low v).getD 0<(((succ v).foldl (eU own (cV own succ f) v) (eV v st)).num v).getD 0 then (succ v).foldl (eU own (cV own succ f) v) (eV v st)
  else r5 v ((succ v).foldl (eU own (cV own succ f) v) (eV v st))
def Dq:TS:=⟨fun _=>none,0,fun _=>none,fun _=>none,fun _=>none,[]⟩
def xF (own:Xaa->Bool) (succ:Xaa->List Xaa) (f:Nat) (st:TS) (v:Xaa):TS:=if (st.num v).getD 0=0 then cV own succ f v st else st
def HZ (own:Xaa->Bool) (succ:Xaa->List Xaa) (names:List Xaa):TS:=names.foldl (xF own succ names.length) Dq
def rK (names:List Xaa) (st:TS):Nat:=(names.filter fun v=>(st.num v).isNone).length
structure dL (names:List Xaa) (st:TS):Prop where
 sum:st.jU+rK names st=names.length
 pos:∀ s n,st.num s=some n->1<=n
 dh:st.dh.length<=st.jU
 fx:∀ x,x∈st.dh->st.num x≠Option.none
def dL.none {names:List Xaa} {st:TS} (g:dL names st) {w:Xaa} (h:(st.num w).getD 0=0):st.num w=Option.none:=by
 cases a:st.num w with
 | none=>rfl
 | some n =>
  rw [a] at h
  have:=g.pos w n a
  simp at h;omega
def Sk {names:List Xaa} (hn:names.Nodup) {v:Xaa} (hv:v∈names) {f:Xaa->Option Nat} (h0:f v=Option.none) (n:Nat):(names.filter fun s=>(dO f v n s).isNone).length+1=(names.filter fun s=>(f s).isNone).length:=by
 induction names with
 | nil=>simp at hv
 | cons x l b =>
  obtain ⟨c,hn⟩:=ed9.1 hn
  by_cases e:x=v
  ·subst e;have hl:l.filter (fun s=>(dO f x n s).isNone)=l.filter (fun s=>(f s).isNone):=by
    refine List.filter_congr fun s d=>?_
    rw [cj _ _ (fun k=>c (by rw [<- k]; exact d))]
   rw [List.filter_cons,List.filter_cons,cH,h0,hl]
   simp
  ·have a:v∈l:=by
    rcases bd9.1 hv with h | h
    ·exact (e h.symm).elim
    ·exact h
   have:=b hn a
   rw [List.filter_cons,List.filter_cons,cj _ _ e];split
   ·simp only [List.length_cons]; omega
   ·exact this
def Cc (qT:Bool) (l:List Xaa):∀ st:TS,(l.foldl (qt qT) st).num=st.num/\(l.foldl (qt qT) st).jU=st.jU/\(l.foldl (qt qT) st).low=st.low:=by
 induction l with
 | nil=>intro st; exact ⟨rfl,rfl,rfl⟩
 | cons x l a =>
  intro st;rw [br9];exact a _
def oL (v:Xaa) (st:TS):(r5 v st).num=st.num:=(Cc _ _ _).1
def AM (v:Xaa) (st:TS):(r5 v st).jU=st.jU:=(Cc _ _ _).2.1
def Ru (v:Xaa) (st:TS):(r5 v st).low=st.low:=(Cc _ _ _).2.2
def xc (v:Xaa) (st:TS):(r5 v st).dh=st.dh.take (sC v st):=rfl
def iN (v w:Xaa) (st:TS):(fL v w st).num=st.num/\(fL v w st).jU=st.jU/\(fL v w st).dh=st.dh/\(fL v w st).on=st.on/\(fL v w st).low=st.low:=by
 unfold fL;split <;> exact ⟨rfl,rfl,rfl,rfl,rfl⟩
def dL.self {names:List Xaa} {st:TS} (g:dL names st) (v w:Xaa):dL names (fL v w st):=by
 obtain ⟨h1,h2,a,_⟩:=iN v w st;exact ⟨by unfold rK; rw [h1,h2]; exact g.sum,by rw [h1]; exact g.pos,by rw [h2,a]; exact g.dh,by rw [h1,a]; exact g.fx⟩
def dL.low {names:List Xaa} {st:TS} (g:dL names st) (v:Xaa) (n:Nat):dL names (Mg v n st):=⟨g.sum,g.pos,g.dh,g.fx⟩
def dL.open {names:List Xaa} (hn:names.Nodup) {st:TS} (g:dL names st) {v:Xaa} (hv:v∈names) (h0:st.num v=Option.none):dL names (eV v st)/\rK names (eV v st)+1=rK names st:=by
 have h1:rK names (eV v st)+1=rK names st:=Sk hn hv h0 _;refine ⟨⟨?_,fun s n a=>?_,?_,fun x b=>?_⟩,h1⟩
 ·have:=g.sum
  show st.jU+1+rK names (eV v st)=_;omega
 ·have a:dO st.num v (st.jU+1) s=some n:=a
  by_cases e:s=v
  ·subst e;rw [cH] at a
   have:=ay9 a
   omega
  ·rw [cj _ _ e] at a;exact g.pos s n a
 ·have:=g.dh
  show (st.dh++[v]).length<=st.jU+1
  simp; omega
 ·have b:x∈st.dh++[v]:=b;show dO st.num v _ x≠Option.none
  by_cases e:x=v
  ·subst e; rw [cH]; simp
  ·rw [cj _ _ e];rcases as9.1 b with h | h
   ·exact g.fx x h
   ·exact (e (ak9.1 h)).elim
def dL.pop {names:List Xaa} {st:TS} (g:dL names st) (v:Xaa):dL names (r5 v st) :=
 ⟨by unfold rK; rw [oL,AM]; exact g.sum,by rw [oL]; exact g.pos,by rw [xc,AM,az9]; have:=g.dh; omega,fun x a=>by rw [oL]; rw [xc] at a; exact g.fx x (cy9 a)⟩
def Cn (names:List Xaa) (st a:TS):Prop:=dL names a/\(∀ s n,st.num s=some n->a.num s=some n)/\st.dh <+: a.dh
def Cn.rK {names:List Xaa} {st a:TS} (h:Cn names st a):rK names a<=rK names st:=by
 unfold Sx.rK;rw [<- List.countP_eq_length_filter,<- List.countP_eq_length_filter];refine List.countP_mono_left fun x c h'=>?_
 cases b:st.num x with
 | none=>rfl
 | some n=>rw [h.2.1 x n b] at h'; simp at h'
def Cn.trans {names:List Xaa} {a b c:TS} (h:Cn names a b) (k:Cn names b c):Cn names a c:=⟨k.1,fun s n d=>k.2.1 s n (h.2.1 s n d),h.2.2.trans k.2.2⟩
def Cn.refl {names:List Xaa} {a:TS} (h:dL names a):Cn names a a:=⟨h,fun s n b=>b,et9 _⟩
def P3 {names:List Xaa} {iC:Xaa->TS->TS} (a:∀ Y st,dL names st->Y∈names->st.num Y=Option.none->Sx.rK names st<=H->Cn names st (iC Y st)) {v:Xaa} {st:TS} (g:dL names st) (b:Y∈names) (c:Sx.rK names st<=H):Cn names st (uq iC v Y st):=by
 unfold uq;split
 ·rename_i h0;have h:=a Y st g b (g.none h0) c;exact ⟨h.1.low v _,h.2.1,h.2.2⟩
 ·split
  ·exact ⟨g.low v _,fun s n d=>d,et9 _⟩
  ·exact Cn.refl g
def GF {names:List Xaa} {own:Xaa->Bool} (a:∀ s,own s=true->s∈names) {iC:Xaa->TS->TS} (b:∀ w st,dL names st->w∈names->st.num w=Option.none->Sx.rK names st<=H->Cn names st (iC w st)) {v w:Xaa} {st:TS} (g:dL names st) (c:Sx.rK names st<=H):Cn names st (eU own iC v st w):=by
 unfold eU;split
 ·rename_i d;have h1:Cn names st (fL v w st):=⟨g.self v w,fun s n e=>by rw [(iN v w st).1]; exact e,by rw [(iN v w st).2.2.1]; exact et9 _⟩
  exact h1.trans (P3 b (g.self v w) (a w d) (cn9 h1.rK c))
 ·exact Cn.refl g
theorem BH {names:List Xaa} {own:Xaa->Bool} (a:∀ s,own s=true->s∈names) {iC:Xaa->TS->TS} {f:Nat} (b:∀ w st,dL names st->w∈names->st.num w=Option.none->Sx.rK names st<=f->Cn names st (iC w st)) (v:Xaa):∀ (l:List Xaa) (st:TS),dL names st->Sx.rK names st<=f->Cn names st (l.foldl (eU own iC v) st)
 | [],st,g,c=>Cn.refl g
 | w::l,st,g,c=>by
  have h1:=GF a b (v:=v) (w:=w) g c;rw [br9];exact h1.trans (BH a b v l _ h1.1 (cn9 h1.rK c))
def JS {a b:List Xaa} {v:Xaa} (h:a++[v] <+: b) (hv:v∉a) {st:TS} (c:st.dh=b):sC v st=a.length/\b.take a.length=a/\a.length<b.length:=by
 obtain ⟨t,rfl⟩:=h;unfold sC;rw [c];refine ⟨?_,ai,ai⟩;rw [bb9,List.findIdx_append,ac9 ?_]
 ·simp [List.findIdx_cons]
 ·rw [List.findIdx_lt_length];rintro ⟨x,d,e⟩;exact hv (by rw [ah9 e]; exact d)
def dL.Y0 {names:List Xaa} {st:TS} (g:dL names st) {v:Xaa} (h0:st.num v=Option.none):v∉st.dh:=fun hv=>g.fx v hv h0
def PF {names:List Xaa} (hn:names.Nodup) {v:Xaa} {st:TS} (g:dL names st) (hv:v∈names) (h0:st.num v=Option.none):Cn names st (eV v st) :=
 ⟨(g.open hn hv h0).1,fun s n a=>by
   show dO st.num v _ s=some n;rw [cj _ _ (fun e=>by rw [e,h0] at a; cases a)];exact a,⟨[v],rfl⟩⟩
theorem tL {names:List Xaa} (hn:names.Nodup) {own:Xaa->Bool} (b:∀ s,own s=true->s∈names) (succ:Xaa->List Xaa):∀ (f:Nat) (v:Xaa) (st:TS),dL names st->v∈names->st.num v=Option.none->Sx.rK names st<=f->Cn names st (cV own succ f v st)
 | 0,v,st,g,hv,h0,c=>Cn.refl g
 | f+1,v,st,g,hv,h0,c=>by
  obtain ⟨d,e⟩:=g.open hn hv h0;have h2:=BH b (tL hn b succ f) v (succ v) _ d ad;have h3:=(PF hn g hv h0).trans h2;unfold cV;split
  ·exact h3
  ·refine ⟨h3.1.pop v,fun s n h=>by rw [oL]; exact h3.2.1 s n h,?_⟩;obtain ⟨i,j,_⟩:=JS (a:=st.dh) (v:=v) h2.2.2 (g.Y0 h0) rfl;rw [xc,i,j];exact et9 _
def MX {names:List Xaa} (hn:names.Nodup) {own:Xaa->Bool} (a:∀ s,own s=true->s∈names) (succ:Xaa->List Xaa) {v:Xaa} {st:TS} (g:dL names st) (hv:v∈names) (h0:st.num v=Option.none) (d:Sx.rK names st<=H+1) (l:List Xaa) :
  dL names (l.foldl (eU own (cV own succ H) v) (eV v st))/\Sx.rK names (l.foldl (eU own (cV own succ H) v) (eV v st))<=H/\st.dh++[v] <+: (l.foldl (eU own (cV own succ H) v) (eV v st)).dh/\∃ n,(l.foldl (eU own (cV own succ H) v) (eV v st)).num v=some n:=by
 obtain ⟨b,c⟩:=g.open hn hv h0;have h2:=BH a (tL hn a succ H) v l _ b ad;exact ⟨h2.1,by have:=h2.rK; omega,h2.2.2,_,h2.2.1 v (st.jU+1) (cH _ _ _)⟩
def Yu (names:List Xaa):dL names Dq:=⟨by unfold rK Dq; simp,fun s n a=>(by cases a),by simp [Dq],by simp [Dq]⟩
section
variable {E:Xaa->Xaa->Prop}
inductive qD (E:Xaa->Xaa->Prop):Xaa->Xaa->Prop
 | refl (a:Xaa):qD E a a
 | head {a b c:Xaa}:E a b->qD E b c->qD E a c
def qD.trans {a b c:Xaa} (h:qD E a b) (k:qD E b c):qD E a c:=by
 induction h with
 | refl=>exact k
 | head e _ d=>exact .head e (d k)
def qD.one {a b:Xaa} (h:E a b):qD E a b:=.head h (.refl b)
def kV (E:Xaa->Xaa->Prop) (v:Xaa):Prop:=∃ y,E v y/\qD E y v
def kV.of {a b:Xaa} (h:qD E a b) (k:qD E b a) (c:a≠b):kV E a:=by
 cases h with
 | refl=>exact (c rfl).elim
 | head e r=>exact ⟨_,e,r.trans k⟩
structure Inv (E:Xaa->Xaa->Prop) (G:List Xaa) (st:TS):Prop where
 le:∀ s n,st.num s=some n->1<=n/\n<=st.jU
 dh:∀ x,x∈st.dh->st.num x≠none
 on:∀ x,(st.on x).getD false=true↔x∈st.dh
 gr:∀ g,g∈G->g∈st.dh
 cl:∀ x,st.num x≠none->x∉st.dh->∀ y,E x y->st.num y≠none/\y∉st.dh
 bl:∀ x,st.num x≠none->x∉G->∀ y,E x y->st.num y≠none
 rg:∀ x,x∈st.dh->∃ g,g∈G/\qD E x g
 b0:∀ x,st.num x=none->(st.back x).getD false=false
 bc:∀ x,st.num x≠none->x∉st.dh->((st.back x).getD false=true↔kV E x)
 bw:∀ x,x∈st.dh->(st.back x).getD false=true->E x x
 bb:∀ x,x∈st.dh->x∉G->E x x->(st.back x).getD false=true
def Inv.low {G:List Xaa} {st:TS} (i:Inv E G st) (v:Xaa) (n:Nat):Inv E G (Mg v n st):=⟨i.le,i.dh,i.on,i.gr,i.cl,i.bl,i.rg,i.b0,i.bc,i.bw,i.bb⟩
def Inv.Wp {G:List Xaa} {st:TS} (i:Inv E G st) {x y:Xaa} (h:qD E x y):st.num x≠none->x∉st.dh->st.num y≠none/\y∉st.dh:=by
 induction h with
 | refl=>exact fun h k=>⟨h,k⟩
 | head e _ a=>intro h k; obtain ⟨h2,b⟩:=i.cl _ h k _ e; exact a h2 b
def Inv.self {G:List Xaa} {st:TS} (i:Inv E G st) {v w:Xaa} (hv:v∈G) (g:w=v->E v v):Inv E G (fL v w st):=by
 unfold fL;split
 ·rename_i h;have hw:=i.gr v hv;have hn:=i.dh v hw;refine ⟨i.le,i.dh,i.on,i.gr,i.cl,i.bl,i.rg,fun x b=>?_,fun x b c=>?_,fun x b d=>?_,fun x b f j=>?_⟩
  ·have a:x≠v:=fun e=>hn (by rw [<- e]; exact b)
   show (dO st.back v true x).getD false=false;rw [cj _ _ a]; exact i.b0 x b
  ·have a:x≠v:=fun e=>c (by rw [e]; exact hw)
   show (dO st.back v true x).getD false=true↔_;rw [cj _ _ a]; exact i.bc x b c
  ·by_cases e:x=v
   ·subst e; exact g h
   ·have d:(dO st.back v true x).getD false=true:=d;rw [cj _ _ e] at d; exact i.bw x b d
  ·have a:x≠v:=fun e=>f (by rw [e]; exact hv)
   show (dO st.back v true x).getD false=true;rw [cj _ _ a]; exact i.bb x b f j
 ·exact i
def Inv.open {G:List Xaa} {st:TS} (i:Inv E G st) {v:Xaa} (h0:st.num v=none):Inv E (v::G) (eV v st):=by
 have q:v∉st.dh:=fun h=>i.dh v h h0
 have a:∀ {x},x≠v->(eV v st).num x=st.num x:=fun h=>cj _ _ h
 have mono:∀ {x},st.num x≠none->(eV v st).num x≠none:=by
  intro x h;rw [a (fun e=>h (by rw [e]; exact h0))]; exact h
 refine ⟨fun s n f=>?_,fun x b=>?_,fun x=>?_,fun g j=>?_,fun x b c y o=>?_,fun x b m y o=>?_,fun x b=>?_,fun x b=>?_,fun x b c=>?_,fun x b l=>?_,fun x b j p=>?_⟩
 ·show 1<=n/\n<=st.jU+1
  by_cases e:s=v
  ·subst e;have f:dO st.num s (st.jU+1) s=some n:=f;rw [cH] at f
   have:=ay9 f
   omega
  ·rw [a e] at f
   have:=i.le s n f
   omega
 ·rcases as9.1 (show x∈st.dh++[v] from b) with h | h
  ·exact mono (i.dh x h)
  ·rw [ak9.1 h];show dO st.num v _ v≠none;rw [cH]; simp
 ·show (dO st.on v true x).getD false=true↔x∈st.dh++[v]
  by_cases e:x=v
  ·subst e; rw [cH]; simp
  ·rw [cj _ _ e,i.on x]; simp [e]
 ·show g∈st.dh++[v];rcases bd9.1 j with h | h
  ·simp [h]
  ·exact bh9 _ (i.gr g h)
 ·have c:x∉st.dh++[v]:=c;have d:x≠v:=fun e=>c (by simp [e])
  rw [a d] at b;obtain ⟨h1,h2⟩:=i.cl x b (fun h=>c (bh9 _ h)) y o;refine ⟨mono h1,?_⟩;show y∉st.dh++[v];intro h;rcases as9.1 h with h | h
  ·exact h2 h
  ·exact h1 (by rw [ak9.1 h]; exact h0)
 ·have d:x≠v:=fun e=>m (by simp [e])
  rw [a d] at b;exact mono (i.bl x b (fun h=>m (ap9 _ h)) y o)
 ·rcases as9.1 (show x∈st.dh++[v] from b) with h | h
  ·obtain ⟨g,j,r⟩:=i.rg x h;exact ⟨g,ap9 _ j,r⟩
  ·rw [ak9.1 h];exact ⟨v,ai,.refl v⟩
 ·have d:x≠v:=by
   intro e;subst e;have b:dO st.num x _ x=none:=b;rw [cH] at b; cases b
  rw [a d] at b;exact i.b0 x b
 ·have c:x∉st.dh++[v]:=c;have d:x≠v:=fun e=>c (by simp [e])
  rw [a d] at b;exact i.bc x b (fun h=>c (bh9 _ h))
 ·rcases as9.1 (show x∈st.dh++[v] from b) with h | h
  ·exact i.bw x h l
  ·rw [ak9.1 h] at l;have l:(st.back v).getD false=true:=l;rw [i.b0 v h0] at l; cases l
 ·have d:x≠v:=fun e=>j (by simp [e])
  rcases as9.1 (show x∈st.dh++[v] from b) with h | h
  ·exact i.bb x h (fun k=>j (ap9 _ k)) p
  ·exact (d (ak9.1 h)).elim
def vF (st:TS) (v:Xaa):Nat:=(st.low v).getD 0
def tD (st:TS) (v:Xaa):Nat:=(st.num v).getD 0
def UY (s0 st:TS):Prop:=∀ s,s0.num s≠none->st.num s=s0.num s/\st.low s=s0.low s/\st.back s=s0.back s
def YQ (s0 st:TS):Prop:=∀ s n,s0.num s=none->st.num s=some n->s0.jU<n
def V9 (E:Xaa->Xaa->Prop) (v:Xaa) (s0 st:TS) (x:Xaa):Prop:=s0.num x=none/\qD E v x/\∀ y,E x y->y∈s0.dh->vF st v<=tD st y
structure oW (E:Xaa->Xaa->Prop) (G:List Xaa) (v:Xaa) (s0 st:TS):Prop where
 inv:Inv E G st
 old:UY s0 st
 jU:s0.jU<=st.jU
 new:YQ s0 st
 num:∃ n,st.num v=some n
 dh:∃ X,st.dh=s0.dh++X/\∀ x,x∈X->V9 E v s0 st x
 low:vF st v<tD st v->∃ y,y∈s0.dh/\qD E v y/\st.num y=some (vF st v)
structure H2 (E:Xaa->Xaa->Prop) (own:Xaa->Bool) (G:List Xaa) (v:Xaa) (P:List Xaa) (s0 st:TS):Prop where
 inv:Inv E (v::G) st
 old:UY s0 st
 jU:s0.jU<=st.jU
 new:YQ s0 st
 num:st.num v=some (s0.jU+1)
 dh:∃ X,st.dh=s0.dh++v::X/\∀ x,x∈X->x≠v/\V9 E v s0 st x
 low:vF st v<s0.jU+1->∃ y,y∈s0.dh/\qD E v y/\st.num y=some (vF st v)
 iC:∀ w,w∈P->own w=true->st.num w≠none/\(w∈s0.dh->vF st v<=tD st w)/\(w=v->(st.back v).getD false=true)
def H2.start {own:Xaa->Bool} {G:List Xaa} {v:Xaa} {s0:TS} (i:Inv E G s0) (h0:s0.num v=none):H2 E own G v [] s0 (eV v s0):=by
 refine ⟨i.open h0,fun s b=>?_,Nat.le_succ _,fun s n b hn=>?_,cH _ _ _,⟨[],rfl,fun x c=>by simp at c⟩,fun hl=>?_,fun w d=>by simp at d⟩
 ·have a:s≠v:=fun e=>b (by rw [e]; exact h0)
  exact ⟨cj _ _ a,cj _ _ a,rfl⟩
 ·by_cases e:s=v
  ·subst e;have hn:dO s0.num s (s0.jU+1) s=some n:=hn;rw [cH] at hn
   have:=ay9 hn
   omega
  ·have hn:dO s0.num v (s0.jU+1) s=some n:=hn;rw [cj _ _ e,b] at hn; cases hn
 ·have hl:(dO s0.low v (s0.jU+1) v).getD 0<s0.jU+1:=hl;rw [cH] at hl;simp at hl
def H2.self {own:Xaa->Bool} {G:List Xaa} {v w:Xaa} {P:List Xaa} {s0 st:TS} (m:H2 E own G v P s0 st) (h0:s0.num v=none) (o:w=v->E v v) :
  H2 E own G v P s0 (fL v w st)/\(w=v->((fL v w st).back v).getD false=true):=by
 obtain ⟨d,p,q,B,i⟩:=iN v w st;have r:∀ s,s≠v->(fL v w st).back s=st.back s:=by
  intro s f;unfold fL;split
  ·exact cj _ _ f
  ·rfl
 have j:w=v->((fL v w st).back v).getD false=true:=by
  intro e;unfold fL;rw [af9 e];show (dO st.back v true v).getD false=true;rw [cH]; rfl
 have g:(st.back v).getD false=true->((fL v w st).back v).getD false=true:=by
  intro h;unfold fL;split
  ·show (dO st.back v true v).getD false=true;rw [cH]; rfl
  ·exact h
 refine ⟨⟨m.inv.self ai o,fun s f=>?_,by rw [p]; exact m.jU,fun s n f hn=>by rw [d] at hn; exact m.new s n f hn,by rw [d]; exact m.num,?_,?_,fun u t y=>?_⟩,j⟩
 ·have k:s≠v:=fun e=>f (by rw [e]; exact h0)
  rw [d,i,r s k];exact m.old s f
 ·obtain ⟨X,z,A⟩:=m.dh;refine ⟨X,by rw [q]; exact z,fun x l=>?_⟩
  have:=A x l
  unfold V9 vF tD at *;rw [d,i];exact this
 ·unfold vF;rw [d,i];exact m.low
 ·obtain ⟨a,b,c⟩:=m.iC u t y;unfold vF tD at *;rw [d,i];exact ⟨a,b,fun e=>g (c e)⟩
def qb (v:Xaa) (n:Nat) (st:TS):vF (Mg v n st) v=min (vF st v) n:=by
 unfold vF;show (dO st.low v _ v).getD 0=_;rw [cH]; rfl
def H2.rest {own:Xaa->Bool} {G:List Xaa} {v w:Xaa} {P:List Xaa} {s0 st:TS} {iC:Xaa->TS->TS} (i0:Inv E G s0) (m:H2 E own G v P s0 st) (h0:s0.num v=none) (V:∀ g,g∈G->qD E g v) (H:E v w)
  (U:w=v->(st.back v).getD false=true) (W:(st.num w).getD 0=0->st.num w=none) (I:st.num w=none->(∀ g,g∈v::G->qD E g w)->oW E (v::G) w st (iC w st)) :
  H2 E own G v (P++[w]) s0 (uq iC v w st):=by
 obtain ⟨X,F,N⟩:=m.dh;have hv:st.num v≠none:=by rw [m.num]; simp
 have z:∀ s,s0.num s≠none->st.num s≠none:=fun s q=>by rw [(m.old s q).1]; exact q
 have i:∀ y,y∈s0.dh->y∈st.dh:=fun y l=>by rw [F]; exact bh9 _ l
 unfold uq;split
 ·rename_i A;have hw:=W A;have O:w≠v:=fun e=>hv (by rw [<- e]; exact hw)
  have p:=I hw (fun g Y=>by
   rcases bd9.1 Y with h | h
   ·rw [h]; exact .one H
   ·exact (V g h).trans (.one H))
  generalize iC w st=f at p ⊢;show H2 E own G v (P++[w]) s0 (Mg v (vF f w) f);obtain ⟨Z,Q,R⟩:=p.dh;have j:vF f v=vF st v:=by unfold vF; rw [(p.old v hv).2.1]
  have r:f.num v=some (s0.jU+1):=by rw [(p.old v hv).1]; exact m.num
  refine ⟨p.inv.low v _,fun s q=>?_,cn9 m.jU p.jU,fun s n q hn=>?_,r,⟨X++Z,?_,fun x B=>?_⟩,fun hl=>?_,fun u J K=>?_⟩
  ·have C:s≠v:=fun e=>q (by rw [e]; exact h0)
   obtain ⟨a,b,c⟩:=m.old s q;obtain ⟨a2,b2,c2⟩:=p.old s (z s q);refine ⟨a2.trans a,?_,c2.trans c⟩;show dO f.low v _ s=_;rw [cj _ _ C];exact b2.trans b
  ·by_cases h1:st.num s=none
   ·have:=p.new s n h1 hn
    have:=m.jU
    omega
   ·have hn:f.num s=some n:=hn;rw [(p.old s h1).1] at hn;exact m.new s n q hn
  ·show f.dh=_;rw [Q,F,bb9,ez9]
  ·rcases as9.1 B with h | h
   ·obtain ⟨a,b,c,d⟩:=N x h;refine ⟨a,b,c,fun y l o=>?_⟩;rw [qb,j]
    have:=d y l o
    have e:tD f y=tD st y:=by unfold tD; rw [(p.old y (m.inv.dh y (i y o))).1]
    show _<=tD f y;omega
   ·obtain ⟨b,c,d⟩:=R x h;refine ⟨fun e=>hv (by rw [<- e]; exact b),?_,qD.head H c,fun y l o=>?_⟩
    ·apply ew9;intro k;exact z x k b
    ·rw [qb]
     have:=d y l (i y o)
     show _<=tD f y;omega
  ·rw [qb,j] at hl ⊢;show ∃ y,y∈s0.dh/\qD E v y/\f.num y=_
   by_cases hc:vF st v<=vF f w
   ·rw [db9 hc] at hl ⊢;obtain ⟨y,l,S,hn⟩:=m.low hl;exact ⟨y,l,S,by rw [(p.old y (m.inv.dh y (i y l))).1]; exact hn⟩
   ·rw [Nat.min_eq_right ad] at hl ⊢;obtain ⟨n,hn⟩:=p.num;have h2:=p.new w n hw hn;have h3:=m.jU;obtain ⟨y,l,S,t⟩:=p.low (by unfold tD; rw [hn]; simp; omega);refine ⟨y,?_,qD.head H S,t⟩;rw [F] at l;rcases as9.1 l with h | h
    ·exact h
    ·rcases bd9.1 h with h | h
     ·rw [h,r] at t
      have:=ay9 t
      omega
     ·have L:st.num y≠none:=m.inv.dh y (by rw [F]; exact bp9 _ (ap9 _ h));rw [(p.old y L).1] at t
      have:=m.new y _ (N y h).2.1 t
      omega
  ·rw [qb,j];rcases as9.1 J with h | h
   ·obtain ⟨a,b,c⟩:=m.iC u h K;have hn:f.num u=st.num u:=(p.old u a).1;refine ⟨by show f.num u≠none; rw [hn]; exact a,fun k=>?_,fun k=>?_⟩
    ·have:=b k
     have e:tD f u=tD st u:=by unfold tD; rw [hn]
     show _<=tD f u;omega
    ·show (f.back v).getD false=true;rw [(p.old v hv).2.2];exact c k
   ·have h:=ak9.1 h;subst h;obtain ⟨n,hn⟩:=p.num;exact ⟨by show f.num u≠none; rw [hn]; simp,fun k=>(m.inv.dh u (i u k) hw).elim,fun k=>(O k).elim⟩
 ·rename_i A;have hw:st.num w≠none:=fun e=>A (by rw [e]; rfl)
  obtain ⟨n,hn⟩:=Option.ne_none_iff_exists'.1 hw;split
  ·rename_i D;have hwy:=(m.inv.on w).1 D;have M:(st.num w).getD 0=n:=by rw [hn]; rfl
   rw [M];refine ⟨m.inv.low v _,fun s q=>?_,m.jU,m.new,m.num,⟨X,F,fun x B=>?_⟩,fun hl=>?_,fun u J K=>?_⟩
   ·have C:s≠v:=fun e=>q (by rw [e]; exact h0)
    obtain ⟨a,b,c⟩:=m.old s q;refine ⟨a,?_,c⟩;show dO st.low v _ s=_;rw [cj _ _ C];exact b
   ·obtain ⟨a,b,c,d⟩:=N x B;refine ⟨a,b,c,fun y l o=>?_⟩;rw [qb]
    have:=d y l o
    show _<=tD st y;omega
   ·rw [qb] at hl ⊢;show ∃ y,y∈s0.dh/\qD E v y/\st.num y=_
    by_cases hc:vF st v<=n
    ·rw [db9 hc] at hl ⊢;exact m.low hl
    ·rw [Nat.min_eq_right ad] at hl ⊢;refine ⟨w,?_,.one H,hn⟩;rw [F] at hwy;rcases as9.1 hwy with h | h
     ·exact h
     ·rcases bd9.1 h with h | h
      ·rw [h,m.num] at hn
       have:=ay9 hn
       omega
      ·have:=m.new w _ (N w h).2.1 hn
       omega
   ·rw [qb];rcases as9.1 J with h | h
    ·obtain ⟨a,b,c⟩:=m.iC u h K;refine ⟨a,fun k=>?_,c⟩
     have:=b k
     show _<=tD st u;omega
    ·have h:=ak9.1 h;subst h;refine ⟨hw,fun k=>?_,U⟩;show _<=(st.num u).getD 0;rw [M];omega
  ·rename_i D;refine ⟨m.inv,m.old,m.jU,m.new,m.num,m.dh,m.low,fun u J K=>?_⟩;rcases as9.1 J with h | h
   ·exact m.iC u h K
   ·have h:=ak9.1 h;subst h;exact ⟨hw,fun k=>(D ((m.inv.on u).2 (i u k))).elim,U⟩
def H2.Xa {own:Xaa->Bool} {succ:Xaa->List Xaa} {G:List Xaa} {v:Xaa} {s0 st:TS} (A:∀ a b,E a b↔b∈succ a/\own b=true) (i0:Inv E G s0) (m:H2 E own G v (succ v) s0 st) (hl:vF st v<tD st v):oW E G v s0 st:=by
 obtain ⟨X,C,D⟩:=m.dh;have F:tD st v=s0.jU+1:=by unfold tD; rw [m.num]; rfl
 have i:=m.inv;have H:v∈st.dh:=i.gr v ai;have iC:∀ y,E v y->st.num y≠none/\(y∈s0.dh->vF st v<=tD st y)/\(y=v->(st.back v).getD false=true):=fun y c=>m.iC y ((A v y).1 c).1 ((A v y).1 c).2
 obtain ⟨B,j,k,o⟩:=m.low ad;obtain ⟨I,p,q⟩:=i0.rg B j;refine ⟨⟨i.le,i.dh,i.on,fun g s=>i.gr g (ap9 _ s),i.cl,fun x t d y c=>?_,fun x f=>?_,i.b0,i.bc,i.bw,fun x f d l=>?_⟩,m.old,m.jU,m.new,⟨_,m.num⟩,⟨v::X,C,fun x u=>?_⟩,fun _=>⟨B,j,k,o⟩⟩
 ·by_cases e:x=v
  ·subst e; exact (iC y c).1
  ·exact i.bl x t (by simp [e,d]) y c
 ·obtain ⟨g,s,r⟩:=i.rg x f;rcases bd9.1 s with h | h
  ·rw [h] at r;exact ⟨I,p,(r.trans k).trans q⟩
  ·exact ⟨g,h,r⟩
 ·by_cases e:x=v
  ·subst e; exact (iC x l).2.2 rfl
  ·exact i.bb x f (by simp [e,d]) l
 ·rcases bd9.1 u with h | h
  ·subst h;refine ⟨?_,.refl x,fun y c w=>(iC y c).2.1 w⟩;cases z:s0.num x with
   | none=>rfl
   | some n =>
    have h1:=(m.old x (by rw [z]; simp)).1;rw [z,m.num] at h1
    have:=ay9 h1
    have:=(i0.le x n z).2
    omega
  ·exact (D x h).2
open Classical in
def Wg (qT:Bool) (x:Xaa) (l:List Xaa):∀ st:TS,((l.foldl (qt qT) st).on x).getD false=(if x∈l then false else (st.on x).getD false)/\((l.foldl (qt qT) st).back x).getD false=(if x∈l then ((st.back x).getD false || qT) else (st.back x).getD false)/\(x∉l->(l.foldl (qt qT) st).back x=st.back x):=by
 induction l with
 | nil=>intro st; simp
 | cons y l g =>
  intro st;rw [br9];obtain ⟨a,b,c⟩:=g (qt qT st y);rw [a,b]
  by_cases e:x=y
  ·subst e;have f:((qt qT st x).on x)=some false:=cH _ _ _;have d:((qt qT st x).back x)=some ((st.back x).getD false || qT):=cH _ _ _;rw [f,d];refine ⟨ai,by by_cases i:x∈l <;> simp [i],fun h=>(h ai).elim⟩
  ·have f:((qt qT st y).on x)=st.on x:=cj _ _ e;have d:((qt qT st y).back x)=st.back x:=cj _ _ e;rw [f,d];refine ⟨by simp [e],by simp [e],fun h=>?_⟩;rw [c (fun k=>h (ap9 _ k)),d]
open Classical in
def H2.XE {own:Xaa->Bool} {succ:Xaa->List Xaa} {G:List Xaa} {v:Xaa} {s0 st:TS} (Z:∀ a b,E a b↔b∈succ a/\own b=true) (i0:Inv E G s0) (m:H2 E own G v (succ v) s0 st) (h0:s0.num v=none) (hG:∀ g,g∈G->qD E g v) (hl:¬ vF st v<tD st v):oW E G v s0 (r5 v st):=by
 obtain ⟨X,P,L⟩:=m.dh;have hnv:tD st v=s0.jU+1:=by unfold tD; rw [m.num]; rfl
 have i:=m.inv;have M:v∈st.dh:=i.gr v ai;have iC:∀ y,E v y->st.num y≠none/\(y∈s0.dh->vF st v<=tD st y)/\(y=v->(st.back v).getD false=true):=fun y p=>m.iC y ((Z v y).1 p).1 ((Z v y).1 p).2
 have ep:v∉s0.dh:=fun h=>i0.dh v h h0
 obtain ⟨e1,e2,e3⟩:=JS (a:=s0.dh) (v:=v) (b:=st.dh) ⟨X,by rw [P]; simp⟩ ep rfl;have o:st.dh.drop (sC v st)=v::X:=by rw [e1,P]; simp
 have w:decide (1<st.dh.length-sC v st)=decide (1<(v::X).length):=by rw [<- o,cb9]
 have j:(r5 v st).dh=s0.dh:=by rw [xc,e1,e2]
 have hnum:=oL v st;have hlow:=Ru v st;have hcnt:=AM v st;have hoff:=fun x=>Wg (decide (1<(v::X).length)) x (v::X) st
 have Q:∀ x,((r5 v st).on x).getD false=(if x∈v::X then false else (st.on x).getD false):=by
  intro x;rw [<- (hoff x).1];unfold r5;rw [o,w]
 have B:∀ x,((r5 v st).back x).getD false=(if x∈v::X then ((st.back x).getD false || decide (1<(v::X).length)) else (st.back x).getD false):=by
  intro x;rw [<- (hoff x).2.1];unfold r5;rw [o,w]
 have R:∀ x,x∉v::X->(r5 v st).back x=st.back x:=by
  intro x hh;rw [<- (hoff x).2.2 hh];unfold r5;rw [o,w]
 have C:∀ x,x∈v::X->s0.num x=none:=by
  intro x h;rcases bd9.1 h with h | h
  ·rw [h]; exact h0
  ·exact (L x h).2.1
 have A:∀ x,x∈s0.dh->x∉v::X:=fun x h k=>i0.dh x h (C x k)
 have f:∀ x,x∈st.dh↔x∈s0.dh\/x∈v::X:=fun x=>by rw [P]; exact as9
 have t:∀ y,y∈s0.dh->¬ vF st v<=tD st y:=by
  intro y p;obtain ⟨n,hn⟩:=Option.ne_none_iff_exists'.1 (i0.dh y p)
  have:=(i0.le y n hn).2
  have e:tD st y=n:=by unfold tD; rw [(m.old y (i0.dh y p)).1,hn]; rfl
  omega
 have D:∀ x,st.num x≠none->x∉G->∀ y,E x y->st.num y≠none:=by
  intro x l q y p
  by_cases e:x=v
  ·subst e; exact (iC y p).1
  ·exact i.bl x l (by simp [e,q]) y p
 have N:∀ x,x∈st.dh->qD E x v:=by
  intro x h;obtain ⟨g,S,r⟩:=i.rg x h;rcases bd9.1 S with h | h
  ·rw [h] at r; exact r
  ·exact r.trans (hG g h)
 refine ⟨⟨fun s n F=>?_,fun x d=>?_,fun x=>?_,fun g S=>?_,fun x l d y p=>?_,fun x l q y p=>?_,fun x d=>?_,fun x H=>?_,fun x l d=>?_,fun x d I=>?_,fun x d q U=>?_⟩,fun s F=>?_,by rw [hcnt]; exact m.jU,fun s n F hn=>by rw [hnum] at hn; exact m.new s n F hn,⟨_,by rw [hnum]; exact m.num⟩,⟨[],by rw [j]; simp,fun x J=>by simp at J⟩,fun t=>?_⟩
 ·rw [hnum] at F; rw [hcnt]; exact i.le s n F
 ·rw [hnum]; rw [j] at d; exact i.dh x ((f x).2 (.inl d))
 ·rw [Q,j]
  by_cases h:x∈v::X
  ·rw [af9 h];exact ⟨fun k=>(by cases k),fun k=>(A x k h).elim⟩
  ·rw [ac9 h,i.on x,f];exact ⟨fun k=>k.resolve_right h,.inl⟩
 ·rw [j]; exact i0.gr g S
 ·rw [hnum] at l ⊢;rw [j] at d ⊢
  by_cases h:x∈v::X
  ·have q:x∉G:=fun k=>d (i0.gr x k)
   refine ⟨D x l q y p,fun K=>t y K ?_⟩;rcases bd9.1 h with h | h
   ·subst h; exact (iC y p).2.1 K
   ·exact (L x h).2.2.2 y p K
  ·obtain ⟨a,b⟩:=i.cl x l (fun k=>((f x).1 k).elim d h) y p;exact ⟨a,fun k=>b ((f y).2 (.inl k))⟩
 ·rw [hnum] at l ⊢;exact D x l q y p
 ·rw [j] at d; exact i0.rg x d
 ·rw [hnum] at H;rw [B,ac9 (fun k=>i.dh x ((f x).2 (.inr k)) H)];exact i.b0 x H
 ·rw [hnum] at l;rw [j] at d;rw [B]
  by_cases h:x∈v::X
  ·rw [af9 h]
   by_cases I:1<(v::X).length
   ·rw [ai9 I,Bool.or_true];refine ⟨fun _=>?_,fun _=>rfl⟩
    by_cases e:x=v
    ·subst e;obtain ⟨z,V⟩:∃ z,z∈X:=by
      cases X with
      | nil=>simp at I
      | cons z X=>exact ⟨z,ai⟩
     exact kV.of (L z V).2.2.1 (N z ((f z).2 (.inr (ap9 _ V)))) (fun e=>(L z V).1 e.symm)
    ·have J:x∈X:=(bd9.1 h).resolve_left e;exact kV.of (N x ((f x).2 (.inr h))) (L x J).2.2.1 e
   ·rw [aj9 I,Bool.or_false];have W:X=[]:=by
     cases X with
     | nil=>rfl
     | cons z X=>simp at I
    subst W;have e:x=v:=by simpa using h
    subst e;refine ⟨fun k=>⟨x,i.bw x M k,.refl x⟩,?_⟩;rintro ⟨u,hu,r⟩;obtain ⟨a,b,c⟩:=iC u hu
    by_cases O:u∈st.dh
    ·rcases (f u).1 O with k | k
     ·exact (t u k (b k)).elim
     ·exact c (by simpa using k)
    ·exact ((i.Wp r a O).2 M).elim
  ·rw [ac9 h];exact i.bc x l (fun k=>((f x).1 k).elim d h)
 ·rw [j] at d;rw [B,ac9 (A x d)] at I;exact i.bw x ((f x).2 (.inl d)) I
 ·rw [j] at d;rw [B,ac9 (A x d)];exact i.bb x ((f x).2 (.inl d)) (fun k=>by
   rcases bd9.1 k with k | k
   ·exact ep (by rw [<- k]; exact d)
   ·exact q k) U
 ·have Y:s∉v::X:=fun k=>F (C s k)
  rw [hnum,hlow,R s Y];exact m.old s F
 ·unfold vF tD at t hl;rw [hlow,hnum] at t;exact (hl t).elim
end
section
variable {own:Xaa->Bool} {succ:Xaa->List Xaa} {names:List Xaa}
def Edge (own:Xaa->Bool) (succ:Xaa->List Xaa) (a b:Xaa):Prop:=b∈succ a/\own b=true
theorem Hn (hn:names.Nodup) (a:∀ s,own s=true->s∈names) {f:Nat} (b:∀ (v:Xaa) (G:List Xaa) (st:TS),dL names st->Inv (Edge own succ) G st->v∈names->st.num v=Option.none->Sx.rK names st<=f->(∀ g,g∈G->qD (Edge own succ) g v)->oW (Edge own succ) G v st (cV own succ f v st))
  {v:Xaa} {G:List Xaa} {s0:TS} (i0:Inv (Edge own succ) G s0) (h0:s0.num v=Option.none) (o:∀ g,g∈G->qD (Edge own succ) g v) :
  ∀ (l P:List Xaa) (st:TS),(∀ w,w∈l->w∈succ v)->dL names st->Sx.rK names st<=f->H2 (Edge own succ) own G v P s0 st->H2 (Edge own succ) own G v (P++l) s0 (l.foldl (eU own (cV own succ f) v) st)
 | [],P,st,hl,g,c,m=>by simpa using m
 | w::l,P,st,hl,g,c,m=>by
  rw [br9,show P++w::l=(P++[w])++l from ai];have hok:=GF a (tL hn a succ f) (v:=v) (w:=w) g c;refine Hn hn a b i0 h0 o l (P++[w]) _ (fun u c=>hl u (ap9 _ c)) hok.1 (cn9 hok.rK c) ?_;unfold eU;split
  ·rename_i i;have j:Edge own succ v w:=⟨hl w ai,i⟩
   obtain ⟨p,q⟩:=m.self (w:=w) h0 (fun e=>by rw [e] at j; exact j);have g1:=g.self v w;have k:Sx.rK names (fL v w st)<=f:=by unfold Sx.rK; rw [(iN v w st).1]; exact c
   exact p.rest i0 h0 o j q (fun r=>g1.none r) (fun t n=>b w (v::G) _ g1 p.inv (a w i) t k n)
  ·rename_i i;refine ⟨m.inv,m.old,m.jU,m.new,m.num,m.dh,m.low,fun u c d=>?_⟩;rcases as9.1 c with h | h
   ·exact m.iC u h d
   ·rw [ak9.1 h] at d;exact (i d).elim
theorem B7 (hn:names.Nodup) (c:∀ s,own s=true->s∈names):∀ (f:Nat) (v:Xaa) (G:List Xaa) (st:TS),dL names st->Inv (Edge own succ) G st->v∈names->st.num v=Option.none->Sx.rK names st<=f->(∀ g,g∈G->qD (Edge own succ) g v)->oW (Edge own succ) G v st (cV own succ f v st)
 | 0,v,G,st,g,i,hv,h0,e,d=>by
  have:=(g.open hn hv h0).2
  omega
 | f+1,v,G,st,g,i,hv,h0,e,d=>by
  obtain ⟨j,k⟩:=g.open hn hv h0;have m:=Hn hn c (B7 hn c f) i h0 d (succ v) [] _ (fun _ h=>h) j ad (H2.start i h0);rw [dc9] at m;unfold cV;split
  ·rename_i hl;exact m.Xa (fun a b=>Iff.rfl) i hl
  ·rename_i hl;exact m.XE (fun a b=>Iff.rfl) i h0 d hl
def Zq (E:Xaa->Xaa->Prop):Inv E [] Dq:=by
 refine ⟨fun s n b=>(by cases b),fun x a=>by simp [Dq] at a,fun x=>by simp [Dq],fun g c=>by simp at c,fun x a=>(a rfl).elim,fun x a=>(a rfl).elim,fun x a=>by simp [Dq] at a,fun x a=>rfl,fun x a=>(a rfl).elim,fun x a=>by simp [Dq] at a,fun x a=>by simp [Dq] at a⟩
structure Xt (own:Xaa->Bool) (succ:Xaa->List Xaa) (names:List Xaa) (P:List Xaa) (st:TS):Prop where
 pV:dL names st
 inv:Inv (Edge own succ) [] st
 dh:st.dh=[]
 iC:∀ s,s∈P->st.num s≠Option.none
def N6 (hn:names.Nodup) (a:∀ s,own s=true->s∈names) {P:List Xaa} {st:TS} (t:Xt own succ names P st) {v:Xaa} (hv:v∈names):Xt own succ names (P++[v]) (xF own succ names.length st v):=by
 have d:Sx.rK names st<=names.length:=do9 _ _;unfold xF;split
 ·rename_i h;have h0:=t.pV.none h;have p:=B7 hn a names.length v [] st t.pV t.inv hv h0 d (fun g b=>by simp at b);have k:=tL hn a succ names.length v st t.pV hv h0 d;refine ⟨k.1,p.inv,?_,fun s c=>?_⟩
  ·cases f:(cV own succ names.length v st).dh with
   | nil=>rfl
   | cons x l =>
    obtain ⟨g,b,_⟩:=p.inv.rg x (by rw [f]; simp);simp at b
  ·rcases as9.1 c with h | h
   ·rw [(p.old s (t.iC s h)).1]; exact t.iC s h
   ·rw [ak9.1 h];obtain ⟨n,hn⟩:=p.num;rw [hn]; simp
 ·rename_i h;refine ⟨t.pV,t.inv,t.dh,fun s c=>?_⟩;rcases as9.1 c with k | k
  ·exact t.iC s k
  ·rw [ak9.1 k];intro e;exact h (by rw [e]; rfl)
def YN (names:List Xaa):Xt own succ names [] Dq:=⟨Yu names,Zq _,rfl,fun s a=>by simp at a⟩
theorem D1 (hn:names.Nodup) (a:∀ s,own s=true->s∈names):∀ (l P:List Xaa) (st:TS),(∀ s,s∈l->s∈names)->Xt own succ names P st->Xt own succ names (P++l) (l.foldl (xF own succ names.length) st)
 | [],P,st,hl,t=>by simpa using t
 | w::l,P,st,hl,t=>by
  rw [br9,show P++w::l=(P++[w])++l from ai];exact D1 hn a l _ _ (fun s b=>hl s (ap9 _ b)) (N6 hn a t (hl w ai))
def kV.Uy {v:Xaa} (h:kV (Edge own succ) v):own v=true:=by
 obtain ⟨y,e,r⟩:=h;have c:∀ a b,qD (Edge own succ) a b->own a=true->own b=true:=by
  intro a b r
  induction r with
  | refl=>exact id
  | head e _ d=>exact fun _=>d e.2
 exact c _ _ r e.2
def Jk (hn:names.Nodup) (a:∀ s,own s=true->s∈names) (s:Xaa):((HZ own succ names).back s).getD false=true↔kV (Edge own succ) s:=by
 have t:Xt own succ names ([]++names) (HZ own succ names):=D1 hn a names [] Dq (fun _ h=>h) (YN names);rw [dc9] at t
 by_cases h:(HZ own succ names).num s=Option.none
 ·rw [t.inv.b0 s h];refine ⟨fun k=>(by cases k),fun k=>?_⟩;exact (t.iC s (a s k.Uy) h).elim
 ·exact t.inv.bc s h (by rw [t.dh]; simp)
end
theorem kb {α:Type} [DecidableEq α]:∀ (l m:List α),l.Nodup->(∀ x,x∈l->x∈m)->l.length<=m.length
 | [],m,_,_=>ai
 | x::l,m,hn,a=>by
  obtain ⟨h1,h2⟩:=ed9.1 hn;have hx:=a x ai
  have:=kb l (m.erase x) h2 (fun y b=>(List.mem_erase_of_ne (fun e=>h1 (by rw [<- e]; exact b))).2 (a y (ap9 _ b)))
  rw [List.length_erase_of_mem hx] at this;have hp:=List.length_pos_of_mem hx;simp only [List.length_cons];omega
def qB {of a:Xaa->Option bJ} {x:bJ} (h:∀ t,t∈x.ah->of t.1=a t.1):dr of x=dr a x:=by
 have h1:x.ah.flatMap (sE of)=x.ah.flatMap (sE a):=by
  have:∀ l:dm,(∀ t,t∈l->of t.1=a t.1)->l.flatMap (sE of)=l.flatMap (sE a):=by
   intro l
   induction l with
   | nil=>intro _; rfl
   | cons t l b =>
    intro hl;rw [cd9,cd9,b (fun u c=>hl u (ap9 _ c))]
    congr 1
    unfold sE;rw [hl t ai]
  exact this _ h
 have h2:x.ah.foldl (gC of) x.num=x.ah.foldl (gC a) x.num:=by
  have:∀ (l:dm) (n:Nat),(∀ t,t∈l->of t.1=a t.1)->l.foldl (gC of) n=l.foldl (gC a) n:=by
   intro l
   induction l with
   | nil=>intro n _; rfl
   | cons t l b =>
    intro n hl;rw [br9,br9,b _ (fun u c=>hl u (ap9 _ c))]
    congr 1
    unfold gC;rw [hl t ai]
  exact this _ _ h
 unfold dr;rw [h1,h2]
section
variable (own:Xaa->Bool) (lin:Xaa->bJ)
def cS:Xaa->List Xaa:=fun v=>(lin v).ah.map (·.1)
def rJ:Nat->Xaa->bJ
 | 0,v=>lin v
 | f+1,v=>dr (fun s=>if own s=true then some (rJ f s) else none) (lin v)
end
def Hg (E:Xaa->Xaa->Prop):Nat->Xaa->Prop
 | 0,_=>False
 | k+1,v=>∀ y,E v y->Hg E k y
theorem QO {E:Xaa->Xaa->Prop} {Q:Xaa->Prop} (h:∀ v,(∀ y,E v y->Q y)->Q v):∀ k v,Hg E k v->Q v
 | 0,v,hv=>hv.elim
 | k+1,v,hv=>h v fun y a=>QO h k y (hv y a)
section
variable {own:Xaa->Bool} {lin:Xaa->bJ} {names:List Xaa}
def lR {v s:Xaa}:s∈cS lin v↔∃ t,t∈(lin v).ah/\t.1=s:=by simp [cS]
theorem zc:∀ (f g:Nat) (v:Xaa),Hg (Edge own (cS lin)) f v->f<=g->rJ own lin f v=rJ own lin g v
 | 0,g,v,h,_=>h.elim
 | f+1,0,v,h,b=>ad
 | f+1,g+1,v,h,b=>by
  unfold rJ;refine qB fun t ht=>?_
  show (if own t.1=true then some (rJ own lin f t.1) else none)=if own t.1=true then some (rJ own lin g t.1) else none
  by_cases a:own t.1=true
  ·rw [af9 a,af9 a,zc f g t.1 (h t.1 ⟨lR.2 ⟨t,ht,rfl⟩,a⟩) ad]
  ·rw [ac9 a,ac9 a]
def Yh {E:Xaa->Xaa->Prop} (k:∀ a b,E a b->b∈names) (hc:∀ v,¬ kV E v):∀ (f:Nat) (path:List Xaa) (v:Xaa),path.Nodup->(∀ p,p∈path->p∈names)->(∀ p,p∈path->∃ y,E p y/\qD E y v)->v∈names->names.length<=path.length+f->Hg E f v:=by
 have c:∀ (path:List Xaa) (v:Xaa),(∀ p,p∈path->∃ y,E p y/\qD E y v)->v∉path:=fun path v h hv=>hc v (h v hv)
 intro f
 induction f with
 | zero =>
  intro path v hn e d hv hl;have hvp:=c path v d
  have:=kb (v::path) names (ed9.2 ⟨hvp,hn⟩) (fun x g=>by
   rcases bd9.1 g with h | h
   ·rw [h]; exact hv
   ·exact e x h)
  simp only [List.length_cons] at this;omega
 | succ f l =>
  intro path v hn e d hv hl y i;have hvp:=c path v d;refine l (v::path) y (ed9.2 ⟨hvp,hn⟩) (fun x g=>?_) (fun p j=>?_) (k v y i) (by simp only [List.length_cons]; omega)
  ·rcases bd9.1 g with h | h
   ·rw [h]; exact hv
   ·exact e x h
  ·rcases bd9.1 j with h | h
   ·rw [h]; exact ⟨y,i,.refl y⟩
   ·obtain ⟨z,m,r⟩:=d p h;exact ⟨z,m,r.trans (.one i)⟩
def Ki (own:Xaa->Bool) (lin:Xaa->bJ) (names:List Xaa) (v:Xaa):bJ:=rJ own lin names.length v
def LI (own:Xaa->Bool) (lin:Xaa->bJ) (names:List Xaa) (s:Xaa):Option bJ:=if own s=true then some (Ki own lin names s) else none
def Jr (c:∀ s,own s=true↔s∈names) (hc:∀ v,¬ kV (Edge own (cS lin)) v) {v:Xaa} (hv:v∈names):Hg (Edge own (cS lin)) names.length v :=
 Yh (fun a b e=>(c b).1 e.2) hc names.length [] v List.nodup_nil (fun p d=>by simp at d) (fun p d=>by simp at d) hv ai
def JK (a:∀ s,own s=true↔s∈names) (hc:∀ v,¬ kV (Edge own (cS lin)) v) {v:Xaa} (hv:v∈names):Ki own lin names v=dr (LI own lin names) (lin v):=by
 have hg:=Jr a hc hv;unfold Ki;cases c:names.length with
 | zero=>rw [c] at hg; exact hg.elim
 | succ n =>
  rw [c] at hg;unfold rJ;refine qB fun t ht=>?_
  unfold LI Ki
  by_cases b:own t.1=true
  ·rw [af9 b,af9 b,c,zc n (n+1) t.1 (hg t.1 ⟨lR.2 ⟨t,ht,rfl⟩,b⟩) ad]
  ·rw [ac9 b,ac9 b]
def TC (a:∀ s,own s=true↔s∈names) (hc:∀ v,¬ kV (Edge own (cS lin)) v) {Q:Xaa->Prop} (h:∀ v,(∀ y,Edge own (cS lin) v y->Q y)->Q v) {v:Xaa} (hv:v∈names):Q v :=
 QO h names.length v (Jr a hc hv)
end
variable {h:Xaa × Nat}
def Fx (a:h∈FE c):∃ p,p∈c/\p.1=h.1:=by
 apply ew9;intro k;have h0:cf c h.1=0:=Ad fun p b e=>k ⟨p,b,e⟩
 have h1:=BX c h.1;rw [h0] at h1;have nf:=Bh c;generalize FE c=m at a h1 nf
 induction m with
 | nil=>simp at a
 | cons p m d =>
  rcases bd9.1 a with a | a
  ·subst a;rw [nf.nK] at h1
   have:=(nf.2 h ai).1
   omega
  ·have hl:=nf.head h a;rw [fh,ac9 (jT hl)] at h1;exact d a ad nf.tail
open Classical in
theorem xB (f:Xaa->Nat) (S:List Xaa) (b:S.Nodup):∀ l:dm,(∀ p,p∈l->p.1∈S)->gI f l=(S.map fun s=>cf l s*f s).sum
 | [],_=>by
  have:∀ S:List Xaa,(S.map fun s=>cf [] s*f s).sum=0:=by
   intro S
   induction S with
   | nil=>rfl
   | cons s S ih=>rw [bo9,cr9,ih,AT]; omega
  rw [this]; rfl
 | p::l,h=>by
  have ih:=xB f S b l (fun q c=>h q (ap9 _ c));have hp:=h p ai;rw [fm,ih];clear ih h;have a:∀ S:List Xaa,S.Nodup->(S.map fun s=>cf (p::l) s*f s).sum=(if p.1∈S then p.2*f p.1 else 0)+(S.map fun s=>cf l s*f s).sum:=by
   intro S
   induction S with
   | nil=>intro _; simp
   | cons s S ih =>
    intro hn;obtain ⟨h1,h2⟩:=ed9.1 hn;rw [bo9,cr9,bo9,cr9,ih h2,fh]
    by_cases e:p.1=s
    ·subst e;rw [af9 rfl,ac9 h1,af9 ai,cz9];omega
    ·have:(p.1∈s::S)↔p.1∈S:=by simp [e]
     rw [ac9 e,bv9];simp only [this];omega
  rw [a S b,af9 hp]
variable {i:Xaa->Nat}
def TE {m:dm} (h:∀ s,cf c s % 4294967296=cf m s % 4294967296):gI i c % 4294967296=gI i m % 4294967296:=by
 obtain ⟨S,a,hl⟩:∃ S:List Xaa,S.Nodup/\∀ p,p∈c++m->p.1∈S:=by
  generalize c++m=w
  induction w with
  | nil=>exact ⟨[],List.nodup_nil,ai⟩
  | cons p w d =>
   obtain ⟨S,a,g⟩:=d
   by_cases b:p.1∈S
   ·refine ⟨S,a,fun q e=>?_⟩;rcases bd9.1 e with h | h
    ·rw [h]; exact b
    ·exact g q h
   ·refine ⟨p.1::S,ed9.2 ⟨b,a⟩,fun q e=>?_⟩;rcases bd9.1 e with h | h
    ·rw [h]; simp
    ·exact ap9 _ (g q h)
 rw [xB i S a c (fun p b=>hl p (bh9 _ b)),xB i S a m (fun p b=>hl p (bp9 _ b))];clear a hl
 induction S with
 | nil=>rfl
 | cons s S d =>
  rw [bo9,cr9,bo9,cr9,el9,d,fm9,h s,<- fm9,<- el9]
def Pr (f:Xaa->Nat) (l:dm):gI f (FE l) % 4294967296=gI f l % 4294967296:=TE fun s=>by rw [BX,fv9]
def jQ (f:Xaa->Nat) (x:bJ):Nat:=(x.num+gI f x.ah) % 4294967296
def Gk (f:Xaa->Nat) (l m:dm):gI f (l++m)=gI f l+gI f m:=by
 induction l with
 | nil=>simp [gI]
 | cons p l a=>rw [ez9,fm,fm,a]; omega
def Ia (f:Xaa->Nat) (n:Nat) (l:dm):gI f (l.map fun u=>(u.1,n*u.2 % 4294967296)) % 4294967296=n*gI f l % 4294967296:=by
 induction l with
 | nil=>simp [gI]
 | cons p l d =>
  rw [bo9,fm,fm,el9,d,c,<- el9,Nat.mul_add,Nat.mul_assoc]
where
 c {a b:Nat}:a % 4294967296*b % 4294967296=a*b % 4294967296:=PT a b
def N8 {g:Xaa->Nat} {of:Xaa->Option bJ} (h:∀ s,g s % 4294967296=(match of s with | none=>i s | some y=>jQ i y) % 4294967296) (x:bJ):jQ i (dr of x)=jQ g x:=by
 unfold jQ dr;show ((x.ah.foldl (gC of) x.num)+gI i (FE (x.ah.flatMap (sE of)))) % 4294967296=(x.num+gI g x.ah) % 4294967296;rw [el9,Pr,<- el9];generalize x.num=n;generalize x.ah=l
 induction l generalizing n with
 | nil=>simp [gI]
 | cons t l b =>
  rw [br9,cd9,Gk,fm];have c:(l.foldl (gC of) (gC of n t)+(gI i (sE of t)+gI i (l.flatMap (sE of)))) % 4294967296=(gI i (sE of t)+(gC of n t+gI g l)) % 4294967296:=by
   rw [show l.foldl (gC of) (gC of n t)+(gI i (sE of t)+gI i (l.flatMap (sE of)))=gI i (sE of t)+(l.foldl (gC of) (gC of n t)+gI i (l.flatMap (sE of))) from ad,el9,b,<- el9]
  rw [c];have d:(gI i (sE of t)+gC of n t) % 4294967296=(n+t.2*g t.1) % 4294967296:=by
   have hg:=h t.1;unfold sE gC;cases a:of t.1 with
   | none =>
    rw [a] at hg;simp only at hg ⊢;rw [fm]
    have:t.2*i t.1 % 4294967296=t.2*g t.1 % 4294967296:=by rw [fm9,<- hg,<- fm9]
    simp only [gI,Nat.add_zero];omega
   | some y =>
    rw [a] at hg;simp only at hg ⊢;have h1:=Ia i t.2 y.ah;have h2:t.2*g t.1 % 4294967296=t.2*(y.num+gI i y.ah) % 4294967296:=by
     unfold jQ at hg;rw [fm9,hg,fv9,<- fm9]
    rw [Nat.mul_add] at h2;omega
  omega
def pY {of:Xaa->Option bJ} (a:h∈(dr of f).ah):(∃ p,p∈f.ah/\p.1=h.1/\of h.1=none)\/∃ p y u,p∈f.ah/\of p.1=some y/\u∈y.ah/\u.1=h.1:=by
 obtain ⟨p,g,e⟩:=Fx a;obtain ⟨q,d,b⟩:=ei9.1 g;unfold sE at b;cases c:of q.1 with
 | none =>
  rw [c] at b
  have:p=q:=by simpa using b
  subst this;exact .inl ⟨p,d,e,by rw [<- e]; exact c⟩
 | some y =>
  rw [c] at b;obtain ⟨u,i,rfl⟩:=an9.1 b;exact .inr ⟨q,y,u,d,c,i,e⟩
def eM (of:Xaa->Option bJ) (x:bJ):Nf (dr of x).ah:=Bh _
def Gn {l:dm} (h:Nf l):FE l=l:=(Bh l).Mz h fun s=>by rw [BX,fv9]
def jc {of:Xaa->Option bJ} (a:f.num<4294967296):(dr of f).num<4294967296:=by
 show f.ah.foldl (gC of) f.num<4294967296;generalize f.num=n at a;generalize f.ah=l
 induction l generalizing n with
 | nil=>exact a
 | cons t l b =>
  rw [br9];refine b _ ?_;unfold gC;split
  ·exact a
  ·exact fs9 _ ad
section
variable {own:Xaa->Bool} {lin:Xaa->bJ} {names:List Xaa}
def tv (c:∀ s,own s=true↔s∈names) (hc:∀ v,¬ kV (Edge own (cS lin)) v) {v:Xaa} (hv:v∈names):∀ t,t∈(Ki own lin names v).ah->own t.1=false/\∃ w u,w∈names/\u∈(lin w).ah/\u.1=t.1:=by
 refine TC (Q:=fun v=>v∈names->∀ t,t∈(Ki own lin names v).ah->own t.1=false/\∃ w u,w∈names/\u∈(lin w).ah/\u.1=t.1) c hc ?_ hv hv;intro v g hv t ht;rw [JK c hc hv] at ht;rcases pY ht with ⟨p,f,e,ho⟩ | ⟨p,y,u,f,ho,h,e⟩
 ·refine ⟨?_,v,p,hv,f,e⟩;unfold LI at ho;cases d:own t.1 with
  | false=>rfl
  | true=>rw [d] at ho; simp at ho
 ·unfold LI at ho
  by_cases d:own p.1=true
  ·rw [af9 d] at ho;have ho:=ay9 ho;subst ho;obtain ⟨a,b⟩:=g p.1 ⟨lR.2 ⟨p,f,rfl⟩,d⟩ ((c _).1 d) u h;rw [<- e];exact ⟨a,b⟩
  ·rw [ac9 d] at ho; cases ho
def W7 (a:∀ s,own s=true↔s∈names) (hc:∀ v,¬ kV (Edge own (cS lin)) v) {v:Xaa} (hv:v∈names):Nf (Ki own lin names v).ah:=by
 rw [JK a hc hv]; exact eM _ _
end
def add_zero' (a:Xax):a.add 0=a:=by unfold Addr.add; rw [af9 rfl]
def XV (a b:Xaa):(ByteArray.toList a==ByteArray.toList b)=decide (a=b):=by
 rw [ByteArray.toList_eq,ByteArray.toList_eq]
 by_cases h:a=b
 ·subst h; simp
 ·rw [aj9 h];exact beq_eq_false_iff_ne.2 fun e=>h (yR e)
def SL.take {h:Hp} {b:Nat} {e:TypeId} {sz:Nat} {p:Xac} {l c:Nat} {xs:List (List Xab)} (s:SL h b e sz p l c xs) {k:Nat} (hk:k<=l):SL h b e sz p k c (xs.take k):=by
 refine ⟨by rw [az9,<- s.1]; omega,fun x i=>s.2.1 x (cy9 i),?_⟩;cases p with
 | none =>
  obtain ⟨h1,h2⟩:=s.2.2;subst h2;exact ⟨h1,ai⟩
 | some a =>
  obtain ⟨g,j,rest,rfl,m,n,f,o⟩:=s.2.2;have d:xs.flatten=(xs.take k).flatten++(xs.drop k).flatten:=by rw [<- List.flatten_append,ce9]
  refine ⟨g,j,(xs.drop k).flatten++rest,rfl,m,ad,?_,?_⟩
  ·rw [d] at f;simpa [List.append_assoc] using f
  ·rw [ae9,fq _ (fun x i=>s.2.1 x (List.mem_of_mem_drop i)),cb9,o,<- s.1,<- cz9]
   congr 1; omega
abbrev Zd (x:Xaa):List Xab:=[.string x]
def YY:Tryz.prog.underlying 68=some (.slice 9):=av
def YZ:(Tryz.prog.info? 9).map (fun i=>(i.zero,i.size,i.bytes))=some (some (.string ⟨#[]⟩),1,16):=av
def NZ {xs:List Xaa} (s:SL O H 9 1 U V b (xs.map Zd)) (v:Xaa) (hv:v∈xs) (hl:V<=2^40) :
  uo Xaz 88 [.slice U V b,.string v] O (vI ((xs.findIdx fun x=>decide (v=x):Nat):Int)):=by
 refine eX mixed Tryz.func88 av (iD U V b v) ?_;unfold fc aR aY bq aH aM;have o:V=xs.length:=by rw [s.1,ab9]
 refine aQ (cs:=fH) (fun x w h'=>h'=O/\∃ i:Nat,x.2.1=(i:Int)/\i<=xs.length/\w=xs.length-i/\∀ j,j<i->∀ f:j<xs.length,v≠xs[j]) ((0:Int),(0:Int),()) xs.length rfl ⟨rfl,0,rfl,ad,ad,fun j f=>ad⟩ ?_;rintro ⟨q,t,⟨⟩⟩ w h2 ⟨rfl,i,hi,n,rfl,g⟩;simp only at hi;subst hi;refine ak ?_;refine aK ?_ ?_<;>intro r
 ·have d:i<xs.length:=ad
  refine gR ?_;obtain ⟨a,rfl,hc⟩:=s.cells (i:=i) (by simpa using d);rw [am9] at hc;refine bf rfl ?_;rw [cr i];refine ar (xs[i],()) hc (ak ?_);rw [XV];refine aK ?_ ?_<;>intro k
  ·have:xs.findIdx (fun x=>decide (v=x))=i:=by
    rw [List.findIdx_eq d];exact ⟨by simpa using k,fun j f=>by simpa using g j f ad⟩
   exact ⟨by rw [this],rfl⟩
  ·have hw:=hY i;refine aD (cs:=fH) (q,((i+1:Nat):Int),()) (xs.length-(i+1)) rfl ad (by rw [hw]; rfl) ⟨rfl,i+1,rfl,ad,rfl,fun j f m=>?_⟩
   by_cases e:j=i
   ·subst e; exact k
   ·exact g j ad m
 ·have hi:i=xs.length:=ad
  subst hi;obtain ⟨j,f,e⟩:=bg9 hv;exact (g j f f e.symm).elim
def du (es:List cT) (s:Xaa):bJ:=(((kW es s).bind fun k=>es[k]?).map (·.x)).getD vf
def cC (es:List cT) (s:Xaa):Bool:=(kW es s).isSome
def aU (es:List cT):List Xaa:=es.map (·.name)
def dQ (es:List cT) (s:Xaa):cC es s=true↔s∈aU es:=by
 unfold cC kW aU;rw [List.findIdx?_isSome,dy9]
 simp
def pv {es:List cT} (h:kW es Y=some H):∃ hk:H<es.length,es[H].name=Y/\du es Y=es[H].x:=by
 have h':=h;unfold kW at h';rw [be9] at h';obtain ⟨hk,h1,h2⟩:=h';refine ⟨hk,ah9 h1,?_⟩;unfold du;rw [h,dk9,ad9 hk] <;> rfl
def Fv {es:List cT} (h:Y∈aU es):∃ k,kW es Y=some k:=by
 have:=(dQ es Y).2 h
 unfold cC at this;exact cl9.1 this
structure TF where
 E:Nat
 gA:Nat
 A:Nat
 gB:Nat
 B:Nat
 gN:Nat
 gL:Nat
 N:Nat
 L:Nat
 W:Nat
 gO:Nat
 O:Nat
 V:Nat
def TF.ord (r:TF):Prop:=r.E<r.gA/\r.gA<r.A/\r.A<r.gB/\r.gB<r.B/\r.B<r.gN/\r.gN<r.gL/\r.gL<r.N/\r.N<r.L/\r.L<r.W/\r.W<r.gO/\r.gO<r.O/\r.O<r.V
abbrev bx (g:Nat):Xax:=⟨g,0,none⟩
def TF.uG (r:TF):List Xab:=[.pointer (some (bx r.N)),.pointer (some (bx r.L)),.pointer (some (bx r.W)),.pointer (some (bx r.O)),.pointer (some (bx r.E)),.pointer (some (bx r.A)),.pointer (some (bx r.B)),.pointer (some (bx r.V))]
structure RN (r:TF) (h:Hp) (es:List cT) (p0:Xac) (l0 c0:Nat):Prop where
 bE:br h r.E 67 [.slice p0 l0 c0]
 bA:br h r.A 105 [.map (some r.gA)]
 mA:∃ n,ej eI h r.gA (kW es) n
 bV:br h r.V 194 [.func (.func 87) #[] r.uG.toArray]
 bN:br h r.N 105 [.map (some r.gN)]
 bL:br h r.L 105 [.map (some r.gL)]
 bO:br h r.O 152 [.map (some r.gO)]
 bB:br h r.B 152 [.map (some r.gB)]
 vw:uS h p0 l0 es
structure Lx (r:TF) (es:List cT) (p0:Xac):Prop where
 ord:r.ord
 l0:∀ i,i∈aG p0->i<r.E
 li:∀ e,e∈es->e.x.ah≠[]->∀ i,i∈aG e.p->i<r.E
def ik.Lo {ws:List Nat} {h':Hp} {us:dm} (v:ik O U H us) (k:Ch ws O h') (a:us≠[]->∀ i,i∈aG U->i∉ws):ik h' U H us:=by
 by_cases hn:us=[]
 ·subst hn;exact ⟨v.len,fun i hi=>by simp at hi⟩
 ·exact v.aj k (a hn)
def uS.nH {ws:List Nat} {h':Hp} {es:List cT} (v:uS O U H es) (k:Ch ws O h') (d:∀ i,i∈aG U->i∉ws) (hi:∀ e,e∈es->e.x.ah≠[]->∀ i,i∈aG e.p->i∉ws):uS h' U H es :=
 ⟨v.len,fun i hi=>by
  obtain ⟨a,b,hc⟩:=v.cells i hi;exact ⟨a,b,aI k (by rw [iF]; exact d _ (by rw [b]; simp [aG])) _ _ hc⟩,fun e c=>(v.fx e c).Lo k (hi e c)⟩
def ZS (r:TF) (p:Xac):List Nat:=r.gN::r.gL::r.gO::r.gB::r.W::aG p
structure nP (r:TF) (h:Hp) (st:TS) (p:Xac) (l c:Nat):Prop where
 mN:ej eI h r.gN st.num st.jU
 mL:∃ n,ej eI h r.gL st.low n
 mO:∃ n,ej eB h r.gO st.on n
 mB:∃ n,ej eB h r.gB st.back n
 bW:br h r.W 68 [.slice p l c]
 w:SL h (r.V+1) 9 1 p l c (st.dh.map Zd)
def RN.nH {r:TF} {h h':Hp} {es:List cT} {p0:Xac} {l0 c0:Nat} {ws:List Nat} (m:RN r h es p0 l0 c0) (lo:Lx r es p0) (k:Ch ws h h') (d:∀ i,i∈ws->i=r.gN\/i=r.gL\/i=r.gO\/i=r.gB\/i=r.W\/r.V<i):RN r h' es p0 l0 c0:=by
 have o:=lo.ord;unfold TF.ord at o;have a:∀ i,i≠r.gN->i≠r.gL->i≠r.gO->i≠r.gB->i≠r.W->i<=r.V->i∉ws:=by
  intro i h1 h2 f g j l hi
  have:=d i hi
  omega
 obtain ⟨n,mA⟩:=m.mA;exact ⟨m.bE.aj k (a _ ad ad ad ad ad ad),m.bA.aj k (a _ ad ad ad ad ad ad),⟨n,mA.aj k (a _ ad ad ad ad ad ad)⟩,
  m.bV.aj k (a _ ad ad ad ad ad ad),m.bN.aj k (a _ ad ad ad ad ad ad),m.bL.aj k (a _ ad ad ad ad ad ad),
  m.bO.aj k (a _ ad ad ad ad ad ad),m.bB.aj k (a _ ad ad ad ad ad ad),
  m.vw.nH k (fun i hi=>a _ (by have:=lo.l0 i hi; omega) (by have:=lo.l0 i hi; omega) (by have:=lo.l0 i hi; omega) (by have:=lo.l0 i hi; omega) (by have:=lo.l0 i hi; omega) (by have:=lo.l0 i hi; omega))
   (fun e c b i hi=>a _ (by have:=lo.li e c b i hi; omega) (by have:=lo.li e c b i hi; omega) (by have:=lo.li e c b i hi; omega) (by have:=lo.li e c b i hi; omega) (by have:=lo.li e c b i hi; omega) (by have:=lo.li e c b i hi; omega))⟩
def nP.aj {r:TF} {h h':Hp} {st:TS} {p:Xac} {l c:Nat} (m:nP r h st p l c) (k:Ext h h'):nP r h' st p l c:=by
 obtain ⟨a,mL⟩:=m.mL;obtain ⟨b,mO⟩:=m.mO;obtain ⟨d,mB⟩:=m.mB;exact ⟨m.mN.aj k ai,⟨a,mL.aj k ai⟩,⟨b,mO.aj k ai⟩,⟨d,mB.aj k ai⟩,m.bW.aj k ai,m.w.aj k ai⟩
structure rh (r:TF) (p:Xac) (h:Hp) (p':Xac) (h':Hp):Prop where
 ch:Ch (ZS r p) h h'
 cw:∀ i,i∈aG p'->i∈aG p\/h.size<=i
def rh.refl (r:TF) (p:Xac) (h:Hp):rh r p h p h:=⟨Ch.refl _ _,fun i hi=>.inl hi⟩
variable {d:TF}
def qA {p:Xac} :H∈ZS d p↔H=d.gN\/H=d.gL\/H=d.gO\/H=d.gB\/H=d.W\/H∈aG p:=by
 unfold ZS; simp
def rh.trans {r:TF} {p q s:Xac} {a b c:Hp} (x:rh r p a q b) (y:rh r q b s c):rh r p a s c:=by
 have hz:=x.ch.size;refine ⟨Ch.trans x.ch y.ch fun i hi hl=>?_,fun i hi=>?_⟩
 ·rw [qA] at hi ⊢;rcases hi with h | h | h | h | h | h
  ·exact .inl h
  ·exact .inr (.inl h)
  ·exact .inr (.inr (.inl h))
  ·exact .inr (.inr (.inr (.inl h)))
  ·exact .inr (.inr (.inr (.inr (.inl h))))
  ·rcases x.cw i h with h | h
   ·exact .inr (.inr (.inr (.inr (.inr h))))
   ·omega
 ·rcases y.cw i hi with h | h
  ·exact x.cw i h
  ·exact .inr ad
def rh.ext {h':Hp} (k:Ext O h'):rh d U O U h':=⟨k.mono ai,fun i hi=>.inl hi⟩
def rh.of {h':Hp} (k:Ch [H] O h') (a:H=d.gN\/H=d.gL\/H=d.gO\/H=d.gB\/H=d.W):rh d U O U h' :=
 ⟨k.mono fun i hi hl=>by simp at hi; subst hi; rw [qA]; rcases a with O | O | O | O | O <;> simp [O],fun i hi=>.inl hi⟩
def rh.co {r:TF} {p p':Xac} {l c:Nat} {h h':Hp} {st:TS} {es:List cT} {p0:Xac} {l0 c0:Nat} (x:rh r p h p' h') (lo:Lx r es p0) (m:nP r h st p l c) (co:RN r h es p0 l0 c0):RN r h' es p0 l0 c0:=by
 refine co.nH lo x.ch fun i hi=>?_
 rw [qA] at hi;rcases hi with h | h | h | h | h | h
 ·exact .inl h
 ·exact .inr (.inl h)
 ·exact .inr (.inr (.inl h))
 ·exact .inr (.inr (.inr (.inl h)))
 ·exact .inr (.inr (.inr (.inr (.inl h))))
 ·exact .inr (.inr (.inr (.inr (.inr (by have:=(m.w.cw h).1; omega)))))
def rh.box {p':Xac} {l c:Nat} {h':Hp} {st:TS} {e:TypeId} {xs:List Xab} (x:rh d U O p' h') (o:d.ord) (f:d.V<H) (a:H∉aG U) (b:br O H e xs):br h' H e xs:=by
 unfold TF.ord at o;refine b.aj x.ch fun hi=>?_
 rw [qA] at hi;rcases hi with O | O | O | O | O | O <;> first | omega | exact a O
section
variable {L:Lp} {K:Xab->Hp->Prop} {h:Hp} {r:TF} {st:TS} {p:Xac} {l c:Nat}
def nP.Ro (m:nP r h st p l c) {i:Nat} (hi:i∈aG p):r.V<i:=by have:=(m.w.cw hi).1; omega
variable {H:Xaa} {O:T}
def nP.vV (m:nP r h st p l c) (o:r.ord) (a:H.size<=maxLen) {v:Int} {w:Nat} (hv:v=(w:Int)) (hk:∀ h',nP r h' { st with num:=dO st.num H w,jU:=if (st.num H).isSome then st.jU else st.jU+1 } p l c->rh r p h p h'->h'.size=h.size->O L K h') :
  T.dZ Xaz (Instr.mapUpdate 105 (.map (some r.gN)) (.string H) (vI v)) O L K h:=by
 unfold TF.ord at o;obtain ⟨b,mL⟩:=m.mL;obtain ⟨d,mO⟩:=m.mO;obtain ⟨e,mB⟩:=m.mB;refine rQ m.mN a hv ?_;intro h' f c' g;exact hk h' ⟨f,⟨b,mL.aj c' (by simp; omega)⟩,⟨d,mO.aj c' (by simp; omega)⟩,⟨e,mB.aj c' (by simp; omega)⟩,m.bW.aj c' (by simp; omega),m.w.bF c' (fun i hi=>by have:=m.Ro hi; simp; omega)⟩ (rh.of c' (.inl rfl)) g
def nP.tU (m:nP r h st p l c) (o:r.ord) (a:H.size<=maxLen) {v:Int} {w:Nat} (hv:v=(w:Int)) (hk:∀ h',nP r h' { st with low:=dO st.low H w } p l c->rh r p h p h'->h'.size=h.size->O L K h') :
  T.dZ Xaz (Instr.mapUpdate 105 (.map (some r.gL)) (.string H) (vI v)) O L K h:=by
 unfold TF.ord at o;obtain ⟨g,mL⟩:=m.mL;obtain ⟨b,mO⟩:=m.mO;obtain ⟨d,mB⟩:=m.mB;refine rQ mL a hv ?_;intro h' e c' f;exact hk h' ⟨m.mN.aj c' (by simp; omega),⟨_,e⟩,⟨b,mO.aj c' (by simp; omega)⟩,⟨d,mB.aj c' (by simp; omega)⟩,m.bW.aj c' (by simp; omega),m.w.bF c' (fun i hi=>by have:=m.Ro hi; simp; omega)⟩ (rh.of c' (.inr (.inl rfl))) f
variable {U:Bool}
def nP.XX (m:nP r h st p l c) (o:r.ord) (a:H.size<=maxLen) (hk:∀ h',nP r h' { st with on:=dO st.on H U } p l c->rh r p h p h'->h'.size=h.size->O L K h') :
  T.dZ Xaz (Instr.mapUpdate 152 (.map (some r.gO)) (.string H) (.bool U)) O L K h:=by
 unfold TF.ord at o;obtain ⟨d,mL⟩:=m.mL;obtain ⟨j,mO⟩:=m.mO;obtain ⟨e,mB⟩:=m.mB;refine XH mO a ?_;intro h' f c' g;exact hk h' ⟨m.mN.aj c' (by simp; omega),⟨d,mL.aj c' (by simp; omega)⟩,⟨_,f⟩,⟨e,mB.aj c' (by simp; omega)⟩,m.bW.aj c' (by simp; omega),m.w.bF c' (fun i hi=>by have:=m.Ro hi; simp; omega)⟩ (rh.of c' (.inr (.inr (.inl rfl)))) g
def nP.jk (m:nP r h st p l c) (o:r.ord) (a:H.size<=maxLen) (hk:∀ h',nP r h' { st with back:=dO st.back H U } p l c->rh r p h p h'->h'.size=h.size->O L K h') :
  T.dZ Xaz (Instr.mapUpdate 152 (.map (some r.gB)) (.string H) (.bool U)) O L K h:=by
 unfold TF.ord at o;obtain ⟨d,mL⟩:=m.mL;obtain ⟨e,mO⟩:=m.mO;obtain ⟨j,mB⟩:=m.mB;refine XH mB a ?_;intro h' f c' g;exact hk h' ⟨m.mN.aj c' (by simp; omega),⟨d,mL.aj c' (by simp; omega)⟩,⟨e,mO.aj c' (by simp; omega)⟩,⟨_,f⟩,m.bW.aj c' (by simp; omega),m.w.bF c' (fun i hi=>by have:=m.Ro hi; simp; omega)⟩ (rh.of c' (.inr (.inr (.inr (.inl rfl))))) g
variable {V:Int->T}
def nP.F8 (m:nP r h st p l c) (s:Xaa) (hk:V (((st.num s).getD 0:Nat):Int) L K h):T.ef Xaz (Instr.lookup 105 (.map (some r.gN)) (.string s) false) false [(false,[.int .i64])] V L K h:=Kw m.mN s hk
def nP.BW (m:nP r h st p l c) (s:Xaa) (hk:V (((st.low s).getD 0:Nat):Int) L K h):T.ef Xaz (Instr.lookup 105 (.map (some r.gL)) (.string s) false) false [(false,[.int .i64])] V L K h:=by
 obtain ⟨a,mL⟩:=m.mL;exact Kw mL s hk
variable {Y:Bool->T}
def nP.YG (m:nP r h st p l c) (s:Xaa) (hk:Y ((st.on s).getD false) L K h):T.ef Xaz (Instr.lookup 152 (.map (some r.gO)) (.string s) false) false [(false,[.bool])] Y L K h:=by
 obtain ⟨a,mL⟩:=m.mO;exact Pg mL s hk
def nP.eQ (m:nP r h st p l c) (s:Xaa) (hk:Y ((st.back s).getD false) L K h):T.ef Xaz (Instr.lookup 152 (.map (some r.gB)) (.string s) false) false [(false,[.bool])] Y L K h:=by
 obtain ⟨a,mL⟩:=m.mB;exact Pg mL s hk
end
def UQ (y f z A a:Xax) (s:Xaa) (b:Int):T :=
 T.af y [.map 9 3] <| fun (g:Option Nat) =>
 T.af a [.string] <| fun (h:Xaa) =>
 bR (Instr.lookup 105 (.map g) (.string h) false) false [aM] <| fun (i:Int) =>
 cond (i==(0:Int))
  (T.af A [.func #[9] #[] false] <| fun (j:Xab) =>
  T.af a [.string] <| fun (c:Xaa) =>
  T.wB Xaz j [.string c] true [] <| T.af f [.map 9 3] <| fun (k:Option Nat) =>
  T.af f [.map 9 3] <| fun (d:Option Nat) =>
  bR (Instr.lookup 105 (.map d) (.string s) false) false [aM] <| fun (l:Int) =>
  T.af f [.map 9 3] <| fun (m:Option Nat) =>
  T.af a [.string] <| fun (n:Xaa) =>
  bR (Instr.lookup 105 (.map m) (.string n) false) false [aM] <| fun (o:Int) =>
  bR (Builtin.min_ #[3,3] 3 #[vI l,vI o]) false [aM] <| fun (e:Int) =>
  T.dZ Xaz (Instr.mapUpdate 105 (.map k) (.string s) (vI e)) <|
  T.again 0 [vI (bn (b+(1:Int)))])
  (T.af z [.map 9 4] <| fun (p:Option Nat) =>
  T.af a [.string] <| fun (c:Xaa) =>
  bR (Instr.lookup 152 (.map p) (.string c) false) false [ct] <| fun (q:Bool) =>
  cond q
  (T.af f [.map 9 3] <| fun (d:Option Nat) =>
  T.af f [.map 9 3] <| fun (r:Option Nat) =>
  bR (Instr.lookup 105 (.map r) (.string s) false) false [aM] <| fun (t:Int) =>
  T.af y [.map 9 3] <| fun (u:Option Nat) =>
  T.af a [.string] <| fun (w:Xaa) =>
  bR (Instr.lookup 105 (.map u) (.string w) false) false [aM] <| fun (e:Int) =>
  bR (Builtin.min_ #[3,3] 3 #[vI t,vI e]) false [aM] <| fun (x:Int) =>
  T.dZ Xaz (Instr.mapUpdate 105 (.map d) (.string s) (vI x)) <|
  T.again 0 [vI (bn (b+(1:Int)))])
  (T.again 0 [vI (bn (b+(1:Int)))]))
def qa (names:List Xaa) (st:TS):Prop:=∀ s,st.num s≠none->s∈names
def K7 (es:List cT) (r:TF) (p0:Xac) (l0 c0 f:Nat):Prop :=
 ∀ (v:Xaa) (st:TS) (h:Hp) (p:Xac) (l c:Nat),nP r h st p l c->RN r h es p0 l0 c0->dL (aU es) st->v∈aU es->st.num v=none->rK (aU es) st<=f->qa (aU es) st ->
  HC Xaz 87 (.string v::r.uG).toArray h fun w h'=>w=.tuple #[]/\∃ p' l' c',nP r h' (cV (cC es) (cS (du es)) f v st) p' l' c'/\rh r p h p' h'
def Y2:fX Xaz 87=true:=av
section
variable {L:Lp} {K:Xab->Hp->Prop} {h:Hp} {r:TF} {st:TS} {p:Xac} {l c:Nat} {es:List cT} {p0:Xac} {l0 c0:Nat}
def Lh {f:Nat} (i:K7 es r p0 l0 c0 f) (lo:Lx r es p0) (z:∀ s,s∈aU es->s.size<=maxLen) (m:nP r h st p l c) (co:RN r h es p0 l0 c0) (g:dL (aU es) st) (A:rK (aU es) st<=f) (hi:qa (aU es) st) {v w:Xaa} (hv:v∈aU es) (B:w∈aU es) {a q:Nat} (C:r.V<a) (n:a∉aG p) (b:br h a 64 [.string w,.int .u32 (q:Int)]) (j:Int)
  (hk:∀ h' p' l' c',nP r h' (uq (cV (cC es) (cS (du es)) f) v w st) p' l' c'->rh r p h p' h'->T.again 0 [vI (IntKind.wrap .i64 (j+(1:Int)))] L K h') :
  UQ (bx r.N) (bx r.L) (bx r.O) (bx r.V) (bx a) v j L K h:=by
 unfold UQ bR bn aM ct;refine aw co.bN (some r.gN,()) (ak ?_);refine aw b (w,()) (ak ?_);refine m.F8 w ?_;unfold uq at hk;have hsv:=z v hv;refine ao ?_ ?_<;>intro d
 ·have d:(st.num w).getD 0=0:=by have:=ah9 d; omega
  rw [af9 d] at hk;refine aw co.bV (.func (.func 87) #[] r.uG.toArray,()) (ak ?_);refine aw b (w,()) (ak ?_);refine wK (cap:=r.uG) Y2 rfl (i w st h p l c m co g B (g.none d) A hi) ?_;rintro _ h2 ⟨rfl,D,E,F,k,o⟩;refine ⟨(),rfl,ak ?_⟩;have co2:=o.co lo m co;have b2:=o.box (st:=st) (l:=l) (c:=c) lo.ord C n b;generalize cV (cC es) (cS (du es)) f w st=G at k hk;refine aw co2.bL (some r.gL,()) (ak ?_);refine aw co2.bL (some r.gL,()) (ak ?_);refine k.BW v ?_;refine aw co2.bL (some r.gL,()) (ak ?_);refine aw b2 (w,()) (ak ?_);refine k.BW w ?_;refine XO ?_;refine k.tU lo.ord hsv rfl ?_;intro t u x z3;exact hk t D E F u (o.trans x)
 ·have d:¬ (st.num w).getD 0=0:=by
   intro e;rw [e] at d;simp at d
  rw [ac9 d] at hk;refine aw co.bO (some r.gO,()) (ak ?_);refine aw b (w,()) (ak ?_);refine m.YG w ?_;refine ao ?_ ?_<;>intro y
  ·rw [af9 y] at hk;refine aw co.bL (some r.gL,()) (ak ?_);refine aw co.bL (some r.gL,()) (ak ?_);refine m.BW v ?_;refine aw co.bN (some r.gN,()) (ak ?_);refine aw b (w,()) (ak ?_);refine m.F8 w ?_;refine XO ?_;refine m.tU lo.ord hsv rfl ?_;intro t u x z3;exact hk t p l c u x
  ·rw [ac9 (by simp [y])] at hk;exact hk h p l c m (rh.refl _ _ _)
end
def qa.rest {names:List Xaa} {iC:Xaa->TS->TS} (a:∀ Y st,qa names st->Y∈names->qa names (iC Y st)) {v:Xaa} {st:TS} (hi:qa names st) (b:Y∈names):qa names (uq iC v Y st):=by
 unfold uq;split
 ·exact a Y st hi b
 ·split <;> exact hi
def qa.step {names:List Xaa} {own:Xaa->Bool} (a:∀ s,own s=true->s∈names) {iC:Xaa->TS->TS} (b:∀ Y st,qa names st->Y∈names->qa names (iC Y st)) {v:Xaa} {st:TS} (hi:qa names st):qa names (eU own iC v st Y):=by
 unfold eU;split
 ·rename_i d;refine qa.rest b ?_ (a Y d);intro s c;rw [(iN v Y st).1] at c;exact hi s c
 ·exact hi
theorem qa.fold {names:List Xaa} {own:Xaa->Bool} (a:∀ s,own s=true->s∈names) {iC:Xaa->TS->TS} (b:∀ w st,qa names st->w∈names->qa names (iC w st)) {v:Xaa}:∀ (l:List Xaa) (st:TS),qa names st->qa names (l.foldl (eU own iC v) st)
 | [],st,hi=>hi
 | w::l,st,hi=>by
  rw [br9];exact qa.fold a b l _ (qa.step a b hi)
def qa.open {names:List Xaa} {st:TS} (hi:qa names st) {v:Xaa} (hv:v∈names):qa names (eV v st):=by
 intro s a;have a:dO st.num v (st.jU+1) s≠none:=a
 by_cases e:s=v
 ·rw [e]; exact hv
 ·rw [cj _ _ e] at a;exact hi s a
theorem qa.visit {names:List Xaa} {own:Xaa->Bool} (a:∀ s,own s=true->s∈names) (succ:Xaa->List Xaa):∀ (f:Nat) (v:Xaa) (st:TS),qa names st->v∈names->qa names (cV own succ f v st)
 | 0,v,st,hi,hv=>hi
 | f+1,v,st,hi,hv=>by
  have h:=qa.fold a (fun w st hi c=>qa.visit a succ f w st hi c) (v:=v) (succ v) _ (hi.open hv);unfold cV;split
  ·exact h
  ·intro s b;rw [oL] at b;exact h s b
variable {j:TypeId}
def SL.Im {sz c:Nat} {xs:List (List Xab)} (s:SL O H j sz U V c xs):V<=c:=by
 cases U with
 | none =>
  obtain ⟨h1,h2⟩:=s.2.2;rw [s.1,h1,h2]; simp
 | some a =>
  obtain ⟨g,i,rest,rfl,k,d,f,m⟩:=s.2.2;exact d.1
section
variable {L:Lp} {K:Xab->Hp->Prop} {h:Hp} {r:TF} {st:TS} {p:Xac} {l c:Nat} {es:List cT} {p0:Xac} {l0 c0:Nat}
variable {H:T}
def nP.XL (m:nP r h st p l c) (o:r.ord) {p':Xac} {l' c':Nat} {h1:Hp} {way':List Xaa} (a:Ch (aG p) h h1) (f:SL h1 (r.V+1) 9 1 p' l' c' (way'.map Zd)) (j:∀ i,i∈aG p'->i∈aG p\/h.size<=i) 
  (hk:∀ h',nP r h' { st with dh:=way' } p' l' c'->rh r p h p' h'->H L K h'):T.ax (bx r.W) [.slice p' l' c'] H L K h1:=by
 have o':=o;unfold TF.ord at o;obtain ⟨n,mL⟩:=m.mL;obtain ⟨q,mO⟩:=m.mO;obtain ⟨s,mB⟩:=m.mB;have d:∀ g,g<=r.V->g∉aG p:=fun g t hi=>by have:=m.Ro hi; omega
 refine bP (m.bW.aj a (d _ ad)) ?_;intro h2 e b z2;have e:br h2 r.W 68 [.slice p' l' c']:=e;refine hk h2 ⟨(m.mN.aj a (d _ ad)).aj b (by simp; omega),⟨n,(mL.aj a (d _ ad)).aj b (by simp; omega)⟩,⟨q,(mO.aj a (d _ ad)).aj b (by simp; omega)⟩,⟨s,(mB.aj a (d _ ad)).aj b (by simp; omega)⟩,e,f.bF b (fun i hi=>by have:=(f.cw hi).1; simp; omega)⟩
  ⟨Ch.trans (a.mono fun i hi _=>by rw [qA]; simp [hi]) b (fun i hi hl=>by simp at hi; rw [qA]; simp [hi]),j⟩
def nP.Y' (m:nP r h st p l c) (o:r.ord) (x:r.V<h.size) (hl:l<=2^40) {v:Xaa} (hk:∀ h' p' c',nP r h' { st with dh:=st.dh++[v] } p' (l+1) c'->rh r p h p' h'->H L K h') :
  T.ef Xaz (Instr.buildSlice 68 1 #[(0,.string v)]) false [(false,[.slice 0])] (fun q b g=>T.ef Xaz (Builtin.append_ #[68,68] 68 #[.slice p l c,.slice q b g]) false [(false,[.slice 0])] (fun d e f=>T.ax (bx r.W) [.slice d e f] H)) L K h:=by
 refine fg (vs:=Zd v) YY YZ rfl ad ad av rfl rfl m.w ad ad ad ?_;intro p' c' h1 j n s;refine m.XL o n (way':=st.dh++[v]) (by simpa using j) (fun i hi=>?_) (fun h' b t=>hk h' p' c' b t);rcases s with rfl | ⟨a,rfl,u⟩
 ·exact .inl hi
 ·simp [aG] at hi; subst hi; exact .inr u
def Ye (x w m:Xax) (g:Xac) (i n:Nat) (b:Int):T :=
  T.loop [aM] [vI (0:Int)] <| fun (d:Int) =>
  cond (decide (d<((((Int.toNat (i:Int))-(Int.toNat b)):Nat):Int)))
  (T.need (((0:Int)<=d)/\(d<((((Int.toNat (i:Int))-(Int.toNat b)):Nat):Int))) <|
  T.bi (if (n=(Int.toNat b)) then g else (Option.map (fun a=>Addr.add a (aH b 1)) g)) <| fun (o:Xax) =>
  T.af (o.add (aH d 1)) [.string] <| fun (e:Xaa) =>
  T.af x [.map 9 4] <| fun (q:Option Nat) =>
  T.dZ Xaz (Instr.mapUpdate 152 (.map q) (.string e) (.bool false)) <|
  T.af w [.map 9 4] <| fun (j:Option Nat) =>
  T.af w [.map 9 4] <| fun (s:Option Nat) =>
  bR (Instr.lookup 152 (.map s) (.string e) false) false [ct] <| fun (t:Bool) =>
  cond t
   (T.dZ Xaz (Instr.mapUpdate 152 (.map j) (.string e) (.bool true)) <|
   T.again 1 [vI (bn (d+(1:Int)))])
   (T.af m [.slice 9] <| fun (y:Xac) (u z:Nat) =>
   T.dZ Xaz (Instr.mapUpdate 152 (.map j) (.string e) (.bool (decide ((bn ((u:Int)-b))>(1:Int))))) <|
   T.again 1 [vI (bn (d+(1:Int)))]))
  (T.af m [.slice 9] <| fun (k:Xac) (A f:Nat) =>
  T.need (((0:Int)<=(0:Int))/\(((0:Int)<=b)/\(b<=(f:Int)))) <|
  T.ax m [.slice (if (f=0) then k else (Option.map (fun a=>Addr.add a 0) k)) ((Int.toNat b)-0) (f-0)] <|
  bj #[])
def Wj {Q:List Xab->Hp->Prop} (lo:Lx r es p0) (R:∀ s,s∈aU es->s.size<=maxLen) (m:nP r h st p l c) (co:RN r h es p0 l0 c0) (hi:qa (aU es) st) (g:dL (aU es) st) (hl:l<=2^40) {v:Xaa} (S:sC v st<=st.dh.length)
  (hk:∀ h' p' l' c',nP r h' (r5 v st) p' l' c'->rh r p h p' h'->K (.tuple #[]) h'):Ye (bx r.O) (bx r.B) (bx r.W) p l c ((sC v st:Nat):Int) [Q] K h:=by
 unfold Ye aH bR bn bj aM ct;have y:l=st.dh.length:=by rw [m.w.1,ab9]
 have hcap:=m.w.Im;rw [show Int.toNat ((sC v st:Nat):Int)=sC v st from ad,cr l];generalize A:sC v st=k at *;have C:decide (1<st.dh.length-sC v st)=decide (1<l-k):=by rw [A,y]
 unfold r5 at hk;rw [C,A] at hk;refine aQ (cs:=cF) (fun x w h'=>∃ i:Nat,x.1=(i:Int)/\i<=l-k/\w=l-k-i/\nP r h' (((st.dh.drop k).take i).foldl (qt (decide (1<l-k))) st) p l c/\rh r p h p h') ((0:Int),()) (l-k) rfl ⟨0,rfl,ad,ad,by simpa using m,rh.refl _ _ _⟩ ?_;rintro ⟨U,⟨⟩⟩ w h2 ⟨i,D,P,rfl,d,G⟩;simp only at D;subst D;refine ak ?_;have co2:=G.co lo m co;have f:∀ (w:List Xaa) (st:TS),(w.foldl (qt (decide (1<l-k))) st).dh=st.dh:=by
  intro w
  induction w with
  | nil=>intro st; rfl
  | cons x w V=>intro st; rw [br9,V]; rfl
 refine aK ?_ ?_<;>intro X
 ·have j:k+i<st.dh.length:=ad
  refine gR ?_;rw [ac9 ad];have hsl:=d.w;rw [f] at hsl;obtain ⟨a,rfl,hc⟩:=hsl.cells (i:=k+i) (by simpa using j);rw [am9] at hc;refine bf rfl ?_;rw [cr i,add_add,<- cz9];have n:st.dh[k+i]∈aU es:=hi _ (g.fx _ (al9 j));have b:(st.dh.drop k).take (i+1)=(st.dh.drop k).take i++[st.dh[k+i]]:=by
   rw [ag9 (by rw [cb9]; omega),List.getElem_drop]
  generalize st.dh[k+i]=x at hc n b;refine ar (x,()) hc (ak ?_);have hsz:=R x n;generalize E:((st.dh.drop k).take i).foldl (qt (decide (1<l-k))) st=q at d;have o:((st.dh.drop k).take (i+1)).foldl (qt (decide (1<l-k))) st=qt (decide (1<l-k)) q x:=by rw [b,cg9,E]; rfl
  refine aw co2.bO (some r.gO,()) (ak ?_);refine d.XX lo.ord hsz ?_;intro Y H I z3;have co3:=I.co lo d co2;refine aw co3.bB (some r.gB,()) (ak ?_);refine aw co3.bB (some r.gB,()) (ak ?_);refine H.eQ x ?_;have hw:=hY i;refine ao ?_ ?_<;>intro t
  ·have t:(q.back x).getD false=true:=t;refine H.jk lo.ord hsz ?_;intro J u F z4;refine aD (cs:=cF) (((i+1:Nat):Int),()) (l-k-(i+1)) rfl ad (aq9 (fun z=>[Value.int .i64 z]) hw) ⟨i+1,rfl,ad,rfl,?_,(G.trans I).trans F⟩;rw [o];unfold qt;rw [t];exact u
  ·have t:(q.back x).getD false=false:=t;refine aw H.bW ((_,_,_),()) (ak ?_);refine H.jk lo.ord hsz ?_;intro J u F z4;refine aD (cs:=cF) (((i+1:Nat):Int),()) (l-k-(i+1)) rfl ad (aq9 (fun z=>[Value.int .i64 z]) hw) ⟨i+1,rfl,ad,rfl,?_,(G.trans I).trans F⟩;rw [o];unfold qt;rw [t,ey9];have e:decide ((IntKind.wrap .i64 ((l:Int)-(k:Int)))>(1:Int))=decide (1<l-k):=by
    rw [wrap_i64 ad ad];exact fo9.2 ad
   rw [e] at u;exact u
 ·have M:i=l-k:=ad
  subst M;have b:(st.dh.drop k).take (l-k)=st.dh.drop k:=bw9 (by rw [cb9]; omega);rw [b] at d;have N:(if c=0 then p else (Option.map (fun a=>Addr.add a 0) p))=p:=by
   split
   ·rfl
   ·cases p with
    | none=>rfl
    | some a=>simp only [Option.map_some,add_zero']
  refine aw d.bW ((p,l,c),()) (ak ?_);refine dy ⟨ad,ad,ad⟩ ?_;rw [N,fu9,fu9];have hsl:=d.w;rw [f] at hsl;have hsk:=hsl.take (k:=k) ad;rw [<- List.map_take] at hsk;refine d.XL lo.ord (Ch.refl _ _) hsk (fun i hi=>.inl hi) ?_;intro J u F;exact hk J p k c u (G.trans F)
end
structure EqsOk (es:List cT):Prop where
 nodup:(aU es).Nodup
 len:es.length<=2^40
 sz:∀ e,e∈es->e.name.size<=maxLen
 tl:∀ e,e∈es->e.x.ah.length<=2^40
 ts:∀ e,e∈es->∀ t,t∈e.x.ah->t.1.size<=maxLen
def EqsOk.names {es:List cT} (o:EqsOk es):∀ s,s∈aU es->s.size<=maxLen:=by
 intro s a;obtain ⟨e,b,rfl⟩:=an9.1 a;exact o.sz e b
section
variable {r:TF} {es:List cT} {p0:Xac} {l0 c0:Nat}
def N4 (J:EqsOk es) (lo:Lx r es p0):∀ f,K7 es r p0 l0 c0 f:=by
 intro f;have n:∀ s,cC es s=true->s∈aU es:=fun s=>(dQ es s).1
 have hs:=J.names;have hnl:(aU es).length=es.length:=by unfold aU; rw [ab9]
 induction f with
 | zero =>
  intro v st h p l c m co g hv h0 hu hi
  have:=(g.open J.nodup hv h0).2
  omega
 | succ f ih =>
  intro v st h p l c m co g hv h0 hu hi;have o:=lo.ord;have o':=o;unfold TF.ord at o';have hlen:=J.len;refine aX (args:=.string v::r.uG) mixed Tryz.func87 av (oy v (bx r.N) (bx r.L) (bx r.W) (bx r.O) (bx r.E) (bx r.A) (bx r.B) (bx r.V)) ?_;unfold jH aR aY bq aH cE eZ bd bR bn aC bj bZ aM ct;have hsv:=hs v hv;have hcnt:st.jU<=es.length:=by have:=g.sum; omega
  have hway:=g.dh;have hll:l=st.dh.length:=by rw [m.w.1,ab9]
  have hV:=co.bV.lt;refine aw co.bN (some r.gN,()) (ak ?_);refine aw co.bN (some r.gN,()) (ak ?_);refine ZN (en:=eI) m.mN ?_;refine m.vV o hsv (w:=st.jU+1) (by rw [wrap_i64 ad ad]; omega) ?_;intro h1 Q s1 z1;have D:(st.num v).isSome=false:=by rw [h0]; rfl
  rw [D] at Q;simp only [Bool.false_eq_true,if_false] at Q;have co1:=s1.co lo m co;refine aw co1.bL (some r.gL,()) (ak ?_);refine aw co1.bN (some r.gN,()) (ak ?_);refine Q.F8 v ?_;refine Q.tU o hsv rfl ?_;intro h2 m2 s2 z2;simp only [cH,Option.getD_some] at m2;have co2:=s2.co lo Q co1;refine aw m2.bW ((p,l,c),()) (ak ?_);refine m2.Y' o ad ad ?_;intro h3 p3 c3 m3 s3;have co3:=s3.co lo m2 co2;refine aw co3.bO (some r.gO,()) (ak ?_);refine m3.XX o hsv ?_;intro h4 m4 s4 z4;have co4:=s4.co lo m3 co3;have s04:rh r p h p3 h4:=((s1.trans s2).trans s3).trans s4
  replace m4:nP r h4 (eV v st) p3 (l+1) c3:=m4
  refine aw co4.bE ((p0,l0,c0),()) (ak ?_);refine aw co4.bA (some r.gA,()) (ak ?_);obtain ⟨nA,mA⟩:=co4.mA;refine Kw mA v ?_;obtain ⟨k,hk⟩:=Fv hv;obtain ⟨u,hkn,hkx⟩:=pv hk;have hl0:=co4.vw.len;rw [hk];simp only [Option.getD_some];refine gR ?_;obtain ⟨a,ha,hc⟩:=co4.vw.cells k u;refine bf ha ?_;rw [cr k];have hin:=co4.vw.fx es[k] (al9 u);have C:∀ h',RN r h' es p0 l0 c0->ik h' es[k].p es[k].l es[k].x.ah:=fun h' co'=>co'.vw.fx es[k] (al9 u)
  have htl:=J.tl es[k] (al9 u);have hts:=J.ts es[k] (al9 u);have hli:=lo.li es[k] (al9 u);have R:cS (du es) v=es[k].x.ah.map (·.1):=by unfold cS; rw [hkx]
  generalize es[k]=e at hc hin C htl hts hli R;refine ar ((e.p,e.l,e.c),()) ⟨by rw [add_zero']; exact hc.2.1,trivial⟩ ?_;refine ak ?_;have hel:=hin.len;have hgood:=fun l=>MX J.nodup n (cS (du es)) g hv h0 hu l
  have S:∀ l:List Xaa,qa (aU es) (l.foldl (eU (cC es) (cV (cC es) (cS (du es)) f) v) (eV v st)):=fun l=>qa.fold n (fun w st hi hw=>qa.visit n (cS (du es)) f w st hi hw) l _ (hi.open hv)
  refine aQ (cs:=cF) (fun x w h'=>∃ (i:Nat) (p':Xac) (l' c':Nat),x.1=(i:Int)/\i<=e.x.ah.length/\w=e.x.ah.length-i/\nP r h' (((e.x.ah.map (·.1)).take i).foldl (eU (cC es) (cV (cC es) (cS (du es)) f) v) (eV v st)) p' l' c'/\rh r p h p' h')
   ((0:Int),()) e.x.ah.length rfl ⟨0,p3,l+1,c3,rfl,ad,ad,m4,s04⟩ ?_
  rintro ⟨n26,⟨⟩⟩ w U ⟨i,p5,K,c5,X,hile,rfl,q,M⟩;simp only at X;subst X;refine ak ?_;have co5:=M.co lo m co;obtain ⟨F,Y,j,n5,Z⟩:=hgood ((e.x.ah.map (·.1)).take i);have hi5:=S ((e.x.ah.map (·.1)).take i);have hk5:=fun hi:i<e.x.ah.length=>(show (e.x.ah.map (·.1)).take (i+1)=(e.x.ah.map (·.1)).take i++[e.x.ah[i].1] by
   rw [ag9 (by rw [ab9]; exact hi),am9])
  have hfin:i=e.x.ah.length->(e.x.ah.map (·.1)).take i=cS (du es) v:=by
   intro hh;rw [R];exact bw9 (by rw [ab9]; omega)
  have hfold:∀ hi:i<e.x.ah.length,((e.x.ah.map (·.1)).take (i+1)).foldl (eU (cC es) (cV (cC es) (cS (du es)) f) v) (eV v st)=eU (cC es) (cV (cC es) (cS (du es)) f) v (((e.x.ah.map (·.1)).take i).foldl (eU (cC es) (cV (cC es) (cS (du es)) f) v) (eV v st)) e.x.ah[i].1:=by
   intro hi;rw [hk5 hi,cg9]; rfl
  have d:cV (cC es) (cS (du es)) (f+1) v st=(if vF ((cS (du es) v).foldl (eU (cC es) (cV (cC es) (cS (du es)) f) v) (eV v st)) v<tD ((cS (du es) v).foldl (eU (cC es) (cV (cC es) (cS (du es)) f) v) (eV v st)) v then (cS (du es) v).foldl (eU (cC es) (cV (cC es) (cS (du es)) f) v) (eV v st) else r5 v ((cS (du es) v).foldl (eU (cC es) (cV (cC es) (cS (du es)) f) v) (eV v st))):=rfl;refine aK ?_ ?_<;>intro g1
  ·have y:i<e.x.ah.length:=ad
   have hfold:=hfold y;refine gR ?_;obtain ⟨a2,ha2,hc2⟩:=(C U co5).cells i y;refine bf ha2 ?_;rw [cr i];have htsi:=hts e.x.ah[i] (al9 y);generalize e.x.ah[i]=t at hc2 htsi hfold;generalize hst5:((e.x.ah.map (·.1)).take i).foldl (eU (cC es) (cV (cC es) (cS (du es)) f) v) (eV v st)=st5 at q F Y hi5 hfold;refine ar (t.1,(t.2:Int),()) hc2 (ak ?_);refine bm ?_;intro h6 b6 e6 z6;refine bP b6 ?_;intro h7 P k7 z7;have P:br h7 U.size 64 [.string t.1,.int .u32 (t.2:Int)]:=P;have G:Ext U h7:=bU e6 k7;have co7:=co5.nH lo G ai;have m7:=q.aj G;have XA:rh r p5 U p5 h7:=rh.ext G;have ha7:=co5.bV.lt;have H:U.size∉aG p5:=fun hb=>by have:=(q.w.cw hb).2; omega
   have hw:=hY i;refine aw co7.bA (some r.gA,()) (ak ?_);refine aw P (t.1,()) (ak ?_);obtain ⟨nA7,mA7⟩:=co7.mA;refine EB mA7 t.1 ?_;refine ao ?_ ?_<;>intro b
   ·have b:¬ cC es t.1=true:=by
     unfold cC;intro hh;rw [hh] at b;cases b
    have I:eU (cC es) (cV (cC es) (cS (du es)) f) v st5 t.1=st5:=ac9 b;refine aD (cs:=cF) (((i+1:Nat):Int),()) (e.x.ah.length-(i+1)) rfl ad (aq9 (fun z=>[Value.int .i64 z]) hw) ⟨i+1,p5,K,c5,rfl,ad,rfl,?_,M.trans XA⟩;rw [hfold,I];exact m7
   ·have b:cC es t.1=true:=by
     unfold cC;cases hh:(kW es t.1).isSome with
     | true=>rfl
     | false=>rw [hh] at b; cases b
    have hwn:=n _ b;have I:eU (cC es) (cV (cC es) (cS (du es)) f) v st5 t.1=uq (cV (cC es) (cS (du es)) f) v t.1 (fL v t.1 st5):=af9 b;rw [I] at hfold;have g8:=F.self v t.1;have hu8:rK (aU es) (fL v t.1 st5)<=f:=by unfold rK; rw [(iN v t.1 st5).1]; exact Y
    have hi8:qa (aU es) (fL v t.1 st5):=by intro s hs; rw [(iN v t.1 st5).1] at hs; exact hi5 s hs
    refine aw P (t.1,()) (ak ?_);rw [XV];refine aK ?_ ?_<;>intro g3
    ·refine aw co7.bB (some r.gB,()) (ak ?_);refine m7.jk o hsv ?_;intro h8 m8 s8 z8;have e8:fL v t.1 st5={ st5 with back:=dO st5.back v true }:=af9 g3;rw [<- e8] at m8;have co8:=s8.co lo m7 co7;have b8:=s8.box (st:=st5) (l:=K) (c:=c5) o ha7 H P;refine Lh ih lo hs m8 co8 g8 hu8 hi8 hv hwn ha7 H b8 (i:Int) ?_;intro h9 p9 l9 c9 m9 s9;refine aD (cs:=cF) (((i+1:Nat):Int),()) (e.x.ah.length-(i+1)) rfl ad (aq9 (fun z=>[Value.int .i64 z]) hw) ⟨i+1,p9,l9,c9,rfl,ad,rfl,?_,((M.trans XA).trans s8).trans s9⟩;rw [hfold];exact m9
    ·have e8:fL v t.1 st5=st5:=ac9 g3;rw [<- e8] at m7;refine Lh ih lo hs m7 co7 g8 hu8 hi8 hv hwn ha7 H P (i:Int) ?_;intro h9 p9 l9 c9 m9 s9;refine aD (cs:=cF) (((i+1:Nat):Int),()) (e.x.ah.length-(i+1)) rfl ad (aq9 (fun z=>[Value.int .i64 z]) hw) ⟨i+1,p9,l9,c9,rfl,ad,rfl,?_,(M.trans XA).trans s9⟩;rw [hfold];exact m9
  ·have hii:=hfin ad;rw [hii] at q F j hi5 Z;generalize hst5:(cS (du es) v).foldl (eU (cC es) (cV (cC es) (cS (du es)) f) v) (eV v st)=st5 at q F j hi5 Z d;refine aw co5.bL (some r.gL,()) (ak ?_);refine q.BW v ?_;refine aw co5.bN (some r.gN,()) (ak ?_);refine q.F8 v ?_;refine ao ?_ ?_<;>intro b
   ·have b:vF st5 v<tD st5 v:=by have:=ah9 b; unfold vF tD; omega
    rw [af9 b] at d;refine ⟨rfl,p5,K,c5,?_,M⟩;rw [d];exact q
   ·have b:¬ vF st5 v<tD st5 v:=by have:=ar9 b; unfold vF tD; omega
    rw [ac9 b] at d;have hl5:K=st5.dh.length:=by rw [q.w.1,ab9]
    have hw5:=F.dh;have hc5:st5.jU<=es.length:=by have:=F.sum; omega
    have hvw:v∈st5.dh:=j.subset ai;have hpk:sC v st5<st5.dh.length:=by
     unfold sC;rw [List.findIdx_lt_length];exact ⟨v,hvw,ai⟩
    refine aw q.bW ((p5,K,c5),()) (ak ?_);refine je (NZ q.w v hvw ad) ?_;refine aw q.bW ((p5,K,c5),()) (ak ?_);have hcap:=q.w.Im;have hpk':(st5.dh.findIdx fun x=>decide (v=x))=sC v st5:=rfl;rw [hpk'];refine dy ⟨ad,ad,ad⟩ ?_;refine Wj lo hs q co5 hi5 F ad ad ?_;intro h6 p6 l6 c6 m6 s6;refine ⟨rfl,p6,l6,c6,?_,M.trans s6⟩;rw [d];exact m6
end
theorem qa.top {names:List Xaa} {own:Xaa->Bool} (a:∀ s,own s=true->s∈names) (succ:Xaa->List Xaa) (f:Nat):∀ (l:List Xaa) (st:TS),(∀ s,s∈l->s∈names)->qa names st->qa names (l.foldl (xF own succ f) st)
 | [],st,hl,hi=>hi
 | w::l,st,hl,hi=>by
  rw [br9];refine qa.top a succ f l _ (fun s b=>hl s (ap9 _ b)) ?_;unfold xF;split
  ·exact qa.visit a succ f w st hi (hl w ai)
  ·exact hi
def JF {p:Xac} {c:Nat} {es:List cT} (v:uS O p H es) (U:EqsOk es) (hp:∀ i,i∈aG p->i<O.size) :
  HC Xaz 61 #[.slice p H c] O fun w h'=>(∃ g n,w=.map (some g)/\ej eB h' g (HZ (cC es) (cS (du es)) (aU es)).back n/\O.size<=g)/\Ext O h':=by
 refine aX (args:=[.slice p H c]) mixed Tryz.func61 av (yw p H c) ?_;unfold uu aR aY bq aH bM bR aC aZ bZ aM;have A:∀ s,cC es s=true->s∈aU es:=fun s=>(dQ es s).1
 have hnl:(aU es).length=es.length:=by unfold aU; rw [ab9]
 have hll:=v.len;have hlen:=U.len;refine bm ?_;intro h1 b1 e1 z1;refine aw b1 ((p,H,c),()) (ak ?_);refine aE (A5 (v.aj e1) U.len U.nodup U.sz) ?_;rintro _ h2 ⟨⟨gA,rfl,mA,hgA⟩,e2⟩;refine ⟨(some gA,()),rfl,ak ?_⟩;have b2:=b1.aj e2 ai;have hgA2:=mA.lt;refine bm ?_;intro h3 b3 e3 z3;refine bP b3 ?_;intro h4 b4 k4 z4;have b4:br h4 h2.size 105 [.map (some gA)]:=b4;have e24:Ext h2 h4:=bU e3 k4;refine zp (en:=eB) ?_;intro W m5 e5 z5;refine bm ?_;intro h6 b6 e6 z6;refine bP b6 ?_;intro h7 b7 k7 z7;have b7:br h7 W.size 152 [.map (some h4.size)]:=b7;have X:Ext W h7:=bU e6 k7;refine zp (en:=eI) ?_;intro h8 m8 e8 z8;refine zp (en:=eI) ?_;intro C m9 e9 z9;refine bm ?_;intro Y b10 e10 z10;refine bm ?_;intro h11 b11 Z z11;refine bP (b10.aj Z ai) ?_;intro h12 K k12 z12;have K:br h12 C.size 105 [.map (some h7.size)]:=K;refine bP (b11.aj k12 (by simp; omega)) ?_;intro h13 L k13 z13;have L:br h13 Y.size 105 [.map (some h8.size)]:=L;have e913:Ext C h13:=Ch.trans ((bU (Ext.trans e10 Z) k12):Ext C h12) k13 (fun j hj hl=>by simp at hj; omega);refine bm ?_;intro h14 b14 e14 z14;refine zp (en:=eB) ?_;intro M m15 e15 z15;refine bm ?_;intro h16 b16 e16 z16;refine bP b16 ?_;intro h17 P k17 z17;have P:br h17 M.size 152 [.map (some h14.size)]:=P;have Q:Ext M h17:=bU e16 k17;refine bm ?_;intro h18 b18 e18 z18;refine bP b18 ?_;intro h19 b19 k19 z19;have f:Ext h17 h19:=bU e18 k19;have e1519:=Q.trans f;have a:Ext h13 h19:=(e14.trans e15).trans e1519;have e919:=e913.trans a;have m:Ext h7 h19:=(e8.trans e9).trans e919;have D:Ext h4 h19:=(e5.trans X).trans m;have e219:=e24.trans D;have F:Ext O h19:=(e1.trans e2).trans e219;have hz13:h13.size=C.size+2:=ad
 have hz9:C.size=h7.size+2:=ad
 have hz7:h7.size=h4.size+2:=ad
 have hz4:h4.size=h2.size+1:=ad
 generalize G:(⟨O.size,gA,h2.size,h4.size,W.size,h7.size,h8.size,C.size,Y.size,h13.size,h14.size,M.size,h17.size⟩:TF)=r;have ho:r.ord:=by
  subst G;unfold TF.ord;dsimp only;omega
 have co:RN r h19 es p H c:=by
  subst G;refine ⟨(b2.aj e219 ai),b4.aj D ai,⟨_,mA.aj e219 ai⟩,?_,(K.aj k13 (by simp; omega)).aj a ai,L.aj a ai,P.aj f ai,b7.aj m ai,v.aj F⟩;exact b19
 have st:nP r h19 Dq none 0 0:=by
  subst G;exact ⟨m8.aj (e9.trans e919) ai,⟨0,m9.aj e919 ai⟩,⟨0,m15.aj e1519 ai⟩,⟨0,m5.aj ((X.trans m)) ai⟩,b14.aj (e15.trans e1519) ai,SL.nil _ _ _ _⟩
 have lo:Lx r es p:=by
  subst G;exact ⟨ho,hp,fun e he hne i hi=>(v.fx e he).Xd hne i hi⟩
 have hrE:r.E=O.size:=by subst G; rfl
 have hbN:r.N=C.size:=by subst G; rfl
 have hbV:r.V=h17.size:=by subst G; rfl
 have hbB:r.B=W.size:=by subst G; rfl
 rw [show (⟨C.size,0,none⟩:Xax)=bx r.N by rw [hbN],show (⟨h17.size,0,none⟩:Xax)=bx r.V by rw [hbV],show (⟨W.size,0,none⟩:Xax)=bx r.B by rw [hbB],show (⟨O.size,0,none⟩:Xax)=bx r.E by rw [hrE]];refine aw co.bE ((p,H,c),()) (ak ?_);refine aQ (cs:=cF) (fun x w h'=>∃ (i:Nat) (p':Xac) (l' c':Nat),x.1=(i:Int)/\i<=es.length/\w=es.length-i/\nP r h' (((aU es).take i).foldl (xF (cC es) (cS (du es)) (aU es).length) Dq) p' l' c'/\rh r none h19 p' h')
  ((0:Int),()) es.length rfl ⟨0,none,0,0,rfl,ad,ad,st,rh.refl _ _ _⟩ ?_
 rintro ⟨n20,⟨⟩⟩ w h20 ⟨i,R,l20,c20,hi0,hile,rfl,q,S⟩;simp only at hi0;subst hi0;refine ak ?_;have co20:=S.co lo st co;refine aK ?_ ?_<;>intro g1
 ·have I:i<es.length:=ad
  refine gR ?_;obtain ⟨a2,ha2,hc2⟩:=co20.vw.cells i I;refine bf ha2 ?_;rw [cr i];have t20:=D1 (own:=cC es) (succ:=cS (du es)) U.nodup A ((aU es).take i) [] Dq (fun s hs=>cy9 hs) (YN _);have i20:=qa.top A (cS (du es)) (aU es).length ((aU es).take i) Dq (fun s hs=>cy9 hs) (fun s hs=>(hs rfl).elim);have t:(aU es).take (i+1)=(aU es).take i++[es[i].name]:=by
   rw [ag9 ad];unfold aU;rw [am9]
  have J:es[i].name∈aU es:=bc9 (al9 I);generalize es[i]=e at hc2 t J;have b:((aU es).take (i+1)).foldl (xF (cC es) (cS (du es)) (aU es).length) Dq=xF (cC es) (cS (du es)) (aU es).length (((aU es).take i).foldl (xF (cC es) (cS (du es)) (aU es).length) Dq) e.name:=by
   rw [t,cg9]; rfl
  generalize ((aU es).take i).foldl (xF (cC es) (cS (du es)) (aU es).length) Dq=o at q t20 i20 b;refine ar (e.name,(e.p,e.l,e.c),(e.x.num:Int),()) hc2 (ak ?_);refine bm ?_;intro h21 b21 e21 z21;refine bP b21 ?_;intro h22 u k22 z22;have u:br h22 h20.size 116 [.string e.name,.slice e.p e.l e.c,.int .u32 e.x.num]:=u;have d:Ext h20 h22:=bU e21 k22;have co22:=co20.nH lo d ai;have m22:=q.aj d;have s22:rh r none h19 R h22:=S.trans (rh.ext d);have hw:=hY i;refine aw co22.bN (some r.gN,()) (ak ?_);refine aw u (e.name,()) (ak ?_);refine m22.F8 e.name ?_;refine ao ?_ ?_<;>intro y
  ·have y:(o.num e.name).getD 0=0:=by have:=ah9 y; omega
   refine aw co22.bV (.func (.func 87) #[] r.uG.toArray,()) (ak ?_);refine aw u (e.name,()) (ak ?_);refine wK (cap:=r.uG) Y2 rfl (N4 U lo (aU es).length e.name o h22 R l20 c20 m22 co22 t20.pV J (t20.pV.none y) (do9 _ _) i20) ?_;rintro _ h23 ⟨rfl,p23,l23,c23,m23,s23⟩;refine ⟨(),rfl,?_⟩;refine aD (cs:=cF) (((i+1:Nat):Int),()) (es.length-(i+1)) rfl ad (aq9 (fun z=>[Value.int .i64 z]) hw) ⟨i+1,p23,l23,c23,rfl,ad,rfl,?_,s22.trans s23⟩;rw [b];unfold xF;rw [af9 y];exact m23
  ·have y:¬ (o.num e.name).getD 0=0:=by
    intro k;rw [k] at y;simp at y
   refine aD (cs:=cF) (((i+1:Nat):Int),()) (es.length-(i+1)) rfl ad (aq9 (fun z=>[Value.int .i64 z]) hw) ⟨i+1,R,l20,c20,rfl,ad,rfl,?_,s22⟩;rw [b];unfold xF;rw [ac9 y];exact m22
 ·have t:(aU es).take i=aU es:=bw9 ad;rw [t] at q;refine aw co20.bB (some r.gB,()) (ak ?_);obtain ⟨n3,mB⟩:=q.mB;have o':=ho;unfold TF.ord at o';refine ⟨⟨r.gB,n3,rfl,mB,ad⟩,Ch.trans F S.ch fun j hj hl=>?_⟩;rw [qA] at hj;simp [aG] at hj;omega
def xG {us:dm} (s:SL O H j 2 U V b (us.map df)):ik O U V us :=
 ⟨by rw [s.1,ab9],fun i hi=>by
  obtain ⟨a,d,hc⟩:=s.cells (i:=i) (by simpa using hi);rw [am9] at hc;exact ⟨a,d,hc⟩⟩
structure uz (es:List cT):Prop extends EqsOk es where
 Xw:(es.flatMap (·.x.ah)).length<=2^20
abbrev fl (es:List cT) (v:Xaa):bJ:=Ki (cC es) (du es) (aU es) v
abbrev dA (es:List cT):Xaa->Xaa->Prop:=Edge (cC es) (cS (du es))
def kG {es:List cT} {v:Xaa} (hv:v∈aU es):∃ e,e∈es/\e.name=v/\du es v=e.x:=by
 obtain ⟨k,hk⟩:=Fv hv;obtain ⟨a,b,c⟩:=pv hk;exact ⟨_,al9 a,b,c⟩
def ir {α β:Type} (f:α->List β) {l:List α} {a:α} (h:a∈l):(f a).length<=(l.flatMap f).length:=by
 induction l with
 | nil=>simp at h
 | cons b l c =>
  rw [cd9,ae9];rcases bd9.1 h with e | e
  ·subst e; omega
  ·have:=c e; omega
def uz.Ak {es:List cT} (o:uz es) {v:Xaa} (hv:v∈aU es):(du es v).ah.length<=2^20:=by
 obtain ⟨e,a,_,b⟩:=kG hv;rw [b];exact cn9 (ir (fun e:cT=>e.x.ah) a) o.Xw
def uz.Fo {es:List cT} (o:uz es) (hc:∀ v,¬ kV (dA es) v) {v:Xaa} (hv:v∈aU es):(fl es v).ah.length<=2^20:=by
 have hnf:=W7 (dQ es) hc hv;have hnm:=tv (dQ es) hc hv;have h1:((fl es v).ah.map (·.1)).Nodup:=cp9.2 (hnf.1.imp fun h=>jT h);have h2:=kb ((fl es v).ah.map (·.1)) ((es.flatMap (·.x.ah)).map (·.1)) h1 (fun s b=>by
  obtain ⟨t,ht,rfl⟩:=an9.1 b;obtain ⟨_,w,u,c,a,e⟩:=hnm t ht;obtain ⟨d,f,_,g⟩:=kG c;rw [g] at a;rw [<- e];exact bc9 (ei9.2 ⟨d,f,a⟩))
 rw [ab9,ab9] at h2;exact cn9 h2 o.Xw
def uz.NA {es:List cT} (o:uz es) (hc:∀ v,¬ kV (dA es) v) {v:Xaa} (hv:v∈aU es):∀ t,t∈(fl es v).ah->t.1.size<=maxLen:=by
 intro t ht;obtain ⟨_,w,u,b,a,e⟩:=tv (dQ es) hc hv t ht;obtain ⟨d,c,_,f⟩:=kG b;rw [f] at a;rw [<- e];exact o.ts d c u a
theorem qR {of:Xaa->Option bJ} {B:Nat} (b:1<=B) (a:∀ s y,of s=some y->y.ah.length<=B):∀ l:dm,(l.flatMap (sE of)).length<=l.length*B
 | []=>ai
 | t::l=>by
  rw [cd9,ae9,ck9,cz9];have ih:=qR b a l
  have:(sE of t).length<=B:=by
   unfold sE;cases h:of t.1 with
   | none=>simpa using b
   | some y=>simpa using a _ _ h
  omega
structure SF where
 E:Nat
 gA:Nat
 A:Nat
 gD:Nat
 D:Nat
 V:Nat
def SF.ord (r:SF):Prop:=r.E<r.gA/\r.gA<r.A/\r.A<r.gD/\r.gD<r.D/\r.D<r.V
def SF.uG (r:SF):List Xab:=[.pointer (some (bx r.D)),.pointer (some (bx r.E)),.pointer (some (bx r.A)),.pointer (some (bx r.V))]
structure Xp (r:SF) (h:Hp) (es:List cT) (p0:Xac) (l0 c0:Nat):Prop where
 bE:br h r.E 67 [.slice p0 l0 c0]
 bA:br h r.A 105 [.map (some r.gA)]
 mA:∃ n,ej eI h r.gA (kW es) n
 bV:br h r.V 166 [.func (.func 63) #[] r.uG.toArray]
 bD:br h r.D 165 [.map (some r.gD)]
 vw:uS h p0 l0 es
structure ZW (r:SF) (es:List cT) (p0:Xac):Prop where
 ord:r.ord
 l0:∀ i,i∈aG p0->i<r.E
 li:∀ e,e∈es->e.x.ah≠[]->∀ i,i∈aG e.p->i<r.E
def Xp.aj {r:SF} {h h':Hp} {es:List cT} {p0:Xac} {l0 c0:Nat} (m:Xp r h es p0 l0 c0) (lo:ZW r es p0) (k:Ch [r.gD] h h'):Xp r h' es p0 l0 c0:=by
 have o:=lo.ord;unfold SF.ord at o;obtain ⟨n,mA⟩:=m.mA;exact ⟨m.bE.aj k (by simp; omega),m.bA.aj k (by simp; omega),⟨n,mA.aj k (by simp; omega)⟩,m.bV.aj k (by simp; omega),m.bD.aj k (by simp; omega),m.vw.nH k (fun i hi=>by have:=lo.l0 i hi; simp; omega) (fun e b a i hi=>by have:=lo.li e b a i hi; simp; omega)⟩
structure Vl (r:SF) (h:Hp) (es:List cT) (f:Xaa->Option sK):Prop where
 map:∃ n,IL h r.gD f n
 of:∀ s y,f s=some y->s∈aU es/\y.x=fl es s/\∀ i,i∈aG y.p->r.V<i/\i<h.size
variable {k:SF}
def Vl.ext {h':Hp} {es:List cT} {f:Xaa->Option sK} (d:Vl k O es f) (e:Ext O h'):Vl k h' es f:=by
 obtain ⟨n,m⟩:=d.map;exact ⟨⟨n,m.aj e ai (fun s y g i hi=>ai)⟩,fun s y g=>by
  obtain ⟨a,b,c⟩:=d.of s y g;exact ⟨a,b,fun i hi=>⟨(c i hi).1,Nat.lt_of_lt_of_le (c i hi).2 e.size⟩⟩⟩
def YF (f a:Xaa->Option sK):Prop:=∀ s y,f s=some y->a s=some y
def UG (b:Nat) (f a:Xaa->Option sK):Prop:=∀ s y,a s=some y->f s=some y\/∀ i,i∈aG y.p->b<=i
def VH:fX Xaz 63=true:=av
def OJ {es:List cT} {p0:Xac} {l0 c0:Nat} (eo:uz es) (lo:ZW k es p0) (hc:∀ v,¬ kV (dA es) v):∀ (d:Nat) (v:Xaa),Hg (dA es) d v->v∈aU es->∀ (h:Hp) (f:Xaa->Option sK),Xp k h es p0 l0 c0->Vl k h es f ->
  HC Xaz 63 (.string v::k.uG).toArray h fun w h'=>∃ y N,w=eL y/\y.x=fl es v/\Vl k h' es N/\N v=some y/\YF f N/\UG h.size f N/\Ch [k.gD] h h':=by
 intro d;have o:=lo.ord;have o':=o;unfold SF.ord at o';have hown:=dQ es
 induction d with
 | zero=>intro v hg; exact hg.elim
 | succ d ih =>
  intro v hg hv h f co dn;refine aX (args:=.string v::k.uG) mixed Tryz.func63 av (qu v (bx k.D) (bx k.E) (bx k.A) (bx k.V)) ?_;unfold lp aR aY bq aH bM bR aC aZ bZ aM ct;have hV:=co.bV.lt;have hsv:=eo.toEqsOk.names v hv;refine bm ?_;intro h1 b1 e1 z1;have co1:=co.aj lo (e1.mono ai);have dn1:=dn.ext e1;refine aw co1.bD (some k.gD,()) (ak ?_);obtain ⟨n1,m1⟩:=dn1.map;refine BW m1.map v (fun y hy1=>?_) (fun hy0=>?_)
  ·refine bm ?_;intro h2 b2 e2 z2;refine bP b2 ?_;intro h3 b3 k3 z3;have b3:br h3 h1.size 53 [.slice y.p y.l y.c,.int .u32 (y.x.num:Int)]:=b3;have F:Ext h1 h3:=bU e2 k3;refine bX rfl ?_;refine aw b3 ((y.p,y.l,y.c),(y.x.num:Int),()) (ak ?_);refine bP (b1.aj F ai) ?_;intro h4 b4 k4 z4;have b4:br h4 h.size 53 [.slice y.p y.l y.c,.int .u32 (y.x.num:Int)]:=b4;refine aw b4 ((y.p,y.l,y.c),(y.x.num:Int),()) ?_;have e04:Ext h h4:=bU (e1.trans F) k4;exact ⟨y,f,rfl,(dn.of v y hy1).2.1,dn.ext e04,hy1,fun s y hy=>hy,fun s y hy=>.inl hy,e04.mono ai⟩
  ·refine bm ?_;intro h2 b2 e2 z2;refine bP b2 ?_;intro h3 b3 k3 z3;have F:Ext h1 h3:=bU e2 k3;refine cv rfl ?_;have e03:=e1.trans F;have co3:=co.aj lo (e03.mono ai);have dn3:=dn.ext e03;refine aw co3.bE ((p0,l0,c0),()) (ak ?_);refine aw co3.bA (some k.gA,()) (ak ?_);obtain ⟨nA,mA⟩:=co3.mA;refine Kw mA v ?_;obtain ⟨q,hq⟩:=Fv hv;obtain ⟨O,hqn,hqx⟩:=pv hq;have hl0:=co3.vw.len;have hlen:=eo.len;rw [hq];simp only [Option.getD_some];refine gR ?_;obtain ⟨a,ha,Z⟩:=co3.vw.cells q O;refine bf ha ?_;rw [cr q];have n:∀ h',Xp k h' es p0 l0 c0->ik h' es[q].p es[q].l es[q].x.ah:=fun h' co'=>co'.vw.fx es[q] (al9 O)
   have hts:=eo.ts es[q] (al9 O);have hli:=lo.li es[q] (al9 O);have hll:=eo.Ak hv;have hsol:=JK hown hc hv;rw [hqx] at hll hsol;have G:∀ t,t∈es[q].x.ah->cC es t.1=true->dA es v t.1:=fun t ht C=>⟨lR.2 ⟨t,by rw [hqx]; exact ht,rfl⟩,C⟩
   generalize es[q]=e at Z n hts hli hll hsol G;refine ar ((e.p,e.l,e.c),(e.x.num:Int),()) ⟨by rw [add_zero']; exact Z.2.1,by rw [add_add]; exact Z.2.2.1,trivial⟩ ?_;refine ak ?_;refine bm ?_;intro h5 b5 e5 z5;refine bP b5 ?_;intro h6 b6 k6 z6;have b6:br h6 h3.size 53 [.slice e.p e.l e.c,.int .u32 (e.x.num:Int)]:=b6;have e36:Ext h3 h6:=bU e5 k6;have e06:=e03.trans e36;have hz3:=e03.size;refine aw b6 ((e.p,e.l,e.c),()) (ak ?_);refine aQ (cs:=cF) (fun x w h'=>∃ (i:Nat) (N:Xaa->Option sK),x.1=(i:Int)/\i<=e.x.ah.length/\w=e.x.ah.length-i/\Vl k h' es N/\YF f N/\UG h6.size f N/\(∀ t,t∈e.x.ah.take i->cC es t.1=true->∃ y,N t.1=some y)/\Ch [k.gD] h6 h')
    ((0:Int),()) e.x.ah.length rfl ⟨0,f,rfl,ad,ad,dn.ext e06,fun s y hy=>hy,fun s y hy=>.inl hy,ai,Ch.refl _ _⟩ ?_
   rintro ⟨n23,⟨⟩⟩ w h7 ⟨i,H,hi0,hile,rfl,g,sb7,P,Q,k7⟩;simp only at hi0;subst hi0;refine ak ?_;have R:Ch [k.gD] h h7:=Ch.trans (e06.mono ai) k7 (fun j I _=>I);have co7:=co.aj lo R;have hel:=(n h7 co7).len;refine aK ?_ ?_<;>intro g1
   ·have J:i<e.x.ah.length:=ad
    refine gR ?_;obtain ⟨a2,ha2,hc2⟩:=(n h7 co7).cells i J;refine bf ha2 ?_;rw [cr i];have htk:e.x.ah.take (i+1)=e.x.ah.take i++[e.x.ah[i]]:=ag9 J;have hed:=G e.x.ah[i] (al9 J);generalize e.x.ah[i]=t at hc2 htk hed;refine ar (t.1,(t.2:Int),()) hc2 (ak ?_);refine bm ?_;intro h8 b8 e8 z8;refine bP b8 ?_;intro h9 S k9 z9;have S:br h9 h7.size 64 [.string t.1,.int .u32 (t.2:Int)]:=S;have K:Ext h7 h9:=bU e8 k9;have U:Ch [k.gD] h h9:=Ch.trans R K ai;have co9:=co.aj lo U;have dn9:=g.ext K;have hw:=hY i;refine aw co9.bA (some k.gA,()) (ak ?_);refine aw S (t.1,()) (ak ?_);obtain ⟨nA9,mA9⟩:=co9.mA;refine EB mA9 t.1 ?_;refine ao ?_ ?_<;>intro W
    ·have W:cC es t.1=true:=W;refine aw co9.bV (.func (.func 63) #[] k.uG.toArray,()) (ak ?_);refine aw S (t.1,()) (ak ?_);refine wK (cap:=k.uG) VH rfl (ih t.1 (hg t.1 (hed W)) ((hown _).1 W) h9 H co9 dn9) ?_;rintro _ h10 ⟨y,f10,rfl,hyx,dn10,hfy,Y,na10,m⟩;refine ⟨((y.p,y.l,y.c),(y.x.num:Int),()),rfl,ak ?_⟩;refine aD (cs:=cF) (((i+1:Nat):Int),()) (e.x.ah.length-(i+1)) rfl ad (aq9 (fun z=>[Value.int .i64 z]) hw) ⟨i+1,f10,rfl,ad,rfl,dn10,fun s y hy=>Y s y (sb7 s y hy),fun s y hy=>?_,fun u hu C=>?_,?_⟩
     ·rcases na10 s y hy with h | h
      ·exact P s y h
      ·refine .inr fun i hi=>?_
       have:=h i hi
       have:=k7.size
       have:=K.size
       omega
     ·rw [htk] at hu;rcases as9.1 hu with h | h
      ·obtain ⟨y,hy⟩:=Q u h C;exact ⟨y,Y _ _ hy⟩
      ·rw [ak9.1 h]; exact ⟨y,hfy⟩
     ·exact Ch.trans (Ch.trans k7 K ai) m (fun j I _=>I)
    ·have W:¬ cC es t.1=true:=by
      unfold cC;intro d;rw [d] at W;cases W
     refine aD (cs:=cF) (((i+1:Nat):Int),()) (e.x.ah.length-(i+1)) rfl ad (aq9 (fun z=>[Value.int .i64 z]) hw) ⟨i+1,H,rfl,ad,rfl,dn9,sb7,P,fun u hu C=>?_,Ch.trans k7 K ai⟩;rw [htk] at hu;rcases as9.1 hu with h | h
     ·exact Q u h C
     ·rw [ak9.1 h] at C; exact (W C).elim
   ·have hii:e.x.ah.take i=e.x.ah:=bw9 ad;rw [hii] at Q;have b7:=b6.aj k7 (by simp; omega);refine aw b7 ((e.p,e.l,e.c),(e.x.num:Int),()) (ak ?_);refine aw co7.bD (some k.gD,()) (ak ?_);obtain ⟨n7,m7⟩:=g.map;have hz7:=R.size;have hput:dr (fun s=>(H s).map (·.x)) e.x=fl es v:=by
     show _=Ki (cC es) (du es) (aU es) v;rw [hsol];refine qB fun t ht=>?_
     show (H t.1).map (·.x)=LI (cC es) (du es) (aU es) t.1;unfold LI
     by_cases C:cC es t.1=true
     ·obtain ⟨y,hy⟩:=Q t ht C;rw [hy,af9 C,fq9,(g.of _ _ hy).2.1]
     ·rw [ac9 C];cases hy:H t.1 with
      | none=>rfl
      | some y=>exact (C ((hown _).2 (g.of _ _ hy).1)).elim
    have L:∀ s y,H s=some y->y.x.ah.length<=2^20:=fun s y hy=>by
     obtain ⟨a,b,_⟩:=g.of s y hy;rw [b]; exact eo.Fo hc a
    refine aE (Gd (c:=e.c) (n h7 co7) m7 ad hts (fun s y hy=>⟨by have:=L s y hy; omega,by
      obtain ⟨a,b,_⟩:=g.of s y hy;rw [b]; exact eo.NA hc a⟩) ?_) ?_
    ·have:=qR (of:=fun s=>(H s).map (·.x)) (B:=2^20) ad (fun s y hy=>by
      cases hh:H s with
      | none=>simp only [hh] at hy; cases hy
      | some z =>
       simp only [hh,Option.map_some,Option.some.injEq] at hy;rw [<- hy]; exact L s z hh) e.x.ah
     exact cn9 this (cn9 (cu9 _ hll) bQ)
    ·rintro _ h8 ⟨⟨p',l',c',rfl,s8⟩,e8⟩;rw [hput] at s8 ⊢;refine ⟨((p',l',c'),((fl es v).num:Int),()),rfl,ak ?_⟩;have b8:=b7.aj e8 ai;refine bP b8 ?_;intro h9 S k9 z9;have S:br h9 h3.size 53 [.slice p' l' c',.int .u32 ((fl es v).num:Int)]:=S;have hz8:=e8.size;have k79:Ch [h3.size] h7 h9:=Ch.trans (e8.mono ai) k9 (fun j I _=>I);have U:Ch [k.gD] h h9:=Ch.trans (Ch.trans R e8 ai) k9 (fun j I hl=>by simp at I; omega);have co9:=co.aj lo U;have hk7:=k7.size;have hz36:h3.size<h6.size:=ad
     have M:∀ s y,H s=some y->∀ i,i∈aG y.p->i≠h3.size/\i≠h.size/\i≠k.gD:=by
      intro s y hy i hi;have h1:=(g.of s y hy).2.2 i hi;rcases P s y hy with h | h
      ·have:=((dn.of s y h).2.2 i hi).2
       omega
      ·have:=h i hi
       omega
     have m9:IL h9 k.gD H n7:=m7.aj k79 (by simp; omega) (fun s y hy i hi=>by
      have:=(M s y hy i hi).1
      simpa using this)
     have s9:=s8.bF k9 (fun i hi=>by have:=(s8.cw hi).1; simp; omega);refine aw co9.bD (some k.gD,()) (ak ?_);refine aw S ((p',l',c'),((fl es v).num:Int),()) (ak ?_);refine Oj m9.map hsv ⟨p',l',c',fl es v⟩ ?_;intro h10 m10 m z10;have b10:=S.aj m (by simp; omega);refine aw b10 ((p',l',c'),((fl es v).num:Int),()) (ak ?_);have b110:br h10 h.size 53 [.slice none 0 0,.int .u32 0]:=((((b1.aj F ai).aj e36 ai).aj k7 (by simp; omega)).aj k79 (by simp; omega)).aj m (by simp; omega);refine bP b110 ?_;intro h11 b11 X z11;have b11:br h11 h.size 53 [.slice p' l' c',.int .u32 ((fl es v).num:Int)]:=b11;refine aw b11 ((p',l',c'),((fl es v).num:Int),()) ?_;have k011:Ch [k.gD] h h11:=Ch.trans (Ch.trans U m (fun j I _=>I)) X (fun j I hl=>by simp at I; omega);have hz9:=k79.size;refine ⟨⟨p',l',c',fl es v⟩,dO H v ⟨p',l',c',fl es v⟩,rfl,rfl,⟨⟨_,m10.aj X (by simp; omega),fun s y hy=>?_⟩,fun s y hy=>?_⟩,cH _ _ _,fun s y hy=>?_,fun s y hy=>?_,k011⟩
     ·by_cases hsv:s=v
      ·subst hsv;rw [cH] at hy;have hy:=ay9 hy;subst hy;exact xG ((s9.bF m (fun i hi=>by have:=(s9.cw hi).1; simp; omega)).bF X (fun i hi=>by have:=(s9.cw hi).1; simp; omega))
      ·rw [cj _ _ hsv] at hy;exact ((m9.fx s y hy).aj m (fun i hi=>by have:=(M s y hy i hi).2.2; simpa using this)).aj X (fun i hi=>by have:=(M s y hy i hi).2.1; simpa using this)
     ·by_cases hsv:s=v
      ·subst hsv;rw [cH] at hy;have hy:=ay9 hy;subst hy;refine ⟨hv,rfl,fun i hi=>?_⟩
       have:=s9.cw hi
       omega
      ·rw [cj _ _ hsv] at hy;obtain ⟨a,b,c⟩:=g.of s y hy;refine ⟨a,b,fun i hi=>?_⟩
       have:=c i hi
       omega
     ·have hne:s≠v:=fun e=>by rw [e,hy0] at hy; cases hy
      rw [cj _ _ hne];exact sb7 s y hy
     ·by_cases hsv:s=v
      ·subst hsv;rw [cH] at hy;have hy:=ay9 hy;subst hy;refine .inr fun i hi=>?_
       have:=s9.cw hi
       omega
      ·rw [cj _ _ hsv] at hy;rcases P s y hy with h | h
       ·exact .inl h
       ·refine .inr fun i hi=>?_
        have:=h i hi
        omega
end Go.Sx
