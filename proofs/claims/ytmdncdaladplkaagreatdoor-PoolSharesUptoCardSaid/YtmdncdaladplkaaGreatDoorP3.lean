/- Contracts over heaps, part 3. Condition: as each statement says. -/
import Derived.Test.YtmdncdaladplkaaGreatDoorP2
import Derived.Test.YtmdncdaladplkaaGreatDoorDobjShelf
import Derived.Test.YtmdncdaladplkaaGreatDoorBtE
import Derived.LaidEql
import Derived.Stop.Asserts
import Derived.RowKitTokens
import Derived.Lib.ItoaLen
set_option linter.all false
set_option maxRecDepth 100000
set_option maxHeartbeats 4000000
namespace Go.Sx.Ob
open Go.Proofs
def X' (s:Xaa):List Xab:=[.string s]
abbrev SN (h:Hp) (b:Nat) (p:Xac) (l c:Nat) (xs:List Xaa):Prop:=SL h b 9 1 p l c (xs.map X')
variable {Y:Hp} {H U V:Nat} {O:Xac}
def SN.len {xs:List Xaa} (s:SN Y H O U V xs):U=xs.length:=by
 have:=s.1
 rwa [ab9] at this
def SN.cell {xs:List Xaa} (s:SN Y H O U V xs) {i:Nat} (hi:i<xs.length):∃ a,O=some a/\aH Y (a.add (i*1)) 0 [.string xs[i]]:=by
 obtain ⟨a,d,hc⟩:=SL.cells s (i:=i) (by rw [ab9]; exact hi);refine ⟨a,d,?_⟩;rw [am9] at hc;exact hc
def Zb (D:List Xaa) (s:Xaa) (i:Nat) (hi:i<D.length):gP (D.take (i+1)) s=(gP (D.take i) s || decide (D[i]=s)):=by
 unfold gP;rw [ae9 hi,List.any_append]
 simp
def Ex {xs:List Xaa} (v:SN Y H O U V xs) (hl:xs.length<=2^61) (s:Xaa):uu Xaz 52 [.slice O U V,.string s] Y (.bool (gP xs s)):=by
 refine ff mixed Tryz.func52 ax (jI O U V s) ?_;unfold iH aY bh bt aI bz ez aQ cn;have n:=SN.len v;refine aT (cs:=gT) (fun y m h'=>∃ i:Nat,y.2.1=(i:Int)/\m=xs.length-i/\i<=xs.length/\h'=Y/\gP (xs.take i) s=false) (false,(0:Int),()) xs.length rfl
  ⟨0,rfl,rfl,ad,rfl,rfl⟩ ?_
 rintro ⟨e,j,⟨⟩⟩ m h' ⟨i,hi,rfl,f,rfl,hn⟩;simp only at hi;subst hi;refine ao ?_;refine aR ?_ ?_<;>intro q
 ·have d:i<xs.length:=ad
  obtain ⟨a,g,hc⟩:=SN.cell v d;refine bS g ?_;rw [cr i];refine ay (xs[i],()) hc (ao ?_);have hs:=Zb xs s i d;rw [rJ];refine aw ?_ ?_<;>intro r
  ·have r:=ah9 r;refine ⟨as9 Value.bool ?_,rfl⟩;unfold gP;exact (dz9.2 ⟨_,al9 d,aj9 r⟩).symm
  ·rw [hn,r] at hs;refine aG (cs:=gT) (e,((i+1:Nat):Int),()) (xs.length-(i+1)) rfl ad (by rw [wrap_i64 ad ad]; rfl) ?_;exact ⟨i+1,rfl,rfl,ad,rfl,hs⟩
 ·have:i=xs.length:=ad
  subst this;rw [bj9] at hn;exact ⟨by rw [hn],rfl⟩
def eK (l:List cC):List Xaa:=(l.filter fun x=>decide (x.kind=1)).map (·.name)
def xS (l:List cC) (i:Nat) (hi:i<l.length):eK (l.take (i+1))=eK (l.take i)++if l[i].kind=1 then [l[i].name] else []:=by
 unfold eK;rw [ae9 hi,List.filter_append,ao9]
 congr 1
 by_cases hk:l[i].kind=1 <;> simp [hk]
variable {Z:Lp} {a:Xab->Hp->Prop} {b:Xac->Nat->Nat->T}
def SN.push {h:Hp} {xs:List Xaa} (v:SN h H O U V xs) (x:Xaa) (hl:xs.length<=2^40) (d:H<=h.size) 
  (hk:∀ p' c' h',SN h' H p' (U+1) c' (xs++[x])->Ch (aJ O) h h'->b p' (U+1) c' Z a h') :
  T.eH Xaz (Instr.buildSlice 68 1 #[(0,.string x)]) false [(false,[.slice 0])] (fun q m e=>T.eH Xaz (Builtin.append_ #[68,68] 68 #[.slice O U V,.slice q m e]) false [(false,[.slice 0])] b) Z a h:=by
 have n:=SN.len v;refine gh (vs:=[.string x]) J9 X4 rfl ad ad ax rfl rfl v d ad ad ?_;intro p' c' h' f ch _;refine hk p' c' h' ?_ ch;unfold SN;rw [ao9];exact f
def SN.ext {a b':Hp} {xs:List Xaa} (e:Ext Y a) (v:SN a H O U V xs) (d:Y.size<=H) (k:Ch (aJ O) a b'):Ext Y b' :=
 Ch.trans e k (fun i hi hl=>by have:=(Ob.SL.cB v i hi).1; omega)
def DQ {c:Nat} {us:List cC} (v:FJ Y O H us) (u:us.length<=2^20) :
  HC Xaz 129 #[.slice O H c] Y fun w h'=>∃ p' l' c',w=.slice p' l' c'/\SN h' Y.size p' l' c' (eK us)/\Ext Y h':=by
 refine bd (args:=[.slice O H c]) mixed Tryz.func129 ax (nT O H c) ?_;unfold jM aY bh bt aI bn bg aQ cY;have n:=v.len;refine aT (cs:=lM) (fun y m h'=>∃ i:Nat,y.2.1=(i:Int)/\m=us.length-i/\i<=us.length/\Ext Y h'/\(eK (us.take i)).length<=i/\SN h' Y.size y.1.1 y.1.2.1 y.1.2.2 (eK (us.take i))) ((none,0,0),(0:Int),()) us.length rfl
  ⟨0,rfl,rfl,ad,Ch.refl _ _,by simp [eK],SL.nil _ _ _ _⟩ ?_
 rintro ⟨⟨e,d,f⟩,z,⟨⟩⟩ m h1 ⟨i,hi,rfl,g,a,j,s⟩;simp only at hi s;subst hi;refine ao ?_;have hz:=a.size;refine aR ?_ ?_<;>intro q
 ·have b:i<us.length:=ad
  obtain ⟨A,pp,B,C,rfl',hc,k⟩:=(v.an a).cells i b;have ht:=xS us i b;generalize us[i]=x at hc k ht;refine hZ (bm rfl' ?_);rw [cr i];refine ay (x.kind,()) ⟨hc.1,trivial⟩ (ao ?_);refine aw ?_ ?_<;>intro r
  ·have r:x.kind=1:=by simpa using r
   rw [ag9 r] at ht;refine hZ (bm rfl' ?_);refine ay (x.name,()) ⟨by rw [add_add]; exact hc.2.1,trivial⟩ ?_;refine ao ?_;refine SN.push s x.name ad ad ?_;intro p' c' h2 o t;refine aG (cs:=lM) ((p',d+1,c'),((i+1:Nat):Int),()) (us.length-(i+1)) rfl ad (by rw [wrap_i64 ad ad]; rfl) ?_;exact ⟨i+1,rfl,rfl,ad,SN.ext a s (aq9 _) t,by rw [ht,af9]; simp; omega,by rw [ht]; exact o⟩
  ·have r:¬ x.kind=1:=by simpa using r
   rw [ac9 r,bz9] at ht;refine aG (cs:=lM) ((e,d,f),((i+1:Nat):Int),()) (us.length-(i+1)) rfl ad (by rw [wrap_i64 ad ad]; rfl) ?_;exact ⟨i+1,rfl,rfl,ad,a,by rw [ht]; omega,by rw [ht]; exact s⟩
 ·have:i=us.length:=ad
  subst this;rw [bj9] at s;exact ⟨e,d,f,rfl,s,a⟩
def Tt {h:Hp} {b' c:Nat} {xs:List Xaa} (s:SN h H O U c xs) {q:Xac} {d:Nat} {us:List Xaa} (v:SN h b' q V d us)
  (hl:U+V<=2^40) (F:H<=h.size)
  (hk:∀ p' c' h',SN h' H p' (U+V) c' (xs++us)->Ch (aJ O) h h'->b p' (U+V) c' Z a h') :
  T.eH Xaz (Builtin.append_ #[68,68] 68 #[.slice O U c,.slice q V d]) false [(false,[.slice 0])] b Z a h:=by
 obtain ⟨i,hi,G,f,r⟩:=pO X4;refine dA ?_;cases q with
 | none =>
  have h1:us=[]:=by
   have:=v.2.2.2
   simpa using this
  have h0:V=0:=by have:=SN.len v; rw [h1] at this; exact this
  have I:d=0:=v.2.2.1;subst h0 h1 I;have u:U<=c:=by
   cases O with
   | none =>
    have h2:=s.2.2.2;have h3:=s.1;rw [h2] at h3;simp at h3;omega
   | some e =>
    obtain ⟨g,w,rest,rfl,A,n,_⟩:=s.2.2;exact n.1
  simp [Builtin.append_,av,aC J9,cd hi,cS hi,Builtin.lenOf,Builtin.firstCells,u];have j:∃ p' l' c',Value.slice O U c=.slice p' l' c'/\b p' l' c' Z a h:=⟨O,U,c,rfl,by simpa using hk O c h (by simpa using s) (Ch.refl _ _)⟩
  cases O with
  | none=>exact j
  | some e=>exact j
 | some e =>
  have hc:aH h e 0 (us.map X').flatten:=by
   obtain ⟨g,w,rest,rfl,A,n,o,N⟩:=v.2.2;refine o.cells _ ?_;rw [ed9,el9]
  have B:(us.map X').flatten.all dr=true:=by
   rw [bn9];intro x J;obtain ⟨y,C,D⟩:=List.mem_flatten.1 J;obtain ⟨z,_,rfl⟩:=an9.1 C;rw [ai9.1 D] <;> rfl
  refine pD J9 hi G (by rw [f]; rfl) (by rw [f]; exact s) (ys:=us.map X') (by rw [ab9]; exact SN.len v) (fun y C=>?_) hc B (by rw [r]; omega) ad F ?_
  ·obtain ⟨t,_,rfl⟩:=an9.1 C;rw [f] <;> rfl
  ·intro p' c' h' E k' M;rw [f,<- ao9] at E;exact ⟨_,_,_,rfl,hk p' c' h' E k'⟩
def fR (u:cv):List Xaa:=eK u.text++eK u.data++u.bj.map (·.1)
def wc (l:List cC):(eK l).length<=l.length:=by
 unfold eK;rw [ab9];exact do9 _ _
def EV {a b c d:bU} {u:cv} (v:uD Y a b c d u) (h1:u.text.length<=2^20) (h2:u.data.length<=2^20) (U:u.bj.length<=2^20) :
  HC Xaz 98 #[F9 a b c d] Y fun w h'=>∃ p' l' c',w=.slice p' l' c'/\SN h' Y.size p' l' c' (fR u)/\Ext Y h':=by
 refine bd (args:=[F9 a b c d]) mixed Tryz.func98 ax (rB a.p a.l a.c b.p b.l b.c c.p c.l c.c d.p d.l d.c) ?_;unfold mh aY bh bt aI bP bn aQ cY;refine br ?_;intro n g o z1;have g:bC n Y.size 70 [a.v,b.v,c.v,d.v]:=g;simp only [aE];refine az g ((a.p,a.l,a.c),()) (ao ?_);refine az g ((b.p,b.l,b.c),()) (ao ?_);refine aK (DQ (c:=a.c) (v.text.an o) h1) ?_;rintro _ V ⟨p8,z,l10,rfl,J,r⟩;refine ⟨((p8,z,l10),()),rfl,ao ?_⟩;have b2:=g.an r aj;refine ⟨⟨b2.cells _ rfl,trivial⟩,?_⟩;refine aK (DQ (c:=b.c) (v.data.an (o.trans r)) h2) ?_;rintro _ L ⟨A,j,B,rfl,k,t⟩;refine ⟨((A,j,B),()),rfl,ao ?_⟩;have b3:=b2.an t aj;have q1:=o.size;have q2:=r.size;have q3:=t.size;refine ⟨⟨b3.cells _ rfl,trivial⟩,?_⟩;have e:SN L n.size p8 z l10 (eK u.text):=J.an t aj;have n8:=SN.len J;have n11:=SN.len k;have k8:=wc u.text;have k11:=wc u.data;have e03:=(o.trans r).trans t;refine Tt e k ad ad ?_;intro C D W E F;have e4:=SN.ext e03 e ad F;have M:Y.size∉aJ p8:=fun hi=>by have:=(Ob.SL.cB e _ hi).1; omega
 have b4:=b3.an F M;refine ⟨⟨b4.cells _ rfl,b4.cells _ rfl,trivial⟩,?_⟩;have nc:=v.bj.len;have N:∀ i,i<u.bj.length->eK u.text++eK u.data++(u.bj.take (i+1)).map (·.1)=(eK u.text++eK u.data++(u.bj.take i).map (·.1))++[(u.bj.getD i (dW,GX)).1]:=by
  intro i hi;rw [ae9 hi,ao9,<- ay9,cf9,ad9 hi] <;> rfl
 refine aT (cs:=lM) (fun y m h'=>∃ i:Nat,y.2.1=(i:Int)/\m=u.bj.length-i/\i<=u.bj.length/\(Ext Y h'/\n.size<=h'.size)/\bC h' Y.size 70 [a.v,b.v,c.v,d.v]/\SN h' n.size y.1.1 y.1.2.1 y.1.2.2 (eK u.text++eK u.data++(u.bj.take i).map (·.1))) ((C,z+j,D),(0:Int),()) u.bj.length rfl
  ⟨0,rfl,rfl,ad,⟨e4,by have:=F.size; omega⟩,b4,by simpa using E⟩ ?_
 rintro ⟨⟨p1,K,O⟩,X,⟨⟩⟩ m Z ⟨i,hi,rfl,P,⟨x,Q⟩,G,s⟩;simp only at hi s;subst hi;refine ao ?_;have hz:=x.size;refine az G ((c.p,c.l,c.c),()) (ao ?_);refine aR ?_ ?_<;>intro q
 ·have f:i<u.bj.length:=ad
  refine az G ((c.p,c.l,c.c),()) (ao ?_);obtain ⟨aa,pp,ll,cc,rfl',hc,va,vn⟩:=(v.bj.an x).cells i f;refine hZ (bm rfl' ?_);rw [cr i];refine ay (u.bj[i].1,()) ⟨hc.1,trivial⟩ (ao ?_);have ns:=SN.len s;have R:(u.bj.getD i (dW,GX)).1=u.bj[i].1:=by
   rw [cf9,ad9 f] <;> rfl
  refine SN.push s _ (by simp only [List.length_append,List.length_map,List.length_take]; omega) Q ?_;intro p' c' h2 S H;have I:Y.size∉aJ p1:=fun hi=>by have:=(Ob.SL.cB s _ hi).1; omega
  refine aG (cs:=lM) ((p',K+1,c'),((i+1:Nat):Int),()) (u.bj.length-(i+1)) rfl ad (by rw [wrap_i64 ad ad]; rfl) ?_;exact ⟨i+1,rfl,rfl,ad,⟨SN.ext x s ad H,by have:=H.size; omega⟩,G.an H I,by rw [N i f,R]; exact S⟩
 ·have:i=u.bj.length:=ad
  subst this;rw [bj9] at s;exact ⟨p1,K,O,rfl,Sx.SL.mono s ad,x⟩
def SL.flat {h:Hp} {e:TypeId} {sz:Nat} {a:Xax} {xs:List (List Xab)} (s:SL h H e sz (some a) U V xs):aH h a 0 xs.flatten:=by
 obtain ⟨g,f,rest,rfl,i,j,d,k⟩:=s.2.2;refine d.cells _ ?_;rw [ed9,el9]
def eM (h:Hp):Prop:=∃ e f,h[1]?=some (.cells (Lib.pow10Tab.map fun z=>Value.int .u64 z).toArray e f)
def eM.an {ws:List Nat} {h':Hp} (p:eM Y) (k:Ch ws Y h') (a:1∉ws):eM h':=by
 obtain ⟨e,f,b⟩:=p;exact ⟨e,f,k.get b a⟩
def JS {W:World} {name:String} (a:Tryz.prog.globalNamed name=some 1) (p:eM W.heap):Lib.TabIs Xaz W name .u64 Lib.pow10Tab:=by
 obtain ⟨e,f,b⟩:=p;unfold Lib.TabIs World.var?;rw [a];show (match W.heap[1]? with | some (.cells cs _ _)=>some cs | _=>none)=_;rw [b]
def RI:Tryz.prog.underlying 204=some (.slice 5):=ax
def YI:Tryz.prog.underlying 5=some (.int .u8):=ax
def Yp:Tryz.prog.underlying 9=some .string:=ax
def PE {h:Hp} {e:List UInt8} {k:Xaa->T} (s:SL h H 5 1 O U V (Qv e)) (h0:e≠[]) (hk:k ⟨e.toArray⟩ Z a h) :
  T.eH Xaz (convert 204 9 (.slice O U V)) false [(false,[.string])] k Z a h:=by
 show aS Xaz (convert 204 9 (.slice O U V)) h _;unfold convert;rw [av,aC RI,av,aC Yp];show aS Xaz (do match <- underlying 5 with
  | .int .u8=>Conv.bytesToString (.slice O U V)
  | .int .i32=>Conv.runesToString (.slice O U V)
  | _ => stuck "Convert: a slice of what to string?") h _
 rw [av,aC YI];cases O with
 | none =>
  have h1:Qv e=[]:=s.2.2.2
  have:e=[]:=by simpa [Qv] using h1
  exact absurd this h0
 | some d =>
  have hl:U=e.length:=by rw [s.1,IZ]
  subst hl;have hf:=SL.flat s;rw [Qi] at hf;exact xM d e V _ hf ⟨(⟨e.toArray⟩,()),rfl,hk⟩
def W6 (n:Nat):IntKind.wrap .u8 (IntKind.wrap .i64 ((48:Int)+(Int.tmod (n:Int) (10:Int))))=((UInt8.ofNat (48+n % 10)).toNat:Int):=by
 have e:Int.tmod (n:Int) 10=((n % 10:Nat):Int):=by
  rw [Int.tmod_eq_emod_of_nonneg ad] <;> rfl
 rw [e,wrap_i64 ad ad,wrap_u8 ad ad]
 simp
 omega
end Go.Sx.Ob
namespace Go.Sx.BB
open Go.Sx Go.Sx.Ob
open Go.Proofs
def UP (b:UInt8):List Xab:=[.int .u8 (b.toNat:Int)]
end Go.Sx.BB
namespace Go.Sx.Ob
open Go.Proofs
variable {O:Hp} {H V Y:Nat} {U:Xac}
def wy {b':Nat} {e d:TypeId} {sz:Nat} {q:Xac} {c l' c':Nat} {xs ys:List (List Xab)} (s:SL O H e sz U Y c xs) (t:SL O b' d V q l' c' ys) (g:e≠d):∀ i,i∈aJ U->i∉aJ q:=fun i h1 h2=>by
 obtain ⟨j,f⟩:=SL.zL s i h1;obtain ⟨k,a⟩:=SL.zL t i h2;unfold bC at f a;rw [f] at a;simp only [Option.some.injEq,Obj.cells.injEq] at a;exact g a.2.1
def SN.put {L:Lp} {K:Xab->Hp->Prop} {h:Hp} {xs:List Xaa} (v:SN h H U V Y xs) {i:Nat} (hi:i<xs.length) (x:Xaa) {a:Xax} (d:U=some a) {k:T}
  (hk:∀ h',SN h' H U V Y (xs.set i x)->Ch (aJ U) h h'->h'.size=h.size->k L K h'):T.aD (a.add (i*1)) [.string x] k L K h:=by
 refine SL.store (P:=Xaz) v (i:=i) (vs:=X' x) (by rw [ab9]; exact hi) rfl rfl d ?_;intro h' e ch z;refine hk h' ?_ ch z;unfold SN;rw [fc9];exact e
def HK (zs:List Xaa) (j:Nat) (a:0<j) (hl:j<zs.length):(zs.set j (zs[j-1]'ad)).eraseIdx (j-1)=zs.eraseIdx j:=by
 apply df9;intro k;rw [List.getElem?_eraseIdx,List.getElem?_eraseIdx]
 by_cases h1:k<j-1
 ·rw [ag9 h1,ag9 ad,dq9 ad]
 ·rw [ac9 h1]
  by_cases h2:k<j
  ·have:k=j-1:=ad
   subst this;rw [ag9 h2,show j-1+1=j from ad,er9 hl,ad9 ad]
  ·rw [ac9 h2,dq9 ad]
def TP (zs:List Xaa) (j:Nat) (hl:j<zs.length) (x s:Xaa):gP (zs.set j x) s=(gP (zs.eraseIdx j) s || decide (x=s)):=by
 unfold gP;rw [List.set_eq_take_append_cons_drop,ag9 hl,List.eraseIdx_eq_take_drop_succ];simp only [List.any_append,List.any_cons]
 all_goals (cases List.any (zs.take j) (fun t=>decide (t=s)) <;> cases List.any (zs.drop (j+1)) (fun t=>decide (t=s)) <;> cases decide (x=s) <;> rfl)
def qg {D:List Xaa} {s:Xaa}:gP D s=true↔s∈D:=by
 unfold gP;rw [dz9];constructor
 ·rintro ⟨t,ht,e⟩;rw [<- ah9 e];exact ht
 ·intro a;exact ⟨s,a,aj9 rfl⟩
def AD (l:List Xaa) (x:Xaa):(l++[x]).Nodup↔l.Nodup/\x∉l:=by
 rw [cs9];constructor
 ·rintro ⟨a,_,c⟩;exact ⟨a,fun d=>c x d x aj rfl⟩
 ·rintro ⟨a,b⟩;refine ⟨a,aj,fun y f z g e=>?_⟩;rw [ai9.1 g] at e;exact b (e▸f)
def tQ {xs : List Xaa} (v : SN O H U V Y xs) (hm : xs.length <= 2 ^ 30) :
    HC Xaz 53 #[.slice U V Y] O fun w h' => ∃ p' c' ys, w = .slice p' (ys : List Xaa).length c' /\ ys.length <= xs.length /\ (ys.length = xs.length ↔ xs.Nodup) /\ Ext O h' := by
  refine bd (args := [.slice U V Y]) mixed Tryz.func53 ax (oi U V Y) ?_;unfold jL aY bh bt aI aZ bn bq bg aQ cY;have n := SN.len v
  refine aT (cs := lM) (fun y m h' => ∃ (i : Nat) (ys : List Xaa), y.2.1 = (i : Int) /\ m = xs.length - i /\ i <= xs.length /\ Ext O h' /\ SN h' O.size y.1.1 y.1.2.1 y.1.2.2 ys /\ ys.length <= i /\ (∀ s, gP ys s = gP (xs.take i) s) /\ (ys.length = i ↔ (xs.take i).Nodup)) ((none, 0, 0), (0 : Int), ()) xs.length rfl
    ⟨0, [], rfl, rfl, ad, Ch.refl _ _, SL.nil _ _ _ _, aj, fun s => rfl, aj⟩ ?_
  rintro ⟨⟨X, z, Z⟩, n4, ⟨⟩⟩ m h1 ⟨i, ys, hi, rfl, hle, D, s, M, A, B⟩;simp only at hi s;subst hi;refine ao ?_;have hz := D.size;have ny := SN.len s;refine aR (fun q => ?_) (fun q => ?_)
  · have E : i < xs.length :=ad
    have K : ∀ {g}, Ext O g -> ∃ a, U = some a /\ aH g (a.add (i * 1)) 0 [.string xs[i]] := by
      intro g e;obtain ⟨a, o, hc⟩ := SN.cell v E;exact ⟨a, o, aM e aj _ _ hc⟩
    have d : xs.take (i + 1) = xs.take i ++ [xs[i]] := ae9 E;generalize hxv : xs[i] = x at K d;obtain ⟨a, o, hc⟩ := K D;refine bS o ?_;rw [cr i];refine ay (x, ()) hc (ao ?_);refine aP (Ex s ad x) ?_;rw [A];have u : gP (xs.take i) x = true ↔ x ∈ xs.take i := qg;refine aw (fun r => ?_) (fun r => ?_)
    · have r2 := u.1 r
      refine aG (cs := lM) ((X, z, Z), ((i + 1 : Nat) : Int), ()) (xs.length - (i + 1)) rfl ad (by rw [wrap_i64 ad ad]; rfl) ?_;refine ⟨i + 1, ys, rfl, rfl, ad, D, s, ad, fun t => ?_, ?_⟩
      · rw [A, d]
        by_cases e : x = t
        · subst e
          rw [r];exact (qg.2 (ar9.2 (.inl r2))).symm
        · unfold gP
          rw [List.any_append];simp [e]
      · rw [d, AD]
        exact ⟨fun k => ad, fun k => absurd r2 k.2⟩
    · have r2 : x ∉ xs.take i := fun k => by rw [u.2 k] at r; cases r
      refine bS o ?_;refine ay (x, ()) hc (ao ?_);refine SN.push s x ad hz ?_;intro p' c' h2 s2 k2;have e2 := SN.ext D s (aq9 _) k2
      refine aT (cs := cI) (fun y m h' => ∃ (j : Nat) (zs : List Xaa), y.1 = (j : Int) /\ m = j /\ j <= ys.length /\ zs.length = ys.length + 1 /\ zs.eraseIdx j = ys /\ Ext O h' /\ SN h' O.size p' (z + 1) c' zs) ((z : Int), ()) ys.length rfl
        ⟨ys.length, ys ++ [x], by rw [ny], rfl, ad, aj, by rw [List.eraseIdx_append_of_length_le ad]; simp, e2, s2⟩ ?_
      rintro ⟨n16, ⟨⟩⟩ m h3 ⟨j, zs, hj, rfl, hjl, F, G, L, C⟩;simp only at hj;subst hj;refine ao ?_
      have N : ∃ a2, p' = some a2 := by
        obtain ⟨a2, h2, _⟩ := SN.cell C (i := 0) ad;exact ⟨a2, h2⟩
      obtain ⟨a2, f⟩ := N
      have last : (T.need (((0 : Int) <= (i : Int)) /\ ((i : Int) < (V : Int))) <|
         T.bf U fun (P : Xax) =>
         T.af (P.add ((Int.toNat (i : Int)) * 1)) [.string] <| fun (Q : Xaa) =>
         T.need (((0 : Int) <= (m : Int)) /\ ((m : Int) < ((z + 1 : Nat) : Int))) <|
         T.bf p' fun (R : Xax) =>
         T.aD (R.add ((Int.toNat (m : Int)) * 1)) [.string Q] <|
         T.again 0 [.slice p' (z + 1) c', vI (IntKind.wrap .i64 ((i : Int) + (1 : Int)))])
         ([] ++ [Jl (cs := lM) (fun y m h' => ∃ (i : Nat) (ys : List Xaa), y.2.1 = (i : Int) /\ m = xs.length - i /\ i <= xs.length /\ Ext O h' /\ SN h' O.size y.1.1 y.1.2.1 y.1.2.2 ys /\ ys.length <= i /\ (∀ s, gP ys s = gP (xs.take i) s) /\ (ys.length = i ↔ (xs.take i).Nodup)) (xs.length - i)] ++
          [Jl (cs := cI) (fun y m h' => ∃ (j : Nat) (zs : List Xaa), y.1 = (j : Int) /\ m = j /\ j <= ys.length /\ zs.length = ys.length + 1 /\ zs.eraseIdx j = ys /\ Ext O h' /\ SN h' O.size p' (z + 1) c' zs) m])
         (fun w h' => ∃ p' c' ys, w = .slice p' (ys : List Xaa).length c' /\ ys.length <= xs.length /\ (ys.length = xs.length ↔ xs.Nodup) /\ Ext O h') h3 := by
        obtain ⟨a, o, hc⟩ := K L;refine bS o ?_;rw [cr i];refine ay (x, ()) hc (ao ?_);refine bS f ?_;rw [cr m];refine SN.put C ad x f ?_;intro h4 S W z4;refine aG (cs := lM) ((p', z + 1, c'), ((i + 1 : Nat) : Int), ()) (xs.length - (i + 1)) rfl ad (by rw [wrap_i64 ad ad]; rfl) ?_;refine ⟨i + 1, zs.set m x, rfl, rfl, ad, SN.ext L C (aq9 _) W, S, by rw [cy9]; omega, fun t => ?_, ?_⟩
        · rw [TP zs m ad, G, A, d]
          unfold gP;rw [List.any_append]
          simp
        · rw [cy9, d, AD, <- B, F]
          exact ⟨fun k => ⟨ad, r2⟩, fun k => ad⟩
      refine aw (fun q2 => ?_) (fun q2 => last);have q2 := ah9 q2;rw [wrap_i64 ad ad];obtain ⟨a3, I, J⟩ := SN.cell C (i := m - 1) ad;refine bS I ?_;rw [show Int.toNat ((m : Int) - 1) = m - 1 from ad];refine ay (zs[m - 1]'ad, ()) J (ao ?_);obtain ⟨a, o, hc⟩ := K L;refine bS o ?_;refine ay (x, ()) hc (ao ?_);refine aw (fun q3 => ?_) (fun q3 => ?_)
      · refine bS I ?_
        refine ay (zs[m - 1]'ad, ()) J (ao ?_);refine bS f ?_;rw [cr m];refine SN.put C ad _ f ?_;intro h4 S W z4;refine aG (cs := cI) (((m - 1 : Nat) : Int), ()) (m - 1) rfl ad (by rw [show (m : Int) - 1 = ((m - 1 : Nat) : Int) from ad]; rfl) ?_;exact ⟨m - 1, _, rfl, rfl, ad, by rw [cy9]; exact F, by rw [HK zs m ad ad]; exact G, SN.ext L C (aq9 _) W, S⟩
      · have := last
        rw [cr i] at this;exact this
  · have : i = xs.length :=ad
    subst this;rw [bj9] at B;exact ⟨X, Z, ys, by rw [ny], M, B, D⟩
def Ho (e:sS):Bool:=cE e.1.data.toList && ox none e.2.ah
def yy (u:cv):Bool:=u.text.all (fun x=>cJ x 0) && (u.data.all (fun x=>cJ x 1) && (u.bj.all Ho && (decide (fR u).Nodup && dh (fR u) dW u.aU)))
def tS (x:cC) (l:List cC):eK (x::l)=(if x.kind=1 then [x.name] else [])++eK l:=by
 unfold eK
 by_cases h:x.kind=1 <;> simp [h]
def GO (D:List Xaa) (x:cC) (s:Xaa):s∈uR D x↔s∈D\/s∈(if x.kind=1 then [x.name] else []):=by
 unfold uR;split <;> simp [or_comm]
theorem rX (sec:Nat):∀ (l:List cC) (D:List Xaa),fo sec D l=true↔(∀ x,x∈l->cJ x sec=true)/\(∀ s,s∈eK l->s∉D)/\(eK l).Nodup
 | [],D=>by simp [fo,eK]
 | x::l,D=>by
  rw [fo,bm9,rX sec l,tS];unfold zd;rw [bm9,cs9]
  by_cases h:x.kind=1
  ·simp only [h,decide_true,Bool.true_and,if_true,Bool.not_eq_true',List.mem_cons,List.mem_append,List.mem_singleton,List.not_mem_nil,or_false];have i:gP D x.name=false↔x.name∉D:=by
    rw [<- Bool.not_eq_true,qg]
   rw [i];have j:∀ s,s∈uR D x↔s=x.name\/s∈D:=fun s=>by
    rw [GO,ag9 h];simp [or_comm]
   simp only [j];constructor
   ·rintro ⟨⟨a,b⟩,c,d,e⟩;refine ⟨?_,?_,?_,e,?_⟩
    ·rintro y (rfl | f)
     ·exact a
     ·exact c y f
    ·rintro s (rfl | g)
     ·exact b
     ·exact fun k=>d s g (.inr k)
    ·simp
    ·intro y f z n m;exact d z n (.inl (m▸f))
   ·rintro ⟨a,b,c,d,e⟩;refine ⟨⟨a x (.inl rfl),b _ (.inl rfl)⟩,fun y f=>a y (.inr f),fun s g k=>?_,d⟩;rcases k with rfl | k
    ·exact e _ rfl _ g rfl
    ·exact b s (.inr g) k
  ·have j:uR D x=D:=by unfold uR; rw [ac9 h]
   simp only [h,decide_false,Bool.false_and,if_false,Bool.not_false,and_true,List.mem_cons,List.nil_append,j];constructor
   ·rintro ⟨a,c,d,e⟩;refine ⟨?_,d,aj,e,aj⟩;rintro y (rfl | f)
    ·exact a
    ·exact c y f
   ·rintro ⟨a,b,_,d,_⟩;exact ⟨a x (.inl rfl),fun y f=>a y (.inr f),b,d⟩
theorem BY:∀ (l:List sS) (D:List Xaa),hY D l=true↔(∀ x,x∈l->Ho x=true)/\(∀ s,s∈l.map (·.1)->s∉D)/\(l.map (·.1)).Nodup
 | [],D=>by simp [hY]
 | x::l,D=>by
  rw [hY,bm9,BY l,bq9,ef9];have g:D1 D x=true↔x.1∉D/\Ho x=true:=by
   unfold D1 Ho;rw [bm9,bm9,bm9,Bool.not_eq_true',<- Bool.not_eq_true,qg,and_assoc]
  rw [g];simp only [List.mem_cons];constructor
  ·rintro ⟨⟨a,b⟩,c,d,e⟩;refine ⟨?_,?_,?_,e⟩
   ·rintro y (rfl | h)
    ·exact b
    ·exact c y h
   ·rintro s (rfl | f)
    ·exact a
    ·exact fun k=>d s f (.inr k)
   ·exact fun f=>d _ f (.inl rfl)
  ·rintro ⟨a,b,c,d⟩;refine ⟨⟨b _ (.inl rfl),a x (.inl rfl)⟩,fun y h=>a y (.inr h),fun s f k=>?_,d⟩;rcases k with rfl | k
   ·exact c f
   ·exact b s (.inr f) k
theorem mD:∀ (l:List cC) (D:List Xaa) (s:Xaa),s∈db D l↔s∈D\/s∈eK l
 | [],D,s=>by simp [db,eK]
 | x::l,D,s=>by
  show s∈db (uR D x) l↔_;rw [mD l,GO,tS,ar9,or_assoc]
theorem Ce:∀ (l:List sS) (D:List Xaa) (s:Xaa),s∈aX D l↔s∈D\/s∈l.map (·.1)
 | [],D,s=>by simp [aX]
 | x::l,D,s=>by
  show s∈aX (x.1::D) l↔_;rw [Ce l,bq9,be9,be9,<- or_assoc,or_comm (a:=s=x.1)]
variable {Z a:List Xaa}
def M3 (h:∀ s,s∈Z↔s∈a) (s:Xaa):gP Z s=gP a s:=by
 have:gP Z s=true↔gP a s=true:=by rw [qg,qg]; exact h s
 exact ds9.2 this
theorem uo {D E:List Xaa} (h:∀ s,s∈D↔s∈E):∀ (l:List Xaa) (o:Xaa),dh D o l=dh E o l
 | [],o=>rfl
 | x::l,o=>by
  rw [dh,dh,uo h l,Ub,Ub,M3 h]
def yA (u:cv):xr u=yy u:=by
 have o:dh u.names dW u.aU=dh (fR u) dW u.aU:=by
  refine uo (fun s=>?_) _ _;unfold cv.names fR;rw [Ce,mD,mD];simp [or_assoc]
 rw [ds9];unfold xr yy;rw [bm9,bm9,bm9,bm9,bm9,bm9,bm9,rX,rX,BY,o,bn9,bn9,bn9,decide_eq_true_iff];unfold fR;rw [cs9,cs9];have n:∀ s,s∈db [] u.text↔s∈eK u.text:=fun s=>by rw [mD]; simp
 have p:∀ s,s∈db (db [] u.text) u.data↔s∈eK u.text\/s∈eK u.data:=fun s=>by rw [mD,n]
 simp only [n,p,List.mem_append];constructor
 ·rintro ⟨⟨⟨⟨a,t,b⟩,c,q,h⟩,i,r,c3⟩,g⟩;refine ⟨a,c,i,⟨⟨b,h,fun x j y l e=>q y l (e▸j)⟩,c3,fun x j y l e=>r y l (e▸j)⟩,g⟩
 ·rintro ⟨a,c,i,⟨⟨b,h,d⟩,c3,f⟩,g⟩;exact ⟨⟨⟨⟨a,fun s _=>aj,b⟩,c,fun s m k=>d s k s m rfl,h⟩,i,fun s m k=>f s k s m rfl,c3⟩,g⟩
def sr {α:Type} (f:α->Bool) (l:List α) (hi:H<l.length):(l.drop H).all f=(f l[H] && (l.drop (H+1)).all f):=by
 rw [aw9 hi,ff9]
def aaf {x:bM} (v:rh O U H x):iD O U H x.ah/\x.ah.length<=9223372036854775807/\∀ t,t∈x.ah->t.1.size<=maxLen:=⟨v.vw,by have:=v.many; omega,v.names⟩
def AJ (D:List Xaa):Prop:=∀ g,g∈D->cE g.data.toList=true
def AJ.snoc (h:AJ Z) (k:AJ a):AJ (Z++a):=fun g b=>(ar9.1 b).elim (h g) (k g)
def AJ.item {x:cC} {sec:Nat} (r:cJ x sec=true):AJ (if x.kind=1 then [x.name] else []):=by
 intro g a;split at a
 ·rename_i b;rw [ai9.1 a];rw [EO b,bm9] at r;exact r.1
 ·simp at a
def Mk {a b c d:bU} {u:cv} (v:uD O a b c d u):HC Xaz 70 #[F9 a b c d] O fun w h'=>w=vI (fz u:Nat)/\Ext O h':=by
 refine bd (args:=[F9 a b c d]) mixed Tryz.func70 ax (oH a.p a.l a.c b.p b.l b.c c.p c.l c.c d.p d.l d.c) ?_;unfold kj aY bh bt aI aZ cQ bP bq aF aQ;refine br ?_;intro g1 D Y z1;have D:bC g1 O.size 70 [a.v,b.v,c.v,d.v]:=D;have m1:=v.text.many;have m2:=v.data.many;have m3:=v.bj.many;have m4:=v.aU.many;have n1:=v.text.len;have n2:=v.data.len;have n3:=v.bj.len;have n4:=v.aU.len;simp only [aE];refine az D ((a.p,a.l,a.c),()) (ao ?_);refine az D ((b.p,b.l,b.c),()) (ao ?_);rw [wrap_i64 ad ad];unfold fz wH;refine aw ?_ ?_<;>intro q
 ·have q:=ah9 q;exact ⟨by rw [aj9 (show 8192<u.text.length+u.data.length from ad)]; rfl,Y⟩
 have q:=av9 q;rw [ak9 (show ¬ 8192<u.text.length+u.data.length from ad),ey9];refine az D ((c.p,c.l,c.c),()) (ao ?_);refine aw ?_ ?_<;>intro q
 ·have q:=ah9 q;exact ⟨by rw [aj9 (show 8192<u.bj.length from ad)]; rfl,Y⟩
 have q:=av9 q;rw [ak9 (show ¬ 8192<u.bj.length from ad),ac9 aj,yA];generalize Z:yy u=U;unfold yy at Z;refine aT (cs:=gb) (fun y w h'=>∃ i:Nat,y.2.1=(i:Int)/\w=u.text.length-i/\i<=u.text.length/\Ext O h'/\bC h' O.size 70 [a.v,b.v,c.v,d.v]/\AJ (eK (u.text.take i))/\((u.text.drop i).all (fun x=>cJ x 0) && (u.data.all (fun x=>cJ x 1) && (u.bj.all Ho && (decide (fR u).Nodup && dh (fR u) dW u.aU))))=U) ((0:Int),(0:Int),()) u.text.length rfl
  ⟨0,rfl,rfl,ad,Y,D,fun g t=>by simp [eK] at t,Z⟩ ?_
 clear Z;rintro ⟨L,n22,⟨⟩⟩ w h2 ⟨i,hi,rfl,s,m,o,F,f⟩;simp only at hi;subst hi;refine ao ?_;refine az o ((a.p,a.l,a.c),()) (ao ?_);refine aw ?_ ?_
 case _ =>
  intro q;have q:=ah9 q;have j:i<u.text.length:=ad
  refine az o ((a.p,a.l,a.c),()) (ao ?_);obtain ⟨aa,pp,M,G,rfl',hc,A⟩:=(v.text.an m).cells i j;rw [sr _ _ j] at f;have ht:=xS u.text i j;generalize u.text[i]=x at hc A f ht;refine hZ (bm rfl' ?_);rw [cr i];refine ay (x.kind,x.name,x.inst.op,x.inst.a,x.inst.b,x.inst.n,x.inst.form,(pp,M,G),(x.e.num:Int),x.n,()) hc (ao ?_);refine aK (DC (c:=G) (k:=0) A ad) ?_;rintro _ h3 ⟨rfl,z⟩;refine ⟨((if cJ x 0 then 0 else 31:Int),()),rfl,ao ?_⟩;cases r:cJ x 0 with
  | false =>
   refine cj aj ?_;refine ⟨by rw [<- f,r]; rfl,m.trans z⟩
  | true =>
   refine cg aj ?_;rw [r,bl9] at f;refine aG (cs:=gb) (L,((i+1:Nat):Int),()) (u.text.length-(i+1)) rfl ad (by rw [wrap_i64 ad ad]; rfl) ?_;exact ⟨i+1,rfl,rfl,ad,m.trans z,o.an z aj,by rw [ht]; exact F.snoc (AJ.item r),f⟩
 intro q;have q:=av9 q
 have:i=u.text.length:=ad
 subst this;rw [de9,List.all_nil,bl9] at f;rw [bj9] at F;clear Y D;refine aT (cs:=gb) (fun y w h'=>∃ i:Nat,y.2.1=(i:Int)/\w=u.data.length-i/\i<=u.data.length/\Ext O h'/\bC h' O.size 70 [a.v,b.v,c.v,d.v]/\AJ (eK (u.data.take i))/\((u.data.drop i).all (fun x=>cJ x 1) && (u.bj.all Ho && (decide (fR u).Nodup && dh (fR u) dW u.aU)))=U) (L,(0:Int),()) u.data.length rfl
  ⟨0,rfl,rfl,ad,m,o,fun g t=>by simp [eK] at t,f⟩ ?_
 clear f m o;rintro ⟨N,n32,⟨⟩⟩ w h4 ⟨i,hi,rfl,s,m,o,H,f⟩;simp only at hi;subst hi;refine ao ?_;refine az o ((b.p,b.l,b.c),()) (ao ?_);refine aw ?_ ?_
 case _ =>
  intro q;have q:=ah9 q;have j:i<u.data.length:=ad
  refine az o ((b.p,b.l,b.c),()) (ao ?_);obtain ⟨aa,pp,M,G,rfl',hc,A⟩:=(v.data.an m).cells i j;rw [sr _ _ j] at f;have ht:=xS u.data i j;generalize u.data[i]=x at hc A f ht;refine hZ (bm rfl' ?_);rw [cr i];refine ay (x.kind,x.name,x.inst.op,x.inst.a,x.inst.b,x.inst.n,x.inst.form,(pp,M,G),(x.e.num:Int),x.n,()) hc (ao ?_);refine aK (DC (c:=G) (k:=1) A ad) ?_;rintro _ h3 ⟨rfl,z⟩;refine ⟨((if cJ x 1 then 0 else 31:Int),()),rfl,ao ?_⟩;cases r:cJ x 1 with
  | false =>
   refine cj aj ?_;refine ⟨by rw [<- f,r]; rfl,m.trans z⟩
  | true =>
   refine cg aj ?_;rw [r,bl9] at f;refine aG (cs:=gb) (N,((i+1:Nat):Int),()) (u.data.length-(i+1)) rfl ad (by rw [wrap_i64 ad ad]; rfl) ?_;exact ⟨i+1,rfl,rfl,ad,m.trans z,o.an z aj,by rw [ht]; exact H.snoc (AJ.item r),f⟩
 intro q;have q:=av9 q
 have:i=u.data.length:=ad
 subst this;rw [de9,List.all_nil,bl9] at f;rw [bj9] at H;refine aT (cs:=gb) (fun y w h'=>∃ i:Nat,y.2.1=(i:Int)/\w=u.bj.length-i/\i<=u.bj.length/\Ext O h'/\bC h' O.size 70 [a.v,b.v,c.v,d.v]/\AJ ((u.bj.take i).map (·.1))/\((u.bj.drop i).all Ho && (decide (fR u).Nodup && dh (fR u) dW u.aU))=U) (N,(0:Int),()) u.bj.length rfl
  ⟨0,rfl,rfl,ad,m,o,fun g t=>by simp at t,f⟩ ?_
 clear f m o;rintro ⟨P,n42,⟨⟩⟩ w h4 ⟨i,hi,rfl,s,m,o,I,f⟩;simp only at hi;subst hi;refine ao ?_;refine az o ((c.p,c.l,c.c),()) (ao ?_);refine aw ?_ ?_
 case _ =>
  intro q;have q:=ah9 q;have j:i<u.bj.length:=ad
  refine az o ((c.p,c.l,c.c),()) (ao ?_);obtain ⟨aa,pp,M,G,rfl',hc,A,vn⟩:=(v.bj.an m).cells i j;rw [sr _ _ j] at f;have ht:(u.bj.take (i+1)).map (·.1)=(u.bj.take i).map (·.1)++[u.bj[i].1]:=by rw [ae9 j,ao9]; rfl
  generalize u.bj[i]=x at hc A vn f ht;unfold Ho at f;refine hZ (bm rfl' ?_);rw [cr i];refine ay (x.1,()) ⟨hc.1,trivial⟩ (ao ?_);refine aP (tD x.1 _ (by have:maxLen=9223372036854775807:=rfl; omega)) ?_;cases s:cE x.1.data.toList with
  | false =>
   refine cj aj ?_;refine ⟨by rw [<- f,s]; rfl,m⟩
  | true =>
   refine cg aj ?_;rw [s,bl9] at f;refine az o ((c.p,c.l,c.c),()) (ao ?_);refine hZ (bm rfl' ?_);refine ay ((pp,M,G),(x.2.num:Int),()) ⟨by rw [add_add]; exact hc.2.1,by rw [add_add]; exact hc.2.2.1,trivial⟩ ?_;refine ao ?_;obtain ⟨w1,w2,w3⟩:=aaf A;refine iG (uK w1 w2 w3) ?_;intro h3 z;cases r:ox none x.2.ah with
   | false =>
    refine cj aj ?_;refine ⟨by rw [<- f,r]; rfl,m.trans z⟩
   | true =>
    refine cg aj ?_;rw [r,bl9] at f;refine aG (cs:=gb) (P,((i+1:Nat):Int),()) (u.bj.length-(i+1)) rfl ad (by rw [wrap_i64 ad ad]; rfl) ?_;exact ⟨i+1,rfl,rfl,ad,m.trans z,o.an z aj,by rw [ht]; exact I.snoc (fun g t=>by rw [ai9.1 t]; exact s),f⟩
 intro q;have q:=av9 q
 have:i=u.bj.length:=ad
 subst this;rw [de9,List.all_nil,bl9] at f;rw [bj9] at I;refine az o ((a.p,a.l,a.c),(b.p,b.l,b.c),(c.p,c.l,c.c),(d.p,d.l,d.c),()) (ao ?_);refine aK (EV (v.an m) ad ad ad) ?_;rintro _ h5 ⟨Q,R,S,rfl,s5,e5⟩;refine ⟨((Q,R,S),()),rfl,ao ?_⟩;have hA:(fR u).length<=2^20:=by
  unfold fR
  have:=wc u.text
  have:=wc u.data
  simp only [List.length_append,List.length_map];omega
 have n5:=SN.len s5;refine aK (tQ s5 ad) ?_;rintro _ h6 ⟨p41,l43,ys,rfl,hy1,V,e6⟩;refine ⟨((p41,ys.length,l43),()),rfl,ao ?_⟩;have e56:=e5.trans e6;have e06:=m.trans e56
 by_cases B:(fR u).Nodup
 case neg =>
  rw [ak9 B] at f;refine cj ?_ ⟨by rw [<- f]; rfl,e06⟩
  have:¬ ys.length=(fR u).length:=fun k=>B (V.1 k)
  rw [n5];simp only [bne_iff_ne,ne_eq];omega
 rw [aj9 B,bl9] at f;have hy:=V.2 B;refine cg (by rw [n5,hy]; simp) ?_;have s6:SN h6 h4.size Q R S (fR u):=s5.an e6 aj;have b6:=o.an e56 aj;have C:∀ g,g∈fR u->iK dW g:=fun g t=>F8 (((F.snoc H).snoc I) g t)
 generalize fR u=E at f s6 hA C;refine aT (cs:=gb) (fun y w h'=>∃ i:Nat,y.2.1=(i:Int)/\w=u.aU.length-i/\i<=u.aU.length/\h'=h6/\dh E (oN u.aU i) (u.aU.drop i)=U) (P,(0:Int),()) u.aU.length rfl
  ⟨0,rfl,rfl,ad,rfl,f⟩ ?_
 clear f;rintro ⟨W,n52,⟨⟩⟩ w h7 ⟨i,hi,rfl,hile,rfl,f⟩;simp only at hi;subst hi;refine ao ?_;refine az b6 ((d.p,d.l,d.c),()) (ao ?_);refine aR ?_ ?_<;>intro q
 ·have j:i<u.aU.length:=ad
  obtain ⟨aa,rfl',hc,A⟩:=(v.aU.an e06).cells i j;rw [wP _ _ j] at f;unfold Ub at f;refine aR ?_ ?_<;>intro r2
  ·refine az b6 ((d.p,d.l,d.c),()) (ao ?_);refine hZ (bm rfl' ?_);rw [cr i,wrap_i64 (x:=(i:Int)-1) ad ad];refine ay (u.aU[i],()) hc (ao ?_);refine az b6 ((d.p,d.l,d.c),()) (ao ?_);obtain ⟨ab,J,X,va'⟩:=(v.aU.an e06).cells (i-1) ad;refine hZ (bm J ?_);rw [show Int.toNat ((i:Int)-1)=i-1 from ad];refine ay (u.aU[i-1],()) X (ao ?_);have hla:oN u.aU i=u.aU[i-1]:=by
    unfold oN;rw [ac9 ad,cf9,ad9 ad] <;> rfl
   rw [leB];rw [hla] at f;refine aw ?_ ?_<;>intro K
   ·have K:decide (iK u.aU[i-1] u.aU[i])=false:=by simpa using K
    exact ⟨by rw [<- f,K,fb9]; rfl,e06⟩
   ·have K:decide (iK u.aU[i-1] u.aU[i])=true:=by simpa using K
    rw [K,cz9] at f;refine az b6 ((d.p,d.l,d.c),()) (ao ?_);refine hZ (bm rfl' ?_);refine ay (u.aU[i],()) hc (ao ?_);refine aP (Ex s6 ad _) ?_;refine ⟨⟨b6.cells _ rfl,X,b6.cells _ rfl,hc,b6.cells _ rfl,trivial⟩,?_⟩;cases r:gP E u.aU[i] with
    | false =>
     refine cj aj ?_;exact ⟨by rw [<- f,r]; rfl,e06⟩
    | true =>
     refine cg aj ?_;rw [r,bl9] at f;exact aG (cs:=gb) (W,((i+1:Nat):Int),()) (u.aU.length-(i+1)) rfl ad (by rw [wrap_i64 ad ad]; rfl) ⟨i+1,rfl,rfl,ad,rfl,f⟩
  ·have hi0:i=0:=ad
   subst hi0;refine az b6 ((d.p,d.l,d.c),()) (ao ?_);refine hZ (bm rfl' ?_);refine ay (u.aU[0],()) hc (ao ?_);refine aP (Ex s6 ad _) ?_;refine ⟨⟨b6.cells _ rfl,trivial⟩,?_⟩;cases r:gP E u.aU[0] with
   | false =>
    refine cj aj ?_;exact ⟨by rw [<- f,r]; rfl,e06⟩
   | true =>
    refine cg aj ?_;have t:decide (iK (oN u.aU 0) u.aU[0])=true:=aj9 (C _ (qg.1 r));rw [r,t,bl9,bl9] at f;exact aG (cs:=gb) (W,((0+1:Nat):Int),()) (u.aU.length-(0+1)) rfl ad (by rw [wrap_i64 ad ad]; rfl) ⟨0+1,rfl,rfl,ad,rfl,f⟩
 ·have:i=u.aU.length:=ad
  subst this;rw [de9] at f;exact ⟨by rw [<- f]; rfl,e06⟩
end Go.Sx.Ob
namespace Go.Sx
open Go.Proofs
section
variable {α:Type}
def vE (en:α->Xab) (D:List (Xaa × α)):List (Xaa × Xab):=D.map fun p=>(p.1,en p.2)
def gE (D:List (Xaa × α)) (s:Xaa):Option α:=(D.find? fun p=>decide (s=p.1)).map (·.2)
def pE (D:List (Xaa × α)) (s:Xaa) (v:α):List (Xaa × α):=if (gE D s).isSome then D.map fun p=>if s=p.1 then (p.1,v) else p else D++[(s,v)]
def nG (en:α->Xab) (D:List (Xaa × α)) (s:Xaa):look (vE en D) s=(gE D s).map en:=by
 unfold look gE vE
 induction D with
 | nil=>rfl
 | cons p D a =>
  by_cases h:s=p.1
  ·simp [h]
  ·simp only [List.map_cons,List.find?_cons,decide_eq_false h];exact a
def I6 (en:α->Xab) (D:List (Xaa × α)) (s:Xaa) (v:α):kO (vE en D) s (en v)=vE en (pE D s v):=by
 unfold kO pE;rw [nG];cases h:gE D s with
 | none=>simp [vE]
 | some q =>
  simp only [Option.map_some,Option.isSome_some,if_true,vE,List.map_map];refine ck9 fun p a=>?_
  simp only [Function.comp];split <;> simp_all
def yk (D:List (Xaa × α)) (s:Xaa) (v:α):(pE D s v).length=if (gE D s).isSome then D.length else D.length+1:=by
 unfold pE;split <;> simp
def yo (D:List (Xaa × α)) (s t:Xaa) (v:α):gE (D++[(s,v)]) t=(gE D t).or (if t=s then some v else none):=by
 unfold gE;rw [List.find?_append];cases h:D.find? (fun p=>decide (t=p.1)) with
 | some q=>simp
 | none =>
  simp only [Option.none_or,Option.map_none,List.find?_cons,List.find?_nil]
  by_cases e:t=s
  ·simp [e]
  ·simp [e]
def Il (D:List (Xaa × α)) (s t:Xaa) (v:α) (d:(gE D s).isSome):gE (D.map fun p=>if s=p.1 then (p.1,v) else p) t=if t=s then some v else gE D t:=by
 unfold gE at *
 induction D with
 | nil=>simp at d
 | cons p D f =>
  by_cases h:s=p.1
  ·by_cases e:t=s
   ·simp [h,e]
   ·have g:¬ t=p.1:=fun k=>e (k.trans h.symm)
    have i:∀ l:List (Xaa × α),(List.find? (fun p=>decide (t=p.1)) (List.map (fun p=>if s=p.1 then (p.1,v) else p) l)).map (·.2)=(List.find? (fun p=>decide (t=p.1)) l).map (·.2):=by
     intro l
     induction l with
     | nil=>rfl
     | cons q l a =>
      by_cases b:s=q.1
      ·have:¬ t=q.1:=fun k=>e (k.trans b.symm)
       simp only [List.map_cons,List.find?_cons,if_pos b,decide_eq_false this];exact a
      ·simp only [List.map_cons,List.find?_cons,if_neg b]
       by_cases ht:t=q.1
       ·simp [ht]
       ·simp only [decide_eq_false ht];exact a
    simp only [List.map_cons,List.find?_cons,if_pos h,decide_eq_false g,if_neg e];exact i D
  ·have c:(Option.map (fun x=>x.2) (List.find? (fun p=>decide (s=p.1)) D)).isSome:=by
    simpa [List.find?_cons,decide_eq_false h] using d
   simp only [List.map_cons,List.find?_cons,if_neg h]
   by_cases ht:t=p.1
   ·have:¬ t=s:=fun k=>h (k.symm.trans ht)
    simp [ht,if_neg (ht▸this)]
   ·simp only [decide_eq_false ht];exact f c
def QQ (D:List (Xaa × α)) (s:Xaa) (v:α) (t:Xaa):gE (pE D s v) t=if t=s then some v else gE D t:=by
 unfold pE;split
 ·rename_i h;exact Il D s t v h
 ·rename_i h;rw [yo]
  by_cases e:t=s
  ·subst e
   have:gE D t=none:=by simpa using h
   rw [this]; simp
  ·simp [e]
def dT (f:Xaa->Option α) (s:Xaa) (v:α):Xaa->Option α:=fun t=>if t=s then some v else f t
def cK (f:Xaa->Option α) (s:Xaa) (v:α):dT f s v s=some v:=by simp [dT]
def cw (f:Xaa->Option α) {s t:Xaa} (v:α) (h:t≠s):dT f s v t=f t:=by simp [dT,h]
def ej (en:α->Xab) (h:Hp) (g:Nat) (f:Xaa->Option α) (n:Nat):Prop:=∃ D:List (Xaa × α),fl h g (vE en D)/\(∀ s,gE D s=f s)/\D.length=n
def ej.an {en:α->Xab} {ws:List Nat} {h h':Hp} {g:Nat} {f:Xaa->Option α} {n:Nat} (m:ej en h g f n) (k:Ch ws h h') (a:g∉ws):ej en h' g f n:=by
 obtain ⟨D,m,r⟩:=m;exact ⟨D,m.an k a,r⟩
def ej.lt {en:α->Xab} {h:Hp} {g:Nat} {f:Xaa->Option α} {n:Nat} (m:ej en h g f n):g<h.size:=by
 obtain ⟨D,m,r⟩:=m;exact m.lt
def ej.new {en:α->Xab} {h:Hp} {g:Nat} (m:fl h g []):ej en h g (fun _=>none) 0:=⟨[],m,fun s=>rfl,rfl⟩
def ej.kO {en:α->Xab} {h':Hp} {g:Nat} {f:Xaa->Option α} {n:Nat} {D:List (Xaa × α)} (a:∀ s,gE D s=f s) (hn:D.length=n) {s:Xaa} {v:α} (m:fl h' g (Sx.kO (vE en D) s (en v))):ej en h' g (dT f s v) (if (f s).isSome then n else n+1):=by
 rw [I6] at m;refine ⟨_,m,fun t=>?_,?_⟩
 ·rw [QQ,a t]; rfl
 ·rw [yk,a s,hn]
end
def eI (n:Nat):Xab:=vI (n:Int)
def eB (b:Bool):Xab:=.bool b
def J8:Tryz.prog.underlying 105=some (.map 9 3):=ax
def UN:Tryz.prog.underlying 152=some (.map 9 4):=ax
def Vw:(Tryz.prog.info? 3).bind (·.zero)=some (vI 0):=ax
def P8:(Tryz.prog.info? 4).bind (·.zero)=some (.bool false):=ax
section
variable {L:Lp} {K:Xab->Hp->Prop} {h:Hp} {g n:Nat}
variable {H:Int->T}
def KB {f:Xaa->Option Nat} (m:ej eI h g f n) (s:Xaa) (hk:H (((f s).getD 0:Nat):Int) L K h):T.eH Xaz (Instr.lookup 105 (.map (some g)) (.string s) false) false [(false,[.int .i64])] H L K h:=by
 obtain ⟨D,m,a,hn⟩:=m;refine j6 J8 wZ Vw m s false _ ?_;refine ⟨((((f s).getD 0:Nat):Int),()),?_,hk⟩;simp only [Bool.false_eq_true,if_false];rw [nG,a s]
 all_goals (cases f s <;> rfl)
def EK {f:Xaa->Option Nat} (m:ej eI h g f n) (s:Xaa) {k:Int->Bool->T} (hk:k (((f s).getD 0:Nat):Int) (f s).isSome L K h):T.eH Xaz (Instr.lookup 105 (.map (some g)) (.string s) true) true [(false,[.int .i64]),(false,[.bool])] k L K h:=by
 obtain ⟨D,m,a,hn⟩:=m;refine j6 J8 wZ Vw m s true _ ?_;refine ⟨((((f s).getD 0:Nat):Int),(f s).isSome,()),?_,hk⟩;rw [ag9 rfl,nG,a s]
 all_goals (cases f s <;> rfl)
variable {O:Xaa->Option Bool}
def Ps (m:ej eB h g O n) (s:Xaa) {k:Bool->T} (hk:k ((O s).getD false) L K h):T.eH Xaz (Instr.lookup 152 (.map (some g)) (.string s) false) false [(false,[.bool])] k L K h:=by
 obtain ⟨D,m,a,hn⟩:=m;refine j6 UN wZ P8 m s false _ ?_;refine ⟨((O s).getD false,()),?_,hk⟩;simp only [Bool.false_eq_true,if_false];rw [nG,a s]
 all_goals (cases O s <;> rfl)
variable {U:Xaa} {V:T}
def rT {f:Xaa->Option Nat} (m:ej eI h g f n) (a:U.size<=maxLen) {v:Int} {w:Nat} (hv:v=(w:Int)) (hk:∀ h',ej eI h' g (dT f U w) (if (f U).isSome then n else n+1)->Ch [g] h h'->h'.size=h.size->V L K h') :
  T.dX Xaz (Instr.mapUpdate 105 (.map (some g)) (.string U) (vI v)) V L K h:=by
 subst hv;obtain ⟨D,m,b,hn⟩:=m;refine gV J8 wZ m a _ _ ?_;intro h' c c' d;exact hk h' (ej.kO (en:=eI) b hn c) c' d
def XV (m:ej eB h g O n) (a:U.size<=maxLen) {b:Bool} (hk:∀ h',ej eB h' g (dT O U b) (if (O U).isSome then n else n+1)->Ch [g] h h'->h'.size=h.size->V L K h') :
  T.dX Xaz (Instr.mapUpdate 152 (.map (some g)) (.string U) (.bool b)) V L K h:=by
 obtain ⟨D,m,c,hn⟩:=m;refine gV UN wZ m a _ _ ?_;intro h' d c' e;exact hk h' (ej.kO (en:=eB) c hn d) c' e
def zI {α:Type} {en:α->Xab} {t:TypeId} {k:Option Nat->T} (hk:∀ h',ej en h' h.size (fun _=>none) 0->Ext h h'->h'.size=h.size+1->k (some h.size) L K h'):T.eH Xaz (Instr.makeMap t none) false [(false,[.map 0 0])] k L K h:=by
 refine nj _ ?_;intro h' m e z;exact ⟨(some h.size,()),rfl,hk h' (ej.new m) e z⟩
def Z5 {α:Type} {en:α->Xab} {f:Xaa->Option α} (m:ej en h g f n) (hk:H (n:Int) L K h):T.eH Xaz (Builtin.len_ #[105] 3 #[.map (some g)]) false [(false,[.int .i64])] H L K h:=by
 obtain ⟨D,m,e,hn⟩:=m;obtain ⟨es,clock,b,c,d,i⟩:=m;have a:es.size=n:=by
  have:=as9 List.length c
  simpa [vE,hn] using this
 show aS _ _ _ _;unfold Builtin.len_;simp only [List.getElem?_toArray,List.getElem?_cons_zero];rw [av,aC J8];simp only [pure_bind];rw [av];refine fF b aj _ ?_;simp only [pure_bind];exact ⟨((n:Int),()),by rw [a]; rfl,hk⟩
def X3 {a b:Nat} (hk:H ((min a b:Nat):Int) L K h):T.eH Xaz (Builtin.min_ #[3,3] 3 #[vI (a:Int),vI (b:Int)]) false [(false,[.int .i64])] H L K h:=by
 show aS _ _ _ _;refine ⟨(((min a b:Nat):Int),()),?_,hk⟩;show Value.int .i64 (if (b:Int)<(a:Int) then (b:Int) else (a:Int))=vI ((min a b:Nat):Int)
 congr 1
 split <;> omega
end
structure cV where
 name:Xaa
 p:Xac
 l:Nat
 c:Nat
 x:bM
def A0 (e:cV):List Xab:=[.string e.name,.slice e.p e.l e.c,.int .u32 e.x.num]
structure uV (h:Hp) (p:Xac) (l:Nat) (es:List cV):Prop where
 len:l=es.length
 cells:∀ i,(hi:i<es.length)->∃ a,p=some a/\aH h (a.add (i*3)) 0 (A0 es[i])
 fC:∀ e,e∈es->iD h e.p e.l e.x.ah
def uV.an {h h':Hp} {p:Xac} {l:Nat} {es:List cV} (v:uV h p l es) (k:Ext h h'):uV h' p l es :=
 ⟨v.len,fun i hi=>by
  obtain ⟨a,b,hc⟩:=v.cells i hi;exact ⟨a,b,aM k aj _ _ hc⟩,fun e c=>(v.fC e c).an k aj⟩
def kT (es:List cV) (s:Xaa):Option Nat:=es.findIdx? fun e=>decide (e.name=s)
def Hd {es:List cV} {e:cV} (hn:∀ d,d∈es->d.name≠e.name) (s:Xaa):kT (es++[e]) s=dT (kT es) e.name es.length s:=by
 unfold kT dT;rw [ea9]
 by_cases h:s=e.name
 ·subst h
  have:es.findIdx? (fun d=>decide (d.name=e.name))=none:=by
   rw [ca9];intro d b;simpa using hn d b
  rw [this];simp [List.findIdx?_cons]
 ·have:¬ e.name=s:=fun k=>h k.symm
  rw [ac9 h];cases a:es.findIdx? (fun d=>decide (d.name=s)) with
  | none=>show _=List.findIdx? _ es; rw [a]; simp [List.findIdx?_cons,this]
  | some k=>show _=List.findIdx? _ es; rw [a]; simp
variable {Y:Xaa}
def Hy {es:List cV} (h:∀ d,d∈es->d.name≠Y):kT es Y=none:=by
 unfold kT;rw [ca9];intro d a;simpa using h d a
variable {O:Hp} {U:Xac} {H V b:Nat}
def Bd {es:List cV} (v:uV O U H es) (hl:es.length<=2^40) (hn:(es.map (·.name)).Nodup) (y:∀ e,e∈es->e.name.size<=maxLen) :
  HC Xaz 62 #[.slice U H V] O fun w h'=>(∃ g,w=.map (some g)/\ej eI h' g (kT es) es.length/\O.size<=g)/\Ext O h':=by
 refine bd (args:=[.slice U H V]) mixed Tryz.func62 ax (yK U H V) ?_;unfold uE aY bh bt aI bQ aF bg cm aQ;refine zI (en:=eI) ?_;intro h1 A B z1;have hll:=v.len;refine aT (cs:=cI) (fun x w h'=>∃ i:Nat,x.1=(i:Int)/\i<=es.length/\w=es.length-i/\ej eI h' O.size (kT (es.take i)) i/\Ext O h') ((0:Int),()) es.length rfl ⟨0,rfl,ad,ad,A,B⟩ ?_;rintro ⟨L,⟨⟩⟩ w h2 ⟨i,hi,r,rfl,n,o⟩;simp only at hi;subst hi;refine ao ?_;refine aR ?_ ?_<;>intro C
 ·have b:i<es.length:=ad
  obtain ⟨a,rfl,hc⟩:=(v.an o).cells i b;have k:es.take (i+1)=es.take i++[es[i]]:=ae9 b;have hsz:=y es[i] (al9 b);have f:∀ d,d∈es.take i->d.name≠es[i].name:=by
   intro d D t;obtain ⟨j,E,rfl⟩:=bg9 D;rw [az9] at E;rw [List.getElem_take] at t;exact ev9.1 hn j i (by rw [ab9]; omega) (by rw [ab9]; omega) ad (by simpa using t)
  generalize es[i]=e at hc k hsz f;refine bS rfl ?_;rw [cr i];refine ay (e.name,(e.p,e.l,e.c),(e.x.num:Int),()) hc (ao ?_);refine br ?_;intro M F G z3;refine bR F ?_;intro h4 q I z4;have q:bC h4 h2.size 116 [.string e.name,.slice e.p e.l e.c,.int .u32 e.x.num]:=q;have m:Ext h2 h4:=bY G I;refine az q (e.name,()) (ao ?_);refine rT (w:=i) (n.an m aj) hsz rfl ?_;intro N u J P;have hw:=ic i;have K:kT (es.take (i+1))=dT (kT (es.take i)) e.name i:=by
   rw [k]
   funext s
   rw [Hd f,az9,dc9 ad]
  rw [Hy f] at u;refine aG (cs:=cI) (((i+1:Nat):Int),()) (es.length-(i+1)) rfl ad (as9 (fun z=>[Value.int .i64 z]) hw) ⟨i+1,rfl,ad,rfl,by rw [K]; exact u,bY (o.trans m) J⟩
 ·have hi:i=es.length:=ad
  subst hi;rw [bj9] at n;exact ⟨⟨_,rfl,n,aq9 _⟩,o⟩
def sI (of:Xaa->Option bM) (t:Xaa × Nat):dt:=match of t.1 with
 | none=>[t]
 | some y=>y.ah.map fun u=>(u.1,t.2*u.2 % 4294967296)
def gU (of:Xaa->Option bM) (n:Nat) (t:Xaa × Nat):Nat:=match of t.1 with
 | none=>n
 | some y=>(n+t.2*y.num % 4294967296) % 4294967296
def dz (of:Xaa->Option bM) (x:bM):bM:=⟨FK (x.ah.flatMap (sI of)),x.ah.foldl (gU of) x.num⟩
structure sO where
 p:Xac
 l:Nat
 c:Nat
 x:bM
def eL (y:sO):Xab:=ik y.p y.l y.c y.x
structure IQ (h:Hp) (g:Nat) (f:Xaa->Option sO) (n:Nat):Prop where
 map:ej eL h g f n
 fC:∀ s y,f s=some y->iD h y.p y.l y.x.ah
def IQ.an {ws:List Nat} {h h':Hp} {g:Nat} {f:Xaa->Option sO} {n:Nat} (m:IQ h g f n) (k:Ch ws h h') (b:g∉ws) (hi:∀ s y,f s=some y->∀ i,i∈aJ y.p->i∉ws):IQ h' g f n :=
 ⟨m.map.an k b,fun s y a=>(m.fC s y a).an k (hi s y a)⟩
def YL:Tryz.prog.underlying 165=some (.map 9 53):=ax
def Y0:(Tryz.prog.info? 53).bind (·.zero)=some (.agg #[.slice none 0 0,.int .u32 0]):=ax
variable {Z:Lp} {a:Xab->Hp->Prop} {e:Xaa->Option sO}
def B3 {h:Hp} (m:ej eL h H e V) (s:Xaa) {k:Xac->Nat->Nat->Int->Bool->T} (h1:∀ y,e s=some y->k y.p y.l y.c (y.x.num:Int) true Z a h) (h0:e s=none->k none 0 0 0 false Z a h) :
  T.eH Xaz (Instr.lookup 165 (.map (some H)) (.string s) true) true [(true,[.slice 64,.int .u32]),(false,[.bool])] k Z a h:=by
 obtain ⟨D,m,d,hn⟩:=m;refine j6 YL wZ Y0 m s true _ ?_;rw [ag9 rfl,nG,d s];cases b:e s with
 | none=>exact ⟨((none,0,0),(0:Int),false,()),rfl,h0 b⟩
 | some y=>exact ⟨((y.p,y.l,y.c),(y.x.num:Int),true,()),rfl,h1 y b⟩
variable {g:T}
def Ox {h:Hp} (m:ej eL h H e V) (b:Y.size<=maxLen) (y:sO) (hk:∀ h',ej eL h' H (dT e Y y) (if (e Y).isSome then V else V+1)->Ch [H] h h'->h'.size=h.size->g Z a h') :
  T.dX Xaz (Instr.mapUpdate 165 (.map (some H)) (.string Y) (.agg #[.slice y.p y.l y.c,.int .u32 (y.x.num:Int)])) g Z a h:=by
 obtain ⟨D,m,d,hn⟩:=m;refine gV YL wZ m b _ _ ?_;intro h' i c' j;exact hk h' (ej.kO (en:=eL) d hn i) c' j
def XW (r:Option Nat) (p:Xac) (l:Nat) (c:Xax) (j:Nat) (k:T):T :=
  T.loop [aQ] [vI (0:Int)] <| fun (a:Int) =>
  bt a l
  (T.need (eS a l) <|
  T.bf p <| fun (d:Xax) =>
  T.af (d.add (aI a 2)) [.string,.int .u32] <| fun (e:Xaa) (f:Int) =>
  T.new [cm,aF (0:Int)] 64 <| fun (b:Xax) =>
  T.aD b [.string e,aF f] <|
  T.af b [.string] <| fun (Zs:Xaa) =>
  bQ (Instr.lookup 196 (.map r) (.string Zs) false) false [(false,[.int .u32])] <| fun (g:Int) =>
  T.af (c.add 1) [.int .u32] <| fun (h:Int) =>
  T.af (b.add 1) [.int .u32] <| fun (i:Int) =>
  T.dX Xaz (Instr.mapUpdate 196 (.map r) (.string Zs) (aF (IntKind.wrap .u32 (g+(IntKind.wrap .u32 (h*i)))))) <|
  T.again j [vI (bq (a+(1:Int)))]) k
variable {c:dt}
def Tw {h:Hp} {q:Nat} {nm:Xaa} {us:dt} {x:Nat} (A:Z.length=x) (v:iD h U b us) (hl:us.length<=2^40) (O:∀ t,t∈us->t.1.size<=maxLen) (m:fl h H (vm c)) (P:us≠[]->H∉aJ U)
  (Q:bC h V 64 [.string nm,.int .u32 (q:Int)]) (B:V≠H)
  (hk:∀ J h',fl h' H (vm ((us.map fun u=>(u.1,q*u.2 % 4294967296)).foldl jz c))->Ch [H] h h'->g (Z++[J]) a h'):XW (some H) U b ⟨V,0,none⟩ x g Z a h:=by
 have hll:=v.len;have R:∀ J:List Xab->Hp->Prop,(Z++[J])[x]?=some J:=by intro J; subst A; simp
 unfold XW bt aI bQ bq eS aF cm aQ;refine aT (cs:=cI) (fun y w h'=>∃ (i:Nat),y.1=(i:Int)/\i<=us.length/\w=us.length-i/\Ch [H] h h'/\fl h' H (vm (((us.take i).map fun u=>(u.1,q*u.2 % 4294967296)).foldl jz c))) ((0:Int),()) us.length rfl
  ⟨0,rfl,ad,ad,Ch.refl _ _,by simpa using m⟩ ?_
 rintro ⟨n8,⟨⟩⟩ w I ⟨i,hi,M,rfl,r,C⟩;simp only at hi;subst hi;refine ao ?_;refine aR ?_ ?_<;>intro S
 ·have e:i<us.length:=ad
  obtain ⟨d,rfl,hc⟩:=(v.an r (by intro j E N; rw [ai9] at N; subst N; exact P (List.ne_nil_of_length_pos ad) E)).cells i e;have o:us.take (i+1)=us.take i++[us[i]]:=ae9 e;have hsz:=O us[i] (al9 e);generalize us[i]=t at hc o hsz;refine bS rfl ?_;rw [cr i];refine ay (t.1,(t.2:Int),()) hc (ao ?_);refine br ?_;intro h5 W X z5;refine bR W ?_;intro h6 s Y z6;have s:bC h6 I.size 64 (dp t):=s;have f:Ext I h6:=bY X Y;have m6:=C.an f aj;have a6:=(Q.an r (by simpa using B)).an f aj;refine az s (t.1,()) (ao ?_);refine qu m6 _ ?_;rw [aE];refine az a6 ((q:Int),()) (ao ?_);rw [aE];refine az s ((t.2:Int),()) (ao ?_);generalize F:((us.take i).map fun u=>(u.1,q*u.2 % 4294967296)).foldl jz c=G at m6;refine Ja (n:=(ef G t.1+q*t.2 % 4294967296) % 4294967296) m6 hsz ?_ ?_
  ·rw [ey,ey,jd,fe9,jd,Int.natCast_mul]
  ·intro h7 m7 k7 z7;have hw:=ic i;have hf:((us.take (i+1)).map fun u=>(u.1,q*u.2 % 4294967296)).foldl jz c=wa G t.1 ((ef G t.1+q*t.2 % 4294967296) % 4294967296):=by
    rw [o,ao9,ch9,F] <;> rfl
   refine aG (cs:=cI) (((i+1:Nat):Int),()) (us.length-(i+1)) (R _) ad (as9 (fun z=>[Value.int .i64 z]) hw) ⟨i+1,rfl,ad,rfl,?_,by rw [hf]; exact m7⟩;exact Ch.trans (Ch.trans r f aj) k7 (fun j E _=>E)
 ·have hi:i=us.length:=ad
  subst hi;rw [bj9] at C;exact hk _ _ C r
def Vc (d:Option Nat) (t:Xax) (x:Int) (u:Nat):T :=
 T.new [bg,aF (0:Int)] 53 <| fun (c:Xax) =>
 T.aD c [bg,aF x] <|
 bP 90 [.map d] false [(false,[.func #[63] #[] false])] <| fun (y:Xab) =>
 bP 89 [y] false [(false,[.slice 9])] <| fun (z:Xac) (w C:Nat) =>
 T.loop [aQ] [vI (0:Int)] <| fun (n8:Int) =>
 bt n8 w
 (T.need (eS n8 w) <|
 T.bf z <| fun (A:Xax) =>
 T.af (A.add (aI n8 1)) [.string] <| fun (a:Xaa) =>
 bQ (Instr.lookup 196 (.map d) (.string a) false) false [(false,[.int .u32])] <| fun (e:Int) =>
 cond (e != (0:Int))
  (T.af c [.slice 64] <| fun (f:Xac) (g b:Nat) =>
  bQ (Instr.lookup 196 (.map d) (.string a) false) false [(false,[.int .u32])] <| fun (h:Int) =>
  bQ (Instr.buildSlice 50 1 #[(0,.agg #[.string a,aF h])]) false [cY] <| fun (i:Xac) (j k:Nat) =>
  bQ (Builtin.append_ #[50,50] 50 #[.slice f g b,.slice i j k]) false [cY] <| fun (l:Xac) (m n:Nat) =>
  T.aD c [.slice l m n] <|
  T.again u [vI (bq (n8+(1:Int)))])
  (T.again u [vI (bq (n8+(1:Int)))]))
 (T.af c [.slice 64,.int .u32] <| fun (B:Xac) (l10 o:Nat) (p:Int) =>
 T.aD t [.slice B l10 o,aF p] <|
 T.af t [.slice 64,.int .u32] <| fun (q:Xac) (b r:Nat) (s:Int) =>
 T.ret (.agg #[.slice q b r,aF s]))
def O9 {h:Hp} {lv:Nat} (C:Z.length=lv) (m:fl h H (vm c)) (hl:c.length<=2^40) (n:Int) (c0:bC h V 53 [.slice none 0 0,.int .u32 0])
  (hk:∀ p l b h',SL h' h.size 64 2 p l b ((FT c).map dp)->Ch [V] h h'->a (.agg #[.slice p l b,.int .u32 n]) h'):Vc (some H) ⟨V,0,none⟩ n lv Z a h:=by
 have M:∀ J:List Xab->Hp->Prop,(Z++[J])[lv]?=some J:=by intro J; subst C; simp
 have hg2:=c0.lt;unfold Vc bt aI bP bQ bq eS aF bg aQ cY;refine br ?_;intro h2 U W z2;refine bR U ?_;intro h3 y X z3;have y:bC h3 h.size 53 [.slice none 0 0,.int .u32 n]:=y;have E:Ext h h3:=bY W X;have m3:=m.an E aj;have c3:bC h3 V 53 [.slice none 0 0,.int .u32 0]:=c0.an E aj;refine aK (KK (some H) h3) ?_;rintro _ h4 ⟨rfl,rfl⟩;refine ⟨(.func (.func 117) #[] #[.pointer (some ⟨h3.size,0,none⟩)],()),rfl,ao ?_⟩;have Y:Ext h3 (h3.push (.cells #[.map (some H)] 196)):=Ext.push _ _;have t:(vm c).length<=2^40:=by unfold vm; rw [ab9]; exact hl
 refine aK (tQ m3 t) ?_;rintro _ N ⟨pk,O,ck,rfl,A,e5⟩;refine ⟨((pk,O,ck),()),rfl,ao ?_⟩;have e35:=Y.trans e5;have o:(keysOf (vm c)).length<=2^40:=by
  unfold keysOf;rw [List.length_mergeSort,ab9];exact t
 have F:O=(keysOf (vm c)).length:=by rw [A.1,ab9]
 unfold FT at hk;generalize keysOf (vm c)=ks at A o F hk;have b5:=y.an e35 aj;have c5:=c3.an e35 aj;have m5:=m3.an e35 aj;have e05:=E.trans e35;have hz3:=e35.size;have hb3:=y.lt;have hg:=m.lt;refine aT (cs:=cI) (fun x w h'=>∃ (i:Nat) (p:Xac) (l b:Nat),x.1=(i:Int)/\i<=ks.length/\w=ks.length-i/\Ch [h.size] N h'/\bC h' h.size 53 [.slice p l b,.int .u32 n] /\
  SL h' N.size 64 2 p l b (((ks.take i).filterMap fun k=>if ef c ⟨k.toArray⟩=0 then none else some ((⟨k.toArray⟩:Xaa),ef c ⟨k.toArray⟩)).map dp)/\l<=i) ((0:Int),()) ks.length rfl
  ⟨0,none,0,0,rfl,ad,ad,Ch.refl _ _,b5,SL.nil _ _ _ _,ad⟩ ?_
 rintro ⟨n8,⟨⟩⟩ w h6 ⟨i,p,l,b,hi,P,rfl,q,B,r,hli⟩;simp only at hi;subst hi;refine ao ?_;have m6:=m5.an q (by simp; omega);have hz6:=q.size;have G:Ext h h6:=bY e05 q;refine aR ?_ ?_<;>intro g1
 ·have f:i<ks.length:=ad
  have sk6:=A.bK q (fun j e=>by have:=(A.cB e).1; simp; omega);obtain ⟨d,rfl,hc⟩:=sk6.cells (i:=i) (by simpa using f);rw [am9] at hc;have s:ks.take (i+1)=ks.take i++[ks[i]]:=ae9 f;generalize ks[i]=k at hc s;refine bS rfl ?_;rw [cr i];refine ay ((⟨k.toArray⟩:Xaa),()) hc (ao ?_);have hw:=ic i;refine qu m6 _ (aw (fun V=>?_) (fun V=>?_))
  ·have V:((ef c ⟨k.toArray⟩:Nat):Int)≠0:=by simpa using V
   refine az B ((p,l,b),()) (ao ?_);refine qu m6 _ ?_;refine gh (vs:=dp (⟨k.toArray⟩,ef c ⟨k.toArray⟩)) AK uq rfl ad ad ax rfl rfl r hz6 ad ad ?_;intro p' c' Q R u hp7;have b7:=B.an u (fun hh=>by have:=(r.cB hh).1; omega);refine bR b7 ?_;intro h8 b8 S z8;refine aG (cs:=cI) (((i+1:Nat):Int),()) (ks.length-(i+1)) (M _) ad (as9 (fun z=>[Value.int .i64 z]) hw) ⟨i+1,p',l+1,c',rfl,ad,rfl,?_,b8,?_,ad⟩
   ·exact Ch.trans (Ch.trans q u (fun j e hl=>by have:=(r.cB e).1; omega)) S (fun j e _=>e)
   ·rw [s,eg9,ao9];have I:([k].filterMap fun k=>if ef c ⟨k.toArray⟩=0 then none else some ((⟨k.toArray⟩:Xaa),ef c ⟨k.toArray⟩))=[((⟨k.toArray⟩:Xaa),ef c ⟨k.toArray⟩)]:=by
     simp only [List.filterMap_cons,List.filterMap_nil];rw [ac9 ad]
    rw [I];exact R.bK S (fun j e=>by have:=(R.cB e).1; simp; omega)
  ·have V:((ef c ⟨k.toArray⟩:Nat):Int)=0:=by simpa using V
   refine aG (cs:=cI) (((i+1:Nat):Int),()) (ks.length-(i+1)) (M _) ad (as9 (fun z=>[Value.int .i64 z]) hw) ⟨i+1,p,l,b,rfl,ad,rfl,q,B,?_,ad⟩;rw [s,eg9];have I:([k].filterMap fun k=>if ef c ⟨k.toArray⟩=0 then none else some ((⟨k.toArray⟩:Xaa),ef c ⟨k.toArray⟩))=[]:=by
    simp only [List.filterMap_cons,List.filterMap_nil];rw [ag9 ad]
   rw [I,bz9];exact r
 ·have hi:i=ks.length:=ad
  subst hi;rw [bj9] at r;have c6:=c5.an q (by simp; omega);refine az B ((p,l,b),n,()) (ao ?_);refine bR c6 ?_;intro Q b7 u z7;have b7:bC Q V 53 [.slice p l b,.int .u32 n]:=b7;refine az b7 ((p,l,b),n,()) ?_;have hz5:=e05.size;exact hk _ _ _ _ ((r.bK u (fun j e=>by have:=(r.cB e).1; simp; omega)).mono ad) (Ch.trans (G.mono aj) u (fun j e hl=>e))
variable {f:bM}
def Gi {c:Nat} (v:iD O U H f.ah) (m:IQ O V e b) (hl:f.ah.length<=2^40) (hs:∀ t,t∈f.ah->t.1.size<=maxLen) (hy:∀ s y,e s=some y->y.x.ah.length<=2^40/\∀ t,t∈y.x.ah->t.1.size<=maxLen)
  (hN:(f.ah.flatMap (sI fun s=>(e s).map (·.x))).length<=2^40) :
  HC Xaz 64 #[ik U H c f,.map (some V)] O fun w h'=>(∃ p' l' c',w=ik p' l' c' (dz (fun s=>(e s).map (·.x)) f)/\SL h' O.size 64 2 p' l' c' ((dz (fun s=>(e s).map (·.x)) f).ah.map dp))/\Ext O h':=by
 refine bd (args:=[ik U H c f,.map (some V)]) mixed Tryz.func64 ax (Fk U H c f.num (some V)) ?_;unfold D5 aY bh bt aI bP bn bQ aF bg cm aQ cn;have hll:=v.len;refine br ?_;intro h1 b1 e1 z1;refine br ?_;intro h2 b2 e2 z2;refine nj _ ?_;intro h3 m3 M z3;refine ⟨(some h2.size,()),rfl,ao ?_⟩;have b13:=(b1.an e2 aj).an M aj;have b23:=b2.an M aj;have e03:=(e1.trans e2).trans M;rw [aE];refine az b13 ((f.num:Int),()) (ao ?_);refine az b13 ((U,H,c),()) (ao ?_);have hh:h1.size=O.size+1:=z1;generalize N:(fun s=>(e s).map (·.x))=of at hN;have B:∀ s,of s=(e s).map (·.x):=fun s=>by rw [<- N]
 refine aT (cs:=We) (fun y w h'=>∃ i:Nat,y.2.1=(i:Int)/\i<=f.ah.length/\w=f.ah.length-i/\y.1=(((f.ah.take i).foldl (gU of) f.num:Nat):Int)/\Ch [h2.size] h3 h'/\fl h' h2.size (vm (((f.ah.take i).flatMap (sI of)).foldl jz [])))
  ((f.num:Int),(0:Int),()) f.ah.length rfl ⟨0,rfl,ad,ad,rfl,Ch.refl _ _,m3⟩ ?_
 rintro ⟨n9,n10,⟨⟩⟩ w h4 ⟨i,hi,hile,rfl,I,K,P⟩;simp only at hi I;subst hi I;refine ao ?_;have C:Ext O h4:=bY e03 K;have hz4:=K.size;refine aR ?_ ?_<;>intro g1
 ·have o:i<f.ah.length:=ad
  obtain ⟨a,rfl,hc⟩:=(v.an C aj).cells i o;have D:f.ah.take (i+1)=f.ah.take i++[f.ah[i]]:=ae9 o;have hsz:=hs f.ah[i] (al9 o);generalize f.ah[i]=t at hc D hsz;have hw:=ic i;refine bS rfl ?_;rw [cr i];refine ay (t.1,(t.2:Int),()) hc (ao ?_);refine br ?_;intro h5 b5 e5 z5;refine bR b5 ?_;intro h6 G k6 z6;have G:bC h6 h4.size 64 [.string t.1,.int .u32 (t.2:Int)]:=G;have r:Ext h4 h6:=bY e5 k6;have m6:=P.an r aj;have e06:=C.trans r;have hz6:=r.size;refine az G (t.1,()) (ao ?_);have k:((f.ah.take (i+1)).flatMap (sI of)).foldl jz []=(sI of t).foldl jz (((f.ah.take i).flatMap (sI of)).foldl jz []):=by
   rw [D,dt9,ch9]
   simp
  have u:(f.ah.take (i+1)).foldl (gU of) f.num=gU of ((f.ah.take i).foldl (gU of) f.num) t:=by
   rw [D,ch9]; rfl
  generalize (f.ah.take i).foldl (gU of) f.num=nn at u ⊢;generalize ((f.ah.take i).flatMap (sI of)).foldl jz []=D' at k m6 ⊢;refine B3 (m.map.an e06 aj) t.1 (fun y z=>?_) (fun Q=>?_)
  ·have A:of t.1=some y.x:=by rw [B,z]; rfl
   refine br ?_;intro h7 R S z7;refine bR R ?_;intro h8 L W z8;have L:bC h8 h6.size 53 [.slice y.p y.l y.c,.int .u32 (y.x.num:Int)]:=L;have d:Ext h6 h8:=bY S W;refine cg rfl ?_;refine az L ((y.p,y.l,y.c),()) (ao ?_);have hh2:h2.size=O.size+2:=ad
   refine Tw (q:=t.2) (nm:=t.1) (us:=y.x.ah) rfl ((m.fC _ _ z).an (e06.trans d) aj) (hy _ _ z).1 (hy _ _ z).2 (m6.an d aj) (fun X hb=>by have:=(m.fC _ _ z).Xr X _ hb; omega) (G.an d aj) ad ?_;intro J h9 Y E;have b69:=(G.an d aj).an E (by simp; omega);have b89:=L.an E (by simp; omega);rw [aE];refine az b69 ((t.2:Int),()) (ao ?_);rw [aE];refine az b89 ((y.x.num:Int),()) (ao ?_);have F:IntKind.wrap .u32 ((nn:Int)+IntKind.wrap .u32 ((t.2:Int)*(y.x.num:Int)))=((gU of nn t:Nat):Int):=by
    unfold gU;rw [A];simp only;rw [ey,ey,jd,fe9,jd,Int.natCast_mul]
   refine aG (cs:=We) (((gU of nn t:Nat):Int),((i+1:Nat):Int),()) (f.ah.length-(i+1)) rfl ad (by rw [F,hw]; rfl) ⟨i+1,rfl,ad,rfl,by rw [u],Ch.trans (Ch.trans (Ch.trans K r aj) d aj) E (fun j Z _=>Z),?_⟩;rw [k];unfold sI;rw [A];exact Y
  ·have A:of t.1=none:=by rw [B,Q]; rfl
   refine br ?_;intro h7 R S z7;refine bR R ?_;intro h8 L W z8;have d:Ext h6 h8:=bY S W;have b68:=G.an d aj;refine cj rfl ?_;refine az b68 (t.1,()) (ao ?_);refine qu (m6.an d aj) _ ?_;rw [aE];refine az b68 ((t.2:Int),()) (ao ?_);refine Ja (n:=(ef D' t.1+t.2) % 4294967296) (m6.an d aj) hsz ?_ ?_
   ·rw [ey,jd,fe9]
   ·intro h9 Y E z9;have F:gU of nn t=nn:=by unfold gU; rw [A]
    refine aG (cs:=We) ((nn:Int),((i+1:Nat):Int),()) (f.ah.length-(i+1)) rfl ad (by rw [hw]; rfl) ⟨i+1,rfl,ad,rfl,by rw [u,F],Ch.trans (Ch.trans (Ch.trans K r aj) d aj) E (fun j Z _=>Z),?_⟩;rw [k];unfold sI;rw [A];exact Y
 ·have hi:i=f.ah.length:=ad
  subst hi;rw [bj9] at P ⊢;have hD:((f.ah.flatMap (sI of)).foldl jz []).length<=2^40:=by
   have:=wq (f.ah.flatMap (sI of)) []
   simp only [List.length_nil,Nat.zero_add] at this;omega
  refine O9 (lv:=1) rfl P hD _ (b23.an K (by simp; omega)) ?_;intro p' l' c' h9 s9 E;exact ⟨⟨p',l',c',rfl,s9.mono ad⟩,bY C E⟩
structure TS where
 num:Xaa->Option Nat
 jn:Nat
 low:Xaa->Option Nat
 on:Xaa->Option Bool
 back:Xaa->Option Bool
 dq:List Xaa
def fc (v:Xaa) (st:TS):TS:={ st with num:=dT st.num v (st.jn+1),jn:=st.jn+1,low:=dT st.low v (st.jn+1),dq:=st.dq++[v],on:=dT st.on v true }
def fP (v w:Xaa) (st:TS):TS:=if w=v then { st with back:=dT st.back v true } else st
def Mm (v:Xaa) (n:Nat) (st:TS):TS:={ st with low:=dT st.low v (min ((st.low v).getD 0) n) }
def uv (iL:Xaa->TS->TS) (v w:Xaa) (st:TS):TS :=
 if (st.num w).getD 0=0 then Mm v (((iL w st).low w).getD 0) (iL w st)
 else if (st.on w).getD false=true then Mm v ((st.num w).getD 0) st
 else st
def eZ (own:Xaa->Bool) (iL:Xaa->TS->TS) (v:Xaa) (st:TS) (w:Xaa):TS :=
 if own w=true then uv iL v w (fP v w st) else st
def qp (qT:Bool) (st:TS) (x:Xaa):TS:={ st with on:=dT st.on x false,back:=dT st.back x ((st.back x).getD false || qT) }
def sG (v:Xaa) (st:TS):Nat:=st.dq.findIdx (fun x=>decide (v=x))
def r9 (v:Xaa) (st:TS):TS:={ (st.dq.drop (sG v st)).foldl (qp (decide (1<st.dq.length-sG v st))) st with dq:=st.dq.take (sG v st) }
def cZ (own:Xaa->Bool) (succ:Xaa->List Xaa):Nat->Xaa->TS->TS
 | 0,_,st=>st
 | f+1,v,st =>
  if (((succ v).foldl (eZ own (cZ own succ f) v) (fc v st)).low v).getD 0<(((succ v).foldl (eZ own (cZ own succ f) v) (fc v st)).num v).getD 0 then (succ v).foldl (eZ own (cZ own succ f) v) (fc v st)
  else r9 v ((succ v).foldl (eZ own (cZ own succ f) v) (fc v st))
def DB:TS:=⟨fun _=>none,0,fun _=>none,fun _=>none,fun _=>none,[]⟩
def xN (own:Xaa->Bool) (succ:Xaa->List Xaa) (f:Nat) (st:TS) (v:Xaa):TS:=if (st.num v).getD 0=0 then cZ own succ f v st else st
def H3 (own:Xaa->Bool) (succ:Xaa->List Xaa) (names:List Xaa):TS:=names.foldl (xN own succ names.length) DB
def rN (names:List Xaa) (st:TS):Nat:=(names.filter fun v=>(st.num v).isNone).length
structure dP (names:List Xaa) (st:TS):Prop where
 sum:st.jn+rN names st=names.length
 pos:∀ s n,st.num s=some n->1<=n
 dq:st.dq.length<=st.jn
 fC:∀ x,x∈st.dq->st.num x≠Option.none
def dP.none {names:List Xaa} {st:TS} (g:dP names st) {w:Xaa} (h:(st.num w).getD 0=0):st.num w=Option.none:=by
 cases a:st.num w with
 | none=>rfl
 | some n =>
  rw [a] at h
  have:=g.pos w n a
  simp at h;omega
def SD {names:List Xaa} (hn:names.Nodup) {v:Xaa} (hv:v∈names) {f:Xaa->Option Nat} (h0:f v=Option.none) (n:Nat):(names.filter fun s=>(dT f v n s).isNone).length+1=(names.filter fun s=>(f s).isNone).length:=by
 induction names with
 | nil=>simp at hv
 | cons x l b =>
  obtain ⟨c,hn⟩:=ef9.1 hn
  by_cases e:x=v
  ·subst e;have hl:l.filter (fun s=>(dT f x n s).isNone)=l.filter (fun s=>(f s).isNone):=by
    refine List.filter_congr fun s d=>?_
    rw [cw _ _ (fun k=>c (by rw [<- k]; exact d))]
   rw [List.filter_cons,List.filter_cons,cK,h0,hl]
   simp
  ·have a:v∈l:=by
    rcases be9.1 hv with h | h
    ·exact (e h.symm).elim
    ·exact h
   have:=b hn a
   rw [List.filter_cons,List.filter_cons,cw _ _ e];split
   ·simp only [List.length_cons]; omega
   ·exact this
def Cm (qT:Bool) (l:List Xaa):∀ st:TS,(l.foldl (qp qT) st).num=st.num/\(l.foldl (qp qT) st).jn=st.jn/\(l.foldl (qp qT) st).low=st.low:=by
 induction l with
 | nil=>intro st; exact ⟨rfl,rfl,rfl⟩
 | cons x l a =>
  intro st;rw [bt9];exact a _
def oK (v:Xaa) (st:TS):(r9 v st).num=st.num:=(Cm _ _ _).1
def AV (v:Xaa) (st:TS):(r9 v st).jn=st.jn:=(Cm _ _ _).2.1
def RF (v:Xaa) (st:TS):(r9 v st).low=st.low:=(Cm _ _ _).2.2
def xi (v:Xaa) (st:TS):(r9 v st).dq=st.dq.take (sG v st):=rfl
def iW (v w:Xaa) (st:TS):(fP v w st).num=st.num/\(fP v w st).jn=st.jn/\(fP v w st).dq=st.dq/\(fP v w st).on=st.on/\(fP v w st).low=st.low:=by
 unfold fP;split <;> exact ⟨rfl,rfl,rfl,rfl,rfl⟩
def dP.self {names:List Xaa} {st:TS} (g:dP names st) (v w:Xaa):dP names (fP v w st):=by
 obtain ⟨h1,h2,a,_⟩:=iW v w st;exact ⟨by unfold rN; rw [h1,h2]; exact g.sum,by rw [h1]; exact g.pos,by rw [h2,a]; exact g.dq,by rw [h1,a]; exact g.fC⟩
def dP.low {names:List Xaa} {st:TS} (g:dP names st) (v:Xaa) (n:Nat):dP names (Mm v n st):=⟨g.sum,g.pos,g.dq,g.fC⟩
def dP.open {names:List Xaa} (hn:names.Nodup) {st:TS} (g:dP names st) {v:Xaa} (hv:v∈names) (h0:st.num v=Option.none):dP names (fc v st)/\rN names (fc v st)+1=rN names st:=by
 have h1:rN names (fc v st)+1=rN names st:=SD hn hv h0 _;refine ⟨⟨?_,fun s n a=>?_,?_,fun x b=>?_⟩,h1⟩
 ·have:=g.sum
  show st.jn+1+rN names (fc v st)=_;omega
 ·have a:dT st.num v (st.jn+1) s=some n:=a
  by_cases e:s=v
  ·subst e;rw [cK] at a
   have:=bb9 a
   omega
  ·rw [cw _ _ e] at a;exact g.pos s n a
 ·have:=g.dq
  show (st.dq++[v]).length<=st.jn+1
  simp; omega
 ·have b:x∈st.dq++[v]:=b;show dT st.num v _ x≠Option.none
  by_cases e:x=v
  ·subst e; rw [cK]; simp
  ·rw [cw _ _ e];rcases ar9.1 b with h | h
   ·exact g.fC x h
   ·exact (e (ai9.1 h)).elim
def dP.pop {names:List Xaa} {st:TS} (g:dP names st) (v:Xaa):dP names (r9 v st) :=
 ⟨by unfold rN; rw [oK,AV]; exact g.sum,by rw [oK]; exact g.pos,by rw [xi,AV,az9]; have:=g.dq; omega,fun x a=>by rw [oK]; rw [xi] at a; exact g.fC x (cv9 a)⟩
def Cy (names:List Xaa) (st a:TS):Prop:=dP names a/\(∀ s n,st.num s=some n->a.num s=some n)/\st.dq <+: a.dq
def Cy.rN {names:List Xaa} {st a:TS} (h:Cy names st a):rN names a<=rN names st:=by
 unfold Sx.rN;rw [<- List.countP_eq_length_filter,<- List.countP_eq_length_filter];refine List.countP_mono_left fun x c h'=>?_
 cases b:st.num x with
 | none=>rfl
 | some n=>rw [h.2.1 x n b] at h'; simp at h'
def Cy.trans {names:List Xaa} {a b c:TS} (h:Cy names a b) (k:Cy names b c):Cy names a c:=⟨k.1,fun s n d=>k.2.1 s n (h.2.1 s n d),h.2.2.trans k.2.2⟩
def Cy.refl {names:List Xaa} {a:TS} (h:dP names a):Cy names a a:=⟨h,fun s n b=>b,eb9 _⟩
def Qc {names:List Xaa} {iL:Xaa->TS->TS} (a:∀ Y st,dP names st->Y∈names->st.num Y=Option.none->Sx.rN names st<=H->Cy names st (iL Y st)) {v:Xaa} {st:TS} (g:dP names st) (b:Y∈names) (c:Sx.rN names st<=H):Cy names st (uv iL v Y st):=by
 unfold uv;split
 ·rename_i h0;have h:=a Y st g b (g.none h0) c;exact ⟨h.1.low v _,h.2.1,h.2.2⟩
 ·split
  ·exact ⟨g.low v _,fun s n d=>d,eb9 _⟩
  ·exact Cy.refl g
def GK {names:List Xaa} {own:Xaa->Bool} (a:∀ s,own s=true->s∈names) {iL:Xaa->TS->TS} (b:∀ w st,dP names st->w∈names->st.num w=Option.none->Sx.rN names st<=H->Cy names st (iL w st)) {v w:Xaa} {st:TS} (g:dP names st) (c:Sx.rN names st<=H):Cy names st (eZ own iL v st w):=by
 unfold eZ;split
 ·rename_i d;have h1:Cy names st (fP v w st):=⟨g.self v w,fun s n e=>by rw [(iW v w st).1]; exact e,by rw [(iW v w st).2.2.1]; exact eb9 _⟩
  exact h1.trans (Qc b (g.self v w) (a w d) (cq9 h1.rN c))
 ·exact Cy.refl g
theorem BP {names:List Xaa} {own:Xaa->Bool} (a:∀ s,own s=true->s∈names) {iL:Xaa->TS->TS} {f:Nat} (b:∀ w st,dP names st->w∈names->st.num w=Option.none->Sx.rN names st<=f->Cy names st (iL w st)) (v:Xaa):∀ (l:List Xaa) (st:TS),dP names st->Sx.rN names st<=f->Cy names st (l.foldl (eZ own iL v) st)
 | [],st,g,c=>Cy.refl g
 | w::l,st,g,c=>by
  have h1:=GK a b (v:=v) (w:=w) g c;rw [bt9];exact h1.trans (BP a b v l _ h1.1 (cq9 h1.rN c))
def JW {a b:List Xaa} {v:Xaa} (h:a++[v] <+: b) (hv:v∉a) {st:TS} (c:st.dq=b):sG v st=a.length/\b.take a.length=a/\a.length<b.length:=by
 obtain ⟨t,rfl⟩:=h;unfold sG;rw [c];refine ⟨?_,aj,aj⟩;rw [ay9,List.findIdx_append,ac9 ?_]
 ·simp [List.findIdx_cons]
 ·rw [List.findIdx_lt_length];rintro ⟨x,d,e⟩;exact hv (by rw [ah9 e]; exact d)
def dP.Zf {names:List Xaa} {st:TS} (g:dP names st) {v:Xaa} (h0:st.num v=Option.none):v∉st.dq:=fun hv=>g.fC v hv h0
def PP {names:List Xaa} (hn:names.Nodup) {v:Xaa} {st:TS} (g:dP names st) (hv:v∈names) (h0:st.num v=Option.none):Cy names st (fc v st) :=
 ⟨(g.open hn hv h0).1,fun s n a=>by
   show dT st.num v _ s=some n;rw [cw _ _ (fun e=>by rw [e,h0] at a; cases a)];exact a,⟨[v],rfl⟩⟩
theorem tP {names:List Xaa} (hn:names.Nodup) {own:Xaa->Bool} (b:∀ s,own s=true->s∈names) (succ:Xaa->List Xaa):∀ (f:Nat) (v:Xaa) (st:TS),dP names st->v∈names->st.num v=Option.none->Sx.rN names st<=f->Cy names st (cZ own succ f v st)
 | 0,v,st,g,hv,h0,c=>Cy.refl g
 | f+1,v,st,g,hv,h0,c=>by
  obtain ⟨d,e⟩:=g.open hn hv h0;have h2:=BP b (tP hn b succ f) v (succ v) _ d ad;have h3:=(PP hn g hv h0).trans h2;unfold cZ;split
  ·exact h3
  ·refine ⟨h3.1.pop v,fun s n h=>by rw [oK]; exact h3.2.1 s n h,?_⟩;obtain ⟨i,j,_⟩:=JW (a:=st.dq) (v:=v) h2.2.2 (g.Zf h0) rfl;rw [xi,i,j];exact eb9 _
def M7 {names:List Xaa} (hn:names.Nodup) {own:Xaa->Bool} (a:∀ s,own s=true->s∈names) (succ:Xaa->List Xaa) {v:Xaa} {st:TS} (g:dP names st) (hv:v∈names) (h0:st.num v=Option.none) (d:Sx.rN names st<=H+1) (l:List Xaa) :
  dP names (l.foldl (eZ own (cZ own succ H) v) (fc v st))/\Sx.rN names (l.foldl (eZ own (cZ own succ H) v) (fc v st))<=H/\st.dq++[v] <+: (l.foldl (eZ own (cZ own succ H) v) (fc v st)).dq/\∃ n,(l.foldl (eZ own (cZ own succ H) v) (fc v st)).num v=some n:=by
 obtain ⟨b,c⟩:=g.open hn hv h0;have h2:=BP a (tP hn a succ H) v l _ b ad;exact ⟨h2.1,by have:=h2.rN; omega,h2.2.2,_,h2.2.1 v (st.jn+1) (cK _ _ _)⟩
def YK (names:List Xaa):dP names DB:=⟨by unfold rN DB; simp,fun s n a=>(by cases a),by simp [DB],by simp [DB]⟩
section
variable {E:Xaa->Xaa->Prop}
inductive qB (E:Xaa->Xaa->Prop):Xaa->Xaa->Prop
 | refl (a:Xaa):qB E a a
 | head {a b c:Xaa}:E a b->qB E b c->qB E a c
def qB.trans {a b c:Xaa} (h:qB E a b) (k:qB E b c):qB E a c:=by
 induction h with
 | refl=>exact k
 | head e _ d=>exact .head e (d k)
def qB.one {a b:Xaa} (h:E a b):qB E a b:=.head h (.refl b)
def kS (E:Xaa->Xaa->Prop) (v:Xaa):Prop:=∃ y,E v y/\qB E y v
def kS.of {a b:Xaa} (h:qB E a b) (k:qB E b a) (c:a≠b):kS E a:=by
 cases h with
 | refl=>exact (c rfl).elim
 | head e r=>exact ⟨_,e,r.trans k⟩
structure Inv (E:Xaa->Xaa->Prop) (G:List Xaa) (st:TS):Prop where
 le:∀ s n,st.num s=some n->1<=n/\n<=st.jn
 dq:∀ x,x∈st.dq->st.num x≠none
 on:∀ x,(st.on x).getD false=true↔x∈st.dq
 gr:∀ g,g∈G->g∈st.dq
 cl:∀ x,st.num x≠none->x∉st.dq->∀ y,E x y->st.num y≠none/\y∉st.dq
 bl:∀ x,st.num x≠none->x∉G->∀ y,E x y->st.num y≠none
 rg:∀ x,x∈st.dq->∃ g,g∈G/\qB E x g
 b0:∀ x,st.num x=none->(st.back x).getD false=false
 bc:∀ x,st.num x≠none->x∉st.dq->((st.back x).getD false=true↔kS E x)
 bw:∀ x,x∈st.dq->(st.back x).getD false=true->E x x
 bb:∀ x,x∈st.dq->x∉G->E x x->(st.back x).getD false=true
def Inv.low {G:List Xaa} {st:TS} (i:Inv E G st) (v:Xaa) (n:Nat):Inv E G (Mm v n st):=⟨i.le,i.dq,i.on,i.gr,i.cl,i.bl,i.rg,i.b0,i.bc,i.bw,i.bb⟩
def Inv.WD {G:List Xaa} {st:TS} (i:Inv E G st) {x y:Xaa} (h:qB E x y):st.num x≠none->x∉st.dq->st.num y≠none/\y∉st.dq:=by
 induction h with
 | refl=>exact fun h k=>⟨h,k⟩
 | head e _ a=>intro h k; obtain ⟨h2,b⟩:=i.cl _ h k _ e; exact a h2 b
def Inv.self {G:List Xaa} {st:TS} (i:Inv E G st) {v w:Xaa} (hv:v∈G) (g:w=v->E v v):Inv E G (fP v w st):=by
 unfold fP;split
 ·rename_i h;have hw:=i.gr v hv;have hn:=i.dq v hw;refine ⟨i.le,i.dq,i.on,i.gr,i.cl,i.bl,i.rg,fun x b=>?_,fun x b c=>?_,fun x b d=>?_,fun x b f j=>?_⟩
  ·have a:x≠v:=fun e=>hn (by rw [<- e]; exact b)
   show (dT st.back v true x).getD false=false;rw [cw _ _ a]; exact i.b0 x b
  ·have a:x≠v:=fun e=>c (by rw [e]; exact hw)
   show (dT st.back v true x).getD false=true↔_;rw [cw _ _ a]; exact i.bc x b c
  ·by_cases e:x=v
   ·subst e; exact g h
   ·have d:(dT st.back v true x).getD false=true:=d;rw [cw _ _ e] at d; exact i.bw x b d
  ·have a:x≠v:=fun e=>f (by rw [e]; exact hv)
   show (dT st.back v true x).getD false=true;rw [cw _ _ a]; exact i.bb x b f j
 ·exact i
def Inv.open {G:List Xaa} {st:TS} (i:Inv E G st) {v:Xaa} (h0:st.num v=none):Inv E (v::G) (fc v st):=by
 have q:v∉st.dq:=fun h=>i.dq v h h0
 have a:∀ {x},x≠v->(fc v st).num x=st.num x:=fun h=>cw _ _ h
 have mono:∀ {x},st.num x≠none->(fc v st).num x≠none:=by
  intro x h;rw [a (fun e=>h (by rw [e]; exact h0))]; exact h
 refine ⟨fun s n f=>?_,fun x b=>?_,fun x=>?_,fun g j=>?_,fun x b c y o=>?_,fun x b m y o=>?_,fun x b=>?_,fun x b=>?_,fun x b c=>?_,fun x b l=>?_,fun x b j p=>?_⟩
 ·show 1<=n/\n<=st.jn+1
  by_cases e:s=v
  ·subst e;have f:dT st.num s (st.jn+1) s=some n:=f;rw [cK] at f
   have:=bb9 f
   omega
  ·rw [a e] at f
   have:=i.le s n f
   omega
 ·rcases ar9.1 (show x∈st.dq++[v] from b) with h | h
  ·exact mono (i.dq x h)
  ·rw [ai9.1 h];show dT st.num v _ v≠none;rw [cK]; simp
 ·show (dT st.on v true x).getD false=true↔x∈st.dq++[v]
  by_cases e:x=v
  ·subst e; rw [cK]; simp
  ·rw [cw _ _ e,i.on x]; simp [e]
 ·show g∈st.dq++[v];rcases be9.1 j with h | h
  ·simp [h]
  ·exact bh9 _ (i.gr g h)
 ·have c:x∉st.dq++[v]:=c;have d:x≠v:=fun e=>c (by simp [e])
  rw [a d] at b;obtain ⟨h1,h2⟩:=i.cl x b (fun h=>c (bh9 _ h)) y o;refine ⟨mono h1,?_⟩;show y∉st.dq++[v];intro h;rcases ar9.1 h with h | h
  ·exact h2 h
  ·exact h1 (by rw [ai9.1 h]; exact h0)
 ·have d:x≠v:=fun e=>m (by simp [e])
  rw [a d] at b;exact mono (i.bl x b (fun h=>m (ap9 _ h)) y o)
 ·rcases ar9.1 (show x∈st.dq++[v] from b) with h | h
  ·obtain ⟨g,j,r⟩:=i.rg x h;exact ⟨g,ap9 _ j,r⟩
  ·rw [ai9.1 h];exact ⟨v,aj,.refl v⟩
 ·have d:x≠v:=by
   intro e;subst e;have b:dT st.num x _ x=none:=b;rw [cK] at b; cases b
  rw [a d] at b;exact i.b0 x b
 ·have c:x∉st.dq++[v]:=c;have d:x≠v:=fun e=>c (by simp [e])
  rw [a d] at b;exact i.bc x b (fun h=>c (bh9 _ h))
 ·rcases ar9.1 (show x∈st.dq++[v] from b) with h | h
  ·exact i.bw x h l
  ·rw [ai9.1 h] at l;have l:(st.back v).getD false=true:=l;rw [i.b0 v h0] at l; cases l
 ·have d:x≠v:=fun e=>j (by simp [e])
  rcases ar9.1 (show x∈st.dq++[v] from b) with h | h
  ·exact i.bb x h (fun k=>j (ap9 _ k)) p
  ·exact (d (ai9.1 h)).elim
def vK (st:TS) (v:Xaa):Nat:=(st.low v).getD 0
def tH (st:TS) (v:Xaa):Nat:=(st.num v).getD 0
def Vb (s0 st:TS):Prop:=∀ s,s0.num s≠none->st.num s=s0.num s/\st.low s=s0.low s/\st.back s=s0.back s
def Y6 (s0 st:TS):Prop:=∀ s n,s0.num s=none->st.num s=some n->s0.jn<n
def Wp (E:Xaa->Xaa->Prop) (v:Xaa) (s0 st:TS) (x:Xaa):Prop:=s0.num x=none/\qB E v x/\∀ y,E x y->y∈s0.dq->vK st v<=tH st y
structure oV (E:Xaa->Xaa->Prop) (G:List Xaa) (v:Xaa) (s0 st:TS):Prop where
 inv:Inv E G st
 old:Vb s0 st
 jn:s0.jn<=st.jn
 new:Y6 s0 st
 num:∃ n,st.num v=some n
 dq:∃ X,st.dq=s0.dq++X/\∀ x,x∈X->Wp E v s0 st x
 low:vK st v<tH st v->∃ y,y∈s0.dq/\qB E v y/\st.num y=some (vK st v)
structure H5 (E:Xaa->Xaa->Prop) (own:Xaa->Bool) (G:List Xaa) (v:Xaa) (P:List Xaa) (s0 st:TS):Prop where
 inv:Inv E (v::G) st
 old:Vb s0 st
 jn:s0.jn<=st.jn
 new:Y6 s0 st
 num:st.num v=some (s0.jn+1)
 dq:∃ X,st.dq=s0.dq++v::X/\∀ x,x∈X->x≠v/\Wp E v s0 st x
 low:vK st v<s0.jn+1->∃ y,y∈s0.dq/\qB E v y/\st.num y=some (vK st v)
 iL:∀ w,w∈P->own w=true->st.num w≠none/\(w∈s0.dq->vK st v<=tH st w)/\(w=v->(st.back v).getD false=true)
def H5.start {own:Xaa->Bool} {G:List Xaa} {v:Xaa} {s0:TS} (i:Inv E G s0) (h0:s0.num v=none):H5 E own G v [] s0 (fc v s0):=by
 refine ⟨i.open h0,fun s b=>?_,Nat.le_succ _,fun s n b hn=>?_,cK _ _ _,⟨[],rfl,fun x c=>by simp at c⟩,fun hl=>?_,fun w d=>by simp at d⟩
 ·have a:s≠v:=fun e=>b (by rw [e]; exact h0)
  exact ⟨cw _ _ a,cw _ _ a,rfl⟩
 ·by_cases e:s=v
  ·subst e;have hn:dT s0.num s (s0.jn+1) s=some n:=hn;rw [cK] at hn
   have:=bb9 hn
   omega
  ·have hn:dT s0.num v (s0.jn+1) s=some n:=hn;rw [cw _ _ e,b] at hn; cases hn
 ·have hl:(dT s0.low v (s0.jn+1) v).getD 0<s0.jn+1:=hl;rw [cK] at hl;simp at hl
def H5.self {own:Xaa->Bool} {G:List Xaa} {v w:Xaa} {P:List Xaa} {s0 st:TS} (m:H5 E own G v P s0 st) (h0:s0.num v=none) (o:w=v->E v v) :
  H5 E own G v P s0 (fP v w st)/\(w=v->((fP v w st).back v).getD false=true):=by
 obtain ⟨d,p,q,B,i⟩:=iW v w st;have r:∀ s,s≠v->(fP v w st).back s=st.back s:=by
  intro s f;unfold fP;split
  ·exact cw _ _ f
  ·rfl
 have j:w=v->((fP v w st).back v).getD false=true:=by
  intro e;unfold fP;rw [ag9 e];show (dT st.back v true v).getD false=true;rw [cK]; rfl
 have g:(st.back v).getD false=true->((fP v w st).back v).getD false=true:=by
  intro h;unfold fP;split
  ·show (dT st.back v true v).getD false=true;rw [cK]; rfl
  ·exact h
 refine ⟨⟨m.inv.self aj o,fun s f=>?_,by rw [p]; exact m.jn,fun s n f hn=>by rw [d] at hn; exact m.new s n f hn,by rw [d]; exact m.num,?_,?_,fun u t y=>?_⟩,j⟩
 ·have k:s≠v:=fun e=>f (by rw [e]; exact h0)
  rw [d,i,r s k];exact m.old s f
 ·obtain ⟨X,z,A⟩:=m.dq;refine ⟨X,by rw [q]; exact z,fun x l=>?_⟩
  have:=A x l
  unfold Wp vK tH at *;rw [d,i];exact this
 ·unfold vK;rw [d,i];exact m.low
 ·obtain ⟨a,b,c⟩:=m.iL u t y;unfold vK tH at *;rw [d,i];exact ⟨a,b,fun e=>g (c e)⟩
def pZ (v:Xaa) (n:Nat) (st:TS):vK (Mm v n st) v=min (vK st v) n:=by
 unfold vK;show (dT st.low v _ v).getD 0=_;rw [cK]; rfl
def H5.rest {own:Xaa->Bool} {G:List Xaa} {v w:Xaa} {P:List Xaa} {s0 st:TS} {iL:Xaa->TS->TS} (i0:Inv E G s0) (m:H5 E own G v P s0 st) (h0:s0.num v=none) (V:∀ g,g∈G->qB E g v) (H:E v w)
  (U:w=v->(st.back v).getD false=true) (W:(st.num w).getD 0=0->st.num w=none) (I:st.num w=none->(∀ g,g∈v::G->qB E g w)->oV E (v::G) w st (iL w st)) :
  H5 E own G v (P++[w]) s0 (uv iL v w st):=by
 obtain ⟨X,F,N⟩:=m.dq;have hv:st.num v≠none:=by rw [m.num]; simp
 have z:∀ s,s0.num s≠none->st.num s≠none:=fun s q=>by rw [(m.old s q).1]; exact q
 have i:∀ y,y∈s0.dq->y∈st.dq:=fun y l=>by rw [F]; exact bh9 _ l
 unfold uv;split
 ·rename_i A;have hw:=W A;have O:w≠v:=fun e=>hv (by rw [<- e]; exact hw)
  have p:=I hw (fun g Y=>by
   rcases be9.1 Y with h | h
   ·rw [h]; exact .one H
   ·exact (V g h).trans (.one H))
  generalize iL w st=f at p ⊢;show H5 E own G v (P++[w]) s0 (Mm v (vK f w) f);obtain ⟨Z,Q,R⟩:=p.dq;have j:vK f v=vK st v:=by unfold vK; rw [(p.old v hv).2.1]
  have r:f.num v=some (s0.jn+1):=by rw [(p.old v hv).1]; exact m.num
  refine ⟨p.inv.low v _,fun s q=>?_,cq9 m.jn p.jn,fun s n q hn=>?_,r,⟨X++Z,?_,fun x B=>?_⟩,fun hl=>?_,fun u J K=>?_⟩
  ·have C:s≠v:=fun e=>q (by rw [e]; exact h0)
   obtain ⟨a,b,c⟩:=m.old s q;obtain ⟨a2,b2,c2⟩:=p.old s (z s q);refine ⟨a2.trans a,?_,c2.trans c⟩;show dT f.low v _ s=_;rw [cw _ _ C];exact b2.trans b
  ·by_cases h1:st.num s=none
   ·have:=p.new s n h1 hn
    have:=m.jn
    omega
   ·have hn:f.num s=some n:=hn;rw [(p.old s h1).1] at hn;exact m.new s n q hn
  ·show f.dq=_;rw [Q,F,ay9,ez9]
  ·rcases ar9.1 B with h | h
   ·obtain ⟨a,b,c,d⟩:=N x h;refine ⟨a,b,c,fun y l o=>?_⟩;rw [pZ,j]
    have:=d y l o
    have e:tH f y=tH st y:=by unfold tH; rw [(p.old y (m.inv.dq y (i y o))).1]
    show _<=tH f y;omega
   ·obtain ⟨b,c,d⟩:=R x h;refine ⟨fun e=>hv (by rw [<- e]; exact b),?_,qB.head H c,fun y l o=>?_⟩
    ·apply ew9;intro k;exact z x k b
    ·rw [pZ]
     have:=d y l (i y o)
     show _<=tH f y;omega
  ·rw [pZ,j] at hl ⊢;show ∃ y,y∈s0.dq/\qB E v y/\f.num y=_
   by_cases hc:vK st v<=vK f w
   ·rw [dc9 hc] at hl ⊢;obtain ⟨y,l,S,hn⟩:=m.low hl;exact ⟨y,l,S,by rw [(p.old y (m.inv.dq y (i y l))).1]; exact hn⟩
   ·rw [Nat.min_eq_right ad] at hl ⊢;obtain ⟨n,hn⟩:=p.num;have h2:=p.new w n hw hn;have h3:=m.jn;obtain ⟨y,l,S,t⟩:=p.low (by unfold tH; rw [hn]; simp; omega);refine ⟨y,?_,qB.head H S,t⟩;rw [F] at l;rcases ar9.1 l with h | h
    ·exact h
    ·rcases be9.1 h with h | h
     ·rw [h,r] at t
      have:=bb9 t
      omega
     ·have L:st.num y≠none:=m.inv.dq y (by rw [F]; exact br9 _ (ap9 _ h));rw [(p.old y L).1] at t
      have:=m.new y _ (N y h).2.1 t
      omega
  ·rw [pZ,j];rcases ar9.1 J with h | h
   ·obtain ⟨a,b,c⟩:=m.iL u h K;have hn:f.num u=st.num u:=(p.old u a).1;refine ⟨by show f.num u≠none; rw [hn]; exact a,fun k=>?_,fun k=>?_⟩
    ·have:=b k
     have e:tH f u=tH st u:=by unfold tH; rw [hn]
     show _<=tH f u;omega
    ·show (f.back v).getD false=true;rw [(p.old v hv).2.2];exact c k
   ·have h:=ai9.1 h;subst h;obtain ⟨n,hn⟩:=p.num;exact ⟨by show f.num u≠none; rw [hn]; simp,fun k=>(m.inv.dq u (i u k) hw).elim,fun k=>(O k).elim⟩
 ·rename_i A;have hw:st.num w≠none:=fun e=>A (by rw [e]; rfl)
  obtain ⟨n,hn⟩:=Option.ne_none_iff_exists'.1 hw;split
  ·rename_i D;have hwy:=(m.inv.on w).1 D;have M:(st.num w).getD 0=n:=by rw [hn]; rfl
   rw [M];refine ⟨m.inv.low v _,fun s q=>?_,m.jn,m.new,m.num,⟨X,F,fun x B=>?_⟩,fun hl=>?_,fun u J K=>?_⟩
   ·have C:s≠v:=fun e=>q (by rw [e]; exact h0)
    obtain ⟨a,b,c⟩:=m.old s q;refine ⟨a,?_,c⟩;show dT st.low v _ s=_;rw [cw _ _ C];exact b
   ·obtain ⟨a,b,c,d⟩:=N x B;refine ⟨a,b,c,fun y l o=>?_⟩;rw [pZ]
    have:=d y l o
    show _<=tH st y;omega
   ·rw [pZ] at hl ⊢;show ∃ y,y∈s0.dq/\qB E v y/\st.num y=_
    by_cases hc:vK st v<=n
    ·rw [dc9 hc] at hl ⊢;exact m.low hl
    ·rw [Nat.min_eq_right ad] at hl ⊢;refine ⟨w,?_,.one H,hn⟩;rw [F] at hwy;rcases ar9.1 hwy with h | h
     ·exact h
     ·rcases be9.1 h with h | h
      ·rw [h,m.num] at hn
       have:=bb9 hn
       omega
      ·have:=m.new w _ (N w h).2.1 hn
       omega
   ·rw [pZ];rcases ar9.1 J with h | h
    ·obtain ⟨a,b,c⟩:=m.iL u h K;refine ⟨a,fun k=>?_,c⟩
     have:=b k
     show _<=tH st u;omega
    ·have h:=ai9.1 h;subst h;refine ⟨hw,fun k=>?_,U⟩;show _<=(st.num u).getD 0;rw [M];omega
  ·rename_i D;refine ⟨m.inv,m.old,m.jn,m.new,m.num,m.dq,m.low,fun u J K=>?_⟩;rcases ar9.1 J with h | h
   ·exact m.iL u h K
   ·have h:=ai9.1 h;subst h;exact ⟨hw,fun k=>(D ((m.inv.on u).2 (i u k))).elim,U⟩
def H5.Xo {own:Xaa->Bool} {succ:Xaa->List Xaa} {G:List Xaa} {v:Xaa} {s0 st:TS} (A:∀ a b,E a b↔b∈succ a/\own b=true) (i0:Inv E G s0) (m:H5 E own G v (succ v) s0 st) (hl:vK st v<tH st v):oV E G v s0 st:=by
 obtain ⟨X,C,D⟩:=m.dq;have F:tH st v=s0.jn+1:=by unfold tH; rw [m.num]; rfl
 have i:=m.inv;have H:v∈st.dq:=i.gr v aj;have iL:∀ y,E v y->st.num y≠none/\(y∈s0.dq->vK st v<=tH st y)/\(y=v->(st.back v).getD false=true):=fun y c=>m.iL y ((A v y).1 c).1 ((A v y).1 c).2
 obtain ⟨B,j,k,o⟩:=m.low ad;obtain ⟨I,p,q⟩:=i0.rg B j;refine ⟨⟨i.le,i.dq,i.on,fun g s=>i.gr g (ap9 _ s),i.cl,fun x t d y c=>?_,fun x f=>?_,i.b0,i.bc,i.bw,fun x f d l=>?_⟩,m.old,m.jn,m.new,⟨_,m.num⟩,⟨v::X,C,fun x u=>?_⟩,fun _=>⟨B,j,k,o⟩⟩
 ·by_cases e:x=v
  ·subst e; exact (iL y c).1
  ·exact i.bl x t (by simp [e,d]) y c
 ·obtain ⟨g,s,r⟩:=i.rg x f;rcases be9.1 s with h | h
  ·rw [h] at r;exact ⟨I,p,(r.trans k).trans q⟩
  ·exact ⟨g,h,r⟩
 ·by_cases e:x=v
  ·subst e; exact (iL x l).2.2 rfl
  ·exact i.bb x f (by simp [e,d]) l
 ·rcases be9.1 u with h | h
  ·subst h;refine ⟨?_,.refl x,fun y c w=>(iL y c).2.1 w⟩;cases z:s0.num x with
   | none=>rfl
   | some n =>
    have h1:=(m.old x (by rw [z]; simp)).1;rw [z,m.num] at h1
    have:=bb9 h1
    have:=(i0.le x n z).2
    omega
  ·exact (D x h).2
open Classical in
def Wv (qT:Bool) (x:Xaa) (l:List Xaa):∀ st:TS,((l.foldl (qp qT) st).on x).getD false=(if x∈l then false else (st.on x).getD false)/\((l.foldl (qp qT) st).back x).getD false=(if x∈l then ((st.back x).getD false || qT) else (st.back x).getD false)/\(x∉l->(l.foldl (qp qT) st).back x=st.back x):=by
 induction l with
 | nil=>intro st; simp
 | cons y l g =>
  intro st;rw [bt9];obtain ⟨a,b,c⟩:=g (qp qT st y);rw [a,b]
  by_cases e:x=y
  ·subst e;have f:((qp qT st x).on x)=some false:=cK _ _ _;have d:((qp qT st x).back x)=some ((st.back x).getD false || qT):=cK _ _ _;rw [f,d];refine ⟨aj,by by_cases i:x∈l <;> simp [i],fun h=>(h aj).elim⟩
  ·have f:((qp qT st y).on x)=st.on x:=cw _ _ e;have d:((qp qT st y).back x)=st.back x:=cw _ _ e;rw [f,d];refine ⟨by simp [e],by simp [e],fun h=>?_⟩;rw [c (fun k=>h (ap9 _ k)),d]
open Classical in
def H5.XR {own:Xaa->Bool} {succ:Xaa->List Xaa} {G:List Xaa} {v:Xaa} {s0 st:TS} (Z:∀ a b,E a b↔b∈succ a/\own b=true) (i0:Inv E G s0) (m:H5 E own G v (succ v) s0 st) (h0:s0.num v=none) (hG:∀ g,g∈G->qB E g v) (hl:¬ vK st v<tH st v):oV E G v s0 (r9 v st):=by
 obtain ⟨X,P,L⟩:=m.dq;have hnv:tH st v=s0.jn+1:=by unfold tH; rw [m.num]; rfl
 have i:=m.inv;have M:v∈st.dq:=i.gr v aj;have iL:∀ y,E v y->st.num y≠none/\(y∈s0.dq->vK st v<=tH st y)/\(y=v->(st.back v).getD false=true):=fun y p=>m.iL y ((Z v y).1 p).1 ((Z v y).1 p).2
 have et:v∉s0.dq:=fun h=>i0.dq v h h0
 obtain ⟨e1,e2,e3⟩:=JW (a:=s0.dq) (v:=v) (b:=st.dq) ⟨X,by rw [P]; simp⟩ et rfl;have o:st.dq.drop (sG v st)=v::X:=by rw [e1,P]; simp
 have w:decide (1<st.dq.length-sG v st)=decide (1<(v::X).length):=by rw [<- o,bw9]
 have j:(r9 v st).dq=s0.dq:=by rw [xi,e1,e2]
 have hnum:=oK v st;have hlow:=RF v st;have hcnt:=AV v st;have hoff:=fun x=>Wv (decide (1<(v::X).length)) x (v::X) st
 have Q:∀ x,((r9 v st).on x).getD false=(if x∈v::X then false else (st.on x).getD false):=by
  intro x;rw [<- (hoff x).1];unfold r9;rw [o,w]
 have B:∀ x,((r9 v st).back x).getD false=(if x∈v::X then ((st.back x).getD false || decide (1<(v::X).length)) else (st.back x).getD false):=by
  intro x;rw [<- (hoff x).2.1];unfold r9;rw [o,w]
 have R:∀ x,x∉v::X->(r9 v st).back x=st.back x:=by
  intro x hh;rw [<- (hoff x).2.2 hh];unfold r9;rw [o,w]
 have C:∀ x,x∈v::X->s0.num x=none:=by
  intro x h;rcases be9.1 h with h | h
  ·rw [h]; exact h0
  ·exact (L x h).2.1
 have A:∀ x,x∈s0.dq->x∉v::X:=fun x h k=>i0.dq x h (C x k)
 have f:∀ x,x∈st.dq↔x∈s0.dq\/x∈v::X:=fun x=>by rw [P]; exact ar9
 have t:∀ y,y∈s0.dq->¬ vK st v<=tH st y:=by
  intro y p;obtain ⟨n,hn⟩:=Option.ne_none_iff_exists'.1 (i0.dq y p)
  have:=(i0.le y n hn).2
  have e:tH st y=n:=by unfold tH; rw [(m.old y (i0.dq y p)).1,hn]; rfl
  omega
 have D:∀ x,st.num x≠none->x∉G->∀ y,E x y->st.num y≠none:=by
  intro x l q y p
  by_cases e:x=v
  ·subst e; exact (iL y p).1
  ·exact i.bl x l (by simp [e,q]) y p
 have N:∀ x,x∈st.dq->qB E x v:=by
  intro x h;obtain ⟨g,S,r⟩:=i.rg x h;rcases be9.1 S with h | h
  ·rw [h] at r; exact r
  ·exact r.trans (hG g h)
 refine ⟨⟨fun s n F=>?_,fun x d=>?_,fun x=>?_,fun g S=>?_,fun x l d y p=>?_,fun x l q y p=>?_,fun x d=>?_,fun x H=>?_,fun x l d=>?_,fun x d I=>?_,fun x d q U=>?_⟩,fun s F=>?_,by rw [hcnt]; exact m.jn,fun s n F hn=>by rw [hnum] at hn; exact m.new s n F hn,⟨_,by rw [hnum]; exact m.num⟩,⟨[],by rw [j]; simp,fun x J=>by simp at J⟩,fun t=>?_⟩
 ·rw [hnum] at F; rw [hcnt]; exact i.le s n F
 ·rw [hnum]; rw [j] at d; exact i.dq x ((f x).2 (.inl d))
 ·rw [Q,j]
  by_cases h:x∈v::X
  ·rw [ag9 h];exact ⟨fun k=>(by cases k),fun k=>(A x k h).elim⟩
  ·rw [ac9 h,i.on x,f];exact ⟨fun k=>k.resolve_right h,.inl⟩
 ·rw [j]; exact i0.gr g S
 ·rw [hnum] at l ⊢;rw [j] at d ⊢
  by_cases h:x∈v::X
  ·have q:x∉G:=fun k=>d (i0.gr x k)
   refine ⟨D x l q y p,fun K=>t y K ?_⟩;rcases be9.1 h with h | h
   ·subst h; exact (iL y p).2.1 K
   ·exact (L x h).2.2.2 y p K
  ·obtain ⟨a,b⟩:=i.cl x l (fun k=>((f x).1 k).elim d h) y p;exact ⟨a,fun k=>b ((f y).2 (.inl k))⟩
 ·rw [hnum] at l ⊢;exact D x l q y p
 ·rw [j] at d; exact i0.rg x d
 ·rw [hnum] at H;rw [B,ac9 (fun k=>i.dq x ((f x).2 (.inr k)) H)];exact i.b0 x H
 ·rw [hnum] at l;rw [j] at d;rw [B]
  by_cases h:x∈v::X
  ·rw [ag9 h]
   by_cases I:1<(v::X).length
   ·rw [aj9 I,Bool.or_true];refine ⟨fun _=>?_,fun _=>rfl⟩
    by_cases e:x=v
    ·subst e;obtain ⟨z,V⟩:∃ z,z∈X:=by
      cases X with
      | nil=>simp at I
      | cons z X=>exact ⟨z,aj⟩
     exact kS.of (L z V).2.2.1 (N z ((f z).2 (.inr (ap9 _ V)))) (fun e=>(L z V).1 e.symm)
    ·have J:x∈X:=(be9.1 h).resolve_left e;exact kS.of (N x ((f x).2 (.inr h))) (L x J).2.2.1 e
   ·rw [ak9 I,Bool.or_false];have W:X=[]:=by
     cases X with
     | nil=>rfl
     | cons z X=>simp at I
    subst W;have e:x=v:=by simpa using h
    subst e;refine ⟨fun k=>⟨x,i.bw x M k,.refl x⟩,?_⟩;rintro ⟨u,hu,r⟩;obtain ⟨a,b,c⟩:=iL u hu
    by_cases O:u∈st.dq
    ·rcases (f u).1 O with k | k
     ·exact (t u k (b k)).elim
     ·exact c (by simpa using k)
    ·exact ((i.WD r a O).2 M).elim
  ·rw [ac9 h];exact i.bc x l (fun k=>((f x).1 k).elim d h)
 ·rw [j] at d;rw [B,ac9 (A x d)] at I;exact i.bw x ((f x).2 (.inl d)) I
 ·rw [j] at d;rw [B,ac9 (A x d)];exact i.bb x ((f x).2 (.inl d)) (fun k=>by
   rcases be9.1 k with k | k
   ·exact et (by rw [<- k]; exact d)
   ·exact q k) U
 ·have Y:s∉v::X:=fun k=>F (C s k)
  rw [hnum,hlow,R s Y];exact m.old s F
 ·unfold vK tH at t hl;rw [hlow,hnum] at t;exact (hl t).elim
end
section
variable {own:Xaa->Bool} {succ:Xaa->List Xaa} {names:List Xaa}
def Edge (own:Xaa->Bool) (succ:Xaa->List Xaa) (a b:Xaa):Prop:=b∈succ a/\own b=true
theorem Ht (hn:names.Nodup) (a:∀ s,own s=true->s∈names) {f:Nat} (b:∀ (v:Xaa) (G:List Xaa) (st:TS),dP names st->Inv (Edge own succ) G st->v∈names->st.num v=Option.none->Sx.rN names st<=f->(∀ g,g∈G->qB (Edge own succ) g v)->oV (Edge own succ) G v st (cZ own succ f v st))
  {v:Xaa} {G:List Xaa} {s0:TS} (i0:Inv (Edge own succ) G s0) (h0:s0.num v=Option.none) (o:∀ g,g∈G->qB (Edge own succ) g v) :
  ∀ (l P:List Xaa) (st:TS),(∀ w,w∈l->w∈succ v)->dP names st->Sx.rN names st<=f->H5 (Edge own succ) own G v P s0 st->H5 (Edge own succ) own G v (P++l) s0 (l.foldl (eZ own (cZ own succ f) v) st)
 | [],P,st,hl,g,c,m=>by simpa using m
 | w::l,P,st,hl,g,c,m=>by
  rw [bt9,show P++w::l=(P++[w])++l from aj];have hok:=GK a (tP hn a succ f) (v:=v) (w:=w) g c;refine Ht hn a b i0 h0 o l (P++[w]) _ (fun u c=>hl u (ap9 _ c)) hok.1 (cq9 hok.rN c) ?_;unfold eZ;split
  ·rename_i i;have j:Edge own succ v w:=⟨hl w aj,i⟩
   obtain ⟨p,q⟩:=m.self (w:=w) h0 (fun e=>by rw [e] at j; exact j);have g1:=g.self v w;have k:Sx.rN names (fP v w st)<=f:=by unfold Sx.rN; rw [(iW v w st).1]; exact c
   exact p.rest i0 h0 o j q (fun r=>g1.none r) (fun t n=>b w (v::G) _ g1 p.inv (a w i) t k n)
  ·rename_i i;refine ⟨m.inv,m.old,m.jn,m.new,m.num,m.dq,m.low,fun u c d=>?_⟩;rcases ar9.1 c with h | h
   ·exact m.iL u h d
   ·rw [ai9.1 h] at d;exact (i d).elim
theorem Cf (hn:names.Nodup) (c:∀ s,own s=true->s∈names):∀ (f:Nat) (v:Xaa) (G:List Xaa) (st:TS),dP names st->Inv (Edge own succ) G st->v∈names->st.num v=Option.none->Sx.rN names st<=f->(∀ g,g∈G->qB (Edge own succ) g v)->oV (Edge own succ) G v st (cZ own succ f v st)
 | 0,v,G,st,g,i,hv,h0,e,d=>by
  have:=(g.open hn hv h0).2
  omega
 | f+1,v,G,st,g,i,hv,h0,e,d=>by
  obtain ⟨j,k⟩:=g.open hn hv h0;have m:=Ht hn c (Cf hn c f) i h0 d (succ v) [] _ (fun _ h=>h) j ad (H5.start i h0);rw [dj9] at m;unfold cZ;split
  ·rename_i hl;exact m.Xo (fun a b=>Iff.rfl) i hl
  ·rename_i hl;exact m.XR (fun a b=>Iff.rfl) i h0 d hl
def ZG (E:Xaa->Xaa->Prop):Inv E [] DB:=by
 refine ⟨fun s n b=>(by cases b),fun x a=>by simp [DB] at a,fun x=>by simp [DB],fun g c=>by simp at c,fun x a=>(a rfl).elim,fun x a=>(a rfl).elim,fun x a=>by simp [DB] at a,fun x a=>rfl,fun x a=>(a rfl).elim,fun x a=>by simp [DB] at a,fun x a=>by simp [DB] at a⟩
structure XH (own:Xaa->Bool) (succ:Xaa->List Xaa) (names:List Xaa) (P:List Xaa) (st:TS):Prop where
 pS:dP names st
 inv:Inv (Edge own succ) [] st
 dq:st.dq=[]
 iL:∀ s,s∈P->st.num s≠Option.none
def Oh (hn:names.Nodup) (a:∀ s,own s=true->s∈names) {P:List Xaa} {st:TS} (t:XH own succ names P st) {v:Xaa} (hv:v∈names):XH own succ names (P++[v]) (xN own succ names.length st v):=by
 have d:Sx.rN names st<=names.length:=do9 _ _;unfold xN;split
 ·rename_i h;have h0:=t.pS.none h;have p:=Cf hn a names.length v [] st t.pS t.inv hv h0 d (fun g b=>by simp at b);have k:=tP hn a succ names.length v st t.pS hv h0 d;refine ⟨k.1,p.inv,?_,fun s c=>?_⟩
  ·cases f:(cZ own succ names.length v st).dq with
   | nil=>rfl
   | cons x l =>
    obtain ⟨g,b,_⟩:=p.inv.rg x (by rw [f]; simp);simp at b
  ·rcases ar9.1 c with h | h
   ·rw [(p.old s (t.iL s h)).1]; exact t.iL s h
   ·rw [ai9.1 h];obtain ⟨n,hn⟩:=p.num;rw [hn]; simp
 ·rename_i h;refine ⟨t.pS,t.inv,t.dq,fun s c=>?_⟩;rcases ar9.1 c with k | k
  ·exact t.iL s k
  ·rw [ai9.1 k];intro e;exact h (by rw [e]; rfl)
def Y3 (names:List Xaa):XH own succ names [] DB:=⟨YK names,ZG _,rfl,fun s a=>by simp at a⟩
theorem Eb (hn:names.Nodup) (a:∀ s,own s=true->s∈names):∀ (l P:List Xaa) (st:TS),(∀ s,s∈l->s∈names)->XH own succ names P st->XH own succ names (P++l) (l.foldl (xN own succ names.length) st)
 | [],P,st,hl,t=>by simpa using t
 | w::l,P,st,hl,t=>by
  rw [bt9,show P++w::l=(P++[w])++l from aj];exact Eb hn a l _ _ (fun s b=>hl s (ap9 _ b)) (Oh hn a t (hl w aj))
def kS.UL {v:Xaa} (h:kS (Edge own succ) v):own v=true:=by
 obtain ⟨y,e,r⟩:=h;have c:∀ a b,qB (Edge own succ) a b->own a=true->own b=true:=by
  intro a b r
  induction r with
  | refl=>exact id
  | head e _ d=>exact fun _=>d e.2
 exact c _ _ r e.2
def Jq (hn:names.Nodup) (a:∀ s,own s=true->s∈names) (s:Xaa):((H3 own succ names).back s).getD false=true↔kS (Edge own succ) s:=by
 have t:XH own succ names ([]++names) (H3 own succ names):=Eb hn a names [] DB (fun _ h=>h) (Y3 names);rw [dj9] at t
 by_cases h:(H3 own succ names).num s=Option.none
 ·rw [t.inv.b0 s h];refine ⟨fun k=>(by cases k),fun k=>?_⟩;exact (t.iL s (a s k.UL) h).elim
 ·exact t.inv.bc s h (by rw [t.dq]; simp)
end
theorem kb {α:Type} [DecidableEq α]:∀ (l m:List α),l.Nodup->(∀ x,x∈l->x∈m)->l.length<=m.length
 | [],m,_,_=>aj
 | x::l,m,hn,a=>by
  obtain ⟨h1,h2⟩:=ef9.1 hn;have hx:=a x aj
  have:=kb l (m.erase x) h2 (fun y b=>(List.mem_erase_of_ne (fun e=>h1 (by rw [<- e]; exact b))).2 (a y (ap9 _ b)))
  rw [List.length_erase_of_mem hx] at this;have hp:=List.length_pos_of_mem hx;simp only [List.length_cons];omega
def qz {of a:Xaa->Option bM} {x:bM} (h:∀ t,t∈x.ah->of t.1=a t.1):dz of x=dz a x:=by
 have h1:x.ah.flatMap (sI of)=x.ah.flatMap (sI a):=by
  have:∀ l:dt,(∀ t,t∈l->of t.1=a t.1)->l.flatMap (sI of)=l.flatMap (sI a):=by
   intro l
   induction l with
   | nil=>intro _; rfl
   | cons t l b =>
    intro hl;rw [cd9,cd9,b (fun u c=>hl u (ap9 _ c))]
    congr 1
    unfold sI;rw [hl t aj]
  exact this _ h
 have h2:x.ah.foldl (gU of) x.num=x.ah.foldl (gU a) x.num:=by
  have:∀ (l:dt) (n:Nat),(∀ t,t∈l->of t.1=a t.1)->l.foldl (gU of) n=l.foldl (gU a) n:=by
   intro l
   induction l with
   | nil=>intro n _; rfl
   | cons t l b =>
    intro n hl;rw [bt9,bt9,b _ (fun u c=>hl u (ap9 _ c))]
    congr 1
    unfold gU;rw [hl t aj]
  exact this _ _ h
 unfold dz;rw [h1,h2]
section
variable (own:Xaa->Bool) (lin:Xaa->bM)
def cU:Xaa->List Xaa:=fun v=>(lin v).ah.map (·.1)
def rM:Nat->Xaa->bM
 | 0,v=>lin v
 | f+1,v=>dz (fun s=>if own s=true then some (rM f s) else none) (lin v)
end
def Hg (E:Xaa->Xaa->Prop):Nat->Xaa->Prop
 | 0,_=>False
 | k+1,v=>∀ y,E v y->Hg E k y
theorem Q1 {E:Xaa->Xaa->Prop} {Q:Xaa->Prop} (h:∀ v,(∀ y,E v y->Q y)->Q v):∀ k v,Hg E k v->Q v
 | 0,v,hv=>hv.elim
 | k+1,v,hv=>h v fun y a=>Q1 h k y (hv y a)
section
variable {own:Xaa->Bool} {lin:Xaa->bM} {names:List Xaa}
def lP {v s:Xaa}:s∈cU lin v↔∃ t,t∈(lin v).ah/\t.1=s:=by simp [cU]
theorem zw:∀ (f g:Nat) (v:Xaa),Hg (Edge own (cU lin)) f v->f<=g->rM own lin f v=rM own lin g v
 | 0,g,v,h,_=>h.elim
 | f+1,0,v,h,b=>ad
 | f+1,g+1,v,h,b=>by
  unfold rM;refine qz fun t ht=>?_
  show (if own t.1=true then some (rM own lin f t.1) else none)=if own t.1=true then some (rM own lin g t.1) else none
  by_cases a:own t.1=true
  ·rw [ag9 a,ag9 a,zw f g t.1 (h t.1 ⟨lP.2 ⟨t,ht,rfl⟩,a⟩) ad]
  ·rw [ac9 a,ac9 a]
def Yw {E:Xaa->Xaa->Prop} (k:∀ a b,E a b->b∈names) (hc:∀ v,¬ kS E v):∀ (f:Nat) (path:List Xaa) (v:Xaa),path.Nodup->(∀ p,p∈path->p∈names)->(∀ p,p∈path->∃ y,E p y/\qB E y v)->v∈names->names.length<=path.length+f->Hg E f v:=by
 have c:∀ (path:List Xaa) (v:Xaa),(∀ p,p∈path->∃ y,E p y/\qB E y v)->v∉path:=fun path v h hv=>hc v (h v hv)
 intro f
 induction f with
 | zero =>
  intro path v hn e d hv hl;have hvp:=c path v d
  have:=kb (v::path) names (ef9.2 ⟨hvp,hn⟩) (fun x g=>by
   rcases be9.1 g with h | h
   ·rw [h]; exact hv
   ·exact e x h)
  simp only [List.length_cons] at this;omega
 | succ f l =>
  intro path v hn e d hv hl y i;have hvp:=c path v d;refine l (v::path) y (ef9.2 ⟨hvp,hn⟩) (fun x g=>?_) (fun p j=>?_) (k v y i) (by simp only [List.length_cons]; omega)
  ·rcases be9.1 g with h | h
   ·rw [h]; exact hv
   ·exact e x h
  ·rcases be9.1 j with h | h
   ·rw [h]; exact ⟨y,i,.refl y⟩
   ·obtain ⟨z,m,r⟩:=d p h;exact ⟨z,m,r.trans (.one i)⟩
def Kl (own:Xaa->Bool) (lin:Xaa->bM) (names:List Xaa) (v:Xaa):bM:=rM own lin names.length v
def LN (own:Xaa->Bool) (lin:Xaa->bM) (names:List Xaa) (s:Xaa):Option bM:=if own s=true then some (Kl own lin names s) else none
def Jw (c:∀ s,own s=true↔s∈names) (hc:∀ v,¬ kS (Edge own (cU lin)) v) {v:Xaa} (hv:v∈names):Hg (Edge own (cU lin)) names.length v :=
 Yw (fun a b e=>(c b).1 e.2) hc names.length [] v List.nodup_nil (fun p d=>by simp at d) (fun p d=>by simp at d) hv aj
def JO (a:∀ s,own s=true↔s∈names) (hc:∀ v,¬ kS (Edge own (cU lin)) v) {v:Xaa} (hv:v∈names):Kl own lin names v=dz (LN own lin names) (lin v):=by
 have hg:=Jw a hc hv;unfold Kl;cases c:names.length with
 | zero=>rw [c] at hg; exact hg.elim
 | succ n =>
  rw [c] at hg;unfold rM;refine qz fun t ht=>?_
  unfold LN Kl
  by_cases b:own t.1=true
  ·rw [ag9 b,ag9 b,c,zw n (n+1) t.1 (hg t.1 ⟨lP.2 ⟨t,ht,rfl⟩,b⟩) ad]
  ·rw [ac9 b,ac9 b]
def TR (a:∀ s,own s=true↔s∈names) (hc:∀ v,¬ kS (Edge own (cU lin)) v) {Q:Xaa->Prop} (h:∀ v,(∀ y,Edge own (cU lin) v y->Q y)->Q v) {v:Xaa} (hv:v∈names):Q v :=
 Q1 h names.length v (Jw a hc hv)
end
variable {h:Xaa × Nat}
def FE (a:h∈FK c):∃ p,p∈c/\p.1=h.1:=by
 apply ew9;intro k;have h0:cf c h.1=0:=Ak fun p b e=>k ⟨p,b,e⟩
 have h1:=B5 c h.1;rw [h0] at h1;have nf:=Bp c;generalize FK c=m at a h1 nf
 induction m with
 | nil=>simp at a
 | cons p m d =>
  rcases be9.1 a with a | a
  ·subst a;rw [nf.nK] at h1
   have:=(nf.2 h aj).1
   omega
  ·have hl:=nf.head h a;rw [fm,ac9 (jX hl)] at h1;exact d a ad nf.tail
open Classical in
theorem xJ (f:Xaa->Nat) (S:List Xaa) (b:S.Nodup):∀ l:dt,(∀ p,p∈l->p.1∈S)->gX f l=(S.map fun s=>cf l s*f s).sum
 | [],_=>by
  have:∀ S:List Xaa,(S.map fun s=>cf [] s*f s).sum=0:=by
   intro S
   induction S with
   | nil=>rfl
   | cons s S ih=>rw [bq9,cn9,ih,A2]; omega
  rw [this]; rfl
 | p::l,h=>by
  have ih:=xJ f S b l (fun q c=>h q (ap9 _ c));have hp:=h p aj;rw [ft,ih];clear ih h;have a:∀ S:List Xaa,S.Nodup->(S.map fun s=>cf (p::l) s*f s).sum=(if p.1∈S then p.2*f p.1 else 0)+(S.map fun s=>cf l s*f s).sum:=by
   intro S
   induction S with
   | nil=>intro _; simp
   | cons s S ih =>
    intro hn;obtain ⟨h1,h2⟩:=ef9.1 hn;rw [bq9,cn9,bq9,cn9,ih h2,fm]
    by_cases e:p.1=s
    ·subst e;rw [ag9 rfl,ac9 h1,ag9 aj,da9];omega
    ·have:(p.1∈s::S)↔p.1∈S:=by simp [e]
     rw [ac9 e,bu9];simp only [this];omega
  rw [a S b,ag9 hp]
variable {i:Xaa->Nat}
def TU {m:dt} (h:∀ s,cf c s % 4294967296=cf m s % 4294967296):gX i c % 4294967296=gX i m % 4294967296:=by
 obtain ⟨S,a,hl⟩:∃ S:List Xaa,S.Nodup/\∀ p,p∈c++m->p.1∈S:=by
  generalize c++m=w
  induction w with
  | nil=>exact ⟨[],List.nodup_nil,aj⟩
  | cons p w d =>
   obtain ⟨S,a,g⟩:=d
   by_cases b:p.1∈S
   ·refine ⟨S,a,fun q e=>?_⟩;rcases be9.1 e with h | h
    ·rw [h]; exact b
    ·exact g q h
   ·refine ⟨p.1::S,ef9.2 ⟨b,a⟩,fun q e=>?_⟩;rcases be9.1 e with h | h
    ·rw [h]; simp
    ·exact ap9 _ (g q h)
 rw [xJ i S a c (fun p b=>hl p (bh9 _ b)),xJ i S a m (fun p b=>hl p (br9 _ b))];clear a hl
 induction S with
 | nil=>rfl
 | cons s S d =>
  rw [bq9,cn9,bq9,cn9,en9,d,fl9,h s,<- fl9,<- en9]
def PA (f:Xaa->Nat) (l:dt):gX f (FK l) % 4294967296=gX f l % 4294967296:=TU fun s=>by rw [B5,fw9]
def jU (f:Xaa->Nat) (x:bM):Nat:=(x.num+gX f x.ah) % 4294967296
def Gq (f:Xaa->Nat) (l m:dt):gX f (l++m)=gX f l+gX f m:=by
 induction l with
 | nil=>simp [gX]
 | cons p l a=>rw [ez9,ft,ft,a]; omega
def Ig (f:Xaa->Nat) (n:Nat) (l:dt):gX f (l.map fun u=>(u.1,n*u.2 % 4294967296)) % 4294967296=n*gX f l % 4294967296:=by
 induction l with
 | nil=>simp [gX]
 | cons p l d =>
  rw [bq9,ft,ft,en9,d,c,<- en9,Nat.mul_add,Nat.mul_assoc]
where
 c {a b:Nat}:a % 4294967296*b % 4294967296=a*b % 4294967296:=P3 a b
def Oj {g:Xaa->Nat} {of:Xaa->Option bM} (h:∀ s,g s % 4294967296=(match of s with | none=>i s | some y=>jU i y) % 4294967296) (x:bM):jU i (dz of x)=jU g x:=by
 unfold jU dz;show ((x.ah.foldl (gU of) x.num)+gX i (FK (x.ah.flatMap (sI of)))) % 4294967296=(x.num+gX g x.ah) % 4294967296;rw [en9,PA,<- en9];generalize x.num=n;generalize x.ah=l
 induction l generalizing n with
 | nil=>simp [gX]
 | cons t l b =>
  rw [bt9,cd9,Gq,ft];have c:(l.foldl (gU of) (gU of n t)+(gX i (sI of t)+gX i (l.flatMap (sI of)))) % 4294967296=(gX i (sI of t)+(gU of n t+gX g l)) % 4294967296:=by
   rw [show l.foldl (gU of) (gU of n t)+(gX i (sI of t)+gX i (l.flatMap (sI of)))=gX i (sI of t)+(l.foldl (gU of) (gU of n t)+gX i (l.flatMap (sI of))) from ad,en9,b,<- en9]
  rw [c];have d:(gX i (sI of t)+gU of n t) % 4294967296=(n+t.2*g t.1) % 4294967296:=by
   have hg:=h t.1;unfold sI gU;cases a:of t.1 with
   | none =>
    rw [a] at hg;simp only at hg ⊢;rw [ft]
    have:t.2*i t.1 % 4294967296=t.2*g t.1 % 4294967296:=by rw [fl9,<- hg,<- fl9]
    simp only [gX,Nat.add_zero];omega
   | some y =>
    rw [a] at hg;simp only at hg ⊢;have h1:=Ig i t.2 y.ah;have h2:t.2*g t.1 % 4294967296=t.2*(y.num+gX i y.ah) % 4294967296:=by
     unfold jU at hg;rw [fl9,hg,fw9,<- fl9]
    rw [Nat.mul_add] at h2;omega
  omega
def pW {of:Xaa->Option bM} (a:h∈(dz of f).ah):(∃ p,p∈f.ah/\p.1=h.1/\of h.1=none)\/∃ p y u,p∈f.ah/\of p.1=some y/\u∈y.ah/\u.1=h.1:=by
 obtain ⟨p,g,e⟩:=FE a;obtain ⟨q,d,b⟩:=ec9.1 g;unfold sI at b;cases c:of q.1 with
 | none =>
  rw [c] at b
  have:p=q:=by simpa using b
  subst this;exact .inl ⟨p,d,e,by rw [<- e]; exact c⟩
 | some y =>
  rw [c] at b;obtain ⟨u,i,rfl⟩:=an9.1 b;exact .inr ⟨q,y,u,d,c,i,e⟩
def eP (of:Xaa->Option bM) (x:bM):Nf (dz of x).ah:=Bp _
def Gt {l:dt} (h:Nf l):FK l=l:=(Bp l).MH h fun s=>by rw [B5,fw9]
def jl {of:Xaa->Option bM} (a:f.num<4294967296):(dz of f).num<4294967296:=by
 show f.ah.foldl (gU of) f.num<4294967296;generalize f.num=n at a;generalize f.ah=l
 induction l generalizing n with
 | nil=>exact a
 | cons t l b =>
  rw [bt9];refine b _ ?_;unfold gU;split
  ·exact a
  ·exact ft9 _ ad
section
variable {own:Xaa->Bool} {lin:Xaa->bM} {names:List Xaa}
def tC (c:∀ s,own s=true↔s∈names) (hc:∀ v,¬ kS (Edge own (cU lin)) v) {v:Xaa} (hv:v∈names):∀ t,t∈(Kl own lin names v).ah->own t.1=false/\∃ w u,w∈names/\u∈(lin w).ah/\u.1=t.1:=by
 refine TR (Q:=fun v=>v∈names->∀ t,t∈(Kl own lin names v).ah->own t.1=false/\∃ w u,w∈names/\u∈(lin w).ah/\u.1=t.1) c hc ?_ hv hv;intro v g hv t ht;rw [JO c hc hv] at ht;rcases pW ht with ⟨p,f,e,ho⟩ | ⟨p,y,u,f,ho,h,e⟩
 ·refine ⟨?_,v,p,hv,f,e⟩;unfold LN at ho;cases d:own t.1 with
  | false=>rfl
  | true=>rw [d] at ho; simp at ho
 ·unfold LN at ho
  by_cases d:own p.1=true
  ·rw [ag9 d] at ho;have ho:=bb9 ho;subst ho;obtain ⟨a,b⟩:=g p.1 ⟨lP.2 ⟨p,f,rfl⟩,d⟩ ((c _).1 d) u h;rw [<- e];exact ⟨a,b⟩
  ·rw [ac9 d] at ho; cases ho
def Xl (a:∀ s,own s=true↔s∈names) (hc:∀ v,¬ kS (Edge own (cU lin)) v) {v:Xaa} (hv:v∈names):Nf (Kl own lin names v).ah:=by
 rw [JO a hc hv]; exact eP _ _
end
def add_zero' (a:Xax):a.add 0=a:=by unfold Addr.add; rw [ag9 rfl]
def X9 (a b:Xaa):(ByteArray.toList a==ByteArray.toList b)=decide (a=b):=by
 rw [ByteArray.toList_eq,ByteArray.toList_eq]
 by_cases h:a=b
 ·subst h; simp
 ·rw [ak9 h];exact beq_eq_false_iff_ne.2 fun e=>h (zg e)
def SL.take {h:Hp} {b:Nat} {e:TypeId} {sz:Nat} {p:Xac} {l c:Nat} {xs:List (List Xab)} (s:SL h b e sz p l c xs) {k:Nat} (hk:k<=l):SL h b e sz p k c (xs.take k):=by
 refine ⟨by rw [az9,<- s.1]; omega,fun x i=>s.2.1 x (cv9 i),?_⟩;cases p with
 | none =>
  obtain ⟨h1,h2⟩:=s.2.2;subst h2;exact ⟨h1,aj⟩
 | some a =>
  obtain ⟨g,j,rest,rfl,m,n,f,o⟩:=s.2.2;have d:xs.flatten=(xs.take k).flatten++(xs.drop k).flatten:=by rw [<- List.flatten_append,ce9]
  refine ⟨g,j,(xs.drop k).flatten++rest,rfl,m,ad,?_,?_⟩
  ·rw [d] at f;simpa [List.append_assoc] using f
  ·rw [af9,fy _ (fun x i=>s.2.1 x (List.mem_of_mem_drop i)),bw9,o,<- s.1,<- da9]
   congr 1; omega
abbrev Zu (x:Xaa):List Xab:=[.string x]
def Zd:Tryz.prog.underlying 68=some (.slice 9):=ax
def Ze:(Tryz.prog.info? 9).map (fun i=>(i.zero,i.size,i.bytes))=some (some (.string ⟨#[]⟩),1,16):=ax
def N' {xs:List Xaa} (s:SL O H 9 1 U V b (xs.map Zu)) (v:Xaa) (hv:v∈xs) (hl:V<=2^40) :
  uu Xaz 88 [.slice U V b,.string v] O (vI ((xs.findIdx fun x=>decide (v=x):Nat):Int)):=by
 refine ff mixed Tryz.func88 ax (iM U V b v) ?_;unfold fj aY bh bt aI aQ;have o:V=xs.length:=by rw [s.1,ab9]
 refine aT (cs:=gb) (fun x w h'=>h'=O/\∃ i:Nat,x.2.1=(i:Int)/\i<=xs.length/\w=xs.length-i/\∀ j,j<i->∀ f:j<xs.length,v≠xs[j]) ((0:Int),(0:Int),()) xs.length rfl ⟨rfl,0,rfl,ad,ad,fun j f=>ad⟩ ?_;rintro ⟨q,t,⟨⟩⟩ w h2 ⟨rfl,i,hi,n,rfl,g⟩;simp only at hi;subst hi;refine ao ?_;refine aR ?_ ?_<;>intro r
 ·have d:i<xs.length:=ad
  refine hZ ?_;obtain ⟨a,rfl,hc⟩:=s.cells (i:=i) (by simpa using d);rw [am9] at hc;refine bm rfl ?_;rw [cr i];refine ay (xs[i],()) hc (ao ?_);rw [X9];refine aR ?_ ?_<;>intro k
  ·have:xs.findIdx (fun x=>decide (v=x))=i:=by
    rw [List.findIdx_eq d];exact ⟨by simpa using k,fun j f=>by simpa using g j f ad⟩
   exact ⟨by rw [this],rfl⟩
  ·have hw:=ic i;refine aG (cs:=gb) (q,((i+1:Nat):Int),()) (xs.length-(i+1)) rfl ad (by rw [hw]; rfl) ⟨rfl,i+1,rfl,ad,rfl,fun j f m=>?_⟩
   by_cases e:j=i
   ·subst e; exact k
   ·exact g j ad m
 ·have hi:i=xs.length:=ad
  subst hi;obtain ⟨j,f,e⟩:=bg9 hv;exact (g j f f e.symm).elim
def dB (es:List cV) (s:Xaa):bM:=(((kT es s).bind fun k=>es[k]?).map (·.x)).getD vj
def cF (es:List cV) (s:Xaa):Bool:=(kT es s).isSome
def aX (es:List cV):List Xaa:=es.map (·.name)
def dV (es:List cV) (s:Xaa):cF es s=true↔s∈aX es:=by
 unfold cF kT aX;rw [List.findIdx?_isSome,dz9]
 simp
def pu {es:List cV} (h:kT es Y=some H):∃ hk:H<es.length,es[H].name=Y/\dB es Y=es[H].x:=by
 have h':=h;unfold kT at h';rw [bd9] at h';obtain ⟨hk,h1,h2⟩:=h';refine ⟨hk,ah9 h1,?_⟩;unfold dB;rw [h,dk9,ad9 hk] <;> rfl
def FD {es:List cV} (h:Y∈aX es):∃ k,kT es Y=some k:=by
 have:=(dV es Y).2 h
 unfold cF at this;exact cg9.1 this
structure TF where
 E:Nat
 gA:Nat
 A:Nat
 gB:Nat
 B:Nat
 gN:Nat
 gL:Nat
 N:Nat
 L:Nat
 W:Nat
 gO:Nat
 O:Nat
 V:Nat
def TF.ord (r:TF):Prop:=r.E<r.gA/\r.gA<r.A/\r.A<r.gB/\r.gB<r.B/\r.B<r.gN/\r.gN<r.gL/\r.gL<r.N/\r.N<r.L/\r.L<r.W/\r.W<r.gO/\r.gO<r.O/\r.O<r.V
abbrev bx (g:Nat):Xax:=⟨g,0,none⟩
def TF.uJ (r:TF):List Xab:=[.pointer (some (bx r.N)),.pointer (some (bx r.L)),.pointer (some (bx r.W)),.pointer (some (bx r.O)),.pointer (some (bx r.E)),.pointer (some (bx r.A)),.pointer (some (bx r.B)),.pointer (some (bx r.V))]
structure RZ (r:TF) (h:Hp) (es:List cV) (p0:Xac) (l0 c0:Nat):Prop where
 bE:bC h r.E 67 [.slice p0 l0 c0]
 bA:bC h r.A 105 [.map (some r.gA)]
 mA:∃ n,ej eI h r.gA (kT es) n
 bV:bC h r.V 194 [.func (.func 87) #[] r.uJ.toArray]
 bN:bC h r.N 105 [.map (some r.gN)]
 bL:bC h r.L 105 [.map (some r.gL)]
 bO:bC h r.O 152 [.map (some r.gO)]
 bB:bC h r.B 152 [.map (some r.gB)]
 vw:uV h p0 l0 es
structure LD (r:TF) (es:List cV) (p0:Xac):Prop where
 ord:r.ord
 l0:∀ i,i∈aJ p0->i<r.E
 li:∀ e,e∈es->e.x.ah≠[]->∀ i,i∈aJ e.p->i<r.E
def iD.Zm {ws:List Nat} {h':Hp} {us:dt} (v:iD O U H us) (k:Ch ws O h') (a:us≠[]->∀ i,i∈aJ U->i∉ws):iD h' U H us:=by
 by_cases hn:us=[]
 ·subst hn;exact ⟨v.len,fun i hi=>by simp at hi⟩
 ·exact v.an k (a hn)
def uV.nH {ws:List Nat} {h':Hp} {es:List cV} (v:uV O U H es) (k:Ch ws O h') (d:∀ i,i∈aJ U->i∉ws) (hi:∀ e,e∈es->e.x.ah≠[]->∀ i,i∈aJ e.p->i∉ws):uV h' U H es :=
 ⟨v.len,fun i hi=>by
  obtain ⟨a,b,hc⟩:=v.cells i hi;exact ⟨a,b,aM k (by rw [iO]; exact d _ (by rw [b]; simp [aJ])) _ _ hc⟩,fun e c=>(v.fC e c).Zm k (hi e c)⟩
def Z' (r:TF) (p:Xac):List Nat:=r.gN::r.gL::r.gO::r.gB::r.W::aJ p
structure nP (r:TF) (h:Hp) (st:TS) (p:Xac) (l c:Nat):Prop where
 mN:ej eI h r.gN st.num st.jn
 mL:∃ n,ej eI h r.gL st.low n
 mO:∃ n,ej eB h r.gO st.on n
 mB:∃ n,ej eB h r.gB st.back n
 bW:bC h r.W 68 [.slice p l c]
 w:SL h (r.V+1) 9 1 p l c (st.dq.map Zu)
def RZ.nH {r:TF} {h h':Hp} {es:List cV} {p0:Xac} {l0 c0:Nat} {ws:List Nat} (m:RZ r h es p0 l0 c0) (lo:LD r es p0) (k:Ch ws h h') (d:∀ i,i∈ws->i=r.gN\/i=r.gL\/i=r.gO\/i=r.gB\/i=r.W\/r.V<i):RZ r h' es p0 l0 c0:=by
 have o:=lo.ord;unfold TF.ord at o;have a:∀ i,i≠r.gN->i≠r.gL->i≠r.gO->i≠r.gB->i≠r.W->i<=r.V->i∉ws:=by
  intro i h1 h2 f g j l hi
  have:=d i hi
  omega
 obtain ⟨n,mA⟩:=m.mA;exact ⟨m.bE.an k (a _ ad ad ad ad ad ad),m.bA.an k (a _ ad ad ad ad ad ad),⟨n,mA.an k (a _ ad ad ad ad ad ad)⟩,
  m.bV.an k (a _ ad ad ad ad ad ad),m.bN.an k (a _ ad ad ad ad ad ad),m.bL.an k (a _ ad ad ad ad ad ad),
  m.bO.an k (a _ ad ad ad ad ad ad),m.bB.an k (a _ ad ad ad ad ad ad),
  m.vw.nH k (fun i hi=>a _ (by have:=lo.l0 i hi; omega) (by have:=lo.l0 i hi; omega) (by have:=lo.l0 i hi; omega) (by have:=lo.l0 i hi; omega) (by have:=lo.l0 i hi; omega) (by have:=lo.l0 i hi; omega))
   (fun e c b i hi=>a _ (by have:=lo.li e c b i hi; omega) (by have:=lo.li e c b i hi; omega) (by have:=lo.li e c b i hi; omega) (by have:=lo.li e c b i hi; omega) (by have:=lo.li e c b i hi; omega) (by have:=lo.li e c b i hi; omega))⟩
def nP.an {r:TF} {h h':Hp} {st:TS} {p:Xac} {l c:Nat} (m:nP r h st p l c) (k:Ext h h'):nP r h' st p l c:=by
 obtain ⟨a,mL⟩:=m.mL;obtain ⟨b,mO⟩:=m.mO;obtain ⟨d,mB⟩:=m.mB;exact ⟨m.mN.an k aj,⟨a,mL.an k aj⟩,⟨b,mO.an k aj⟩,⟨d,mB.an k aj⟩,m.bW.an k aj,m.w.an k aj⟩
structure ri (r:TF) (p:Xac) (h:Hp) (p':Xac) (h':Hp):Prop where
 ch:Ch (Z' r p) h h'
 cB:∀ i,i∈aJ p'->i∈aJ p\/h.size<=i
def ri.refl (r:TF) (p:Xac) (h:Hp):ri r p h p h:=⟨Ch.refl _ _,fun i hi=>.inl hi⟩
variable {d:TF}
def qy {p:Xac} :H∈Z' d p↔H=d.gN\/H=d.gL\/H=d.gO\/H=d.gB\/H=d.W\/H∈aJ p:=by
 unfold Z'; simp
def ri.trans {r:TF} {p q s:Xac} {a b c:Hp} (x:ri r p a q b) (y:ri r q b s c):ri r p a s c:=by
 have hz:=x.ch.size;refine ⟨Ch.trans x.ch y.ch fun i hi hl=>?_,fun i hi=>?_⟩
 ·rw [qy] at hi ⊢;rcases hi with h | h | h | h | h | h
  ·exact .inl h
  ·exact .inr (.inl h)
  ·exact .inr (.inr (.inl h))
  ·exact .inr (.inr (.inr (.inl h)))
  ·exact .inr (.inr (.inr (.inr (.inl h))))
  ·rcases x.cB i h with h | h
   ·exact .inr (.inr (.inr (.inr (.inr h))))
   ·omega
 ·rcases y.cB i hi with h | h
  ·exact x.cB i h
  ·exact .inr ad
def ri.ext {h':Hp} (k:Ext O h'):ri d U O U h':=⟨k.mono aj,fun i hi=>.inl hi⟩
def ri.of {h':Hp} (k:Ch [H] O h') (a:H=d.gN\/H=d.gL\/H=d.gO\/H=d.gB\/H=d.W):ri d U O U h' :=
 ⟨k.mono fun i hi hl=>by simp at hi; subst hi; rw [qy]; rcases a with O | O | O | O | O <;> simp [O],fun i hi=>.inl hi⟩
def ri.co {r:TF} {p p':Xac} {l c:Nat} {h h':Hp} {st:TS} {es:List cV} {p0:Xac} {l0 c0:Nat} (x:ri r p h p' h') (lo:LD r es p0) (m:nP r h st p l c) (co:RZ r h es p0 l0 c0):RZ r h' es p0 l0 c0:=by
 refine co.nH lo x.ch fun i hi=>?_
 rw [qy] at hi;rcases hi with h | h | h | h | h | h
 ·exact .inl h
 ·exact .inr (.inl h)
 ·exact .inr (.inr (.inl h))
 ·exact .inr (.inr (.inr (.inl h)))
 ·exact .inr (.inr (.inr (.inr (.inl h))))
 ·exact .inr (.inr (.inr (.inr (.inr (by have:=(m.w.cB h).1; omega)))))
def ri.box {p':Xac} {l c:Nat} {h':Hp} {st:TS} {e:TypeId} {xs:List Xab} (x:ri d U O p' h') (o:d.ord) (f:d.V<H) (a:H∉aJ U) (b:bC O H e xs):bC h' H e xs:=by
 unfold TF.ord at o;refine b.an x.ch fun hi=>?_
 rw [qy] at hi;rcases hi with O | O | O | O | O | O <;> first | omega | exact a O
section
variable {L:Lp} {K:Xab->Hp->Prop} {h:Hp} {r:TF} {st:TS} {p:Xac} {l c:Nat}
def nP.Ry (m:nP r h st p l c) {i:Nat} (hi:i∈aJ p):r.V<i:=by have:=(m.w.cB hi).1; omega
variable {H:Xaa} {O:T}
def nP.wa (m:nP r h st p l c) (o:r.ord) (a:H.size<=maxLen) {v:Int} {w:Nat} (hv:v=(w:Int)) (hk:∀ h',nP r h' { st with num:=dT st.num H w,jn:=if (st.num H).isSome then st.jn else st.jn+1 } p l c->ri r p h p h'->h'.size=h.size->O L K h') :
  T.dX Xaz (Instr.mapUpdate 105 (.map (some r.gN)) (.string H) (vI v)) O L K h:=by
 unfold TF.ord at o;obtain ⟨b,mL⟩:=m.mL;obtain ⟨d,mO⟩:=m.mO;obtain ⟨e,mB⟩:=m.mB;refine rT m.mN a hv ?_;intro h' f c' g;exact hk h' ⟨f,⟨b,mL.an c' (by simp; omega)⟩,⟨d,mO.an c' (by simp; omega)⟩,⟨e,mB.an c' (by simp; omega)⟩,m.bW.an c' (by simp; omega),m.w.bK c' (fun i hi=>by have:=m.Ry hi; simp; omega)⟩ (ri.of c' (.inl rfl)) g
def nP.tX (m:nP r h st p l c) (o:r.ord) (a:H.size<=maxLen) {v:Int} {w:Nat} (hv:v=(w:Int)) (hk:∀ h',nP r h' { st with low:=dT st.low H w } p l c->ri r p h p h'->h'.size=h.size->O L K h') :
  T.dX Xaz (Instr.mapUpdate 105 (.map (some r.gL)) (.string H) (vI v)) O L K h:=by
 unfold TF.ord at o;obtain ⟨g,mL⟩:=m.mL;obtain ⟨b,mO⟩:=m.mO;obtain ⟨d,mB⟩:=m.mB;refine rT mL a hv ?_;intro h' e c' f;exact hk h' ⟨m.mN.an c' (by simp; omega),⟨_,e⟩,⟨b,mO.an c' (by simp; omega)⟩,⟨d,mB.an c' (by simp; omega)⟩,m.bW.an c' (by simp; omega),m.w.bK c' (fun i hi=>by have:=m.Ry hi; simp; omega)⟩ (ri.of c' (.inr (.inl rfl))) f
variable {U:Bool}
def nP.Ya (m:nP r h st p l c) (o:r.ord) (a:H.size<=maxLen) (hk:∀ h',nP r h' { st with on:=dT st.on H U } p l c->ri r p h p h'->h'.size=h.size->O L K h') :
  T.dX Xaz (Instr.mapUpdate 152 (.map (some r.gO)) (.string H) (.bool U)) O L K h:=by
 unfold TF.ord at o;obtain ⟨d,mL⟩:=m.mL;obtain ⟨j,mO⟩:=m.mO;obtain ⟨e,mB⟩:=m.mB;refine XV mO a ?_;intro h' f c' g;exact hk h' ⟨m.mN.an c' (by simp; omega),⟨d,mL.an c' (by simp; omega)⟩,⟨_,f⟩,⟨e,mB.an c' (by simp; omega)⟩,m.bW.an c' (by simp; omega),m.w.bK c' (fun i hi=>by have:=m.Ry hi; simp; omega)⟩ (ri.of c' (.inr (.inr (.inl rfl)))) g
def nP.eR (m:nP r h st p l c) (o:r.ord) (a:H.size<=maxLen) (hk:∀ h',nP r h' { st with back:=dT st.back H U } p l c->ri r p h p h'->h'.size=h.size->O L K h') :
  T.dX Xaz (Instr.mapUpdate 152 (.map (some r.gB)) (.string H) (.bool U)) O L K h:=by
 unfold TF.ord at o;obtain ⟨d,mL⟩:=m.mL;obtain ⟨e,mO⟩:=m.mO;obtain ⟨j,mB⟩:=m.mB;refine XV mB a ?_;intro h' f c' g;exact hk h' ⟨m.mN.an c' (by simp; omega),⟨d,mL.an c' (by simp; omega)⟩,⟨e,mO.an c' (by simp; omega)⟩,⟨_,f⟩,m.bW.an c' (by simp; omega),m.w.bK c' (fun i hi=>by have:=m.Ry hi; simp; omega)⟩ (ri.of c' (.inr (.inr (.inr (.inl rfl))))) g
variable {V:Int->T}
def nP.Gc (m:nP r h st p l c) (s:Xaa) (hk:V (((st.num s).getD 0:Nat):Int) L K h):T.eH Xaz (Instr.lookup 105 (.map (some r.gN)) (.string s) false) false [(false,[.int .i64])] V L K h:=KB m.mN s hk
def nP.B3 (m:nP r h st p l c) (s:Xaa) (hk:V (((st.low s).getD 0:Nat):Int) L K h):T.eH Xaz (Instr.lookup 105 (.map (some r.gL)) (.string s) false) false [(false,[.int .i64])] V L K h:=by
 obtain ⟨a,mL⟩:=m.mL;exact KB mL s hk
variable {Y:Bool->T}
def nP.YW (m:nP r h st p l c) (s:Xaa) (hk:Y ((st.on s).getD false) L K h):T.eH Xaz (Instr.lookup 152 (.map (some r.gO)) (.string s) false) false [(false,[.bool])] Y L K h:=by
 obtain ⟨a,mL⟩:=m.mO;exact Ps mL s hk
def nP.eW (m:nP r h st p l c) (s:Xaa) (hk:Y ((st.back s).getD false) L K h):T.eH Xaz (Instr.lookup 152 (.map (some r.gB)) (.string s) false) false [(false,[.bool])] Y L K h:=by
 obtain ⟨a,mL⟩:=m.mB;exact Ps mL s hk
end
def U6 (y f z A a:Xax) (s:Xaa) (b:Int):T :=
 T.af y [.map 9 3] <| fun (g:Option Nat) =>
 T.af a [.string] <| fun (h:Xaa) =>
 bQ (Instr.lookup 105 (.map g) (.string h) false) false [aQ] <| fun (i:Int) =>
 cond (i==(0:Int))
  (T.af A [.func #[9] #[] false] <| fun (j:Xab) =>
  T.af a [.string] <| fun (c:Xaa) =>
  T.wI Xaz j [.string c] true [] <| T.af f [.map 9 3] <| fun (k:Option Nat) =>
  T.af f [.map 9 3] <| fun (d:Option Nat) =>
  bQ (Instr.lookup 105 (.map d) (.string s) false) false [aQ] <| fun (l:Int) =>
  T.af f [.map 9 3] <| fun (m:Option Nat) =>
  T.af a [.string] <| fun (n:Xaa) =>
  bQ (Instr.lookup 105 (.map m) (.string n) false) false [aQ] <| fun (o:Int) =>
  bQ (Builtin.min_ #[3,3] 3 #[vI l,vI o]) false [aQ] <| fun (e:Int) =>
  T.dX Xaz (Instr.mapUpdate 105 (.map k) (.string s) (vI e)) <|
  T.again 0 [vI (bq (b+(1:Int)))])
  (T.af z [.map 9 4] <| fun (p:Option Nat) =>
  T.af a [.string] <| fun (c:Xaa) =>
  bQ (Instr.lookup 152 (.map p) (.string c) false) false [cn] <| fun (q:Bool) =>
  cond q
  (T.af f [.map 9 3] <| fun (d:Option Nat) =>
  T.af f [.map 9 3] <| fun (r:Option Nat) =>
  bQ (Instr.lookup 105 (.map r) (.string s) false) false [aQ] <| fun (t:Int) =>
  T.af y [.map 9 3] <| fun (u:Option Nat) =>
  T.af a [.string] <| fun (w:Xaa) =>
  bQ (Instr.lookup 105 (.map u) (.string w) false) false [aQ] <| fun (e:Int) =>
  bQ (Builtin.min_ #[3,3] 3 #[vI t,vI e]) false [aQ] <| fun (x:Int) =>
  T.dX Xaz (Instr.mapUpdate 105 (.map d) (.string s) (vI x)) <|
  T.again 0 [vI (bq (b+(1:Int)))])
  (T.again 0 [vI (bq (b+(1:Int)))]))
def pY (names:List Xaa) (st:TS):Prop:=∀ s,st.num s≠none->s∈names
def Lc (es:List cV) (r:TF) (p0:Xac) (l0 c0 f:Nat):Prop :=
 ∀ (v:Xaa) (st:TS) (h:Hp) (p:Xac) (l c:Nat),nP r h st p l c->RZ r h es p0 l0 c0->dP (aX es) st->v∈aX es->st.num v=none->rN (aX es) st<=f->pY (aX es) st ->
  HC Xaz 87 (.string v::r.uJ).toArray h fun w h'=>w=.tuple #[]/\∃ p' l' c',nP r h' (cZ (cF es) (cU (dB es)) f v st) p' l' c'/\ri r p h p' h'
def Zh:gi Xaz 87=true:=ax
section
variable {L:Lp} {K:Xab->Hp->Prop} {h:Hp} {r:TF} {st:TS} {p:Xac} {l c:Nat} {es:List cV} {p0:Xac} {l0 c0:Nat}
def Ll {f:Nat} (i:Lc es r p0 l0 c0 f) (lo:LD r es p0) (z:∀ s,s∈aX es->s.size<=maxLen) (m:nP r h st p l c) (co:RZ r h es p0 l0 c0) (g:dP (aX es) st) (A:rN (aX es) st<=f) (hi:pY (aX es) st) {v w:Xaa} (hv:v∈aX es) (B:w∈aX es) {a q:Nat} (C:r.V<a) (n:a∉aJ p) (b:bC h a 64 [.string w,.int .u32 (q:Int)]) (j:Int)
  (hk:∀ h' p' l' c',nP r h' (uv (cZ (cF es) (cU (dB es)) f) v w st) p' l' c'->ri r p h p' h'->T.again 0 [vI (IntKind.wrap .i64 (j+(1:Int)))] L K h') :
  U6 (bx r.N) (bx r.L) (bx r.O) (bx r.V) (bx a) v j L K h:=by
 unfold U6 bQ bq aQ cn;refine az co.bN (some r.gN,()) (ao ?_);refine az b (w,()) (ao ?_);refine m.Gc w ?_;unfold uv at hk;have hsv:=z v hv;refine aw ?_ ?_<;>intro d
 ·have d:(st.num w).getD 0=0:=by have:=ah9 d; omega
  rw [ag9 d] at hk;refine az co.bV (.func (.func 87) #[] r.uJ.toArray,()) (ao ?_);refine az b (w,()) (ao ?_);refine wQ (cap:=r.uJ) Zh rfl (i w st h p l c m co g B (g.none d) A hi) ?_;rintro _ h2 ⟨rfl,D,E,F,k,o⟩;refine ⟨(),rfl,ao ?_⟩;have co2:=o.co lo m co;have b2:=o.box (st:=st) (l:=l) (c:=c) lo.ord C n b;generalize cZ (cF es) (cU (dB es)) f w st=G at k hk;refine az co2.bL (some r.gL,()) (ao ?_);refine az co2.bL (some r.gL,()) (ao ?_);refine k.B3 v ?_;refine az co2.bL (some r.gL,()) (ao ?_);refine az b2 (w,()) (ao ?_);refine k.B3 w ?_;refine X3 ?_;refine k.tX lo.ord hsv rfl ?_;intro t u x z3;exact hk t D E F u (o.trans x)
 ·have d:¬ (st.num w).getD 0=0:=by
   intro e;rw [e] at d;simp at d
  rw [ac9 d] at hk;refine az co.bO (some r.gO,()) (ao ?_);refine az b (w,()) (ao ?_);refine m.YW w ?_;refine aw ?_ ?_<;>intro y
  ·rw [ag9 y] at hk;refine az co.bL (some r.gL,()) (ao ?_);refine az co.bL (some r.gL,()) (ao ?_);refine m.B3 v ?_;refine az co.bN (some r.gN,()) (ao ?_);refine az b (w,()) (ao ?_);refine m.Gc w ?_;refine X3 ?_;refine m.tX lo.ord hsv rfl ?_;intro t u x z3;exact hk t p l c u x
  ·rw [ac9 (by simp [y])] at hk;exact hk h p l c m (ri.refl _ _ _)
end
def pY.rest {names:List Xaa} {iL:Xaa->TS->TS} (a:∀ Y st,pY names st->Y∈names->pY names (iL Y st)) {v:Xaa} {st:TS} (hi:pY names st) (b:Y∈names):pY names (uv iL v Y st):=by
 unfold uv;split
 ·exact a Y st hi b
 ·split <;> exact hi
def pY.step {names:List Xaa} {own:Xaa->Bool} (a:∀ s,own s=true->s∈names) {iL:Xaa->TS->TS} (b:∀ Y st,pY names st->Y∈names->pY names (iL Y st)) {v:Xaa} {st:TS} (hi:pY names st):pY names (eZ own iL v st Y):=by
 unfold eZ;split
 ·rename_i d;refine pY.rest b ?_ (a Y d);intro s c;rw [(iW v Y st).1] at c;exact hi s c
 ·exact hi
theorem pY.fold {names:List Xaa} {own:Xaa->Bool} (a:∀ s,own s=true->s∈names) {iL:Xaa->TS->TS} (b:∀ w st,pY names st->w∈names->pY names (iL w st)) {v:Xaa}:∀ (l:List Xaa) (st:TS),pY names st->pY names (l.foldl (eZ own iL v) st)
 | [],st,hi=>hi
 | w::l,st,hi=>by
  rw [bt9];exact pY.fold a b l _ (pY.step a b hi)
def pY.open {names:List Xaa} {st:TS} (hi:pY names st) {v:Xaa} (hv:v∈names):pY names (fc v st):=by
 intro s a;have a:dT st.num v (st.jn+1) s≠none:=a
 by_cases e:s=v
 ·rw [e]; exact hv
 ·rw [cw _ _ e] at a;exact hi s a
theorem pY.visit {names:List Xaa} {own:Xaa->Bool} (a:∀ s,own s=true->s∈names) (succ:Xaa->List Xaa):∀ (f:Nat) (v:Xaa) (st:TS),pY names st->v∈names->pY names (cZ own succ f v st)
 | 0,v,st,hi,hv=>hi
 | f+1,v,st,hi,hv=>by
  have h:=pY.fold a (fun w st hi c=>pY.visit a succ f w st hi c) (v:=v) (succ v) _ (hi.open hv);unfold cZ;split
  ·exact h
  ·intro s b;rw [oK] at b;exact h s b
variable {j:TypeId}
def SL.Ir {sz c:Nat} {xs:List (List Xab)} (s:SL O H j sz U V c xs):V<=c:=by
 cases U with
 | none =>
  obtain ⟨h1,h2⟩:=s.2.2;rw [s.1,h1,h2]; simp
 | some a =>
  obtain ⟨g,i,rest,rfl,k,d,f,m⟩:=s.2.2;exact d.1
section
variable {L:Lp} {K:Xab->Hp->Prop} {h:Hp} {r:TF} {st:TS} {p:Xac} {l c:Nat} {es:List cV} {p0:Xac} {l0 c0:Nat}
variable {H:T}
def nP.XZ (m:nP r h st p l c) (o:r.ord) {p':Xac} {l' c':Nat} {h1:Hp} {way':List Xaa} (a:Ch (aJ p) h h1) (f:SL h1 (r.V+1) 9 1 p' l' c' (way'.map Zu)) (j:∀ i,i∈aJ p'->i∈aJ p\/h.size<=i) 
  (hk:∀ h',nP r h' { st with dq:=way' } p' l' c'->ri r p h p' h'->H L K h'):T.aD (bx r.W) [.slice p' l' c'] H L K h1:=by
 have o':=o;unfold TF.ord at o;obtain ⟨n,mL⟩:=m.mL;obtain ⟨q,mO⟩:=m.mO;obtain ⟨s,mB⟩:=m.mB;have d:∀ g,g<=r.V->g∉aJ p:=fun g t hi=>by have:=m.Ry hi; omega
 refine bR (m.bW.an a (d _ ad)) ?_;intro h2 e b z2;have e:bC h2 r.W 68 [.slice p' l' c']:=e;refine hk h2 ⟨(m.mN.an a (d _ ad)).an b (by simp; omega),⟨n,(mL.an a (d _ ad)).an b (by simp; omega)⟩,⟨q,(mO.an a (d _ ad)).an b (by simp; omega)⟩,⟨s,(mB.an a (d _ ad)).an b (by simp; omega)⟩,e,f.bK b (fun i hi=>by have:=(f.cB hi).1; simp; omega)⟩
  ⟨Ch.trans (a.mono fun i hi _=>by rw [qy]; simp [hi]) b (fun i hi hl=>by simp at hi; rw [qy]; simp [hi]),j⟩
def nP.Zp (m:nP r h st p l c) (o:r.ord) (x:r.V<h.size) (hl:l<=2^40) {v:Xaa} (hk:∀ h' p' c',nP r h' { st with dq:=st.dq++[v] } p' (l+1) c'->ri r p h p' h'->H L K h') :
  T.eH Xaz (Instr.buildSlice 68 1 #[(0,.string v)]) false [(false,[.slice 0])] (fun q b g=>T.eH Xaz (Builtin.append_ #[68,68] 68 #[.slice p l c,.slice q b g]) false [(false,[.slice 0])] (fun d e f=>T.aD (bx r.W) [.slice d e f] H)) L K h:=by
 refine gh (vs:=Zu v) Zd Ze rfl ad ad ax rfl rfl m.w ad ad ad ?_;intro p' c' h1 j n s;refine m.XZ o n (way':=st.dq++[v]) (by simpa using j) (fun i hi=>?_) (fun h' b t=>hk h' p' c' b t);rcases s with rfl | ⟨a,rfl,u⟩
 ·exact .inl hi
 ·simp [aJ] at hi; subst hi; exact .inr u
def Yr (x w m:Xax) (g:Xac) (i n:Nat) (b:Int):T :=
  T.loop [aQ] [vI (0:Int)] <| fun (d:Int) =>
  cond (decide (d<((((Int.toNat (i:Int))-(Int.toNat b)):Nat):Int)))
  (T.need (((0:Int)<=d)/\(d<((((Int.toNat (i:Int))-(Int.toNat b)):Nat):Int))) <|
  T.bf (if (n=(Int.toNat b)) then g else (Option.map (fun a=>Addr.add a (aI b 1)) g)) <| fun (o:Xax) =>
  T.af (o.add (aI d 1)) [.string] <| fun (e:Xaa) =>
  T.af x [.map 9 4] <| fun (q:Option Nat) =>
  T.dX Xaz (Instr.mapUpdate 152 (.map q) (.string e) (.bool false)) <|
  T.af w [.map 9 4] <| fun (j:Option Nat) =>
  T.af w [.map 9 4] <| fun (s:Option Nat) =>
  bQ (Instr.lookup 152 (.map s) (.string e) false) false [cn] <| fun (t:Bool) =>
  cond t
   (T.dX Xaz (Instr.mapUpdate 152 (.map j) (.string e) (.bool true)) <|
   T.again 1 [vI (bq (d+(1:Int)))])
   (T.af m [.slice 9] <| fun (y:Xac) (u z:Nat) =>
   T.dX Xaz (Instr.mapUpdate 152 (.map j) (.string e) (.bool (decide ((bq ((u:Int)-b))>(1:Int))))) <|
   T.again 1 [vI (bq (d+(1:Int)))]))
  (T.af m [.slice 9] <| fun (k:Xac) (A f:Nat) =>
  T.need (((0:Int)<=(0:Int))/\(((0:Int)<=b)/\(b<=(f:Int)))) <|
  T.aD m [.slice (if (f=0) then k else (Option.map (fun a=>Addr.add a 0) k)) ((Int.toNat b)-0) (f-0)] <|
  bG #[])
def Wx {Q:List Xab->Hp->Prop} (lo:LD r es p0) (R:∀ s,s∈aX es->s.size<=maxLen) (m:nP r h st p l c) (co:RZ r h es p0 l0 c0) (hi:pY (aX es) st) (g:dP (aX es) st) (hl:l<=2^40) {v:Xaa} (S:sG v st<=st.dq.length)
  (hk:∀ h' p' l' c',nP r h' (r9 v st) p' l' c'->ri r p h p' h'->K (.tuple #[]) h'):Yr (bx r.O) (bx r.B) (bx r.W) p l c ((sG v st:Nat):Int) [Q] K h:=by
 unfold Yr aI bQ bq bG aQ cn;have y:l=st.dq.length:=by rw [m.w.1,ab9]
 have hcap:=m.w.Ir;rw [show Int.toNat ((sG v st:Nat):Int)=sG v st from ad,cr l];generalize A:sG v st=k at *;have C:decide (1<st.dq.length-sG v st)=decide (1<l-k):=by rw [A,y]
 unfold r9 at hk;rw [C,A] at hk;refine aT (cs:=cI) (fun x w h'=>∃ i:Nat,x.1=(i:Int)/\i<=l-k/\w=l-k-i/\nP r h' (((st.dq.drop k).take i).foldl (qp (decide (1<l-k))) st) p l c/\ri r p h p h') ((0:Int),()) (l-k) rfl ⟨0,rfl,ad,ad,by simpa using m,ri.refl _ _ _⟩ ?_;rintro ⟨U,⟨⟩⟩ w h2 ⟨i,D,P,rfl,d,G⟩;simp only at D;subst D;refine ao ?_;have co2:=G.co lo m co;have f:∀ (w:List Xaa) (st:TS),(w.foldl (qp (decide (1<l-k))) st).dq=st.dq:=by
  intro w
  induction w with
  | nil=>intro st; rfl
  | cons x w V=>intro st; rw [bt9,V]; rfl
 refine aR ?_ ?_<;>intro X
 ·have j:k+i<st.dq.length:=ad
  refine hZ ?_;rw [ac9 ad];have hsl:=d.w;rw [f] at hsl;obtain ⟨a,rfl,hc⟩:=hsl.cells (i:=k+i) (by simpa using j);rw [am9] at hc;refine bm rfl ?_;rw [cr i,add_add,<- da9];have n:st.dq[k+i]∈aX es:=hi _ (g.fC _ (al9 j));have b:(st.dq.drop k).take (i+1)=(st.dq.drop k).take i++[st.dq[k+i]]:=by
   rw [ae9 (by rw [bw9]; omega),List.getElem_drop]
  generalize st.dq[k+i]=x at hc n b;refine ay (x,()) hc (ao ?_);have hsz:=R x n;generalize E:((st.dq.drop k).take i).foldl (qp (decide (1<l-k))) st=q at d;have o:((st.dq.drop k).take (i+1)).foldl (qp (decide (1<l-k))) st=qp (decide (1<l-k)) q x:=by rw [b,ch9,E]; rfl
  refine az co2.bO (some r.gO,()) (ao ?_);refine d.Ya lo.ord hsz ?_;intro Y H I z3;have co3:=I.co lo d co2;refine az co3.bB (some r.gB,()) (ao ?_);refine az co3.bB (some r.gB,()) (ao ?_);refine H.eW x ?_;have hw:=ic i;refine aw ?_ ?_<;>intro t
  ·have t:(q.back x).getD false=true:=t;refine H.eR lo.ord hsz ?_;intro J u F z4;refine aG (cs:=cI) (((i+1:Nat):Int),()) (l-k-(i+1)) rfl ad (as9 (fun z=>[Value.int .i64 z]) hw) ⟨i+1,rfl,ad,rfl,?_,(G.trans I).trans F⟩;rw [o];unfold qp;rw [t];exact u
  ·have t:(q.back x).getD false=false:=t;refine az H.bW ((_,_,_),()) (ao ?_);refine H.eR lo.ord hsz ?_;intro J u F z4;refine aG (cs:=cI) (((i+1:Nat):Int),()) (l-k-(i+1)) rfl ad (as9 (fun z=>[Value.int .i64 z]) hw) ⟨i+1,rfl,ad,rfl,?_,(G.trans I).trans F⟩;rw [o];unfold qp;rw [t,ey9];have e:decide ((IntKind.wrap .i64 ((l:Int)-(k:Int)))>(1:Int))=decide (1<l-k):=by
    rw [wrap_i64 ad ad];exact fn9.2 ad
   rw [e] at u;exact u
 ·have M:i=l-k:=ad
  subst M;have b:(st.dq.drop k).take (l-k)=st.dq.drop k:=bv9 (by rw [bw9]; omega);rw [b] at d;have N:(if c=0 then p else (Option.map (fun a=>Addr.add a 0) p))=p:=by
   split
   ·rfl
   ·cases p with
    | none=>rfl
    | some a=>simp only [Option.map_some,add_zero']
  refine az d.bW ((p,l,c),()) (ao ?_);refine dC ⟨ad,ad,ad⟩ ?_;rw [N,fv9,fv9];have hsl:=d.w;rw [f] at hsl;have hsk:=hsl.take (k:=k) ad;rw [<- List.map_take] at hsk;refine d.XZ lo.ord (Ch.refl _ _) hsk (fun i hi=>.inl hi) ?_;intro J u F;exact hk J p k c u (G.trans F)
end
structure EqsOk (es:List cV):Prop where
 nodup:(aX es).Nodup
 len:es.length<=2^40
 sz:∀ e,e∈es->e.name.size<=maxLen
 tl:∀ e,e∈es->e.x.ah.length<=2^40
 ts:∀ e,e∈es->∀ t,t∈e.x.ah->t.1.size<=maxLen
def EqsOk.names {es:List cV} (o:EqsOk es):∀ s,s∈aX es->s.size<=maxLen:=by
 intro s a;obtain ⟨e,b,rfl⟩:=an9.1 a;exact o.sz e b
section
variable {r:TF} {es:List cV} {p0:Xac} {l0 c0:Nat}
def Of (J:EqsOk es) (lo:LD r es p0):∀ f,Lc es r p0 l0 c0 f:=by
 intro f;have n:∀ s,cF es s=true->s∈aX es:=fun s=>(dV es s).1
 have hs:=J.names;have hnl:(aX es).length=es.length:=by unfold aX; rw [ab9]
 induction f with
 | zero =>
  intro v st h p l c m co g hv h0 hu hi
  have:=(g.open J.nodup hv h0).2
  omega
 | succ f ih =>
  intro v st h p l c m co g hv h0 hu hi;have o:=lo.ord;have o':=o;unfold TF.ord at o';have hlen:=J.len;refine bd (args:=.string v::r.uJ) mixed Tryz.func87 ax (ow v (bx r.N) (bx r.L) (bx r.W) (bx r.O) (bx r.E) (bx r.A) (bx r.B) (bx r.V)) ?_;unfold jN aY bh bt aI cQ fh bn bQ bq aF bG cm aQ cn;have hsv:=hs v hv;have hcnt:st.jn<=es.length:=by have:=g.sum; omega
  have hway:=g.dq;have hll:l=st.dq.length:=by rw [m.w.1,ab9]
  have hV:=co.bV.lt;refine az co.bN (some r.gN,()) (ao ?_);refine az co.bN (some r.gN,()) (ao ?_);refine Z5 (en:=eI) m.mN ?_;refine m.wa o hsv (w:=st.jn+1) (by rw [wrap_i64 ad ad]; omega) ?_;intro h1 Q s1 z1;have D:(st.num v).isSome=false:=by rw [h0]; rfl
  rw [D] at Q;simp only [Bool.false_eq_true,if_false] at Q;have co1:=s1.co lo m co;refine az co1.bL (some r.gL,()) (ao ?_);refine az co1.bN (some r.gN,()) (ao ?_);refine Q.Gc v ?_;refine Q.tX o hsv rfl ?_;intro h2 m2 s2 z2;simp only [cK,Option.getD_some] at m2;have co2:=s2.co lo Q co1;refine az m2.bW ((p,l,c),()) (ao ?_);refine m2.Zp o ad ad ?_;intro h3 p3 c3 m3 s3;have co3:=s3.co lo m2 co2;refine az co3.bO (some r.gO,()) (ao ?_);refine m3.Ya o hsv ?_;intro h4 m4 s4 z4;have co4:=s4.co lo m3 co3;have s04:ri r p h p3 h4:=((s1.trans s2).trans s3).trans s4
  replace m4:nP r h4 (fc v st) p3 (l+1) c3:=m4
  refine az co4.bE ((p0,l0,c0),()) (ao ?_);refine az co4.bA (some r.gA,()) (ao ?_);obtain ⟨nA,mA⟩:=co4.mA;refine KB mA v ?_;obtain ⟨k,hk⟩:=FD hv;obtain ⟨u,hkn,hkx⟩:=pu hk;have hl0:=co4.vw.len;rw [hk];simp only [Option.getD_some];refine hZ ?_;obtain ⟨a,ha,hc⟩:=co4.vw.cells k u;refine bm ha ?_;rw [cr k];have hin:=co4.vw.fC es[k] (al9 u);have C:∀ h',RZ r h' es p0 l0 c0->iD h' es[k].p es[k].l es[k].x.ah:=fun h' co'=>co'.vw.fC es[k] (al9 u)
  have htl:=J.tl es[k] (al9 u);have hts:=J.ts es[k] (al9 u);have hli:=lo.li es[k] (al9 u);have R:cU (dB es) v=es[k].x.ah.map (·.1):=by unfold cU; rw [hkx]
  generalize es[k]=e at hc hin C htl hts hli R;refine ay ((e.p,e.l,e.c),()) ⟨by rw [add_zero']; exact hc.2.1,trivial⟩ ?_;refine ao ?_;have hel:=hin.len;have hgood:=fun l=>M7 J.nodup n (cU (dB es)) g hv h0 hu l
  have S:∀ l:List Xaa,pY (aX es) (l.foldl (eZ (cF es) (cZ (cF es) (cU (dB es)) f) v) (fc v st)):=fun l=>pY.fold n (fun w st hi hw=>pY.visit n (cU (dB es)) f w st hi hw) l _ (hi.open hv)
  refine aT (cs:=cI) (fun x w h'=>∃ (i:Nat) (p':Xac) (l' c':Nat),x.1=(i:Int)/\i<=e.x.ah.length/\w=e.x.ah.length-i/\nP r h' (((e.x.ah.map (·.1)).take i).foldl (eZ (cF es) (cZ (cF es) (cU (dB es)) f) v) (fc v st)) p' l' c'/\ri r p h p' h')
   ((0:Int),()) e.x.ah.length rfl ⟨0,p3,l+1,c3,rfl,ad,ad,m4,s04⟩ ?_
  rintro ⟨n26,⟨⟩⟩ w U ⟨i,p5,K,c5,X,hile,rfl,q,M⟩;simp only at X;subst X;refine ao ?_;have co5:=M.co lo m co;obtain ⟨F,Y,j,n5,Z⟩:=hgood ((e.x.ah.map (·.1)).take i);have hi5:=S ((e.x.ah.map (·.1)).take i);have hk5:=fun hi:i<e.x.ah.length=>(show (e.x.ah.map (·.1)).take (i+1)=(e.x.ah.map (·.1)).take i++[e.x.ah[i].1] by
   rw [ae9 (by rw [ab9]; exact hi),am9])
  have hfin:i=e.x.ah.length->(e.x.ah.map (·.1)).take i=cU (dB es) v:=by
   intro hh;rw [R];exact bv9 (by rw [ab9]; omega)
  have hfold:∀ hi:i<e.x.ah.length,((e.x.ah.map (·.1)).take (i+1)).foldl (eZ (cF es) (cZ (cF es) (cU (dB es)) f) v) (fc v st)=eZ (cF es) (cZ (cF es) (cU (dB es)) f) v (((e.x.ah.map (·.1)).take i).foldl (eZ (cF es) (cZ (cF es) (cU (dB es)) f) v) (fc v st)) e.x.ah[i].1:=by
   intro hi;rw [hk5 hi,ch9]; rfl
  have d:cZ (cF es) (cU (dB es)) (f+1) v st=(if vK ((cU (dB es) v).foldl (eZ (cF es) (cZ (cF es) (cU (dB es)) f) v) (fc v st)) v<tH ((cU (dB es) v).foldl (eZ (cF es) (cZ (cF es) (cU (dB es)) f) v) (fc v st)) v then (cU (dB es) v).foldl (eZ (cF es) (cZ (cF es) (cU (dB es)) f) v) (fc v st) else r9 v ((cU (dB es) v).foldl (eZ (cF es) (cZ (cF es) (cU (dB es)) f) v) (fc v st))):=rfl;refine aR ?_ ?_<;>intro g1
  ·have y:i<e.x.ah.length:=ad
   have hfold:=hfold y;refine hZ ?_;obtain ⟨a2,ha2,hc2⟩:=(C U co5).cells i y;refine bm ha2 ?_;rw [cr i];have htsi:=hts e.x.ah[i] (al9 y);generalize e.x.ah[i]=t at hc2 htsi hfold;generalize hst5:((e.x.ah.map (·.1)).take i).foldl (eZ (cF es) (cZ (cF es) (cU (dB es)) f) v) (fc v st)=st5 at q F Y hi5 hfold;refine ay (t.1,(t.2:Int),()) hc2 (ao ?_);refine br ?_;intro h6 b6 e6 z6;refine bR b6 ?_;intro h7 P k7 z7;have P:bC h7 U.size 64 [.string t.1,.int .u32 (t.2:Int)]:=P;have G:Ext U h7:=bY e6 k7;have co7:=co5.nH lo G aj;have m7:=q.an G;have XN:ri r p5 U p5 h7:=ri.ext G;have ha7:=co5.bV.lt;have H:U.size∉aJ p5:=fun hb=>by have:=(q.w.cB hb).2; omega
   have hw:=ic i;refine az co7.bA (some r.gA,()) (ao ?_);refine az P (t.1,()) (ao ?_);obtain ⟨nA7,mA7⟩:=co7.mA;refine EK mA7 t.1 ?_;refine aw ?_ ?_<;>intro b
   ·have b:¬ cF es t.1=true:=by
     unfold cF;intro hh;rw [hh] at b;cases b
    have I:eZ (cF es) (cZ (cF es) (cU (dB es)) f) v st5 t.1=st5:=ac9 b;refine aG (cs:=cI) (((i+1:Nat):Int),()) (e.x.ah.length-(i+1)) rfl ad (as9 (fun z=>[Value.int .i64 z]) hw) ⟨i+1,p5,K,c5,rfl,ad,rfl,?_,M.trans XN⟩;rw [hfold,I];exact m7
   ·have b:cF es t.1=true:=by
     unfold cF;cases hh:(kT es t.1).isSome with
     | true=>rfl
     | false=>rw [hh] at b; cases b
    have hwn:=n _ b;have I:eZ (cF es) (cZ (cF es) (cU (dB es)) f) v st5 t.1=uv (cZ (cF es) (cU (dB es)) f) v t.1 (fP v t.1 st5):=ag9 b;rw [I] at hfold;have g8:=F.self v t.1;have hu8:rN (aX es) (fP v t.1 st5)<=f:=by unfold rN; rw [(iW v t.1 st5).1]; exact Y
    have hi8:pY (aX es) (fP v t.1 st5):=by intro s hs; rw [(iW v t.1 st5).1] at hs; exact hi5 s hs
    refine az P (t.1,()) (ao ?_);rw [X9];refine aR ?_ ?_<;>intro g3
    ·refine az co7.bB (some r.gB,()) (ao ?_);refine m7.eR o hsv ?_;intro h8 m8 s8 z8;have e8:fP v t.1 st5={ st5 with back:=dT st5.back v true }:=ag9 g3;rw [<- e8] at m8;have co8:=s8.co lo m7 co7;have b8:=s8.box (st:=st5) (l:=K) (c:=c5) o ha7 H P;refine Ll ih lo hs m8 co8 g8 hu8 hi8 hv hwn ha7 H b8 (i:Int) ?_;intro h9 p9 l9 c9 m9 s9;refine aG (cs:=cI) (((i+1:Nat):Int),()) (e.x.ah.length-(i+1)) rfl ad (as9 (fun z=>[Value.int .i64 z]) hw) ⟨i+1,p9,l9,c9,rfl,ad,rfl,?_,((M.trans XN).trans s8).trans s9⟩;rw [hfold];exact m9
    ·have e8:fP v t.1 st5=st5:=ac9 g3;rw [<- e8] at m7;refine Ll ih lo hs m7 co7 g8 hu8 hi8 hv hwn ha7 H P (i:Int) ?_;intro h9 p9 l9 c9 m9 s9;refine aG (cs:=cI) (((i+1:Nat):Int),()) (e.x.ah.length-(i+1)) rfl ad (as9 (fun z=>[Value.int .i64 z]) hw) ⟨i+1,p9,l9,c9,rfl,ad,rfl,?_,(M.trans XN).trans s9⟩;rw [hfold];exact m9
  ·have hii:=hfin ad;rw [hii] at q F j hi5 Z;generalize hst5:(cU (dB es) v).foldl (eZ (cF es) (cZ (cF es) (cU (dB es)) f) v) (fc v st)=st5 at q F j hi5 Z d;refine az co5.bL (some r.gL,()) (ao ?_);refine q.B3 v ?_;refine az co5.bN (some r.gN,()) (ao ?_);refine q.Gc v ?_;refine aw ?_ ?_<;>intro b
   ·have b:vK st5 v<tH st5 v:=by have:=ah9 b; unfold vK tH; omega
    rw [ag9 b] at d;refine ⟨rfl,p5,K,c5,?_,M⟩;rw [d];exact q
   ·have b:¬ vK st5 v<tH st5 v:=by have:=av9 b; unfold vK tH; omega
    rw [ac9 b] at d;have hl5:K=st5.dq.length:=by rw [q.w.1,ab9]
    have hw5:=F.dq;have hc5:st5.jn<=es.length:=by have:=F.sum; omega
    have hvw:v∈st5.dq:=j.subset aj;have hpk:sG v st5<st5.dq.length:=by
     unfold sG;rw [List.findIdx_lt_length];exact ⟨v,hvw,aj⟩
    refine az q.bW ((p5,K,c5),()) (ao ?_);refine jo (N' q.w v hvw ad) ?_;refine az q.bW ((p5,K,c5),()) (ao ?_);have hcap:=q.w.Ir;have hpk':(st5.dq.findIdx fun x=>decide (v=x))=sG v st5:=rfl;rw [hpk'];refine dC ⟨ad,ad,ad⟩ ?_;refine Wx lo hs q co5 hi5 F ad ad ?_;intro h6 p6 l6 c6 m6 s6;refine ⟨rfl,p6,l6,c6,?_,M.trans s6⟩;rw [d];exact m6
end
theorem pY.top {names:List Xaa} {own:Xaa->Bool} (a:∀ s,own s=true->s∈names) (succ:Xaa->List Xaa) (f:Nat):∀ (l:List Xaa) (st:TS),(∀ s,s∈l->s∈names)->pY names st->pY names (l.foldl (xN own succ f) st)
 | [],st,hl,hi=>hi
 | w::l,st,hl,hi=>by
  rw [bt9];refine pY.top a succ f l _ (fun s b=>hl s (ap9 _ b)) ?_;unfold xN;split
  ·exact pY.visit a succ f w st hi (hl w aj)
  ·exact hi
def JK {p:Xac} {c:Nat} {es:List cV} (v:uV O p H es) (U:EqsOk es) (hp:∀ i,i∈aJ p->i<O.size) :
  HC Xaz 61 #[.slice p H c] O fun w h'=>(∃ g n,w=.map (some g)/\ej eB h' g (H3 (cF es) (cU (dB es)) (aX es)).back n/\O.size<=g)/\Ext O h':=by
 refine bd (args:=[.slice p H c]) mixed Tryz.func61 ax (yN p H c) ?_;unfold uy aY bh bt aI bP bQ aF bg cm aQ;have A:∀ s,cF es s=true->s∈aX es:=fun s=>(dV es s).1
 have hnl:(aX es).length=es.length:=by unfold aX; rw [ab9]
 have hll:=v.len;have hlen:=U.len;refine br ?_;intro h1 b1 e1 z1;refine az b1 ((p,H,c),()) (ao ?_);refine aK (Bd (v.an e1) U.len U.nodup U.sz) ?_;rintro _ h2 ⟨⟨gA,rfl,mA,hgA⟩,e2⟩;refine ⟨(some gA,()),rfl,ao ?_⟩;have b2:=b1.an e2 aj;have hgA2:=mA.lt;refine br ?_;intro h3 b3 e3 z3;refine bR b3 ?_;intro h4 b4 k4 z4;have b4:bC h4 h2.size 105 [.map (some gA)]:=b4;have e24:Ext h2 h4:=bY e3 k4;refine zI (en:=eB) ?_;intro W m5 e5 z5;refine br ?_;intro h6 b6 e6 z6;refine bR b6 ?_;intro h7 b7 k7 z7;have b7:bC h7 W.size 152 [.map (some h4.size)]:=b7;have X:Ext W h7:=bY e6 k7;refine zI (en:=eI) ?_;intro h8 m8 e8 z8;refine zI (en:=eI) ?_;intro C m9 e9 z9;refine br ?_;intro Y b10 e10 z10;refine br ?_;intro h11 b11 Z z11;refine bR (b10.an Z aj) ?_;intro h12 K k12 z12;have K:bC h12 C.size 105 [.map (some h7.size)]:=K;refine bR (b11.an k12 (by simp; omega)) ?_;intro h13 L k13 z13;have L:bC h13 Y.size 105 [.map (some h8.size)]:=L;have e913:Ext C h13:=Ch.trans ((bY (Ext.trans e10 Z) k12):Ext C h12) k13 (fun j hj hl=>by simp at hj; omega);refine br ?_;intro h14 b14 e14 z14;refine zI (en:=eB) ?_;intro M m15 e15 z15;refine br ?_;intro h16 b16 e16 z16;refine bR b16 ?_;intro h17 P k17 z17;have P:bC h17 M.size 152 [.map (some h14.size)]:=P;have Q:Ext M h17:=bY e16 k17;refine br ?_;intro h18 b18 e18 z18;refine bR b18 ?_;intro h19 b19 k19 z19;have f:Ext h17 h19:=bY e18 k19;have e1519:=Q.trans f;have a:Ext h13 h19:=(e14.trans e15).trans e1519;have e919:=e913.trans a;have m:Ext h7 h19:=(e8.trans e9).trans e919;have D:Ext h4 h19:=(e5.trans X).trans m;have e219:=e24.trans D;have F:Ext O h19:=(e1.trans e2).trans e219;have hz13:h13.size=C.size+2:=ad
 have hz9:C.size=h7.size+2:=ad
 have hz7:h7.size=h4.size+2:=ad
 have hz4:h4.size=h2.size+1:=ad
 generalize G:(⟨O.size,gA,h2.size,h4.size,W.size,h7.size,h8.size,C.size,Y.size,h13.size,h14.size,M.size,h17.size⟩:TF)=r;have ho:r.ord:=by
  subst G;unfold TF.ord;dsimp only;omega
 have co:RZ r h19 es p H c:=by
  subst G;refine ⟨(b2.an e219 aj),b4.an D aj,⟨_,mA.an e219 aj⟩,?_,(K.an k13 (by simp; omega)).an a aj,L.an a aj,P.an f aj,b7.an m aj,v.an F⟩;exact b19
 have st:nP r h19 DB none 0 0:=by
  subst G;exact ⟨m8.an (e9.trans e919) aj,⟨0,m9.an e919 aj⟩,⟨0,m15.an e1519 aj⟩,⟨0,m5.an ((X.trans m)) aj⟩,b14.an (e15.trans e1519) aj,SL.nil _ _ _ _⟩
 have lo:LD r es p:=by
  subst G;exact ⟨ho,hp,fun e he hne i hi=>(v.fC e he).Xr hne i hi⟩
 have hrE:r.E=O.size:=by subst G; rfl
 have hbN:r.N=C.size:=by subst G; rfl
 have hbV:r.V=h17.size:=by subst G; rfl
 have hbB:r.B=W.size:=by subst G; rfl
 rw [show (⟨C.size,0,none⟩:Xax)=bx r.N by rw [hbN],show (⟨h17.size,0,none⟩:Xax)=bx r.V by rw [hbV],show (⟨W.size,0,none⟩:Xax)=bx r.B by rw [hbB],show (⟨O.size,0,none⟩:Xax)=bx r.E by rw [hrE]];refine az co.bE ((p,H,c),()) (ao ?_);refine aT (cs:=cI) (fun x w h'=>∃ (i:Nat) (p':Xac) (l' c':Nat),x.1=(i:Int)/\i<=es.length/\w=es.length-i/\nP r h' (((aX es).take i).foldl (xN (cF es) (cU (dB es)) (aX es).length) DB) p' l' c'/\ri r none h19 p' h')
  ((0:Int),()) es.length rfl ⟨0,none,0,0,rfl,ad,ad,st,ri.refl _ _ _⟩ ?_
 rintro ⟨n20,⟨⟩⟩ w h20 ⟨i,R,l20,c20,hi0,hile,rfl,q,S⟩;simp only at hi0;subst hi0;refine ao ?_;have co20:=S.co lo st co;refine aR ?_ ?_<;>intro g1
 ·have I:i<es.length:=ad
  refine hZ ?_;obtain ⟨a2,ha2,hc2⟩:=co20.vw.cells i I;refine bm ha2 ?_;rw [cr i];have t20:=Eb (own:=cF es) (succ:=cU (dB es)) U.nodup A ((aX es).take i) [] DB (fun s hs=>cv9 hs) (Y3 _);have i20:=pY.top A (cU (dB es)) (aX es).length ((aX es).take i) DB (fun s hs=>cv9 hs) (fun s hs=>(hs rfl).elim);have t:(aX es).take (i+1)=(aX es).take i++[es[i].name]:=by
   rw [ae9 ad];unfold aX;rw [am9]
  have J:es[i].name∈aX es:=bc9 (al9 I);generalize es[i]=e at hc2 t J;have b:((aX es).take (i+1)).foldl (xN (cF es) (cU (dB es)) (aX es).length) DB=xN (cF es) (cU (dB es)) (aX es).length (((aX es).take i).foldl (xN (cF es) (cU (dB es)) (aX es).length) DB) e.name:=by
   rw [t,ch9]; rfl
  generalize ((aX es).take i).foldl (xN (cF es) (cU (dB es)) (aX es).length) DB=o at q t20 i20 b;refine ay (e.name,(e.p,e.l,e.c),(e.x.num:Int),()) hc2 (ao ?_);refine br ?_;intro h21 b21 e21 z21;refine bR b21 ?_;intro h22 u k22 z22;have u:bC h22 h20.size 116 [.string e.name,.slice e.p e.l e.c,.int .u32 e.x.num]:=u;have d:Ext h20 h22:=bY e21 k22;have co22:=co20.nH lo d aj;have m22:=q.an d;have s22:ri r none h19 R h22:=S.trans (ri.ext d);have hw:=ic i;refine az co22.bN (some r.gN,()) (ao ?_);refine az u (e.name,()) (ao ?_);refine m22.Gc e.name ?_;refine aw ?_ ?_<;>intro y
  ·have y:(o.num e.name).getD 0=0:=by have:=ah9 y; omega
   refine az co22.bV (.func (.func 87) #[] r.uJ.toArray,()) (ao ?_);refine az u (e.name,()) (ao ?_);refine wQ (cap:=r.uJ) Zh rfl (Of U lo (aX es).length e.name o h22 R l20 c20 m22 co22 t20.pS J (t20.pS.none y) (do9 _ _) i20) ?_;rintro _ h23 ⟨rfl,p23,l23,c23,m23,s23⟩;refine ⟨(),rfl,?_⟩;refine aG (cs:=cI) (((i+1:Nat):Int),()) (es.length-(i+1)) rfl ad (as9 (fun z=>[Value.int .i64 z]) hw) ⟨i+1,p23,l23,c23,rfl,ad,rfl,?_,s22.trans s23⟩;rw [b];unfold xN;rw [ag9 y];exact m23
  ·have y:¬ (o.num e.name).getD 0=0:=by
    intro k;rw [k] at y;simp at y
   refine aG (cs:=cI) (((i+1:Nat):Int),()) (es.length-(i+1)) rfl ad (as9 (fun z=>[Value.int .i64 z]) hw) ⟨i+1,R,l20,c20,rfl,ad,rfl,?_,s22⟩;rw [b];unfold xN;rw [ac9 y];exact m22
 ·have t:(aX es).take i=aX es:=bv9 ad;rw [t] at q;refine az co20.bB (some r.gB,()) (ao ?_);obtain ⟨n3,mB⟩:=q.mB;have o':=ho;unfold TF.ord at o';refine ⟨⟨r.gB,n3,rfl,mB,ad⟩,Ch.trans F S.ch fun j hj hl=>?_⟩;rw [qy] at hj;simp [aJ] at hj;omega
def xP {us:dt} (s:SL O H j 2 U V b (us.map dp)):iD O U V us :=
 ⟨by rw [s.1,ab9],fun i hi=>by
  obtain ⟨a,d,hc⟩:=s.cells (i:=i) (by simpa using hi);rw [am9] at hc;exact ⟨a,d,hc⟩⟩
structure uC (es:List cV):Prop extends EqsOk es where
 XK:(es.flatMap (·.x.ah)).length<=2^20
abbrev fq (es:List cV) (v:Xaa):bM:=Kl (cF es) (dB es) (aX es) v
abbrev dF (es:List cV):Xaa->Xaa->Prop:=Edge (cF es) (cU (dB es))
def kG {es:List cV} {v:Xaa} (hv:v∈aX es):∃ e,e∈es/\e.name=v/\dB es v=e.x:=by
 obtain ⟨k,hk⟩:=FD hv;obtain ⟨a,b,c⟩:=pu hk;exact ⟨_,al9 a,b,c⟩
def iF {α β:Type} (f:α->List β) {l:List α} {a:α} (h:a∈l):(f a).length<=(l.flatMap f).length:=by
 induction l with
 | nil=>simp at h
 | cons b l c =>
  rw [cd9,af9];rcases be9.1 h with e | e
  ·subst e; omega
  ·have:=c e; omega
def uC.Ar {es:List cV} (o:uC es) {v:Xaa} (hv:v∈aX es):(dB es v).ah.length<=2^20:=by
 obtain ⟨e,a,_,b⟩:=kG hv;rw [b];exact cq9 (iF (fun e:cV=>e.x.ah) a) o.XK
def uC.Fz {es:List cV} (o:uC es) (hc:∀ v,¬ kS (dF es) v) {v:Xaa} (hv:v∈aX es):(fq es v).ah.length<=2^20:=by
 have hnf:=Xl (dV es) hc hv;have hnm:=tC (dV es) hc hv;have h1:((fq es v).ah.map (·.1)).Nodup:=cr9.2 (hnf.1.imp fun h=>jX h);have h2:=kb ((fq es v).ah.map (·.1)) ((es.flatMap (·.x.ah)).map (·.1)) h1 (fun s b=>by
  obtain ⟨t,ht,rfl⟩:=an9.1 b;obtain ⟨_,w,u,c,a,e⟩:=hnm t ht;obtain ⟨d,f,_,g⟩:=kG c;rw [g] at a;rw [<- e];exact bc9 (ec9.2 ⟨d,f,a⟩))
 rw [ab9,ab9] at h2;exact cq9 h2 o.XK
def uC.NM {es:List cV} (o:uC es) (hc:∀ v,¬ kS (dF es) v) {v:Xaa} (hv:v∈aX es):∀ t,t∈(fq es v).ah->t.1.size<=maxLen:=by
 intro t ht;obtain ⟨_,w,u,b,a,e⟩:=tC (dV es) hc hv t ht;obtain ⟨d,c,_,f⟩:=kG b;rw [f] at a;rw [<- e];exact o.ts d c u a
theorem qR {of:Xaa->Option bM} {B:Nat} (b:1<=B) (a:∀ s y,of s=some y->y.ah.length<=B):∀ l:dt,(l.flatMap (sI of)).length<=l.length*B
 | []=>aj
 | t::l=>by
  rw [cd9,af9,cj9,da9];have ih:=qR b a l
  have:(sI of t).length<=B:=by
   unfold sI;cases h:of t.1 with
   | none=>simpa using b
   | some y=>simpa using a _ _ h
  omega
structure SF where
 E:Nat
 gA:Nat
 A:Nat
 gD:Nat
 D:Nat
 V:Nat
def SF.ord (r:SF):Prop:=r.E<r.gA/\r.gA<r.A/\r.A<r.gD/\r.gD<r.D/\r.D<r.V
def SF.uJ (r:SF):List Xab:=[.pointer (some (bx r.D)),.pointer (some (bx r.E)),.pointer (some (bx r.A)),.pointer (some (bx r.V))]
structure XC (r:SF) (h:Hp) (es:List cV) (p0:Xac) (l0 c0:Nat):Prop where
 bE:bC h r.E 67 [.slice p0 l0 c0]
 bA:bC h r.A 105 [.map (some r.gA)]
 mA:∃ n,ej eI h r.gA (kT es) n
 bV:bC h r.V 166 [.func (.func 63) #[] r.uJ.toArray]
 bD:bC h r.D 165 [.map (some r.gD)]
 vw:uV h p0 l0 es
structure LoS (r:SF) (es:List cV) (p0:Xac):Prop where
 ord:r.ord
 l0:∀ i,i∈aJ p0->i<r.E
 li:∀ e,e∈es->e.x.ah≠[]->∀ i,i∈aJ e.p->i<r.E
def XC.an {r:SF} {h h':Hp} {es:List cV} {p0:Xac} {l0 c0:Nat} (m:XC r h es p0 l0 c0) (lo:LoS r es p0) (k:Ch [r.gD] h h'):XC r h' es p0 l0 c0:=by
 have o:=lo.ord;unfold SF.ord at o;obtain ⟨n,mA⟩:=m.mA;exact ⟨m.bE.an k (by simp; omega),m.bA.an k (by simp; omega),⟨n,mA.an k (by simp; omega)⟩,m.bV.an k (by simp; omega),m.bD.an k (by simp; omega),m.vw.nH k (fun i hi=>by have:=lo.l0 i hi; simp; omega) (fun e b a i hi=>by have:=lo.li e b a i hi; simp; omega)⟩
structure Vz (r:SF) (h:Hp) (es:List cV) (f:Xaa->Option sO):Prop where
 map:∃ n,IQ h r.gD f n
 of:∀ s y,f s=some y->s∈aX es/\y.x=fq es s/\∀ i,i∈aJ y.p->r.V<i/\i<h.size
variable {k:SF}
def Vz.ext {h':Hp} {es:List cV} {f:Xaa->Option sO} (d:Vz k O es f) (e:Ext O h'):Vz k h' es f:=by
 obtain ⟨n,m⟩:=d.map;exact ⟨⟨n,m.an e aj (fun s y g i hi=>aj)⟩,fun s y g=>by
  obtain ⟨a,b,c⟩:=d.of s y g;exact ⟨a,b,fun i hi=>⟨(c i hi).1,Nat.lt_of_lt_of_le (c i hi).2 e.size⟩⟩⟩
def YV (f a:Xaa->Option sO):Prop:=∀ s y,f s=some y->a s=some y
def UT (b:Nat) (f a:Xaa->Option sO):Prop:=∀ s y,a s=some y->f s=some y\/∀ i,i∈aJ y.p->b<=i
def VX:gi Xaz 63=true:=ax
def OS {es:List cV} {p0:Xac} {l0 c0:Nat} (eo:uC es) (lo:LoS k es p0) (hc:∀ v,¬ kS (dF es) v):∀ (d:Nat) (v:Xaa),Hg (dF es) d v->v∈aX es->∀ (h:Hp) (f:Xaa->Option sO),XC k h es p0 l0 c0->Vz k h es f ->
  HC Xaz 63 (.string v::k.uJ).toArray h fun w h'=>∃ y N,w=eL y/\y.x=fq es v/\Vz k h' es N/\N v=some y/\YV f N/\UT h.size f N/\Ch [k.gD] h h':=by
 intro d;have o:=lo.ord;have o':=o;unfold SF.ord at o';have hown:=dV es
 induction d with
 | zero=>intro v hg; exact hg.elim
 | succ d ih =>
  intro v hg hv h f co dn;refine bd (args:=.string v::k.uJ) mixed Tryz.func63 ax (qt v (bx k.D) (bx k.E) (bx k.A) (bx k.V)) ?_;unfold lf aY bh bt aI bP bQ aF bg cm aQ cn;have hV:=co.bV.lt;have hsv:=eo.toEqsOk.names v hv;refine br ?_;intro h1 b1 e1 z1;have co1:=co.an lo (e1.mono aj);have dn1:=dn.ext e1;refine az co1.bD (some k.gD,()) (ao ?_);obtain ⟨n1,m1⟩:=dn1.map;refine B3 m1.map v (fun y hy1=>?_) (fun hy0=>?_)
  ·refine br ?_;intro h2 b2 e2 z2;refine bR b2 ?_;intro h3 b3 k3 z3;have b3:bC h3 h1.size 53 [.slice y.p y.l y.c,.int .u32 (y.x.num:Int)]:=b3;have F:Ext h1 h3:=bY e2 k3;refine cj rfl ?_;refine az b3 ((y.p,y.l,y.c),(y.x.num:Int),()) (ao ?_);refine bR (b1.an F aj) ?_;intro h4 b4 k4 z4;have b4:bC h4 h.size 53 [.slice y.p y.l y.c,.int .u32 (y.x.num:Int)]:=b4;refine az b4 ((y.p,y.l,y.c),(y.x.num:Int),()) ?_;have e04:Ext h h4:=bY (e1.trans F) k4;exact ⟨y,f,rfl,(dn.of v y hy1).2.1,dn.ext e04,hy1,fun s y hy=>hy,fun s y hy=>.inl hy,e04.mono aj⟩
  ·refine br ?_;intro h2 b2 e2 z2;refine bR b2 ?_;intro h3 b3 k3 z3;have F:Ext h1 h3:=bY e2 k3;refine cg rfl ?_;have e03:=e1.trans F;have co3:=co.an lo (e03.mono aj);have dn3:=dn.ext e03;refine az co3.bE ((p0,l0,c0),()) (ao ?_);refine az co3.bA (some k.gA,()) (ao ?_);obtain ⟨nA,mA⟩:=co3.mA;refine KB mA v ?_;obtain ⟨q,hq⟩:=FD hv;obtain ⟨O,hqn,hqx⟩:=pu hq;have hl0:=co3.vw.len;have hlen:=eo.len;rw [hq];simp only [Option.getD_some];refine hZ ?_;obtain ⟨a,ha,Z⟩:=co3.vw.cells q O;refine bm ha ?_;rw [cr q];have n:∀ h',XC k h' es p0 l0 c0->iD h' es[q].p es[q].l es[q].x.ah:=fun h' co'=>co'.vw.fC es[q] (al9 O)
   have hts:=eo.ts es[q] (al9 O);have hli:=lo.li es[q] (al9 O);have hll:=eo.Ar hv;have hsol:=JO hown hc hv;rw [hqx] at hll hsol;have G:∀ t,t∈es[q].x.ah->cF es t.1=true->dF es v t.1:=fun t ht C=>⟨lP.2 ⟨t,by rw [hqx]; exact ht,rfl⟩,C⟩
   generalize es[q]=e at Z n hts hli hll hsol G;refine ay ((e.p,e.l,e.c),(e.x.num:Int),()) ⟨by rw [add_zero']; exact Z.2.1,by rw [add_add]; exact Z.2.2.1,trivial⟩ ?_;refine ao ?_;refine br ?_;intro h5 b5 e5 z5;refine bR b5 ?_;intro h6 b6 k6 z6;have b6:bC h6 h3.size 53 [.slice e.p e.l e.c,.int .u32 (e.x.num:Int)]:=b6;have e36:Ext h3 h6:=bY e5 k6;have e06:=e03.trans e36;have hz3:=e03.size;refine az b6 ((e.p,e.l,e.c),()) (ao ?_);refine aT (cs:=cI) (fun x w h'=>∃ (i:Nat) (N:Xaa->Option sO),x.1=(i:Int)/\i<=e.x.ah.length/\w=e.x.ah.length-i/\Vz k h' es N/\YV f N/\UT h6.size f N/\(∀ t,t∈e.x.ah.take i->cF es t.1=true->∃ y,N t.1=some y)/\Ch [k.gD] h6 h')
    ((0:Int),()) e.x.ah.length rfl ⟨0,f,rfl,ad,ad,dn.ext e06,fun s y hy=>hy,fun s y hy=>.inl hy,aj,Ch.refl _ _⟩ ?_
   rintro ⟨n23,⟨⟩⟩ w h7 ⟨i,H,hi0,hile,rfl,g,sb7,P,Q,k7⟩;simp only at hi0;subst hi0;refine ao ?_;have R:Ch [k.gD] h h7:=Ch.trans (e06.mono aj) k7 (fun j I _=>I);have co7:=co.an lo R;have hel:=(n h7 co7).len;refine aR ?_ ?_<;>intro g1
   ·have J:i<e.x.ah.length:=ad
    refine hZ ?_;obtain ⟨a2,ha2,hc2⟩:=(n h7 co7).cells i J;refine bm ha2 ?_;rw [cr i];have htk:e.x.ah.take (i+1)=e.x.ah.take i++[e.x.ah[i]]:=ae9 J;have hed:=G e.x.ah[i] (al9 J);generalize e.x.ah[i]=t at hc2 htk hed;refine ay (t.1,(t.2:Int),()) hc2 (ao ?_);refine br ?_;intro h8 b8 e8 z8;refine bR b8 ?_;intro h9 S k9 z9;have S:bC h9 h7.size 64 [.string t.1,.int .u32 (t.2:Int)]:=S;have K:Ext h7 h9:=bY e8 k9;have U:Ch [k.gD] h h9:=Ch.trans R K aj;have co9:=co.an lo U;have dn9:=g.ext K;have hw:=ic i;refine az co9.bA (some k.gA,()) (ao ?_);refine az S (t.1,()) (ao ?_);obtain ⟨nA9,mA9⟩:=co9.mA;refine EK mA9 t.1 ?_;refine aw ?_ ?_<;>intro W
    ·have W:cF es t.1=true:=W;refine az co9.bV (.func (.func 63) #[] k.uJ.toArray,()) (ao ?_);refine az S (t.1,()) (ao ?_);refine wQ (cap:=k.uJ) VX rfl (ih t.1 (hg t.1 (hed W)) ((hown _).1 W) h9 H co9 dn9) ?_;rintro _ h10 ⟨y,f10,rfl,hyx,dn10,hfy,Y,na10,m⟩;refine ⟨((y.p,y.l,y.c),(y.x.num:Int),()),rfl,ao ?_⟩;refine aG (cs:=cI) (((i+1:Nat):Int),()) (e.x.ah.length-(i+1)) rfl ad (as9 (fun z=>[Value.int .i64 z]) hw) ⟨i+1,f10,rfl,ad,rfl,dn10,fun s y hy=>Y s y (sb7 s y hy),fun s y hy=>?_,fun u hu C=>?_,?_⟩
     ·rcases na10 s y hy with h | h
      ·exact P s y h
      ·refine .inr fun i hi=>?_
       have:=h i hi
       have:=k7.size
       have:=K.size
       omega
     ·rw [htk] at hu;rcases ar9.1 hu with h | h
      ·obtain ⟨y,hy⟩:=Q u h C;exact ⟨y,Y _ _ hy⟩
      ·rw [ai9.1 h]; exact ⟨y,hfy⟩
     ·exact Ch.trans (Ch.trans k7 K aj) m (fun j I _=>I)
    ·have W:¬ cF es t.1=true:=by
      unfold cF;intro d;rw [d] at W;cases W
     refine aG (cs:=cI) (((i+1:Nat):Int),()) (e.x.ah.length-(i+1)) rfl ad (as9 (fun z=>[Value.int .i64 z]) hw) ⟨i+1,H,rfl,ad,rfl,dn9,sb7,P,fun u hu C=>?_,Ch.trans k7 K aj⟩;rw [htk] at hu;rcases ar9.1 hu with h | h
     ·exact Q u h C
     ·rw [ai9.1 h] at C; exact (W C).elim
   ·have hii:e.x.ah.take i=e.x.ah:=bv9 ad;rw [hii] at Q;have b7:=b6.an k7 (by simp; omega);refine az b7 ((e.p,e.l,e.c),(e.x.num:Int),()) (ao ?_);refine az co7.bD (some k.gD,()) (ao ?_);obtain ⟨n7,m7⟩:=g.map;have hz7:=R.size;have hput:dz (fun s=>(H s).map (·.x)) e.x=fq es v:=by
     show _=Kl (cF es) (dB es) (aX es) v;rw [hsol];refine qz fun t ht=>?_
     show (H t.1).map (·.x)=LN (cF es) (dB es) (aX es) t.1;unfold LN
     by_cases C:cF es t.1=true
     ·obtain ⟨y,hy⟩:=Q t ht C;rw [hy,ag9 C,fr9,(g.of _ _ hy).2.1]
     ·rw [ac9 C];cases hy:H t.1 with
      | none=>rfl
      | some y=>exact (C ((hown _).2 (g.of _ _ hy).1)).elim
    have L:∀ s y,H s=some y->y.x.ah.length<=2^20:=fun s y hy=>by
     obtain ⟨a,b,_⟩:=g.of s y hy;rw [b]; exact eo.Fz hc a
    refine aK (Gi (c:=e.c) (n h7 co7) m7 ad hts (fun s y hy=>⟨by have:=L s y hy; omega,by
      obtain ⟨a,b,_⟩:=g.of s y hy;rw [b]; exact eo.NM hc a⟩) ?_) ?_
    ·have:=qR (of:=fun s=>(H s).map (·.x)) (B:=2^20) ad (fun s y hy=>by
      cases hh:H s with
      | none=>simp only [hh] at hy; cases hy
      | some z =>
       simp only [hh,Option.map_some,Option.some.injEq] at hy;rw [<- hy]; exact L s z hh) e.x.ah
     exact cq9 this (cq9 (cl9 _ hll) bT)
    ·rintro _ h8 ⟨⟨p',l',c',rfl,s8⟩,e8⟩;rw [hput] at s8 ⊢;refine ⟨((p',l',c'),((fq es v).num:Int),()),rfl,ao ?_⟩;have b8:=b7.an e8 aj;refine bR b8 ?_;intro h9 S k9 z9;have S:bC h9 h3.size 53 [.slice p' l' c',.int .u32 ((fq es v).num:Int)]:=S;have hz8:=e8.size;have k79:Ch [h3.size] h7 h9:=Ch.trans (e8.mono aj) k9 (fun j I _=>I);have U:Ch [k.gD] h h9:=Ch.trans (Ch.trans R e8 aj) k9 (fun j I hl=>by simp at I; omega);have co9:=co.an lo U;have hk7:=k7.size;have hz36:h3.size<h6.size:=ad
     have M:∀ s y,H s=some y->∀ i,i∈aJ y.p->i≠h3.size/\i≠h.size/\i≠k.gD:=by
      intro s y hy i hi;have h1:=(g.of s y hy).2.2 i hi;rcases P s y hy with h | h
      ·have:=((dn.of s y h).2.2 i hi).2
       omega
      ·have:=h i hi
       omega
     have m9:IQ h9 k.gD H n7:=m7.an k79 (by simp; omega) (fun s y hy i hi=>by
      have:=(M s y hy i hi).1
      simpa using this)
     have s9:=s8.bK k9 (fun i hi=>by have:=(s8.cB hi).1; simp; omega);refine az co9.bD (some k.gD,()) (ao ?_);refine az S ((p',l',c'),((fq es v).num:Int),()) (ao ?_);refine Ox m9.map hsv ⟨p',l',c',fq es v⟩ ?_;intro h10 m10 m z10;have b10:=S.an m (by simp; omega);refine az b10 ((p',l',c'),((fq es v).num:Int),()) (ao ?_);have b110:bC h10 h.size 53 [.slice none 0 0,.int .u32 0]:=((((b1.an F aj).an e36 aj).an k7 (by simp; omega)).an k79 (by simp; omega)).an m (by simp; omega);refine bR b110 ?_;intro h11 b11 X z11;have b11:bC h11 h.size 53 [.slice p' l' c',.int .u32 ((fq es v).num:Int)]:=b11;refine az b11 ((p',l',c'),((fq es v).num:Int),()) ?_;have k011:Ch [k.gD] h h11:=Ch.trans (Ch.trans U m (fun j I _=>I)) X (fun j I hl=>by simp at I; omega);have hz9:=k79.size;refine ⟨⟨p',l',c',fq es v⟩,dT H v ⟨p',l',c',fq es v⟩,rfl,rfl,⟨⟨_,m10.an X (by simp; omega),fun s y hy=>?_⟩,fun s y hy=>?_⟩,cK _ _ _,fun s y hy=>?_,fun s y hy=>?_,k011⟩
     ·by_cases hsv:s=v
      ·subst hsv;rw [cK] at hy;have hy:=bb9 hy;subst hy;exact xP ((s9.bK m (fun i hi=>by have:=(s9.cB hi).1; simp; omega)).bK X (fun i hi=>by have:=(s9.cB hi).1; simp; omega))
      ·rw [cw _ _ hsv] at hy;exact ((m9.fC s y hy).an m (fun i hi=>by have:=(M s y hy i hi).2.2; simpa using this)).an X (fun i hi=>by have:=(M s y hy i hi).2.1; simpa using this)
     ·by_cases hsv:s=v
      ·subst hsv;rw [cK] at hy;have hy:=bb9 hy;subst hy;refine ⟨hv,rfl,fun i hi=>?_⟩
       have:=s9.cB hi
       omega
      ·rw [cw _ _ hsv] at hy;obtain ⟨a,b,c⟩:=g.of s y hy;refine ⟨a,b,fun i hi=>?_⟩
       have:=c i hi
       omega
     ·have hne:s≠v:=fun e=>by rw [e,hy0] at hy; cases hy
      rw [cw _ _ hne];exact sb7 s y hy
     ·by_cases hsv:s=v
      ·subst hsv;rw [cK] at hy;have hy:=bb9 hy;subst hy;refine .inr fun i hi=>?_
       have:=s9.cB hi
       omega
      ·rw [cw _ _ hsv] at hy;rcases P s y hy with h | h
       ·exact .inl h
       ·refine .inr fun i hi=>?_
        have:=h i hi
        omega
end Go.Sx
