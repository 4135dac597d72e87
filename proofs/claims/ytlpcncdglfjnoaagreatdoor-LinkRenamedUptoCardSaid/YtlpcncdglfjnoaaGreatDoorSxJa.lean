/- Part of the framework. No condition. -/
import Derived.Test.YtlpcncdglfjnoaaGreatDoorSxJ
set_option linter.all false
set_option maxHeartbeats 4000000
namespace Go.Sx.Cr
section
variable {C:Cx} {h0:Hp} {ρ:fY} {s s1:CS} {h:Hp} {e:Ev} {e':Env} {L:Lp} {K:XB->Hp->Prop} {kk:XB->T}
def NS {d:TypeDesc} {v v':XB} (hv:VR ρ v v') (a:vq d v=true):∃ x:Sv d,Qv d x=v':=by
 cases d with
 | bool=>cases hv <;> first | exact ⟨_,rfl⟩ | (simp [vq] at a; done)
 | int k=>cases hv <;> first | (simp [vq] at a; done) | (simp only [vq,decide_eq_true_eq] at a; subst a; exact ⟨_,rfl⟩)
 | string=>cases hv <;> first | exact ⟨_,rfl⟩ | (simp [vq] at a; done)
 | pointer _=>cases hv <;> first | exact ⟨none,rfl⟩ | exact ⟨some _,rfl⟩ | (simp [vq] at a; done)
 | slice _=>cases hv <;> first | exact ⟨(none,_,_),rfl⟩ | exact ⟨(some _,_,_),rfl⟩ | (simp [vq] at a; done)
 | map _ _=>cases hv <;> first | exact ⟨none,rfl⟩ | exact ⟨some _,rfl⟩ | (simp [vq] at a; done)
 | _=>exact ⟨v',rfl⟩
theorem uB:∀ {c:List TypeDesc} {f b:List XB},dO ρ f b->fits c f=true->∃ x:qK c,dS c x=b
 | [],[],_,.nil,_=>⟨(),rfl⟩
 | d::c,v::f,_,.cons hv g,a=>by
  simp only [fits,Bool.and_eq_true] at a;obtain ⟨x,i⟩:=NS hv a.1;obtain ⟨y,j⟩:=uB g a.2;exact ⟨(x,y),by simp only [dS,i,j]⟩
 | [],_::_,_,_,a=>by simp [fits] at a
 | _::_,[],_,_,a=>by simp [fits] at a
theorem EP:∀ {b:List TypeDesc} {c:List XB},fits b c=true->c.length=b.length
 | [],[],_=>rfl
 | d::b,v::c,a=>by
  simp only [fits,Bool.and_eq_true] at a;simp [EP a.2]
 | [],_::_,a=>by simp [fits] at a
 | _::_,[],a=>by simp [fits] at a
def ug {v:XB} {l:List XB}:zH v=some l↔v=.agg ⟨l⟩:=by
 unfold zH;split
 ·simp
 ·rename_i hn;simp only [reduceCtorEq,false_iff];intro a; exact hn _ a
def Dn {v:XB} {l:List XB}:LX v=some l↔v=.tuple ⟨l⟩:=by
 unfold LX;split
 ·simp
 ·rename_i hn;simp only [reduceCtorEq,false_iff];intro a; exact hn _ a
def Og {c:ef} {v v':XB} (hv:VR ρ v v') (a:B0 c v=true):∃ x:qK c.2,∀ rest rs,parts (c::rest) (dS _ x++rs)=v'::parts rest rs:=by
 obtain ⟨b,g⟩:=c;cases b with
 | true =>
  unfold B0 at a;simp only at a;cases d:zH v with
  | none=>rw [d] at a; cases a
  | some l =>
   rw [d] at a
   have:=ug.1 d; subst this
   cases hv with
   | agg hl =>
    obtain ⟨x,f⟩:=uB hl a;refine ⟨x,fun rest rs=>?_⟩;have hn:=tA g x;simp only [parts];rw [<- hn,Xx,Xf,f]
 | false =>
  unfold B0 at a;simp only at a;have hn:=EP a;obtain ⟨x,f⟩:=uB (.cons hv .nil) a;refine ⟨x,fun rest rs=>?_⟩;simp only [parts];rw [f] <;> rfl
theorem Ho:∀ (a es:List TypeDesc) (x:qK a) (y:qK es),∃ z:qK (a++es),dS _ z=dS _ x++dS _ y
 | [],es,x,y=>⟨y,rfl⟩
 | d::a,es,x,y=>by
  obtain ⟨z,b⟩:=Ho a es x.2 y;exact ⟨(x.1,z),by simp only [dS,b,List.cons_append]⟩
theorem yC:∀ {cs:List ef} {d b:List XB},dO ρ d b->zo cs d=true->∃ x:qK (flat cs),parts cs (dS _ x)=b
 | [],[],_,.nil,_=>⟨(),rfl⟩
 | c::cs,v::d,_,.cons hv f,a=>by
  simp only [zo,Bool.and_eq_true] at a;obtain ⟨x,g⟩:=Og hv a.1;obtain ⟨y,i⟩:=yC f a.2;obtain ⟨z,j⟩:=Ho c.2 (flat cs) x y;refine ⟨z,?_⟩;show parts (c::cs) (dS (c.2++flat cs) z)=_;rw [j,g,i]
 | [],_::_,_,_,a=>by simp [zo] at a
 | _::_,[],_,_,a=>by simp [zo] at a
def uZ {q:Bool × List ef} {v v':XB} (hv:VR ρ v v') (a:Gs q v=true):∃ x:qK (flat q.2),v'=rv q.1 q.2 (dS _ x):=by
 obtain ⟨b,cs⟩:=q;cases b with
 | true =>
  unfold Gs at a;simp only at a;cases c:LX v with
  | none=>rw [c] at a; cases a
  | some l =>
   rw [c] at a
   have:=Dn.1 c; subst this
   cases hv with
   | tuple hl =>
    obtain ⟨x,d⟩:=yC hl a;exact ⟨x,by simp only [rv]; rw [d]⟩
 | false =>
  unfold Gs at a;simp only at a;obtain ⟨x,d⟩:=yC (.cons hv .nil) a;exact ⟨x,by simp only [rv]; rw [d]; rfl⟩
variable {H:Nat}
def qB (R:Rel C h0 ρ s.σ h) {off n:Nat} {a:List XB} (d:cells C s H off n=some a) {pl:Pl} (i:ρ H=some pl) :
  a.length=n/\∃ vs',dO ρ a vs'/\aE h ⟨pl.cu,pl.sh+off,none⟩ 0 vs':=by
 unfold cells Lu at d;split at d
 ·rename_i c e m q;obtain ⟨h1,h2⟩:=tI off n c a d;obtain ⟨cs,f,g,hc,_⟩:=R.row q i;exact ⟨h1,iZ g a 0 fun j v k=>by rw [Xy]; exact hc _ _ (h2 j v k)⟩
 ·rename_i q;obtain ⟨c,hc,d⟩:=Vq.1 d;obtain ⟨h1,h2⟩:=tI off n c a d;obtain ⟨l,cs,e,f,g,o⟩:=R.ro H c hc;rw [R.N8 H l] at i;cases i;have p:h[H]?=some (.cells cs e f):=by rw [R.base H (fq g)]; exact g
  refine ⟨h1,iZ (pl:=⟨H,0,0⟩) p a 0 fun j v k=>?_⟩;obtain ⟨r,t⟩:=o _ v (h2 j v k);exact ⟨v,by simpa using r,rl 9 v t⟩
 ·cases d
def jf {v:XB} {off:Nat}:tS v=some (H,off)↔v=.pointer (some ⟨H,off,none⟩):=by
 unfold tS;split
 ·simp
 ·rename_i hn;simp only [reduceCtorEq,false_iff];intro a; exact hn _ _ a
def VR.ui {off:Nat} {v':XB} (hv:VR ρ (.pointer (some ⟨H,off,none⟩)) v'):∃ pl,ρ H=some pl/\v'=.pointer (some ⟨pl.cu,pl.sh+off,none⟩):=by
 cases hv with
 | ptr off h=>exact ⟨_,h,rfl⟩
variable {I:TypeId}
def JS (R : Rel C h0 ρ s.σ h) {v v' u : XB} {off:Nat} {l : List XB} (hv : VR ρ v v') (a : A0 C I v s = some (H, off, l, u)) :
    ∃ pl l' f, ρ H = some pl /\ v' = .pointer (some ⟨pl.cu, pl.sh + off, none⟩) /\ dO ρ l l' /\ VR ρ u f /\ aE h ⟨pl.cu, pl.sh + off, none⟩ 0 l' /\ cells C s H off l.length = some l /\
      ((cB C.P I = some true /\ ((eQ C.P 9 I).length == C.P.cellsOf I) = true /\ f = .agg l'.toArray /\ ∃ x : qK (eQ C.P 9 I), dS _ x = l') \/
       (cB C.P I = some false /\ f = l'.headD undef /\ ∃ x : qK (cz C.P I).2, dS _ x = l')) := by
  unfold A0 at a;obtain ⟨⟨b1, j⟩, m, a⟩ := Vq.1 a;obtain ⟨g, k, a⟩ := Vq.1 a;have := jf.1 m; subst this;obtain ⟨pl, c, rfl⟩ := hv.ui;cases g with
  | true =>
    simp only [Qg] at a;obtain ⟨h1, a⟩ := bi.1 a;obtain ⟨n, hc, a⟩ := Vq.1 a;obtain ⟨h2, a⟩ := bi.1 a;cases a;obtain ⟨hn, l', d, i⟩ := qB R hc c;obtain ⟨x, a⟩ := uB d h2;exact ⟨pl, l', .agg l'.toArray, c, rfl, d, .agg d, i, by rw [hn]; exact hc, .inl ⟨k, by simpa using h1, rfl, x, a⟩⟩
  | false =>
    simp only [Qp] at a;obtain ⟨n, hc, a⟩ := Vq.1 a;obtain ⟨h2, a⟩ := bi.1 a;cases a;obtain ⟨hn, l', d, i⟩ := qB R hc c;obtain ⟨x, a⟩ := uB d h2;refine ⟨pl, l', l'.headD undef, c, rfl, d, ?_, i, by rw [hn]; exact hc, .inr ⟨k, rfl, x, a⟩⟩;cases d with
    | nil => exact ni
    | cons h _ => exact h
def zm (R:Rel C h0 ρ s.σ h) {v v' u:XB} {off:Nat} {l:List XB} (hv:VR ρ v v') (k:A0 C I v s=some (H,off,l,u)) :
  ∃ pl l' c,ρ H=some pl/\dO ρ l l'/\VR ρ u c/\cells C s H off l.length=some l/\∀ (kk:YA->List XB->XB->T) (L:Lp) (K:XB->Hp->Prop),kk ⟨pl.cu,pl.sh+off,none⟩ l' c L K h ->
   (match v',cB C.P I with
    | .pointer p,some true=>bif (eQ C.P 9 I).length==C.P.cellsOf I then T.bd p fun a=>T.ae a (eQ C.P 9 I) (iV _ fun l=>kk a l (.agg l.toArray)) else T.fail
    | .pointer p,some false=>T.bd p fun a=>T.ae a (cz C.P I).2 (iV _ fun l=>kk a l (l.headD undef))
    | _,_=>T.fail) L K h:=by
 obtain ⟨pl,l',c,h1,h2,m,n,i,o,q⟩:=JS R hv k;refine ⟨pl,l',c,h1,m,n,o,fun kk L K hk=>?_⟩;subst h2;rcases q with ⟨f,g,d,x,j⟩ | ⟨f,g,x,d⟩
 ·simp only [f,g,cond_true];subst d;exact ⟨x,by rw [j]; exact i,by rw [dC,j]; exact hk⟩
 ·simp only [f];subst g;exact ⟨x,by rw [d]; exact i,by rw [dC,d]; exact hk⟩
def Lj {v v':XB} (h:VR ρ v v'):cO v'=cO v:=by cases h <;> rfl
theorem wC:∀ {l l':List XB},dO ρ l l'->l'.all cO=l.all cO
 | _,_,.nil=>rfl
 | _,_,.cons h t=>by rw [W8,W8,Lj h,wC t]
def RD {v v':XB} (h:VR ρ v v'):eO v'=eO v:=by cases h <;> rfl
def sP {g:Bool} {v v':XB} {l:List XB} (hv:VR ρ v v') (a:u7 g v=some l):eO v'=g/\∃ l',dO ρ l l'/\l'=(match g with
  | true=>ji v'
  | false=>[v']):=by
 unfold u7 at a;cases g with
 | true =>
  have:=ug.1 a; subst this
  cases hv with
  | agg hl=>exact ⟨rfl,_,hl,rfl⟩
 | false =>
  obtain ⟨h1,h2⟩:=bi.1 a;cases h2;refine ⟨by rw [RD hv]; simpa using h1,_,.cons hv .nil,rfl⟩
def HW (R:Rel C h0 ρ s.σ h) {off:Nat} {f a:List XB} (hv:dO ρ f a) (d:ON s H off f=some s1) {pl:Pl} (g:ρ H=some pl) :
  xO h ⟨pl.cu,pl.sh+off,none⟩ 0 a/\Rel C h0 ρ s1.σ (qW h ⟨pl.cu,pl.sh+off,none⟩ 0 a):=by
 unfold ON at d;split at d
 ·rename_i c e m i;obtain ⟨h1,h2⟩:=bi.1 d;cases h2;simp only [Bool.and_eq_true,Bool.not_eq_true'] at h1;obtain ⟨⟨⟨h1,h2⟩,j⟩,k⟩:=h1;refine R.store i ?_ g hv (by rw [wC hv]; exact h2) (VX j) (VX k);intro l;subst l;cases h1
 ·cases d
def Jo (R:Rel C h0 ρ s.σ h) {t:TypeId} {p p' v v':XB} (u:VR ρ p p') (hv:VR ρ v v') (hx:FJ C.P t p v s=some s1) {k:T} (hk:∀ h1,Rel C h0 ρ s1.σ h1->k L K h1) :
   (match p',cB C.P t with
    | .pointer p,some true=>cond (eO v') (bif (ji v').length==C.P.cellsOf t then T.bd p fun a=>T.ao a (ji v') k else T.fail) T.fail
    | .pointer p,some false=>bif C.P.cellsOf t==1 then cond (eO v') T.fail (T.bd p fun a=>T.ao a [v'] k) else T.fail
    | _,_=>T.fail) L K h:=by
 unfold FJ at hx;obtain ⟨⟨b,off⟩,j,d⟩:=Vq.1 hx;clear hx
 have:=jf.1 j; subst this
 have hx:=d;clear d;obtain ⟨g,n,hx⟩:=Vq.1 hx;obtain ⟨l,hl,hx⟩:=Vq.1 hx;obtain ⟨hn,hx⟩:=bi.1 hx;obtain ⟨pl,m,rfl⟩:=u.ui;obtain ⟨o,l',f,i⟩:=sP hv hl;obtain ⟨q,r⟩:=HW R f hx m;have c:l'.length=C.P.cellsOf t:=by rw [<- f.length]; exact VF hn
 cases g with
 | true =>
  simp only at i; subst i;simp only [n,o,cond_true]
  have:((ji v').length==C.P.cellsOf t)=true:=by simpa using c
  rw [this];exact ⟨q,hk _ r⟩
 | false =>
  simp only at i; subst i;simp only [n,o,cond_false]
  have:(C.P.cellsOf t==1)=true:=by simp at c; simp [<- c]
  rw [this];exact ⟨q,hk _ r⟩
def iy {o:AO}:yh s o=some s1↔s.σ.get s.nx=none/\s1=⟨s.σ.put s.nx o,s.nx+1⟩:=by
 unfold yh;split
 ·rename_i h;simp only [h,Option.some.injEq,true_and];exact eq_comm
 ·rename_i h;simp [h]
def Cy (R:Rel C h0 ρ s.σ h) {c c':List XB} {v:XB} (hc:dO ρ c c') (b:B8 s I c=some (v,s1)) (P:nr C h0 ρ s1 v kk L K):T.new c' I (fun a=>kk (.pointer (some a))) L K h:=by
 unfold B8 at b;obtain ⟨g,d,b⟩:=Vq.1 b;obtain ⟨hn,h2⟩:=iy.1 d;subst h2;cases b;have hb:=bm.new h I c';obtain ⟨f,le⟩:=R.newRow (rest:=[]) (e:=I) (m:=0) (cap:=0) hn hc (by rw [Wr]; exact hb) (Ext.push h _) ad
 have:=VR.ptr (ρ:=jL ρ s.nx ⟨h.size,0,0⟩) 0 (ff _ _ _)
 exact P _ _ _ le f (by simpa using this)
def zN {P:Program} {l:List XB} (a:zeroOf P I=some l):∃ z,(P.info? I).bind (·.zero)=some z/\l=z.cells.toList/\∀ ρ,dO ρ l l:=by
 unfold zeroOf at a;obtain ⟨z,b,a⟩:=Vq.1 a;obtain ⟨h1,h2⟩:=bi.1 a;cases h2;exact ⟨z,b,rfl,fun ρ=>pY (rl 9) _ h1⟩
end
end Go.Sx.Cr
