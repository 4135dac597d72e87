/- Part of the framework. No condition. -/
import Derived.Test.YtlpcncdglfjnoaaGreatDoorSxJ
set_option linter.all false
set_option maxHeartbeats 4000000
namespace Go.Sx.Cr
section
variable {C:Cx} {h0:Hp} {ρ:ix} {s s1:CS} {h:Hp} {e:Ev} {e':Env} {L:Lp} {K:Xab->Hp->Prop} {kk:Xab->T}
def QJ {d:TypeDesc} {v v':Xab} (hv:VR ρ v v') (a:xz d v=true):∃ x:Sv d,Ue d x=v':=by
 cases d with
 | bool=>cases hv <;> first | exact ⟨_,rfl⟩ | (simp [xz] at a; done)
 | int k=>cases hv <;> first | (simp [xz] at a; done) | (simp only [xz,decide_eq_true_eq] at a; subst a; exact ⟨_,rfl⟩)
 | string=>cases hv <;> first | exact ⟨_,rfl⟩ | (simp [xz] at a; done)
 | pointer _=>cases hv <;> first | exact ⟨none,rfl⟩ | exact ⟨some _,rfl⟩ | (simp [xz] at a; done)
 | slice _=>cases hv <;> first | exact ⟨(none,_,_),rfl⟩ | exact ⟨(some _,_,_),rfl⟩ | (simp [xz] at a; done)
 | map _ _=>cases hv <;> first | exact ⟨none,rfl⟩ | exact ⟨some _,rfl⟩ | (simp [xz] at a; done)
 | _=>exact ⟨v',rfl⟩
theorem wV:∀ {c:List TypeDesc} {f b:List Xab},eC ρ f b->fits c f=true->∃ x:qX c,eA c x=b
 | [],[],_,.nil,_=>⟨(),rfl⟩
 | d::c,v::f,_,.cons hv g,a=>by
  simp only [fits,Bool.and_eq_true] at a;obtain ⟨x,i⟩:=QJ hv a.1;obtain ⟨y,j⟩:=wV g a.2;exact ⟨(x,y),by simp only [eA,i,j]⟩
 | [],_::_,_,_,a=>by simp [fits] at a
 | _::_,[],_,_,a=>by simp [fits] at a
theorem Hc:∀ {b:List TypeDesc} {c:List Xab},fits b c=true->c.length=b.length
 | [],[],_=>rfl
 | d::b,v::c,a=>by
  simp only [fits,Bool.and_eq_true] at a;simp [Hc a.2]
 | [],_::_,a=>by simp [fits] at a
 | _::_,[],a=>by simp [fits] at a
def wH {v:Xab} {l:List Xab}:Br v=some l↔v=.agg ⟨l⟩:=by
 unfold Br;split
 ·simp
 ·rename_i hn;simp only [reduceCtorEq,false_iff];intro a; exact hn _ a
def FF {v:Xab} {l:List Xab}:OG v=some l↔v=.tuple ⟨l⟩:=by
 unfold OG;split
 ·simp
 ·rename_i hn;simp only [reduceCtorEq,false_iff];intro a; exact hn _ a
def Rh {c:ey} {v v':Xab} (hv:VR ρ v v') (a:D4 c v=true):∃ x:qX c.2,∀ rest rs,parts (c::rest) (eA _ x++rs)=v'::parts rest rs:=by
 obtain ⟨b,g⟩:=c;cases b with
 | true =>
  unfold D4 at a;simp only at a;cases d:Br v with
  | none=>rw [d] at a; cases a
  | some l =>
   rw [d] at a
   have:=wH.1 d; subst this
   cases hv with
   | agg hl =>
    obtain ⟨x,f⟩:=wV hl a;refine ⟨x,fun rest rs=>?_⟩;have hn:=vT g x;simp only [parts];rw [<- hn,bp9,bh9,f]
 | false =>
  unfold D4 at a;simp only at a;have hn:=Hc a;obtain ⟨x,f⟩:=wV (.cons hv .nil) a;refine ⟨x,fun rest rs=>?_⟩;simp only [parts];rw [f] <;> rfl
theorem JK:∀ (a es:List TypeDesc) (x:qX a) (y:qX es),∃ z:qX (a++es),eA _ z=eA _ x++eA _ y
 | [],es,x,y=>⟨y,rfl⟩
 | d::a,es,x,y=>by
  obtain ⟨z,b⟩:=JK a es x.2 y;exact ⟨(x.1,z),by simp only [eA,b,List.cons_append]⟩
theorem Av:∀ {cs:List ey} {d b:List Xab},eC ρ d b->Ba cs d=true->∃ x:qX (flat cs),parts cs (eA _ x)=b
 | [],[],_,.nil,_=>⟨(),rfl⟩
 | c::cs,v::d,_,.cons hv f,a=>by
  simp only [Ba,Bool.and_eq_true] at a;obtain ⟨x,g⟩:=Rh hv a.1;obtain ⟨y,i⟩:=Av f a.2;obtain ⟨z,j⟩:=JK c.2 (flat cs) x y;refine ⟨z,?_⟩;show parts (c::cs) (eA (c.2++flat cs) z)=_;rw [j,g,i]
 | [],_::_,_,_,a=>by simp [Ba] at a
 | _::_,[],_,_,a=>by simp [Ba] at a
def xn {q:Bool × List ey} {v v':Xab} (hv:VR ρ v v') (a:IE q v=true):∃ x:qX (flat q.2),v'=rv q.1 q.2 (eA _ x):=by
 obtain ⟨b,cs⟩:=q;cases b with
 | true =>
  unfold IE at a;simp only at a;cases c:OG v with
  | none=>rw [c] at a; cases a
  | some l =>
   rw [c] at a
   have:=FF.1 c; subst this
   cases hv with
   | tuple hl =>
    obtain ⟨x,d⟩:=Av hl a;exact ⟨x,by simp only [rv]; rw [d]⟩
 | false =>
  unfold IE at a;simp only at a;obtain ⟨x,d⟩:=Av (.cons hv .nil) a;exact ⟨x,by simp only [rv]; rw [d]; rfl⟩
variable {H:Nat}
def th (R:Rel C h0 ρ s.σ h) {off n:Nat} {a:List Xab} (d:cells C s H off n=some a) {pl:Pl} (i:ρ H=some pl) :
  a.length=n/\∃ vs',eC ρ a vs'/\aI h ⟨pl.cj,pl.sh+off,none⟩ 0 vs':=by
 unfold cells Oc at d;split at d
 ·rename_i c e m q;obtain ⟨h1,h2⟩:=vZ off n c a d;obtain ⟨cs,f,g,hc,_⟩:=R.row q i;exact ⟨h1,jZ g a 0 fun j v k=>by rw [cc9]; exact hc _ _ (h2 j v k)⟩
 ·rename_i q;obtain ⟨c,hc,d⟩:=YX.1 d;obtain ⟨h1,h2⟩:=vZ off n c a d;obtain ⟨l,cs,e,f,g,o⟩:=R.ro H c hc;rw [R.Q8 H l] at i;cases i;have p:h[H]?=some (.cells cs e f):=by rw [R.base H (fF g)]; exact g
  refine ⟨h1,jZ (pl:=⟨H,0,0⟩) p a 0 fun j v k=>?_⟩;obtain ⟨r,t⟩:=o _ v (h2 j v k);exact ⟨v,by simpa using r,tY 9 v t⟩
 ·cases d
def j8 {v:Xab} {off:Nat}:wy v=some (H,off)↔v=.pointer (some ⟨H,off,none⟩):=by
 unfold wy;split
 ·simp
 ·rename_i hn;simp only [reduceCtorEq,false_iff];intro a; exact hn _ _ a
def VR.wJ {off:Nat} {v':Xab} (hv:VR ρ (.pointer (some ⟨H,off,none⟩)) v'):∃ pl,ρ H=some pl/\v'=.pointer (some ⟨pl.cj,pl.sh+off,none⟩):=by
 cases hv with
 | ptr off h=>exact ⟨_,h,rfl⟩
variable {I:TypeId}
def MF (R : Rel C h0 ρ s.σ h) {v v' u : Xab} {off:Nat} {l : List Xab} (hv : VR ρ v v') (a : CV C I v s = some (H, off, l, u)) :
    ∃ pl l' f, ρ H = some pl /\ v' = .pointer (some ⟨pl.cj, pl.sh + off, none⟩) /\ eC ρ l l' /\ VR ρ u f /\ aI h ⟨pl.cj, pl.sh + off, none⟩ 0 l' /\ cells C s H off l.length = some l /\
      ((cP C.P I = some true /\ ((fB C.P 9 I).length == C.P.cellsOf I) = true /\ f = .agg l'.toArray /\ ∃ x : qX (fB C.P 9 I), eA _ x = l') \/
       (cP C.P I = some false /\ f = l'.headD undef /\ ∃ x : qX (cM C.P I).2, eA _ x = l')) := by
  unfold CV at a;obtain ⟨⟨b1, j⟩, m, a⟩ := YX.1 a;obtain ⟨g, k, a⟩ := YX.1 a;have := j8.1 m; subst this;obtain ⟨pl, c, rfl⟩ := hv.wJ;cases g with
  | true =>
    simp only [TZ] at a;obtain ⟨h1, a⟩ := bI.1 a;obtain ⟨n, hc, a⟩ := YX.1 a;obtain ⟨h2, a⟩ := bI.1 a;cases a;obtain ⟨hn, l', d, i⟩ := th R hc c;obtain ⟨x, a⟩ := wV d h2;exact ⟨pl, l', .agg l'.toArray, c, rfl, d, .agg d, i, by rw [hn]; exact hc, .inl ⟨k, by simpa using h1, rfl, x, a⟩⟩
  | false =>
    simp only [T8] at a;obtain ⟨n, hc, a⟩ := YX.1 a;obtain ⟨h2, a⟩ := bI.1 a;cases a;obtain ⟨hn, l', d, i⟩ := th R hc c;obtain ⟨x, a⟩ := wV d h2;refine ⟨pl, l', l'.headD undef, c, rfl, d, ?_, i, by rw [hn]; exact hc, .inr ⟨k, rfl, x, a⟩⟩;cases d with
    | nil => exact pn
    | cons h _ => exact h
def A9 (R:Rel C h0 ρ s.σ h) {v v' u:Xab} {off:Nat} {l:List Xab} (hv:VR ρ v v') (k:CV C I v s=some (H,off,l,u)) :
  ∃ pl l' c,ρ H=some pl/\eC ρ l l'/\VR ρ u c/\cells C s H off l.length=some l/\∀ (kk:Xax->List Xab->Xab->T) (L:Lp) (K:Xab->Hp->Prop),kk ⟨pl.cj,pl.sh+off,none⟩ l' c L K h ->
   (match v',cP C.P I with
    | .pointer p,some true=>bif (fB C.P 9 I).length==C.P.cellsOf I then T.aR p fun a=>T.af a (fB C.P 9 I) (jW _ fun l=>kk a l (.agg l.toArray)) else T.fail
    | .pointer p,some false=>T.aR p fun a=>T.af a (cM C.P I).2 (jW _ fun l=>kk a l (l.headD undef))
    | _,_=>T.fail) L K h:=by
 obtain ⟨pl,l',c,h1,h2,m,n,i,o,q⟩:=MF R hv k;refine ⟨pl,l',c,h1,m,n,o,fun kk L K hk=>?_⟩;subst h2;rcases q with ⟨f,g,d,x,j⟩ | ⟨f,g,x,d⟩
 ·simp only [f,g,cond_true];subst d;exact ⟨x,by rw [j]; exact i,by rw [dX,j]; exact hk⟩
 ·simp only [f];subst g;exact ⟨x,by rw [d]; exact i,by rw [dX,d]; exact hk⟩
def N2 {v v':Xab} (h:VR ρ v v'):da v'=da v:=by cases h <;> rfl
theorem yh:∀ {l l':List Xab},eC ρ l l'->l'.all da=l.all da
 | _,_,.nil=>rfl
 | _,_,.cons h t=>by rw [ct9,ct9,N2 h,yh t]
def Vl {v v':Xab} (h:VR ρ v v'):fw v'=fw v:=by cases h <;> rfl
def vc {g:Bool} {v v':Xab} {l:List Xab} (hv:VR ρ v v') (a:xr g v=some l):fw v'=g/\∃ l',eC ρ l l'/\l'=(match g with
  | true=>ka v'
  | false=>[v']):=by
 unfold xr at a;cases g with
 | true =>
  have:=wH.1 a; subst this
  cases hv with
  | agg hl=>exact ⟨rfl,_,hl,rfl⟩
 | false =>
  obtain ⟨h1,h2⟩:=bI.1 a;cases h2;refine ⟨by rw [Vl hv]; simpa using h1,_,.cons hv .nil,rfl⟩
def Km (R:Rel C h0 ρ s.σ h) {off:Nat} {f a:List Xab} (hv:eC ρ f a) (d:RT s H off f=some s1) {pl:Pl} (g:ρ H=some pl) :
  zB h ⟨pl.cj,pl.sh+off,none⟩ 0 a/\Rel C h0 ρ s1.σ (tK h ⟨pl.cj,pl.sh+off,none⟩ 0 a):=by
 unfold RT at d;split at d
 ·rename_i c e m i;obtain ⟨h1,h2⟩:=bI.1 d;cases h2;simp only [Bool.and_eq_true,Bool.not_eq_true'] at h1;obtain ⟨⟨⟨h1,h2⟩,j⟩,k⟩:=h1;refine R.store i ?_ g hv (by rw [yh hv]; exact h2) (Zw j) (Zw k);intro l;subst l;cases h1
 ·cases d
def L9 (R:Rel C h0 ρ s.σ h) {t:TypeId} {p p' v v':Xab} (u:VR ρ p p') (hv:VR ρ v v') (hx:HR C.P t p v s=some s1) {k:T} (hk:∀ h1,Rel C h0 ρ s1.σ h1->k L K h1) :
   (match p',cP C.P t with
    | .pointer p,some true=>cond (fw v') (bif (ka v').length==C.P.cellsOf t then T.aR p fun a=>T.ar a (ka v') k else T.fail) T.fail
    | .pointer p,some false=>bif C.P.cellsOf t==1 then cond (fw v') T.fail (T.aR p fun a=>T.ar a [v'] k) else T.fail
    | _,_=>T.fail) L K h:=by
 unfold HR at hx;obtain ⟨⟨b,off⟩,j,d⟩:=YX.1 hx;clear hx
 have:=j8.1 j; subst this
 have hx:=d;clear d;obtain ⟨g,n,hx⟩:=YX.1 hx;obtain ⟨l,hl,hx⟩:=YX.1 hx;obtain ⟨hn,hx⟩:=bI.1 hx;obtain ⟨pl,m,rfl⟩:=u.wJ;obtain ⟨o,l',f,i⟩:=vc hv hl;obtain ⟨q,r⟩:=Km R f hx m;have c:l'.length=C.P.cellsOf t:=by rw [<- f.length]; exact Zd hn
 cases g with
 | true =>
  simp only at i; subst i;simp only [n,o,cond_true]
  have:((ka v').length==C.P.cellsOf t)=true:=by simpa using c
  rw [this];exact ⟨q,hk _ r⟩
 | false =>
  simp only at i; subst i;simp only [n,o,cond_false]
  have:(C.P.cellsOf t==1)=true:=by simp at c; simp [<- c]
  rw [this];exact ⟨q,hk _ r⟩
def jC {o:AO}:Ac s o=some s1↔s.σ.get s.nx=none/\s1=⟨s.σ.put s.nx o,s.nx+1⟩:=by
 unfold Ac;split
 ·rename_i h;simp only [h,Option.some.injEq,true_and];exact eq_comm
 ·rename_i h;simp [h]
def EE (R:Rel C h0 ρ s.σ h) {c c':List Xab} {v:Xab} (hc:eC ρ c c') (b:D9 s I c=some (v,s1)) (P:pA C h0 ρ s1 v kk L K):T.new c' I (fun a=>kk (.pointer (some a))) L K h:=by
 unfold D9 at b;obtain ⟨g,d,b⟩:=YX.1 b;obtain ⟨hn,h2⟩:=jC.1 d;subst h2;cases b;have hb:=bF.new h I c';obtain ⟨f,le⟩:=R.newRow (rest:=[]) (e:=I) (m:=0) (cap:=0) hn hc (by rw [Z2]; exact hb) (Ext.push h _) ad
 have:=VR.ptr (ρ:=kR ρ s.nx ⟨h.size,0,0⟩) 0 (fS _ _ _)
 exact P _ _ _ le f (by simpa using this)
def BF {P:Program} {l:List Xab} (a:zeroOf P I=some l):∃ z,(P.info? I).bind (·.zero)=some z/\l=z.cells.toList/\∀ ρ,eC ρ l l:=by
 unfold zeroOf at a;obtain ⟨z,b,a⟩:=YX.1 a;obtain ⟨h1,h2⟩:=bI.1 a;cases h2;exact ⟨z,b,rfl,fun ρ=>sx (tY 9) _ h1⟩
end
end Go.Sx.Cr
