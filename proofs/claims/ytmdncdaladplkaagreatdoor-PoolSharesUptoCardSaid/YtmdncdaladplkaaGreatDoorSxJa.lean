/- Part of the framework. No condition. -/
import Derived.Test.YtmdncdaladplkaaGreatDoorSxJ
set_option linter.all false
set_option maxHeartbeats 4000000
namespace Go.Sx.Cr
section
variable {C:Cx} {h0:Hp} {ρ:iv} {s s1:CS} {h:Hp} {e:Ev} {e':Env} {L:Lp} {K:Xab->Hp->Prop} {kk:Xab->T}
def Sk {d:TypeDesc} {v v':Xab} (hv:VR ρ v v') (a:xk d v=true):∃ x:Sv d,VO d x=v':=by
 cases d with
 | bool=>cases hv <;> first | exact ⟨_,rfl⟩ | (simp [xk] at a; done)
 | int k=>cases hv <;> first | (simp [xk] at a; done) | (simp only [xk,decide_eq_true_eq] at a; subst a; exact ⟨_,rfl⟩)
 | string=>cases hv <;> first | exact ⟨_,rfl⟩ | (simp [xk] at a; done)
 | pointer _=>cases hv <;> first | exact ⟨none,rfl⟩ | exact ⟨some _,rfl⟩ | (simp [xk] at a; done)
 | slice _=>cases hv <;> first | exact ⟨(none,_,_),rfl⟩ | exact ⟨(some _,_,_),rfl⟩ | (simp [xk] at a; done)
 | map _ _=>cases hv <;> first | exact ⟨none,rfl⟩ | exact ⟨some _,rfl⟩ | (simp [xk] at a; done)
 | _=>exact ⟨v',rfl⟩
theorem wE:∀ {c:List TypeDesc} {f b:List Xab},eu ρ f b->fits c f=true->∃ x:qF c,et c x=b
 | [],[],_,.nil,_=>⟨(),rfl⟩
 | d::c,v::f,_,.cons hv ht,a=>by
  simp only [fits,Bool.and_eq_true] at a;obtain ⟨x,g⟩:=Sk hv a.1;obtain ⟨y,i⟩:=wE ht a.2;exact ⟨(x,y),by simp only [et,g,i]⟩
 | [],_::_,_,_,a=>by simp [fits] at a
 | _::_,[],_,_,a=>by simp [fits] at a
theorem HE:∀ {b:List TypeDesc} {c:List Xab},fits b c=true->c.length=b.length
 | [],[],_=>rfl
 | d::b,v::c,a=>by
  simp only [fits,Bool.and_eq_true] at a;simp [HE a.2]
 | [],_::_,a=>by simp [fits] at a
 | _::_,[],a=>by simp [fits] at a
def wb {v:Xab} {l:List Xab}:BJ v=some l↔v=.agg ⟨l⟩:=by
 unfold BJ;split
 ·simp
 ·rename_i hn;simp only [reduceCtorEq,false_iff];intro a; exact hn _ a
def F6 {v:Xab} {l:List Xab}:PT v=some l↔v=.tuple ⟨l⟩:=by
 unfold PT;split
 ·simp
 ·rename_i hn;simp only [reduceCtorEq,false_iff];intro a; exact hn _ a
def SZ {c:ep} {v v':Xab} (hv:VR ρ v v') (a:Ep c v=true):∃ x:qF c.2,∀ rest rs,parts (c::rest) (et _ x++rs)=v'::parts rest rs:=by
 obtain ⟨b,g⟩:=c;cases b with
 | true =>
  unfold Ep at a;simp only at a;cases d:BJ v with
  | none=>rw [d] at a; cases a
  | some l =>
   rw [d] at a
   have:=wb.1 d; subst this
   cases hv with
   | agg hl =>
    obtain ⟨x,f⟩:=wE hl a;refine ⟨x,fun rest rs=>?_⟩;have hn:=vq g x;simp only [parts];rw [<- hn,el9,ed9,f]
 | false =>
  unfold Ep at a;simp only at a;have hn:=HE a;obtain ⟨x,f⟩:=wE (.cons hv .nil) a;refine ⟨x,fun rest rs=>?_⟩;simp only [parts];rw [f] <;> rfl
theorem Ko:∀ (a es:List TypeDesc) (x:qF a) (y:qF es),∃ z:qF (a++es),et _ z=et _ x++et _ y
 | [],es,x,y=>⟨y,rfl⟩
 | d::a,es,x,y=>by
  obtain ⟨z,b⟩:=Ko a es x.2 y;exact ⟨(x.1,z),by simp only [et,b,List.cons_append]⟩
theorem AA:∀ {cs:List ep} {d b:List Xab},eu ρ d b->Bn cs d=true->∃ x:qF (flat cs),parts cs (et _ x)=b
 | [],[],_,.nil,_=>⟨(),rfl⟩
 | c::cs,v::d,_,.cons hv ht,a=>by
  simp only [Bn,Bool.and_eq_true] at a;obtain ⟨x,f⟩:=SZ hv a.1;obtain ⟨y,g⟩:=AA ht a.2;obtain ⟨z,i⟩:=Ko c.2 (flat cs) x y;refine ⟨z,?_⟩;show parts (c::cs) (et (c.2++flat cs) z)=_;rw [i,f,g]
 | [],_::_,_,_,a=>by simp [Bn] at a
 | _::_,[],_,_,a=>by simp [Bn] at a
def w7 {q:Bool × List ep} {v v':Xab} (hv:VR ρ v v') (a:Jp q v=true):∃ x:qF (flat q.2),v'=rv q.1 q.2 (et _ x):=by
 obtain ⟨b,cs⟩:=q;cases b with
 | true =>
  unfold Jp at a;simp only at a;cases c:PT v with
  | none=>rw [c] at a; cases a
  | some l =>
   rw [c] at a
   have:=F6.1 c; subst this
   cases hv with
   | tuple hl =>
    obtain ⟨x,d⟩:=AA hl a;exact ⟨x,by simp only [rv]; rw [d]⟩
 | false =>
  unfold Jp at a;simp only at a;obtain ⟨x,d⟩:=AA (.cons hv .nil) a;exact ⟨x,by simp only [rv]; rw [d]; rfl⟩
variable {H:Nat}
def sJ (R:Rel C h0 ρ s.σ h) {off n:Nat} {a:List Xab} (d:cells C s H off n=some a) {pl:Pl} (i:ρ H=some pl) :
  a.length=n/\∃ vs',eu ρ a vs'/\aH h ⟨pl.cB,pl.sh+off,none⟩ 0 vs':=by
 unfold cells Pq at d;split at d
 ·rename_i c e m q;obtain ⟨h1,h2⟩:=vC off n c a d;obtain ⟨cs,f,g,hc,_⟩:=R.row q i;exact ⟨h1,jR g a 0 fun j v k=>by rw [ek9]; exact hc _ _ (h2 j v k)⟩
 ·rename_i q;obtain ⟨c,hc,d⟩:=aa9.1 d;obtain ⟨h1,h2⟩:=vC off n c a d;obtain ⟨l,cs,e,f,g,o⟩:=R.ro H c hc;rw [R.SO H l] at i;cases i;have p:h[H]?=some (.cells cs e f):=by rw [R.base H (eV g)]; exact g
  refine ⟨h1,jR (pl:=⟨H,0,0⟩) p a 0 fun j v k=>?_⟩;obtain ⟨r,t⟩:=o _ v (h2 j v k);exact ⟨v,by simpa using r,tB 9 v t⟩
 ·cases d
def jZ {v:Xab} {off:Nat}:vQ v=some (H,off)↔v=.pointer (some ⟨H,off,none⟩):=by
 unfold vQ;split
 ·simp
 ·rename_i hn;simp only [reduceCtorEq,false_iff];intro a; exact hn _ _ a
def VR.we {off:Nat} {v':Xab} (hv:VR ρ (.pointer (some ⟨H,off,none⟩)) v'):∃ pl,ρ H=some pl/\v'=.pointer (some ⟨pl.cB,pl.sh+off,none⟩):=by
 cases hv with
 | ptr off h=>exact ⟨_,h,rfl⟩
variable {O:TypeId}
def NE (R : Rel C h0 ρ s.σ h) {v v' u : Xab} {off:Nat} {l : List Xab} (hv : VR ρ v v') (a : Dd C O v s = some (H, off, l, u)) :
    ∃ pl l' f, ρ H = some pl /\ v' = .pointer (some ⟨pl.cB, pl.sh + off, none⟩) /\ eu ρ l l' /\ VR ρ u f /\ aH h ⟨pl.cB, pl.sh + off, none⟩ 0 l' /\ cells C s H off l.length = some l /\
      ((cH C.P O = some true /\ ((fA C.P 9 O).length == C.P.cellsOf O) = true /\ f = .agg l'.toArray /\ ∃ x : qF (fA C.P 9 O), et _ x = l') \/
       (cH C.P O = some false /\ f = l'.headD undef /\ ∃ x : qF (cM C.P O).2, et _ x = l')) := by
  unfold Dd at a;obtain ⟨⟨o, j⟩, m, a⟩ := aa9.1 a;obtain ⟨g, k, a⟩ := aa9.1 a;have := jZ.1 m; subst this;obtain ⟨pl, c, rfl⟩ := hv.we;cases g with
  | true =>
    simp only [Vt] at a;obtain ⟨h1, a⟩ := bF.1 a;obtain ⟨n, hc, a⟩ := aa9.1 a;obtain ⟨h2, a⟩ := bF.1 a;cases a;obtain ⟨hn, l', d, i⟩ := sJ R hc c;obtain ⟨x, a⟩ := wE d h2;exact ⟨pl, l', .agg l'.toArray, c, rfl, d, .agg d, i, by rw [hn]; exact hc, .inl ⟨k, by simpa using h1, rfl, x, a⟩⟩
  | false =>
    simp only [VC] at a;obtain ⟨n, hc, a⟩ := aa9.1 a;obtain ⟨h2, a⟩ := bF.1 a;cases a;obtain ⟨hn, l', d, i⟩ := sJ R hc c;obtain ⟨x, a⟩ := wE d h2;refine ⟨pl, l', l'.headD undef, c, rfl, d, ?_, i, by rw [hn]; exact hc, .inr ⟨k, rfl, x, a⟩⟩;cases d with
    | nil => exact oM
    | cons h _ => exact h
def Bl (R:Rel C h0 ρ s.σ h) {v v' u:Xab} {off:Nat} {l:List Xab} (hv:VR ρ v v') (k:Dd C O v s=some (H,off,l,u)) :
  ∃ pl l' c,ρ H=some pl/\eu ρ l l'/\VR ρ u c/\cells C s H off l.length=some l/\∀ (kk:Xax->List Xab->Xab->T) (L:Lp) (K:Xab->Hp->Prop),kk ⟨pl.cB,pl.sh+off,none⟩ l' c L K h ->
   (match v',cH C.P O with
    | .pointer p,some true=>bif (fA C.P 9 O).length==C.P.cellsOf O then T.bf p fun a=>T.af a (fA C.P 9 O) (jO _ fun l=>kk a l (.agg l.toArray)) else T.fail
    | .pointer p,some false=>T.bf p fun a=>T.af a (cM C.P O).2 (jO _ fun l=>kk a l (l.headD undef))
    | _,_=>T.fail) L K h:=by
 obtain ⟨pl,l',c,h1,h2,m,n,i,o,q⟩:=NE R hv k;refine ⟨pl,l',c,h1,m,n,o,fun kk L K hk=>?_⟩;subst h2;rcases q with ⟨f,g,d,x,j⟩ | ⟨f,g,x,d⟩
 ·simp only [f,g,cond_true];subst d;exact ⟨x,by rw [j]; exact i,by rw [dU,j]; exact hk⟩
 ·simp only [f];subst g;exact ⟨x,by rw [d]; exact i,by rw [dU,d]; exact hk⟩
def Pb {v v':Xab} (h:VR ρ v v'):dr v'=dr v:=by cases h <;> rfl
theorem ye:∀ {l l':List Xab},eu ρ l l'->l'.all dr=l.all dr
 | _,_,.nil=>rfl
 | _,_,.cons h t=>by rw [ff9,ff9,Pb h,ye t]
def Xa {v v':Xab} (h:VR ρ v v'):fp v'=fp v:=by cases h <;> rfl
def uI {g:Bool} {v v':Xab} {l:List Xab} (hv:VR ρ v v') (a:xc g v=some l):fp v'=g/\∃ l',eu ρ l l'/\l'=(match g with
  | true=>j4 v'
  | false=>[v']):=by
 unfold xc at a;cases g with
 | true =>
  have:=wb.1 a; subst this
  cases hv with
  | agg hl=>exact ⟨rfl,_,hl,rfl⟩
 | false =>
  obtain ⟨h1,h2⟩:=bF.1 a;cases h2;refine ⟨by rw [Xa hv]; simpa using h1,_,.cons hv .nil,rfl⟩
def K3 (R:Rel C h0 ρ s.σ h) {off:Nat} {f a:List Xab} (hv:eu ρ f a) (d:TG s H off f=some s1) {pl:Pl} (g:ρ H=some pl) :
  zB h ⟨pl.cB,pl.sh+off,none⟩ 0 a/\Rel C h0 ρ s1.σ (tg h ⟨pl.cB,pl.sh+off,none⟩ 0 a):=by
 unfold TG at d;split at d
 ·rename_i c e m i;obtain ⟨h1,h2⟩:=bF.1 d;cases h2;simp only [Bool.and_eq_true,Bool.not_eq_true'] at h1;obtain ⟨⟨⟨h1,h2⟩,j⟩,k⟩:=h1;refine R.store i ?_ g hv (by rw [ye hv]; exact h2) (bk9 j) (bk9 k);intro l;subst l;cases h1
 ·cases d
def M2 (R:Rel C h0 ρ s.σ h) {t:TypeId} {p p' v v':Xab} (u:VR ρ p p') (hv:VR ρ v v') (hx:Io C.P t p v s=some s1) {k:T} (hk:∀ h1,Rel C h0 ρ s1.σ h1->k L K h1) :
   (match p',cH C.P t with
    | .pointer p,some true=>cond (fp v') (bif (j4 v').length==C.P.cellsOf t then T.bf p fun a=>T.aD a (j4 v') k else T.fail) T.fail
    | .pointer p,some false=>bif C.P.cellsOf t==1 then cond (fp v') T.fail (T.bf p fun a=>T.aD a [v'] k) else T.fail
    | _,_=>T.fail) L K h:=by
 unfold Io at hx;obtain ⟨⟨b,off⟩,j,d⟩:=aa9.1 hx;clear hx
 have:=jZ.1 j; subst this
 have hx:=d;clear d;obtain ⟨g,n,hx⟩:=aa9.1 hx;obtain ⟨l,hl,hx⟩:=aa9.1 hx;obtain ⟨hn,hx⟩:=bF.1 hx;obtain ⟨pl,m,rfl⟩:=u.we;obtain ⟨o,l',f,i⟩:=uI hv hl;obtain ⟨q,r⟩:=K3 R f hx m;have c:l'.length=C.P.cellsOf t:=by rw [<- f.length]; exact au9 hn
 cases g with
 | true =>
  simp only at i; subst i;simp only [n,o,cond_true]
  have:((j4 v').length==C.P.cellsOf t)=true:=by simpa using c
  rw [this];exact ⟨q,hk _ r⟩
 | false =>
  simp only at i; subst i;simp only [n,o,cond_false]
  have:(C.P.cellsOf t==1)=true:=by simp at c; simp [<- c]
  rw [this];exact ⟨q,hk _ r⟩
def jw {o:AO}:Af s o=some s1↔s.σ.get s.nx=none/\s1=⟨s.σ.put s.nx o,s.nx+1⟩:=by
 unfold Af;split
 ·rename_i h;simp only [h,Option.some.injEq,true_and];exact eq_comm
 ·rename_i h;simp [h]
def E0 (R:Rel C h0 ρ s.σ h) {c c':List Xab} {v:Xab} (hc:eu ρ c c') (b:Ew s O c=some (v,s1)) (P:oV C h0 ρ s1 v kk L K):T.new c' O (fun a=>kk (.pointer (some a))) L K h:=by
 unfold Ew at b;obtain ⟨g,d,b⟩:=aa9.1 b;obtain ⟨hn,h2⟩:=jw.1 d;subst h2;cases b;have hb:=bC.new h O c';obtain ⟨f,le⟩:=R.newRow (rest:=[]) (e:=O) (m:=0) (cap:=0) hn hc (by rw [bz9]; exact hb) (Ext.push h _) ad
 have:=VR.ptr (ρ:=kO ρ s.nx ⟨h.size,0,0⟩) 0 (fN _ _ _)
 exact P _ _ _ le f (by simpa using this)
def BU {P:Program} {l:List Xab} (a:zeroOf P O=some l):∃ z,(P.info? O).bind (·.zero)=some z/\l=z.cells.toList/\∀ ρ,eu ρ l l:=by
 unfold zeroOf at a;obtain ⟨z,b,a⟩:=aa9.1 a;obtain ⟨h1,h2⟩:=bF.1 a;cases h2;exact ⟨z,b,rfl,fun ρ=>rS (tB 9) _ h1⟩
end
end Go.Sx.Cr
