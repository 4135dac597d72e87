/- Part of the framework. No condition. -/
import Derived.Test.YtmdncdaladplkaaGreatDoorSxJ
set_option linter.all false
set_option maxHeartbeats 4000000
namespace Go.Sx.Cr
section
variable {C:Cx} {h0:Hp} {ρ:gX} {s s1:CS} {h:Hp} {e:Ev} {e':Env} {L:Lp} {K:Xab->Hp->Prop} {kk:Xab->T}
def R6 {d:TypeDesc} {v v':Xab} (hv:VR ρ v v') (a:xe d v=true):∃ x:Sv d,VA d x=v':=by
 cases d with
 | bool=>cases hv <;> first | exact ⟨_,rfl⟩ | (simp [xe] at a; done)
 | int k=>cases hv <;> first | (simp [xe] at a; done) | (simp only [xe,decide_eq_true_eq] at a; subst a; exact ⟨_,rfl⟩)
 | string=>cases hv <;> first | exact ⟨_,rfl⟩ | (simp [xe] at a; done)
 | pointer _=>cases hv <;> first | exact ⟨none,rfl⟩ | exact ⟨some _,rfl⟩ | (simp [xe] at a; done)
 | slice _=>cases hv <;> first | exact ⟨(none,_,_),rfl⟩ | exact ⟨(some _,_,_),rfl⟩ | (simp [xe] at a; done)
 | map _ _=>cases hv <;> first | exact ⟨none,rfl⟩ | exact ⟨some _,rfl⟩ | (simp [xe] at a; done)
 | _=>exact ⟨v',rfl⟩
theorem wx:∀ {c:List TypeDesc} {f b:List Xab},et ρ f b->fits c f=true->∃ x:qH c,ep c x=b
 | [],[],_,.nil,_=>⟨(),rfl⟩
 | d::c,v::f,_,.cons hv ht,a=>by
  simp only [fits,Bool.and_eq_true] at a;obtain ⟨x,g⟩:=R6 hv a.1;obtain ⟨y,i⟩:=wx ht a.2;exact ⟨(x,y),by simp only [ep,g,i]⟩
 | [],_::_,_,_,a=>by simp [fits] at a
 | _::_,[],_,_,a=>by simp [fits] at a
theorem Hy:∀ {b:List TypeDesc} {c:List Xab},fits b c=true->c.length=b.length
 | [],[],_=>rfl
 | d::b,v::c,a=>by
  simp only [fits,Bool.and_eq_true] at a;simp [Hy a.2]
 | [],_::_,a=>by simp [fits] at a
 | _::_,[],a=>by simp [fits] at a
def vW {v:Xab} {l:List Xab}:BA v=some l↔v=.agg ⟨l⟩:=by
 unfold BA;split
 ·simp
 ·rename_i hn;simp only [reduceCtorEq,false_iff];intro a; exact hn _ a
def F1 {v:Xab} {l:List Xab}:PI v=some l↔v=.tuple ⟨l⟩:=by
 unfold PI;split
 ·simp
 ·rename_i hn;simp only [reduceCtorEq,false_iff];intro a; exact hn _ a
def SI {c:ee} {v v':Xab} (hv:VR ρ v v') (a:Ed c v=true):∃ x:qH c.2,∀ rest rs,parts (c::rest) (ep _ x++rs)=v'::parts rest rs:=by
 obtain ⟨b,g⟩:=c;cases b with
 | true =>
  unfold Ed at a;simp only at a;cases d:BA v with
  | none=>rw [d] at a; cases a
  | some l =>
   rw [d] at a
   have:=vW.1 d; subst this
   cases hv with
   | agg hl =>
    obtain ⟨x,f⟩:=wx hl a;refine ⟨x,fun rest rs=>?_⟩;have hn:=vk g x;simp only [parts];rw [<- hn,ej9,ea9,f]
 | false =>
  unfold Ed at a;simp only at a;have hn:=Hy a;obtain ⟨x,f⟩:=wx (.cons hv .nil) a;refine ⟨x,fun rest rs=>?_⟩;simp only [parts];rw [f] <;> rfl
theorem Kl:∀ (a es:List TypeDesc) (x:qH a) (y:qH es),∃ z:qH (a++es),ep _ z=ep _ x++ep _ y
 | [],es,x,y=>⟨y,rfl⟩
 | d::a,es,x,y=>by
  obtain ⟨z,b⟩:=Kl a es x.2 y;exact ⟨(x.1,z),by simp only [ep,b,List.cons_append]⟩
theorem As:∀ {cs:List ee} {d b:List Xab},et ρ d b->Bf cs d=true->∃ x:qH (flat cs),parts cs (ep _ x)=b
 | [],[],_,.nil,_=>⟨(),rfl⟩
 | c::cs,v::d,_,.cons hv ht,a=>by
  simp only [Bf,Bool.and_eq_true] at a;obtain ⟨x,f⟩:=SI hv a.1;obtain ⟨y,g⟩:=As ht a.2;obtain ⟨z,i⟩:=Kl c.2 (flat cs) x y;refine ⟨z,?_⟩;show parts (c::cs) (ep (c.2++flat cs) z)=_;rw [i,f,g]
 | [],_::_,_,_,a=>by simp [Bf] at a
 | _::_,[],_,_,a=>by simp [Bf] at a
def wU {q:Bool × List ee} {v v':Xab} (hv:VR ρ v v') (a:Jj q v=true):∃ x:qH (flat q.2),v'=rv q.1 q.2 (ep _ x):=by
 obtain ⟨b,cs⟩:=q;cases b with
 | true =>
  unfold Jj at a;simp only at a;cases c:PI v with
  | none=>rw [c] at a; cases a
  | some l =>
   rw [c] at a
   have:=F1.1 c; subst this
   cases hv with
   | tuple hl =>
    obtain ⟨x,d⟩:=As hl a;exact ⟨x,by simp only [rv]; rw [d]⟩
 | false =>
  unfold Jj at a;simp only at a;obtain ⟨x,d⟩:=As (.cons hv .nil) a;exact ⟨x,by simp only [rv]; rw [d]; rfl⟩
variable {H:Nat}
def sF (R:Rel C h0 ρ s.σ h) {off n:Nat} {a:List Xab} (d:cells C s H off n=some a) {pl:Pl} (i:ρ H=some pl) :
  a.length=n/\∃ vs',et ρ a vs'/\aF h ⟨pl.cw,pl.sh+off,none⟩ 0 vs':=by
 unfold cells Pd at d;split at d
 ·rename_i c e m q;obtain ⟨h1,h2⟩:=vv off n c a d;obtain ⟨cs,f,g,hc,_⟩:=R.row q i;exact ⟨h1,jM g a 0 fun j v k=>by rw [eo9]; exact hc _ _ (h2 j v k)⟩
 ·rename_i q;obtain ⟨c,hc,d⟩:=aa9.1 d;obtain ⟨h1,h2⟩:=vv off n c a d;obtain ⟨l,cs,e,f,g,o⟩:=R.ro H c hc;rw [R.Sw H l] at i;cases i;have p:h[H]?=some (.cells cs e f):=by rw [R.base H (eP g)]; exact g
  refine ⟨h1,jM (pl:=⟨H,0,0⟩) p a 0 fun j v k=>?_⟩;obtain ⟨r,t⟩:=o _ v (h2 j v k);exact ⟨v,by simpa using r,tu 9 v t⟩
 ·cases d
def jW {v:Xab} {off:Nat}:vM v=some (H,off)↔v=.pointer (some ⟨H,off,none⟩):=by
 unfold vM;split
 ·simp
 ·rename_i hn;simp only [reduceCtorEq,false_iff];intro a; exact hn _ _ a
def VR.vY {off:Nat} {v':Xab} (hv:VR ρ (.pointer (some ⟨H,off,none⟩)) v'):∃ pl,ρ H=some pl/\v'=.pointer (some ⟨pl.cw,pl.sh+off,none⟩):=by
 cases hv with
 | ptr off h=>exact ⟨_,h,rfl⟩
variable {O:TypeId}
def Ns (R : Rel C h0 ρ s.σ h) {v v' u : Xab} {off:Nat} {l : List Xab} (hv : VR ρ v v') (a : C3 C O v s = some (H, off, l, u)) :
    ∃ pl l' f, ρ H = some pl /\ v' = .pointer (some ⟨pl.cw, pl.sh + off, none⟩) /\ et ρ l l' /\ VR ρ u f /\ aF h ⟨pl.cw, pl.sh + off, none⟩ 0 l' /\ cells C s H off l.length = some l /\
      ((cK C.P O = some true /\ ((fv C.P 9 O).length == C.P.cellsOf O) = true /\ f = .agg l'.toArray /\ ∃ x : qH (fv C.P 9 O), ep _ x = l') \/
       (cK C.P O = some false /\ f = l'.headD undef /\ ∃ x : qH (cJ C.P O).2, ep _ x = l')) := by
  unfold C3 at a;obtain ⟨⟨o, j⟩, m, a⟩ := aa9.1 a;obtain ⟨g, k, a⟩ := aa9.1 a;have := jW.1 m; subst this;obtain ⟨pl, c, rfl⟩ := hv.vY;cases g with
  | true =>
    simp only [Vf] at a;obtain ⟨h1, a⟩ := bt.1 a;obtain ⟨n, hc, a⟩ := aa9.1 a;obtain ⟨h2, a⟩ := bt.1 a;cases a;obtain ⟨hn, l', d, i⟩ := sF R hc c;obtain ⟨x, a⟩ := wx d h2;exact ⟨pl, l', .agg l'.toArray, c, rfl, d, .agg d, i, by rw [hn]; exact hc, .inl ⟨k, by simpa using h1, rfl, x, a⟩⟩
  | false =>
    simp only [Vo] at a;obtain ⟨n, hc, a⟩ := aa9.1 a;obtain ⟨h2, a⟩ := bt.1 a;cases a;obtain ⟨hn, l', d, i⟩ := sF R hc c;obtain ⟨x, a⟩ := wx d h2;refine ⟨pl, l', l'.headD undef, c, rfl, d, ?_, i, by rw [hn]; exact hc, .inr ⟨k, rfl, x, a⟩⟩;cases d with
    | nil => exact oN
    | cons h _ => exact h
def Bd (R:Rel C h0 ρ s.σ h) {v v' u:Xab} {off:Nat} {l:List Xab} (hv:VR ρ v v') (k:C3 C O v s=some (H,off,l,u)) :
  ∃ pl l' c,ρ H=some pl/\et ρ l l'/\VR ρ u c/\cells C s H off l.length=some l/\∀ (kk:Xax->List Xab->Xab->T) (L:Lp) (K:Xab->Hp->Prop),kk ⟨pl.cw,pl.sh+off,none⟩ l' c L K h ->
   (match v',cK C.P O with
    | .pointer p,some true=>bif (fv C.P 9 O).length==C.P.cellsOf O then T.bi p fun a=>T.af a (fv C.P 9 O) (jJ _ fun l=>kk a l (.agg l.toArray)) else T.fail
    | .pointer p,some false=>T.bi p fun a=>T.af a (cJ C.P O).2 (jJ _ fun l=>kk a l (l.headD undef))
    | _,_=>T.fail) L K h:=by
 obtain ⟨pl,l',c,h1,h2,m,n,i,o,q⟩:=Ns R hv k;refine ⟨pl,l',c,h1,m,n,o,fun kk L K hk=>?_⟩;subst h2;rcases q with ⟨f,g,d,x,j⟩ | ⟨f,g,x,d⟩
 ·simp only [f,g,cond_true];subst d;exact ⟨x,by rw [j]; exact i,by rw [dP,j]; exact hk⟩
 ·simp only [f];subst g;exact ⟨x,by rw [d]; exact i,by rw [dP,d]; exact hk⟩
def O2 {v v':Xab} (h:VR ρ v v'):dl v'=dl v:=by cases h <;> rfl
theorem xW:∀ {l l':List Xab},et ρ l l'->l'.all dl=l.all dl
 | _,_,.nil=>rfl
 | _,_,.cons h t=>by rw [fg9,fg9,O2 h,xW t]
def WV {v v':Xab} (h:VR ρ v v'):fk v'=fk v:=by cases h <;> rfl
def uF {g:Bool} {v v':Xab} {l:List Xab} (hv:VR ρ v v') (a:wX g v=some l):fk v'=g/\∃ l',et ρ l l'/\l'=(match g with
  | true=>j2 v'
  | false=>[v']):=by
 unfold wX at a;cases g with
 | true =>
  have:=vW.1 a; subst this
  cases hv with
  | agg hl=>exact ⟨rfl,_,hl,rfl⟩
 | false =>
  obtain ⟨h1,h2⟩:=bt.1 a;cases h2;refine ⟨by rw [WV hv]; simpa using h1,_,.cons hv .nil,rfl⟩
def K0 (R:Rel C h0 ρ s.σ h) {off:Nat} {f a:List Xab} (hv:et ρ f a) (d:Tr s H off f=some s1) {pl:Pl} (g:ρ H=some pl) :
  zg h ⟨pl.cw,pl.sh+off,none⟩ 0 a/\Rel C h0 ρ s1.σ (sY h ⟨pl.cw,pl.sh+off,none⟩ 0 a):=by
 unfold Tr at d;split at d
 ·rename_i c e m i;obtain ⟨h1,h2⟩:=bt.1 d;cases h2;simp only [Bool.and_eq_true,Bool.not_eq_true'] at h1;obtain ⟨⟨⟨h1,h2⟩,j⟩,k⟩:=h1;refine R.store i ?_ g hv (by rw [xW hv]; exact h2) (bi9 j) (bi9 k);intro l;subst l;cases h1
 ·cases d
def MT (R:Rel C h0 ρ s.σ h) {t:TypeId} {p p' v v':Xab} (u:VR ρ p p') (hv:VR ρ v v') (hx:Ij C.P t p v s=some s1) {k:T} (hk:∀ h1,Rel C h0 ρ s1.σ h1->k L K h1) :
   (match p',cK C.P t with
    | .pointer p,some true=>cond (fk v') (bif (j2 v').length==C.P.cellsOf t then T.bi p fun a=>T.ax a (j2 v') k else T.fail) T.fail
    | .pointer p,some false=>bif C.P.cellsOf t==1 then cond (fk v') T.fail (T.bi p fun a=>T.ax a [v'] k) else T.fail
    | _,_=>T.fail) L K h:=by
 unfold Ij at hx;obtain ⟨⟨b,off⟩,j,d⟩:=aa9.1 hx;clear hx
 have:=jW.1 j; subst this
 have hx:=d;clear d;obtain ⟨g,n,hx⟩:=aa9.1 hx;obtain ⟨l,hl,hx⟩:=aa9.1 hx;obtain ⟨hn,hx⟩:=bt.1 hx;obtain ⟨pl,m,rfl⟩:=u.vY;obtain ⟨o,l',f,i⟩:=uF hv hl;obtain ⟨q,r⟩:=K0 R f hx m;have c:l'.length=C.P.cellsOf t:=by rw [<- f.length]; exact av9 hn
 cases g with
 | true =>
  simp only at i; subst i;simp only [n,o,cond_true]
  have:((j2 v').length==C.P.cellsOf t)=true:=by simpa using c
  rw [this];exact ⟨q,hk _ r⟩
 | false =>
  simp only at i; subst i;simp only [n,o,cond_false]
  have:(C.P.cellsOf t==1)=true:=by simp at c; simp [<- c]
  rw [this];exact ⟨q,hk _ r⟩
def jm {o:AO}:zY s o=some s1↔s.σ.get s.nx=none/\s1=⟨s.σ.put s.nx o,s.nx+1⟩:=by
 unfold zY;split
 ·rename_i h;simp only [h,Option.some.injEq,true_and];exact eq_comm
 ·rename_i h;simp [h]
def EO (R:Rel C h0 ρ s.σ h) {c c':List Xab} {v:Xab} (hc:et ρ c c') (b:Ej s O c=some (v,s1)) (P:oW C h0 ρ s1 v kk L K):T.new c' O (fun a=>kk (.pointer (some a))) L K h:=by
 unfold Ej at b;obtain ⟨g,d,b⟩:=aa9.1 b;obtain ⟨hn,h2⟩:=jm.1 d;subst h2;cases b;have hb:=br.new h O c';obtain ⟨f,le⟩:=R.newRow (rest:=[]) (e:=O) (m:=0) (cap:=0) hn hc (by rw [bz9]; exact hb) (Ext.push h _) ad
 have:=VR.ptr (ρ:=kR ρ s.nx ⟨h.size,0,0⟩) 0 (fJ _ _ _)
 exact P _ _ _ le f (by simpa using this)
def BN {P:Program} {l:List Xab} (a:zeroOf P O=some l):∃ z,(P.info? O).bind (·.zero)=some z/\l=z.cells.toList/\∀ ρ,et ρ l l:=by
 unfold zeroOf at a;obtain ⟨z,b,a⟩:=aa9.1 a;obtain ⟨h1,h2⟩:=bt.1 a;cases h2;exact ⟨z,b,rfl,fun ρ=>rP (tu 9) _ h1⟩
end
end Go.Sx.Cr
