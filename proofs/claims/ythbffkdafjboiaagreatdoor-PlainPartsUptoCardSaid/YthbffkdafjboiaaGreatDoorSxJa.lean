/- Part of the framework. No condition. -/
import Derived.Test.YthbffkdafjboiaaGreatDoorSxJ
set_option linter.all false
set_option maxHeartbeats 4000000
namespace Go.Sx.Cr
section
variable {C:Cx} {h0:Hp} {ρ:gn} {s s1:CS} {h:Hp} {e:Ev} {e':Env} {L:Lp} {K:ZB->Hp->Prop} {kk:ZB->T}
def OA {d:TypeDesc} {v v':ZB} (hv:VR ρ v v') (hf:vc d v=true):∃ x:Sv d,RS d x=v':=by
 cases d with
 | bool=>cases hv <;> first | exact ⟨_,rfl⟩ | (simp [vc] at hf; done)
 | int k=>cases hv <;> first | (simp [vc] at hf; done) | (simp only [vc,decide_eq_true_eq] at hf; subst hf; exact ⟨_,rfl⟩)
 | string=>cases hv <;> first | exact ⟨_,rfl⟩ | (simp [vc] at hf; done)
 | pointer _=>cases hv <;> first | exact ⟨none,rfl⟩ | exact ⟨some _,rfl⟩ | (simp [vc] at hf; done)
 | slice _=>cases hv <;> first | exact ⟨(none,_,_),rfl⟩ | exact ⟨(some _,_,_),rfl⟩ | (simp [vc] at hf; done)
 | map _ _=>cases hv <;> first | exact ⟨none,rfl⟩ | exact ⟨some _,rfl⟩ | (simp [vc] at hf; done)
 | _=>exact ⟨v',rfl⟩
theorem uA:∀ {ds:List TypeDesc} {vs vs':List ZB},dQ ρ vs vs'->fits ds vs=true->∃ x:qb ds,dZ ds x=vs'
 | [],[],_,.nil,_=>⟨(),rfl⟩
 | d::ds,v::vs,_,.cons hv ht,hf=>by
  simp only [fits,Bool.and_eq_true] at hf;obtain ⟨x,hx⟩:=OA hv hf.1;obtain ⟨y,hy⟩:=uA ht hf.2;exact ⟨(x,y),by simp only [dZ,hx,hy]⟩
 | [],_::_,_,_,hf=>by simp [fits] at hf
 | _::_,[],_,_,hf=>by simp [fits] at hf
theorem Fi:∀ {ds:List TypeDesc} {vs:List ZB},fits ds vs=true->vs.length=ds.length
 | [],[],_=>rfl
 | d::ds,v::vs,hf=>by
  simp only [fits,Bool.and_eq_true] at hf;simp [Fi hf.2]
 | [],_::_,hf=>by simp [fits] at hf
 | _::_,[],hf=>by simp [fits] at hf
def uh {v:ZB} {l:List ZB}:zL v=some l↔v=.agg ⟨l⟩:=by
 unfold zL;split
 ·simp
 ·rename_i hn;simp only [reduceCtorEq,false_iff];intro hh; exact hn _ hh
def DI {v:ZB} {l:List ZB}:Mu v=some l↔v=.tuple ⟨l⟩:=by
 unfold Mu;split
 ·simp
 ·rename_i hn;simp only [reduceCtorEq,false_iff];intro hh; exact hn _ hh
def O1 {c:fE} {v v':ZB} (hv:VR ρ v v') (hf:Cg c v=true):∃ x:qb c.2,∀ rest rs,parts (c::rest) (dZ _ x++rs)=v'::parts rest rs:=by
 obtain ⟨b,ds⟩:=c;cases b with
 | true =>
  unfold Cg at hf;simp only at hf;cases ha:zL v with
  | none=>rw [ha] at hf; cases hf
  | some l =>
   rw [ha] at hf
   have:=uh.1 ha; subst this
   cases hv with
   | agg hl =>
    obtain ⟨x,hx⟩:=uA hl hf;refine ⟨x,fun rest rs=>?_⟩;have hn:=tG ds x;simp only [parts];rw [<- hn,YW,YO,hx]
 | false =>
  unfold Cg at hf;simp only at hf;have hn:=Fi hf;obtain ⟨x,hx⟩:=uA (.cons hv .nil) hf;refine ⟨x,fun rest rs=>?_⟩;simp only [parts];rw [hx] <;> rfl
theorem HJ:∀ (ds es:List TypeDesc) (x:qb ds) (y:qb es),∃ z:qb (ds++es),dZ _ z=dZ _ x++dZ _ y
 | [],es,x,y=>⟨y,rfl⟩
 | d::ds,es,x,y=>by
  obtain ⟨z,hz⟩:=HJ ds es x.2 y;exact ⟨(x.1,z),by simp only [dZ,hz,List.cons_append]⟩
theorem yB:∀ {cs:List fE} {vs vs':List ZB},dQ ρ vs vs'->zr cs vs=true->∃ x:qb (flat cs),parts cs (dZ _ x)=vs'
 | [],[],_,.nil,_=>⟨(),rfl⟩
 | c::cs,v::vs,_,.cons hv ht,hf=>by
  simp only [zr,Bool.and_eq_true] at hf;obtain ⟨x,hx⟩:=O1 hv hf.1;obtain ⟨y,hy⟩:=yB ht hf.2;obtain ⟨z,hz⟩:=HJ c.2 (flat cs) x y;refine ⟨z,?_⟩;show parts (c::cs) (dZ (c.2++flat cs) z)=_;rw [hz,hx,hy]
 | [],_::_,_,_,hf=>by simp [zr] at hf
 | _::_,[],_,_,hf=>by simp [zr] at hf
def uT {q:Bool × List fE} {v v':ZB} (hv:VR ρ v v') (hf:GJ q v=true):∃ x:qb (flat q.2),v'=rv q.1 q.2 (dZ _ x):=by
 obtain ⟨b,cs⟩:=q;cases b with
 | true =>
  unfold GJ at hf;simp only at hf;cases ha:Mu v with
  | none=>rw [ha] at hf; cases hf
  | some l =>
   rw [ha] at hf
   have:=DI.1 ha; subst this
   cases hv with
   | tuple hl =>
    obtain ⟨x,hx⟩:=yB hl hf;exact ⟨x,by simp only [rv]; rw [hx]⟩
 | false =>
  unfold GJ at hf;simp only at hf;obtain ⟨x,hx⟩:=yB (.cons hv .nil) hf;exact ⟨x,by simp only [rv]; rw [hx]; rfl⟩
def qP (R:Rel C h0 ρ s.σ h) {b off n:Nat} {vs:List ZB} (hx:cells C s b off n=some vs) {pl:Pl} (hp:ρ b=some pl) :
  vs.length=n/\∃ vs',dQ ρ vs vs'/\aJ h ⟨pl.cj,pl.sh+off,none⟩ 0 vs':=by
 unfold cells L5 at hx;split at hx
 ·rename_i c e m hb;obtain ⟨h1,h2⟩:=tN off n c vs hx;obtain ⟨cs,f,hg,hc,_⟩:=R.row hb hp;exact ⟨h1,jm hg vs 0 fun j v hj=>by rw [Zi]; exact hc _ _ (h2 j v hj)⟩
 ·rename_i hb;obtain ⟨c,hc,hx⟩:=W1.1 hx;obtain ⟨h1,h2⟩:=tN off n c vs hx;obtain ⟨hlt,cs,e,f,hg,hcs⟩:=R.ro b c hc;rw [R.OT b hlt] at hp;cases hp;have hg':h[b]?=some (.cells cs e f):=by rw [R.base b (eX hg)]; exact hg
  refine ⟨h1,jm (pl:=⟨b,0,0⟩) hg' vs 0 fun j v hj=>?_⟩;obtain ⟨e1,e2⟩:=hcs _ v (h2 j v hj);exact ⟨v,by simpa using e1,rI 9 v e2⟩
 ·cases hx
def jv {v:ZB} {b off:Nat}:tY v=some (b,off)↔v=.pointer (some ⟨b,off,none⟩):=by
 unfold tY;split
 ·simp
 ·rename_i hn;simp only [reduceCtorEq,false_iff];intro hh; exact hn _ _ hh
def VR.uj {b off:Nat} {v':ZB} (hv:VR ρ (.pointer (some ⟨b,off,none⟩)) v'):∃ pl,ρ b=some pl/\v'=.pointer (some ⟨pl.cj,pl.sh+off,none⟩):=by
 cases hv with
 | ptr off h=>exact ⟨_,h,rfl⟩
def Kq (R : Rel C h0 ρ s.σ h) {t : TypeId} {v v' u : ZB} {b off : Nat} {l : List ZB} (hv : VR ρ v v') (hx : A' C t v s = some (b, off, l, u)) :
    ∃ pl l' u', ρ b = some pl /\ v' = .pointer (some ⟨pl.cj, pl.sh + off, none⟩) /\ dQ ρ l l' /\ VR ρ u u' /\ aJ h ⟨pl.cj, pl.sh + off, none⟩ 0 l' /\ cells C s b off l.length = some l /\
      ((cB C.P t = some true /\ ((eU C.P 9 t).length == C.P.cellsOf t) = true /\ u' = .agg l'.toArray /\ ∃ x : qb (eU C.P 9 t), dZ _ x = l') \/
       (cB C.P t = some false /\ u' = l'.headD undef /\ ∃ x : qb (cz C.P t).2, dZ _ x = l')) := by
  unfold A' at hx;obtain ⟨⟨b1, off1⟩, hp, hx⟩ := W1.1 hx;obtain ⟨g, hg, hx⟩ := W1.1 hx;have := jv.1 hp; subst this;obtain ⟨pl, hpl, rfl⟩ := hv.uj;cases g with
  | true =>
    simp only [Ry] at hx;obtain ⟨h1, hx⟩ := bq.1 hx;obtain ⟨vs, hc, hx⟩ := W1.1 hx;obtain ⟨h2, hx⟩ := bq.1 hx;cases hx;obtain ⟨hn, l', h3, h4⟩ := qP R hc hpl;obtain ⟨x, hx⟩ := uA h3 h2;exact ⟨pl, l', .agg l'.toArray, hpl, rfl, h3, .agg h3, h4, by rw [hn]; exact hc, .inl ⟨hg, by simpa using h1, rfl, x, hx⟩⟩
  | false =>
    simp only [RI] at hx;obtain ⟨vs, hc, hx⟩ := W1.1 hx;obtain ⟨h2, hx⟩ := bq.1 hx;cases hx;obtain ⟨hn, l', h3, h4⟩ := qP R hc hpl;obtain ⟨x, hx⟩ := uA h3 h2;refine ⟨pl, l', l'.headD undef, hpl, rfl, h3, ?_, h4, by rw [hn]; exact hc, .inr ⟨hg, rfl, x, hx⟩⟩;cases h3 with
    | nil => exact nB
    | cons h _ => exact h
def zp (R:Rel C h0 ρ s.σ h) {t:TypeId} {v v' u:ZB} {b off:Nat} {l:List ZB} (hv:VR ρ v v') (hx:A' C t v s=some (b,off,l,u)) :
  ∃ pl l' u',ρ b=some pl/\dQ ρ l l'/\VR ρ u u'/\cells C s b off l.length=some l/\∀ (kk:Zx->List ZB->ZB->T) (L:Lp) (K:ZB->Hp->Prop),kk ⟨pl.cj,pl.sh+off,none⟩ l' u' L K h ->
   (match v',cB C.P t with
    | .pointer p,some true=>bif (eU C.P 9 t).length==C.P.cellsOf t then T.bF p fun a=>T.ah a (eU C.P 9 t) (jj _ fun l=>kk a l (.agg l.toArray)) else T.fail
    | .pointer p,some false=>T.bF p fun a=>T.ah a (cz C.P t).2 (jj _ fun l=>kk a l (l.headD undef))
    | _,_=>T.fail) L K h:=by
 obtain ⟨pl,l',u',h1,h2,h3,h4,h5,h6,h7⟩:=Kq R hv hx;refine ⟨pl,l',u',h1,h3,h4,h6,fun kk L K hk=>?_⟩;subst h2;rcases h7 with ⟨e1,e2,e3,x,e4⟩ | ⟨e1,e2,x,e3⟩
 ·simp only [e1,e2,cond_true];subst e3;exact ⟨x,by rw [e4]; exact h5,by rw [dE,e4]; exact hk⟩
 ·simp only [e1];subst e2;exact ⟨x,by rw [e3]; exact h5,by rw [dE,e3]; exact hk⟩
def LQ {v v':ZB} (h:VR ρ v v'):cX v'=cX v:=by cases h <;> rfl
theorem wj:∀ {l l':List ZB},dQ ρ l l'->l'.all cX=l.all cX
 | _,_,.nil=>rfl
 | _,_,.cons h t=>by rw [Zd,Zd,LQ h,wj t]
def Tf {v v':ZB} (h:VR ρ v v'):eN v'=eN v:=by cases h <;> rfl
def sU {g:Bool} {v v':ZB} {l:List ZB} (hv:VR ρ v v') (hx:uW g v=some l):eN v'=g/\∃ l',dQ ρ l l'/\l'=(match g with
  | true=>jy v'
  | false=>[v']):=by
 unfold uW at hx;cases g with
 | true =>
  have:=uh.1 hx; subst this
  cases hv with
  | agg hl=>exact ⟨rfl,_,hl,rfl⟩
 | false =>
  obtain ⟨h1,h2⟩:=bq.1 hx;cases h2;refine ⟨by rw [Tf hv]; simpa using h1,_,.cons hv .nil,rfl⟩
def Il (R:Rel C h0 ρ s.σ h) {b off:Nat} {vs vs':List ZB} (hv:dQ ρ vs vs') (hx:PF s b off vs=some s1) {pl:Pl} (hp:ρ b=some pl) :
  xK h ⟨pl.cj,pl.sh+off,none⟩ 0 vs'/\Rel C h0 ρ s1.σ (rp h ⟨pl.cj,pl.sh+off,none⟩ 0 vs'):=by
 unfold PF at hx;split at hx
 ·rename_i c e m hb;obtain ⟨h1,h2⟩:=bq.1 hx;cases h2;simp only [Bool.and_eq_true,Bool.not_eq_true'] at h1;obtain ⟨⟨⟨h1,h2⟩,h3⟩,h4⟩:=h1;refine R.store hb ?_ hp hv (by rw [wj hv]; exact h2) (Xx h3) (Xx h4);intro hm;subst hm;cases h1
 ·cases hx
def JW (R:Rel C h0 ρ s.σ h) {t:TypeId} {p p' v v':ZB} (hp:VR ρ p p') (hv:VR ρ v v') (hx:FZ C.P t p v s=some s1) {k:T} (hk:∀ h1,Rel C h0 ρ s1.σ h1->k L K h1) :
   (match p',cB C.P t with
    | .pointer p,some true=>cond (eN v') (bif (jy v').length==C.P.cellsOf t then T.bF p fun a=>T.aE a (jy v') k else T.fail) T.fail
    | .pointer p,some false=>bif C.P.cellsOf t==1 then cond (eN v') T.fail (T.bF p fun a=>T.aE a [v'] k) else T.fail
    | _,_=>T.fail) L K h:=by
 unfold FZ at hx;obtain ⟨⟨b,off⟩,hpp,hx0⟩:=W1.1 hx;clear hx
 have:=jv.1 hpp; subst this
 have hx:=hx0;clear hx0;obtain ⟨g,hg,hx⟩:=W1.1 hx;obtain ⟨l,hl,hx⟩:=W1.1 hx;obtain ⟨hn,hx⟩:=bq.1 hx;obtain ⟨pl,hpl,rfl⟩:=hp.uj;obtain ⟨ha,l',hl',he⟩:=sU hv hl;obtain ⟨k1,k2⟩:=Il R hl' hx hpl;have hn':l'.length=C.P.cellsOf t:=by rw [<- hl'.length]; exact Xg hn
 cases g with
 | true =>
  simp only at he; subst he;simp only [hg,ha,cond_true]
  have:((jy v').length==C.P.cellsOf t)=true:=by simpa using hn'
  rw [this];exact ⟨k1,hk _ k2⟩
 | false =>
  simp only at he; subst he;simp only [hg,ha,cond_false]
  have:(C.P.cellsOf t==1)=true:=by simp at hn'; simp [<- hn']
  rw [this];exact ⟨k1,hk _ k2⟩
def iO {o:AO}:yj s o=some s1↔s.σ.get s.nx=none/\s1=⟨s.σ.put s.nx o,s.nx+1⟩:=by
 unfold yj;split
 ·rename_i h;simp only [h,Option.some.injEq,true_and];exact eq_comm
 ·rename_i h;simp [h]
def CR (R:Rel C h0 ρ s.σ h) {c c':List ZB} {t:TypeId} {v:ZB} (hc:dQ ρ c c') (hx:Cm s t c=some (v,s1)) (P:nH C h0 ρ s1 v kk L K):T.new c' t (fun a=>kk (.pointer (some a))) L K h:=by
 unfold Cm at hx;obtain ⟨s2,hn2,hx⟩:=W1.1 hx;obtain ⟨hn,h2⟩:=iO.1 hn2;subst h2;cases hx;have hb:=bH.new h t c';obtain ⟨R1,le⟩:=R.newRow (rest:=[]) (e:=t) (m:=0) (cap:=0) hn hc (by rw [X4]; exact hb) (Ext.push h _) ad
 have:=VR.ptr (ρ:=je ρ s.nx ⟨h.size,0,0⟩) 0 (fp _ _ _)
 exact P _ _ _ le R1 (by simpa using this)
def zU {P:Program} {t:TypeId} {l:List ZB} (hx:zeroOf P t=some l):∃ z,(P.info? t).bind (·.zero)=some z/\l=z.cells.toList/\∀ ρ,dQ ρ l l:=by
 unfold zeroOf at hx;obtain ⟨z,hz,hx⟩:=W1.1 hx;obtain ⟨h1,h2⟩:=bq.1 hx;cases h2;exact ⟨z,hz,rfl,fun ρ=>qm (rI 9) _ h1⟩
end
end Go.Sx.Cr
