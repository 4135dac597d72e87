/- Part of the framework. No condition. -/
import Derived.Test.YthbffkdafjboiaaGreatDoorSxJ
set_option linter.all false
set_option maxHeartbeats 4000000
namespace Go.Sx.Cr
section
variable {C:Cx} {h0:Hp} {ρ:gF} {s s1:CS} {h:Hp} {e:Ev} {e':Env} {L:Lp} {K:Xab->Hp->Prop} {kk:Xab->T}
def P1 {d:TypeDesc} {v v':Xab} (hv:VR ρ v v') (j:wj d v=true):∃ x:Sv d,TB d x=v':=by
 cases d with
 | bool=>cases hv <;> first | exact ⟨_,rfl⟩ | (simp [wj] at j; done)
 | int k=>cases hv <;> first | (simp [wj] at j; done) | (simp only [wj,decide_eq_true_eq] at j; subst j; exact ⟨_,rfl⟩)
 | string=>cases hv <;> first | exact ⟨_,rfl⟩ | (simp [wj] at j; done)
 | pointer _=>cases hv <;> first | exact ⟨none,rfl⟩ | exact ⟨some _,rfl⟩ | (simp [wj] at j; done)
 | slice _=>cases hv <;> first | exact ⟨(none,_,_),rfl⟩ | exact ⟨(some _,_,_),rfl⟩ | (simp [wj] at j; done)
 | map _ _=>cases hv <;> first | exact ⟨none,rfl⟩ | exact ⟨some _,rfl⟩ | (simp [wj] at j; done)
 | _=>exact ⟨v',rfl⟩
theorem vA:∀ {ds:List TypeDesc} {vs vs':List Xab},dS ρ vs vs'->fits ds vs=true->∃ x:qK ds,ec ds x=vs'
 | [],[],_,.nil,_=>⟨(),rfl⟩
 | d::ds,v::vs,_,.cons hv u,j=>by
  simp only [fits,Bool.and_eq_true] at j;obtain ⟨x,hx⟩:=P1 hv j.1;obtain ⟨y,F⟩:=vA u j.2;exact ⟨(x,y),by simp only [ec,hx,F]⟩
 | [],_::_,_,_,j=>by simp [fits] at j
 | _::_,[],_,_,j=>by simp [fits] at j
theorem Gc:∀ {ds:List TypeDesc} {vs:List Xab},fits ds vs=true->vs.length=ds.length
 | [],[],_=>rfl
 | d::ds,v::vs,j=>by
  simp only [fits,Bool.and_eq_true] at j;simp [Gc j.2]
 | [],_::_,j=>by simp [fits] at j
 | _::_,[],j=>by simp [fits] at j
def uX {v:Xab} {l:List Xab}:AB v=some l↔v=.agg ⟨l⟩:=by
 unfold AB;split
 ·simp
 ·rename_i hn;simp only [reduceCtorEq,false_iff];intro d; exact hn _ d
def EA {v:Xab} {l:List Xab}:NK v=some l↔v=.tuple ⟨l⟩:=by
 unfold NK;split
 ·simp
 ·rename_i hn;simp only [reduceCtorEq,false_iff];intro d; exact hn _ d
def Qt {c:fI} {v v':Xab} (hv:VR ρ v v') (d:C' c v=true):∃ x:qK c.2,∀ rest rs,parts (c::rest) (ec _ x++rs)=v'::parts rest rs:=by
 obtain ⟨b,ds⟩:=c;cases b with
 | true =>
  unfold C' at d;simp only at d;cases j:AB v with
  | none=>rw [j] at d; cases d
  | some l =>
   rw [j] at d
   have:=uX.1 j; subst this
   cases hv with
   | agg hl =>
    obtain ⟨x,hx⟩:=vA hl d;refine ⟨x,fun rest rs=>?_⟩;have hn:=uv ds x;simp only [parts];rw [<- hn,au9,ai9,hx]
 | false =>
  unfold C' at d;simp only at d;have hn:=Gc d;obtain ⟨x,hx⟩:=vA (.cons hv .nil) d;refine ⟨x,fun rest rs=>?_⟩;simp only [parts];rw [hx] <;> rfl
theorem IC:∀ (ds es:List TypeDesc) (x:qK ds) (y:qK es),∃ z:qK (ds++es),ec _ z=ec _ x++ec _ y
 | [],es,x,y=>⟨y,rfl⟩
 | d::ds,es,x,y=>by
  obtain ⟨z,j⟩:=IC ds es x.2 y;exact ⟨(x.1,z),by simp only [ec,j,List.cons_append]⟩
theorem zk:∀ {cs:List fI} {vs vs':List Xab},dS ρ vs vs'->Ae cs vs=true->∃ x:qK (flat cs),parts cs (ec _ x)=vs'
 | [],[],_,.nil,_=>⟨(),rfl⟩
 | c::cs,v::vs,_,.cons hv j,d=>by
  simp only [Ae,Bool.and_eq_true] at d;obtain ⟨x,hx⟩:=Qt hv d.1;obtain ⟨y,u⟩:=zk j d.2;obtain ⟨z,F⟩:=IC c.2 (flat cs) x y;refine ⟨z,?_⟩;show parts (c::cs) (ec (c.2++flat cs) z)=_;rw [F,hx,u]
 | [],_::_,_,_,d=>by simp [Ae] at d
 | _::_,[],_,_,d=>by simp [Ae] at d
def vZ {q:Bool × List fI} {v v':Xab} (hv:VR ρ v v') (d:HB q v=true):∃ x:qK (flat q.2),v'=rv q.1 q.2 (ec _ x):=by
 obtain ⟨b,cs⟩:=q;cases b with
 | true =>
  unfold HB at d;simp only at d;cases j:NK v with
  | none=>rw [j] at d; cases d
  | some l =>
   rw [j] at d
   have:=EA.1 j; subst this
   cases hv with
   | tuple hl =>
    obtain ⟨x,hx⟩:=zk hl d;exact ⟨x,by simp only [rv]; rw [hx]⟩
 | false =>
  unfold HB at d;simp only at d;obtain ⟨x,hx⟩:=zk (.cons hv .nil) d;exact ⟨x,by simp only [rv]; rw [hx]; rfl⟩
def rG (R:Rel C h0 ρ s.σ h) {b off n:Nat} {vs:List Xab} (hx:cells C s b off n=some vs) {pl:Pl} (u:ρ b=some pl) :
  vs.length=n/\∃ vs',dS ρ vs vs'/\aJ h ⟨pl.cv,pl.sh+off,none⟩ 0 vs':=by
 unfold cells Ng at hx;split at hx
 ·rename_i c e m U;obtain ⟨h1,h2⟩:=uC off n c vs hx;obtain ⟨cs,f,d,hc,_⟩:=R.row U u;exact ⟨h1,jz d vs 0 fun j v F=>by rw [bm9]; exact hc _ _ (h2 j v F)⟩
 ·rename_i U;obtain ⟨c,hc,hx⟩:=Yt.1 hx;obtain ⟨h1,h2⟩:=uC off n c vs hx;obtain ⟨G,cs,e,f,d,J⟩:=R.ro b c hc;rw [R.Qk b G] at u;cases u;have O:h[b]?=some (.cells cs e f):=by rw [R.base b (fc d)]; exact d
  refine ⟨h1,jz (pl:=⟨b,0,0⟩) O vs 0 fun j v F=>?_⟩;obtain ⟨e1,e2⟩:=J _ v (h2 j v F);exact ⟨v,by simpa using e1,sF 9 v e2⟩
 ·cases hx
def jJ {v:Xab} {b off:Nat}:uP v=some (b,off)↔v=.pointer (some ⟨b,off,none⟩):=by
 unfold uP;split
 ·simp
 ·rename_i hn;simp only [reduceCtorEq,false_iff];intro d; exact hn _ _ d
def VR.uZ {b off:Nat} {v':Xab} (hv:VR ρ (.pointer (some ⟨b,off,none⟩)) v'):∃ pl,ρ b=some pl/\v'=.pointer (some ⟨pl.cv,pl.sh+off,none⟩):=by
 cases hv with
 | ptr off h=>exact ⟨_,h,rfl⟩
def LC (R : Rel C h0 ρ s.σ h) {t : TypeId} {v v' u : Xab} {b off : Nat} {l : List Xab} (hv : VR ρ v v') (hx : B1 C t v s = some (b, off, l, u)) :
    ∃ pl l' j, ρ b = some pl /\ v' = .pointer (some ⟨pl.cv, pl.sh + off, none⟩) /\ dS ρ l l' /\ VR ρ u j /\ aJ h ⟨pl.cv, pl.sh + off, none⟩ 0 l' /\ cells C s b off l.length = some l /\
      ((cH C.P t = some true /\ ((eX C.P 9 t).length == C.P.cellsOf t) = true /\ j = .agg l'.toArray /\ ∃ x : qK (eX C.P 9 t), ec _ x = l') \/
       (cH C.P t = some false /\ j = l'.headD undef /\ ∃ x : qK (cG C.P t).2, ec _ x = l')) := by
  unfold B1 at hx;obtain ⟨⟨b1, F⟩, J, hx⟩ := Yt.1 hx;obtain ⟨g, G, hx⟩ := Yt.1 hx;have := jJ.1 J; subst this;obtain ⟨pl, d, rfl⟩ := hv.uZ;cases g with
  | true =>
    simp only [Tk] at hx;obtain ⟨h1, hx⟩ := bF.1 hx;obtain ⟨vs, hc, hx⟩ := Yt.1 hx;obtain ⟨h2, hx⟩ := bF.1 hx;cases hx;obtain ⟨hn, l', h3, h4⟩ := rG R hc d;obtain ⟨x, hx⟩ := vA h3 h2;exact ⟨pl, l', .agg l'.toArray, d, rfl, h3, .agg h3, h4, by rw [hn]; exact hc, .inl ⟨G, by simpa using h1, rfl, x, hx⟩⟩
  | false =>
    simp only [Tt] at hx;obtain ⟨vs, hc, hx⟩ := Yt.1 hx;obtain ⟨h2, hx⟩ := bF.1 hx;cases hx;obtain ⟨hn, l', h3, h4⟩ := rG R hc d;obtain ⟨x, hx⟩ := vA h3 h2;refine ⟨pl, l', l'.headD undef, d, rfl, h3, ?_, h4, by rw [hn]; exact hc, .inr ⟨G, rfl, x, hx⟩⟩;cases h3 with
    | nil => exact ot
    | cons h _ => exact h
def Ac (R:Rel C h0 ρ s.σ h) {t:TypeId} {v v' u:Xab} {b off:Nat} {l:List Xab} (hv:VR ρ v v') (hx:B1 C t v s=some (b,off,l,u)) :
  ∃ pl l' d,ρ b=some pl/\dS ρ l l'/\VR ρ u d/\cells C s b off l.length=some l/\∀ (kk:Xax->List Xab->Xab->T) (L:Lp) (K:Xab->Hp->Prop),kk ⟨pl.cv,pl.sh+off,none⟩ l' d L K h ->
   (match v',cH C.P t with
    | .pointer p,some true=>bif (eX C.P 9 t).length==C.P.cellsOf t then T.bi p fun a=>T.ah a (eX C.P 9 t) (jv _ fun l=>kk a l (.agg l.toArray)) else T.fail
    | .pointer p,some false=>T.bi p fun a=>T.ah a (cG C.P t).2 (jv _ fun l=>kk a l (l.headD undef))
    | _,_=>T.fail) L K h:=by
 obtain ⟨pl,l',d,h1,h2,h3,h4,h5,h6,h7⟩:=LC R hv hx;refine ⟨pl,l',d,h1,h3,h4,h6,fun kk L K hk=>?_⟩;subst h2;rcases h7 with ⟨e1,e2,j,x,F⟩ | ⟨e1,e2,x,j⟩
 ·simp only [e1,e2,cond_true];subst j;exact ⟨x,by rw [F]; exact h5,by rw [dI,F]; exact hk⟩
 ·simp only [e1];subst e2;exact ⟨x,by rw [j]; exact h5,by rw [dI,j]; exact hk⟩
def M3 {v v':Xab} (h:VR ρ v v'):cU v'=cU v:=by cases h <;> rfl
theorem xd:∀ {l l':List Xab},dS ρ l l'->l'.all cU=l.all cU
 | _,_,.nil=>rfl
 | _,_,.cons h t=>by rw [bd9,bd9,M3 h,xd t]
def UN {v v':Xab} (h:VR ρ v v'):eS v'=eS v:=by cases h <;> rfl
def tT {g:Bool} {v v':Xab} {l:List Xab} (hv:VR ρ v v') (hx:wc g v=some l):eS v'=g/\∃ l',dS ρ l l'/\l'=(match g with
  | true=>jN v'
  | false=>[v']):=by
 unfold wc at hx;cases g with
 | true =>
  have:=uX.1 hx; subst this
  cases hv with
  | agg hl=>exact ⟨rfl,_,hl,rfl⟩
 | false =>
  obtain ⟨h1,h2⟩:=bF.1 hx;cases h2;refine ⟨by rw [UN hv]; simpa using h1,_,.cons hv .nil,rfl⟩
def Ji (R:Rel C h0 ρ s.σ h) {b off:Nat} {vs vs':List Xab} (hv:dS ρ vs vs') (hx:Rf s b off vs=some s1) {pl:Pl} (d:ρ b=some pl) :
  yq h ⟨pl.cv,pl.sh+off,none⟩ 0 vs'/\Rel C h0 ρ s1.σ (r5 h ⟨pl.cv,pl.sh+off,none⟩ 0 vs'):=by
 unfold Rf at hx;split at hx
 ·rename_i c e m j;obtain ⟨h1,h2⟩:=bF.1 hx;cases h2;simp only [Bool.and_eq_true,Bool.not_eq_true'] at h1;obtain ⟨⟨⟨h1,h2⟩,h3⟩,h4⟩:=h1;refine R.store j ?_ d hv (by rw [xd hv]; exact h2) (Y2 h3) (Y2 h4);intro hm;subst hm;cases h1
 ·cases hx
def KX (R:Rel C h0 ρ s.σ h) {t:TypeId} {p p' v v':Xab} (Y:VR ρ p p') (hv:VR ρ v v') (hx:GQ C.P t p v s=some s1) {k:T} (hk:∀ h1,Rel C h0 ρ s1.σ h1->k L K h1) :
   (match p',cH C.P t with
    | .pointer p,some true=>cond (eS v') (bif (jN v').length==C.P.cellsOf t then T.bi p fun a=>T.aC a (jN v') k else T.fail) T.fail
    | .pointer p,some false=>bif C.P.cellsOf t==1 then cond (eS v') T.fail (T.bi p fun a=>T.aC a [v'] k) else T.fail
    | _,_=>T.fail) L K h:=by
 unfold GQ at hx;obtain ⟨⟨b,off⟩,G,j⟩:=Yt.1 hx;clear hx
 have:=jJ.1 G; subst this
 have hx:=j;clear j;obtain ⟨g,O,hx⟩:=Yt.1 hx;obtain ⟨l,hl,hx⟩:=Yt.1 hx;obtain ⟨hn,hx⟩:=bF.1 hx;obtain ⟨pl,J,rfl⟩:=Y.uZ;obtain ⟨U,l',u,F⟩:=tT hv hl;obtain ⟨V,X⟩:=Ji R u hx J;have d:l'.length=C.P.cellsOf t:=by rw [<- u.length]; exact YL hn
 cases g with
 | true =>
  simp only at F; subst F;simp only [O,U,cond_true]
  have:((jN v').length==C.P.cellsOf t)=true:=by simpa using d
  rw [this];exact ⟨V,hk _ X⟩
 | false =>
  simp only at F; subst F;simp only [O,U,cond_false]
  have:(C.P.cellsOf t==1)=true:=by simp at d; simp [<- d]
  rw [this];exact ⟨V,hk _ X⟩
def iX {o:AO}:yX s o=some s1↔s.σ.get s.nx=none/\s1=⟨s.σ.put s.nx o,s.nx+1⟩:=by
 unfold yX;split
 ·rename_i h;simp only [h,Option.some.injEq,true_and];exact eq_comm
 ·rename_i h;simp [h]
def DG (R:Rel C h0 ρ s.σ h) {c c':List Xab} {t:TypeId} {v:Xab} (hc:dS ρ c c') (hx:De s t c=some (v,s1)) (P:oy C h0 ρ s1 v kk L K):T.new c' t (fun a=>kk (.pointer (some a))) L K h:=by
 unfold De at hx;obtain ⟨F,d,hx⟩:=Yt.1 hx;obtain ⟨hn,h2⟩:=iX.1 d;subst h2;cases hx;have j:=bI.new h t c';obtain ⟨u,le⟩:=R.newRow (rest:=[]) (e:=t) (m:=0) (cap:=0) hn hc (by rw [Zs]; exact j) (Ext.push h _) ad
 have:=VR.ptr (ρ:=iR ρ s.nx ⟨h.size,0,0⟩) 0 (fv _ _ _)
 exact P _ _ _ le u (by simpa using this)
def AN {P:Program} {t:TypeId} {l:List Xab} (hx:zeroOf P t=some l):∃ z,(P.info? t).bind (·.zero)=some z/\l=z.cells.toList/\∀ ρ,dS ρ l l:=by
 unfold zeroOf at hx;obtain ⟨z,d,hx⟩:=Yt.1 hx;obtain ⟨h1,h2⟩:=bF.1 hx;cases h2;exact ⟨z,d,rfl,fun ρ=>qW (sF 9) _ h1⟩
end
end Go.Sx.Cr
