/- Closed runs, part Ja: cells that are read and written, blocks that are made. No condition but the store's. -/
import Derived.Test.YtlpcncdglfjnoaaGreatDoorSxJ
set_option linter.all false
set_option maxHeartbeats 4000000
namespace Go.Sx.Cr
section
variable {C:Cx} {h0:Hp} {ρ:fR} {s s1:CS} {h:Hp} {e:Ev} {e':Env} {L:Lp} {K:ZB->Hp->Prop} {kk:ZB->T}
theorem Pk {d:TypeDesc} {v v':ZB} (hv:VR ρ v v') (hf:tX d v=true):∃ x:Sv d,SU d x=v':=by
 cases d with
 | bool=>cases hv <;> first | exact ⟨_,rfl⟩ | (simp [tX] at hf; done)
 | int k=>cases hv <;> first | (simp [tX] at hf; done) | (simp only [tX,decide_eq_true_eq] at hf; subst hf; exact ⟨_,rfl⟩)
 | string=>cases hv <;> first | exact ⟨_,rfl⟩ | (simp [tX] at hf; done)
 | pointer _=>cases hv <;> first | exact ⟨none,rfl⟩ | exact ⟨some _,rfl⟩ | (simp [tX] at hf; done)
 | slice _=>cases hv <;> first | exact ⟨(none,_,_),rfl⟩ | exact ⟨(some _,_,_),rfl⟩ | (simp [tX] at hf; done)
 | map _ _=>cases hv <;> first | exact ⟨none,rfl⟩ | exact ⟨some _,rfl⟩ | (simp [tX] at hf; done)
 | _=>exact ⟨v',rfl⟩
theorem uS:∀ {ds:List TypeDesc} {vs vs':List ZB},dG ρ vs vs'->fits ds vs=true->∃ x:qd ds,dU ds x=vs'
 | [],[],_,.nil,_=>⟨(),rfl⟩
 | d::ds,v::vs,_,.cons hv ht,hf=>by
  simp only [fits,Bool.and_eq_true] at hf;obtain ⟨x,hx⟩:=Pk hv hf.1;obtain ⟨y,hy⟩:=uS ht hf.2;exact ⟨(x,y),by simp only [dU,hx,hy]⟩
 | [],_::_,_,_,hf=>by simp [fits] at hf
 | _::_,[],_,_,hf=>by simp [fits] at hf
theorem E1:∀ {ds:List TypeDesc} {vs:List ZB},fits ds vs=true->vs.length=ds.length
 | [],[],_=>rfl
 | d::ds,v::vs,hf=>by
  simp only [fits,Bool.and_eq_true] at hf;simp [E1 hf.2]
 | [],_::_,hf=>by simp [fits] at hf
 | _::_,[],hf=>by simp [fits] at hf
theorem uf {v:ZB} {l:List ZB}:yH v=some l↔v=.agg ⟨l⟩:=by
 unfold yH;split
 ·simp
 ·rename_i hn;simp only [reduceCtorEq,false_iff];intro hh; exact hn _ hh
theorem D7 {v:ZB} {l:List ZB}:KQ v=some l↔v=.tuple ⟨l⟩:=by
 unfold KQ;split
 ·simp
 ·rename_i hn;simp only [reduceCtorEq,false_iff];intro hh; exact hn _ hh
theorem Pp {c:fq} {v v':ZB} (hv:VR ρ v v') (hf:CH c v=true):∃ x:qd c.2,∀ rest rs,parts (c::rest) (dU _ x++rs)=v'::parts rest rs:=by
 obtain ⟨b,ds⟩:=c;cases b with
 | true =>
  unfold CH at hf;simp only at hf;cases ha:yH v with
  | none=>rw [ha] at hf; cases hf
  | some l =>
   rw [ha] at hf
   have:=uf.1 ha; subst this
   cases hv with
   | agg hl =>
    obtain ⟨x,hx⟩:=uS hl hf;refine ⟨x,fun rest rs=>?_⟩;have hn:=tM ds x;simp only [parts];rw [<- hn,YS,YJ,hx]
 | false =>
  unfold CH at hf;simp only at hf;have hn:=E1 hf;obtain ⟨x,hx⟩:=uS (.cons hv .nil) hf;refine ⟨x,fun rest rs=>?_⟩;simp only [parts];rw [hx] <;> rfl
theorem Ho:∀ (ds es:List TypeDesc) (x:qd ds) (y:qd es),∃ z:qd (ds++es),dU _ z=dU _ x++dU _ y
 | [],es,x,y=>⟨y,rfl⟩
 | d::ds,es,x,y=>by
  obtain ⟨z,hz⟩:=Ho ds es x.2 y;exact ⟨(x.1,z),by simp only [dU,hz,List.cons_append]⟩
theorem zf:∀ {cs:List fq} {vs vs':List ZB},dG ρ vs vs'->zq cs vs=true->∃ x:qd (flat cs),parts cs (dU _ x)=vs'
 | [],[],_,.nil,_=>⟨(),rfl⟩
 | c::cs,v::vs,_,.cons hv ht,hf=>by
  simp only [zq,Bool.and_eq_true] at hf;obtain ⟨x,hx⟩:=Pp hv hf.1;obtain ⟨y,hy⟩:=zf ht hf.2;obtain ⟨z,hz⟩:=Ho c.2 (flat cs) x y;refine ⟨z,?_⟩;show parts (c::cs) (dU (c.2++flat cs) z)=_;rw [hz,hx,hy]
 | [],_::_,_,_,hf=>by simp [zq] at hf
 | _::_,[],_,_,hf=>by simp [zq] at hf
theorem ur {q:Bool × List fq} {v v':ZB} (hv:VR ρ v v') (hf:Gi q v=true):∃ x:qd (flat q.2),v'=rv q.1 q.2 (dU _ x):=by
 obtain ⟨b,cs⟩:=q;cases b with
 | true =>
  unfold Gi at hf;simp only at hf;cases ha:KQ v with
  | none=>rw [ha] at hf; cases hf
  | some l =>
   rw [ha] at hf
   have:=D7.1 ha; subst this
   cases hv with
   | tuple hl =>
    obtain ⟨x,hx⟩:=zf hl hf;exact ⟨x,by simp only [rv]; rw [hx]⟩
 | false =>
  unfold Gi at hf;simp only at hf;obtain ⟨x,hx⟩:=zf (.cons hv .nil) hf;exact ⟨x,by simp only [rv]; rw [hx]; rfl⟩
theorem qV (R:Rel C h0 ρ s.σ h) {b off n:Nat} {vs:List ZB} (hx:cells C s b off n=some vs) {pl:Pl} (hp:ρ b=some pl) :
  vs.length=n/\∃ vs',dG ρ vs vs'/\aG h ⟨pl.bY,pl.sh+off,none⟩ 0 vs':=by
 unfold cells Lf at hx;split at hx
 ·rename_i c e m hb;obtain ⟨h1,h2⟩:=oA off n c vs hx;obtain ⟨cs,f,hg,hc,_⟩:=R.row hb hp;exact ⟨h1,iZ hg vs 0 fun j v hj=>by rw [YT]; exact hc _ _ (h2 j v hj)⟩
 ·rename_i hb;obtain ⟨c,hc,hx⟩:=WO.1 hx;obtain ⟨h1,h2⟩:=oA off n c vs hx;obtain ⟨hlt,cs,e,f,hg,hcs⟩:=R.ro b c hc;rw [R.P2 b hlt] at hp;cases hp;have hg':h[b]?=some (.cells cs e f):=by rw [R.base b (eP hg)]; exact hg
  refine ⟨h1,iZ (pl:=⟨b,0,0⟩) hg' vs 0 fun j v hj=>?_⟩;obtain ⟨e1,e2⟩:=hcs _ v (h2 j v hj);exact ⟨v,by simpa using e1,rF 9 v e2⟩
 ·cases hx
theorem iY {v:ZB} {b off:Nat}:tY v=some (b,off)↔v=.pointer (some ⟨b,off,none⟩):=by
 unfold tY;split
 ·simp
 ·rename_i hn;simp only [reduceCtorEq,false_iff];intro hh; exact hn _ _ hh
theorem VR.vh {b off:Nat} {v':ZB} (hv:VR ρ (.pointer (some ⟨b,off,none⟩)) v'):∃ pl,ρ b=some pl/\v'=.pointer (some ⟨pl.bY,pl.sh+off,none⟩):=by
 cases hv with
 | ptr off h=>exact ⟨_,h,rfl⟩
theorem NX (R : Rel C h0 ρ s.σ h) {t : TypeId} {v v' u : ZB} {b off : Nat} {l : List ZB} (hv : VR ρ v v') (hx : AW C t v s = some (b, off, l, u)) :
    ∃ pl l' u', ρ b = some pl /\ v' = .pointer (some ⟨pl.bY, pl.sh + off, none⟩) /\ dG ρ l l' /\ VR ρ u u' /\ aG h ⟨pl.bY, pl.sh + off, none⟩ 0 l' /\ cells C s b off l.length = some l /\
      ((cv C.P t = some true /\ ((eQ C.P 9 t).length == C.P.cellsOf t) = true /\ u' = .agg l'.toArray /\ ∃ x : qd (eQ C.P 9 t), dU _ x = l') \/
       (cv C.P t = some false /\ u' = l'.headD undef /\ ∃ x : qd (ct C.P t).2, dU _ x = l')) := by
  unfold AW at hx;obtain ⟨⟨b1, off1⟩, hp, hx⟩ := WO.1 hx;obtain ⟨g, hg, hx⟩ := WO.1 hx;have := iY.1 hp; subst this;obtain ⟨pl, hpl, rfl⟩ := hv.vh;cases g with
  | true =>
    simp only [Rx] at hx;obtain ⟨h1, hx⟩ := bj.1 hx;obtain ⟨vs, hc, hx⟩ := WO.1 hx;obtain ⟨h2, hx⟩ := bj.1 hx;cases hx;obtain ⟨hn, l', h3, h4⟩ := qV R hc hpl;obtain ⟨x, hx⟩ := uS h3 h2;exact ⟨pl, l', .agg l'.toArray, hpl, rfl, h3, .agg h3, h4, by rw [hn]; exact hc, .inl ⟨hg, by simpa using h1, rfl, x, hx⟩⟩
  | false =>
    simp only [Rj] at hx;obtain ⟨vs, hc, hx⟩ := WO.1 hx;obtain ⟨h2, hx⟩ := bj.1 hx;cases hx;obtain ⟨hn, l', h3, h4⟩ := qV R hc hpl;obtain ⟨x, hx⟩ := uS h3 h2;refine ⟨pl, l', l'.headD undef, hpl, rfl, h3, ?_, h4, by rw [hn]; exact hc, .inr ⟨hg, rfl, x, hx⟩⟩;cases h3 with
    | nil => exact ob
    | cons h _ => exact h
theorem zD (R:Rel C h0 ρ s.σ h) {t:TypeId} {v v' u:ZB} {b off:Nat} {l:List ZB} (hv:VR ρ v v') (hx:AW C t v s=some (b,off,l,u)) :
  ∃ pl l' u',ρ b=some pl/\dG ρ l l'/\VR ρ u u'/\cells C s b off l.length=some l/\∀ (kk:ZC->List ZB->ZB->T) (L:Lp) (K:ZB->Hp->Prop),kk ⟨pl.bY,pl.sh+off,none⟩ l' u' L K h ->
   (match v',cv C.P t with
    | .pointer p,some true=>bif (eQ C.P 9 t).length==C.P.cellsOf t then T.bk p fun a=>T.ah a (eQ C.P 9 t) (jd _ fun l=>kk a l (.agg l.toArray)) else T.fail
    | .pointer p,some false=>T.bk p fun a=>T.ah a (ct C.P t).2 (jd _ fun l=>kk a l (l.headD undef))
    | _,_=>T.fail) L K h:=by
 obtain ⟨pl,l',u',h1,h2,h3,h4,h5,h6,h7⟩:=NX R hv hx;refine ⟨pl,l',u',h1,h3,h4,h6,fun kk L K hk=>?_⟩;subst h2;rcases h7 with ⟨e1,e2,e3,x,e4⟩ | ⟨e1,e2,x,e3⟩
 ·simp only [e1,e2,cond_true];subst e3;exact ⟨x,by rw [e4]; exact h5,by rw [du,e4]; exact hk⟩
 ·simp only [e1];subst e2;exact ⟨x,by rw [e3]; exact h5,by rw [du,e3]; exact hk⟩
theorem NW {v v':ZB} (h:VR ρ v v'):cP v'=cP v:=by cases h <;> rfl
theorem wG:∀ {l l':List ZB},dG ρ l l'->l'.all cP=l.all cP
 | _,_,.nil=>rfl
 | _,_,.cons h t=>by rw [List.all_cons,List.all_cons,NW h,wG t]
theorem Tm {v v':ZB} (h:VR ρ v v'):eM v'=eM v:=by cases h <;> rfl
theorem tk {g:Bool} {v v':ZB} {l:List ZB} (hv:VR ρ v v') (hx:uc g v=some l):eM v'=g/\∃ l',dG ρ l l'/\l'=(match g with
  | true=>ja v'
  | false=>[v']):=by
 unfold uc at hx;cases g with
 | true =>
  have:=uf.1 hx; subst this
  cases hv with
  | agg hl=>exact ⟨rfl,_,hl,rfl⟩
 | false =>
  obtain ⟨h1,h2⟩:=bj.1 hx;cases h2;refine ⟨by rw [Tm hv]; simpa using h1,_,.cons hv .nil,rfl⟩
theorem HG (R:Rel C h0 ρ s.σ h) {b off:Nat} {vs vs':List ZB} (hv:dG ρ vs vs') (hx:O2 s b off vs=some s1) {pl:Pl} (hp:ρ b=some pl) :
  xI h ⟨pl.bY,pl.sh+off,none⟩ 0 vs'/\Rel C h0 ρ s1.σ (qz h ⟨pl.bY,pl.sh+off,none⟩ 0 vs'):=by
 unfold O2 at hx;split at hx
 ·rename_i c e m hb;obtain ⟨h1,h2⟩:=bj.1 hx;cases h2;simp only [Bool.and_eq_true,Bool.not_eq_true'] at h1;obtain ⟨⟨⟨h1,h2⟩,h3⟩,h4⟩:=h1;refine R.store hb ?_ hp hv (by rw [wG hv]; exact h2) (Xi h3) (Xi h4);intro hm;subst hm;cases h1
 ·cases hx
theorem JL (R:Rel C h0 ρ s.σ h) {t:TypeId} {p p' v v':ZB} (hp:VR ρ p p') (hv:VR ρ v v') (hx:FQ C.P t p v s=some s1) {k:T} (hk:∀ h1,Rel C h0 ρ s1.σ h1->k L K h1) :
   (match p',cv C.P t with
    | .pointer p,some true=>cond (eM v') (bif (ja v').length==C.P.cellsOf t then T.bk p fun a=>T.aC a (ja v') k else T.fail) T.fail
    | .pointer p,some false=>bif C.P.cellsOf t==1 then cond (eM v') T.fail (T.bk p fun a=>T.aC a [v'] k) else T.fail
    | _,_=>T.fail) L K h:=by
 unfold FQ at hx;obtain ⟨⟨b,off⟩,hpp,hx0⟩:=WO.1 hx;clear hx
 have:=iY.1 hpp; subst this
 have hx:=hx0;clear hx0;obtain ⟨g,hg,hx⟩:=WO.1 hx;obtain ⟨l,hl,hx⟩:=WO.1 hx;obtain ⟨hn,hx⟩:=bj.1 hx;obtain ⟨pl,hpl,rfl⟩:=hp.vh;obtain ⟨ha,l',hl',he⟩:=tk hv hl;obtain ⟨k1,k2⟩:=HG R hl' hx hpl;have hn':l'.length=C.P.cellsOf t:=by rw [<- hl'.length]; exact W3 hn
 cases g with
 | true =>
  simp only at he; subst he;simp only [hg,ha,cond_true]
  have:((ja v').length==C.P.cellsOf t)=true:=by simpa using hn'
  rw [this];exact ⟨k1,hk _ k2⟩
 | false =>
  simp only at he; subst he;simp only [hg,ha,cond_false]
  have:(C.P.cellsOf t==1)=true:=by simp at hn'; simp [<- hn']
  rw [this];exact ⟨k1,hk _ k2⟩
theorem iB {o:AO}:xT s o=some s1↔s.σ.get s.nx=none/\s1=⟨s.σ.put s.nx o,s.nx+1⟩:=by
 unfold xT;split
 ·rename_i h;simp only [h,Option.some.injEq,true_and];exact eq_comm
 ·rename_i h;simp [h]
theorem CT (R:Rel C h0 ρ s.σ h) {c c':List ZB} {t:TypeId} {v:ZB} (hc:dG ρ c c') (hx:CF s t c=some (v,s1)) (P:oi C h0 ρ s1 v kk L K):T.new c' t (fun a=>kk (.pointer (some a))) L K h:=by
 unfold CF at hx;obtain ⟨s2,hn2,hx⟩:=WO.1 hx;obtain ⟨hn,h2⟩:=iB.1 hn2;subst h2;cases hx;have hb:=bz.new h t c';obtain ⟨R1,le⟩:=R.newRow (rest:=[]) (e:=t) (m:=0) (cap:=0) hn hc (by rw [XP]; exact hb) (Ext.push h _) ad
 have:=VR.ptr (ρ:=jN ρ s.nx ⟨h.size,0,0⟩) 0 (fj _ _ _)
 exact P _ _ _ le R1 (by simpa using this)
theorem zn {P:Program} {t:TypeId} {l:List ZB} (hx:zeroOf P t=some l):∃ z,(P.info? t).bind (·.zero)=some z/\l=z.cells.toList/\∀ ρ,dG ρ l l:=by
 unfold zeroOf at hx;obtain ⟨z,hz,hx⟩:=WO.1 hx;obtain ⟨h1,h2⟩:=bj.1 hx;cases h2;exact ⟨z,hz,rfl,fun ρ=>rc (rF 9) _ h1⟩
end
end Go.Sx.Cr
