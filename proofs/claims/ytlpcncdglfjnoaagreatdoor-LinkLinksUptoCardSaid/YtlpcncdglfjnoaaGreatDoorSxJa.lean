/- Closed runs, part Ja: cells that are read and written, blocks that are made. No condition but the store's. -/
import Derived.Test.YtlpcncdglfjnoaaGreatDoorSxJ
set_option linter.all false
set_option maxHeartbeats 4000000
namespace Go.Sx.Cr
section
variable {C:Cx} {h0:Hp} {ρ:fZ} {s s1:CS} {h:Hp} {e:Ev} {e':Env} {L:Lp} {K:YB->Hp->Prop} {kk:YB->T}
theorem PN {d:TypeDesc} {v v':YB} (hv:VR ρ v v') (hf:uP d v=true):∃ x:Sv d,Ss d x=v':=by
 cases d with
 | bool=>cases hv <;> first | exact ⟨_,rfl⟩ | (simp [uP] at hf; done)
 | int k=>cases hv <;> first | (simp [uP] at hf; done) | (simp only [uP,decide_eq_true_eq] at hf; subst hf; exact ⟨_,rfl⟩)
 | string=>cases hv <;> first | exact ⟨_,rfl⟩ | (simp [uP] at hf; done)
 | pointer _=>cases hv <;> first | exact ⟨none,rfl⟩ | exact ⟨some _,rfl⟩ | (simp [uP] at hf; done)
 | slice _=>cases hv <;> first | exact ⟨(none,_,_),rfl⟩ | exact ⟨(some _,_,_),rfl⟩ | (simp [uP] at hf; done)
 | map _ _=>cases hv <;> first | exact ⟨none,rfl⟩ | exact ⟨some _,rfl⟩ | (simp [uP] at hf; done)
 | _=>exact ⟨v',rfl⟩
theorem tW:∀ {ds:List TypeDesc} {vs vs':List YB},dL ρ vs vs'->fits ds vs=true->∃ x:qa ds,dU ds x=vs'
 | [],[],_,.nil,_=>⟨(),rfl⟩
 | d::ds,v::vs,_,.cons hv ht,hf=>by
  simp only [fits,Bool.and_eq_true] at hf;obtain ⟨x,hx⟩:=PN hv hf.1;obtain ⟨y,hy⟩:=tW ht hf.2;exact ⟨(x,y),by simp only [dU,hx,hy]⟩
 | [],_::_,_,_,hf=>by simp [fits] at hf
 | _::_,[],_,_,hf=>by simp [fits] at hf
theorem Fp:∀ {ds:List TypeDesc} {vs:List YB},fits ds vs=true->vs.length=ds.length
 | [],[],_=>rfl
 | d::ds,v::vs,hf=>by
  simp only [fits,Bool.and_eq_true] at hf;simp [Fp hf.2]
 | [],_::_,hf=>by simp [fits] at hf
 | _::_,[],hf=>by simp [fits] at hf
theorem uV {v:YB} {l:List YB}:zn v=some l↔v=.agg ⟨l⟩:=by
 unfold zn;split
 ·simp
 ·rename_i hn;simp only [reduceCtorEq,false_iff];intro hh; exact hn _ hh
theorem EU {v:YB} {l:List YB}:Nu v=some l↔v=.tuple ⟨l⟩:=by
 unfold Nu;split
 ·simp
 ·rename_i hn;simp only [reduceCtorEq,false_iff];intro hh; exact hn _ hh
theorem OW {c:fx} {v v':YB} (hv:VR ρ v v') (hf:BT c v=true):∃ x:qa c.2,∀ rest rs,parts (c::rest) (dU _ x++rs)=v'::parts rest rs:=by
 obtain ⟨b,ds⟩:=c;cases b with
 | true =>
  unfold BT at hf;simp only at hf;cases ha:zn v with
  | none=>rw [ha] at hf; cases hf
  | some l =>
   rw [ha] at hf
   have:=uV.1 ha; subst this
   cases hv with
   | agg hl =>
    obtain ⟨x,hx⟩:=tW hl hf;refine ⟨x,fun rest rs=>?_⟩;have hn:=tp ds x;simp only [parts];rw [<- hn,Ys,Yk,hx]
 | false =>
  unfold BT at hf;simp only at hf;have hn:=Fp hf;obtain ⟨x,hx⟩:=tW (.cons hv .nil) hf;refine ⟨x,fun rest rs=>?_⟩;simp only [parts];rw [hx] <;> rfl
theorem Hu:∀ (ds es:List TypeDesc) (x:qa ds) (y:qa es),∃ z:qa (ds++es),dU _ z=dU _ x++dU _ y
 | [],es,x,y=>⟨y,rfl⟩
 | d::ds,es,x,y=>by
  obtain ⟨z,hz⟩:=Hu ds es x.2 y;exact ⟨(x.1,z),by simp only [dU,hz,List.cons_append]⟩
theorem Ab:∀ {cs:List fx} {vs vs':List YB},dL ρ vs vs'->zF cs vs=true->∃ x:qa (flat cs),parts cs (dU _ x)=vs'
 | [],[],_,.nil,_=>⟨(),rfl⟩
 | c::cs,v::vs,_,.cons hv ht,hf=>by
  simp only [zF,Bool.and_eq_true] at hf;obtain ⟨x,hx⟩:=OW hv hf.1;obtain ⟨y,hy⟩:=Ab ht hf.2;obtain ⟨z,hz⟩:=Hu c.2 (flat cs) x y;refine ⟨z,?_⟩;show parts (c::cs) (dU (c.2++flat cs) z)=_;rw [hz,hx,hy]
 | [],_::_,_,_,hf=>by simp [zF] at hf
 | _::_,[],_,_,hf=>by simp [zF] at hf
theorem uU {q:Bool × List fx} {v v':YB} (hv:VR ρ v v') (hf:GC q v=true):∃ x:qa (flat q.2),v'=rv q.1 q.2 (dU _ x):=by
 obtain ⟨b,cs⟩:=q;cases b with
 | true =>
  unfold GC at hf;simp only at hf;cases ha:Nu v with
  | none=>rw [ha] at hf; cases hf
  | some l =>
   rw [ha] at hf
   have:=EU.1 ha; subst this
   cases hv with
   | tuple hl =>
    obtain ⟨x,hx⟩:=Ab hl hf;exact ⟨x,by simp only [rv]; rw [hx]⟩
 | false =>
  unfold GC at hf;simp only at hf;obtain ⟨x,hx⟩:=Ab (.cons hv .nil) hf;exact ⟨x,by simp only [rv]; rw [hx]; rfl⟩
theorem re (R:Rel C h0 ρ s.σ h) {b off n:Nat} {vs:List YB} (hx:cells C s b off n=some vs) {pl:Pl} (hp:ρ b=some pl) :
  vs.length=n/\∃ vs',dL ρ vs vs'/\aG h ⟨pl.cd,pl.sh+off,none⟩ 0 vs':=by
 unfold cells MP at hx;split at hx
 ·rename_i c e m hb;obtain ⟨h1,h2⟩:=tO off n c vs hx;obtain ⟨cs,f,hg,hc,_⟩:=R.row hb hp;exact ⟨h1,jj hg vs 0 fun j v hj=>by rw [Yt]; exact hc _ _ (h2 j v hj)⟩
 ·rename_i hb;obtain ⟨c,hc,hx⟩:=Wq.1 hx;obtain ⟨h1,h2⟩:=tO off n c vs hx;obtain ⟨hlt,cs,e,f,hg,hcs⟩:=R.ro b c hc;rw [R.Qq b hlt] at hp;cases hp;have hg':h[b]?=some (.cells cs e f):=by rw [R.base b (eP hg)]; exact hg
  refine ⟨h1,jj (pl:=⟨b,0,0⟩) hg' vs 0 fun j v hj=>?_⟩;obtain ⟨e1,e2⟩:=hcs _ v (h2 j v hj);exact ⟨v,by simpa using e1,rP 9 v e2⟩
 ·cases hx
theorem je {v:YB} {b off:Nat}:uz v=some (b,off)↔v=.pointer (some ⟨b,off,none⟩):=by
 unfold uz;split
 ·simp
 ·rename_i hn;simp only [reduceCtorEq,false_iff];intro hh; exact hn _ _ hh
theorem VR.uy {b off:Nat} {v':YB} (hv:VR ρ (.pointer (some ⟨b,off,none⟩)) v'):∃ pl,ρ b=some pl/\v'=.pointer (some ⟨pl.cd,pl.sh+off,none⟩):=by
 cases hv with
 | ptr off h=>exact ⟨_,h,rfl⟩
theorem NR (R : Rel C h0 ρ s.σ h) {t : TypeId} {v v' u : YB} {b off : Nat} {l : List YB} (hv : VR ρ v v') (hx : By C t v s = some (b, off, l, u)) :
    ∃ pl l' u', ρ b = some pl /\ v' = .pointer (some ⟨pl.cd, pl.sh + off, none⟩) /\ dL ρ l l' /\ VR ρ u u' /\ aG h ⟨pl.cd, pl.sh + off, none⟩ 0 l' /\ cells C s b off l.length = some l /\
      ((cw C.P t = some true /\ ((eO C.P 9 t).length == C.P.cellsOf t) = true /\ u' = .agg l'.toArray /\ ∃ x : qa (eO C.P 9 t), dU _ x = l') \/
       (cw C.P t = some false /\ u' = l'.headD undef /\ ∃ x : qa (cy C.P t).2, dU _ x = l')) := by
  unfold By at hx;obtain ⟨⟨b1, off1⟩, hp, hx⟩ := Wq.1 hx;obtain ⟨g, hg, hx⟩ := Wq.1 hx;have := je.1 hp; subst this;obtain ⟨pl, hpl, rfl⟩ := hv.uy;cases g with
  | true =>
    simp only [Qv] at hx;obtain ⟨h1, hx⟩ := bn.1 hx;obtain ⟨vs, hc, hx⟩ := Wq.1 hx;obtain ⟨h2, hx⟩ := bn.1 hx;cases hx;obtain ⟨hn, l', h3, h4⟩ := re R hc hpl;obtain ⟨x, hx⟩ := tW h3 h2;exact ⟨pl, l', .agg l'.toArray, hpl, rfl, h3, .agg h3, h4, by rw [hn]; exact hc, .inl ⟨hg, by simpa using h1, rfl, x, hx⟩⟩
  | false =>
    simp only [QY] at hx;obtain ⟨vs, hc, hx⟩ := Wq.1 hx;obtain ⟨h2, hx⟩ := bn.1 hx;cases hx;obtain ⟨hn, l', h3, h4⟩ := re R hc hpl;obtain ⟨x, hx⟩ := tW h3 h2;refine ⟨pl, l', l'.headD undef, hpl, rfl, h3, ?_, h4, by rw [hn]; exact hc, .inr ⟨hg, rfl, x, hx⟩⟩;cases h3 with
    | nil => exact oo
    | cons h _ => exact h
theorem zi (R:Rel C h0 ρ s.σ h) {t:TypeId} {v v' u:YB} {b off:Nat} {l:List YB} (hv:VR ρ v v') (hx:By C t v s=some (b,off,l,u)) :
  ∃ pl l' u',ρ b=some pl/\dL ρ l l'/\VR ρ u u'/\cells C s b off l.length=some l/\∀ (kk:YC->List YB->YB->T) (L:Lp) (K:YB->Hp->Prop),kk ⟨pl.cd,pl.sh+off,none⟩ l' u' L K h ->
   (match v',cw C.P t with
    | .pointer p,some true=>bif (eO C.P 9 t).length==C.P.cellsOf t then T.bd p fun a=>T.ah a (eO C.P 9 t) (jh _ fun l=>kk a l (.agg l.toArray)) else T.fail
    | .pointer p,some false=>T.bd p fun a=>T.ah a (cy C.P t).2 (jh _ fun l=>kk a l (l.headD undef))
    | _,_=>T.fail) L K h:=by
 obtain ⟨pl,l',u',h1,h2,h3,h4,h5,h6,h7⟩:=NR R hv hx;refine ⟨pl,l',u',h1,h3,h4,h6,fun kk L K hk=>?_⟩;subst h2;rcases h7 with ⟨e1,e2,e3,x,e4⟩ | ⟨e1,e2,x,e3⟩
 ·simp only [e1,e2,cond_true];subst e3;exact ⟨x,by rw [e4]; exact h5,by rw [dr,e4]; exact hk⟩
 ·simp only [e1];subst e2;exact ⟨x,by rw [e3]; exact h5,by rw [dr,e3]; exact hk⟩
theorem Lx {v v':YB} (h:VR ρ v v'):cS v'=cS v:=by cases h <;> rfl
theorem vS:∀ {l l':List YB},dL ρ l l'->l'.all cS=l.all cS
 | _,_,.nil=>rfl
 | _,_,.cons h t=>by rw [List.all_cons,List.all_cons,Lx h,vS t]
theorem RS {v v':YB} (h:VR ρ v v'):eR v'=eR v:=by cases h <;> rfl
theorem tg {g:Bool} {v v':YB} {l:List YB} (hv:VR ρ v v') (hx:uv g v=some l):eR v'=g/\∃ l',dL ρ l l'/\l'=(match g with
  | true=>ji v'
  | false=>[v']):=by
 unfold uv at hx;cases g with
 | true =>
  have:=uV.1 hx; subst this
  cases hv with
  | agg hl=>exact ⟨rfl,_,hl,rfl⟩
 | false =>
  obtain ⟨h1,h2⟩:=bn.1 hx;cases h2;refine ⟨by rw [RS hv]; simpa using h1,_,.cons hv .nil,rfl⟩
theorem Hn (R:Rel C h0 ρ s.σ h) {b off:Nat} {vs vs':List YB} (hv:dL ρ vs vs') (hx:OK s b off vs=some s1) {pl:Pl} (hp:ρ b=some pl) :
  xD h ⟨pl.cd,pl.sh+off,none⟩ 0 vs'/\Rel C h0 ρ s1.σ (ri h ⟨pl.cd,pl.sh+off,none⟩ 0 vs'):=by
 unfold OK at hx;split at hx
 ·rename_i c e m hb;obtain ⟨h1,h2⟩:=bn.1 hx;cases h2;simp only [Bool.and_eq_true,Bool.not_eq_true'] at h1;obtain ⟨⟨⟨h1,h2⟩,h3⟩,h4⟩:=h1;refine R.store hb ?_ hp hv (by rw [vS hv]; exact h2) (WW h3) (WW h4);intro hm;subst hm;cases h1
 ·cases hx
theorem JU (R:Rel C h0 ρ s.σ h) {t:TypeId} {p p' v v':YB} (hp:VR ρ p p') (hv:VR ρ v v') (hx:FN C.P t p v s=some s1) {k:T} (hk:∀ h1,Rel C h0 ρ s1.σ h1->k L K h1) :
   (match p',cw C.P t with
    | .pointer p,some true=>cond (eR v') (bif (ji v').length==C.P.cellsOf t then T.bd p fun a=>T.aD a (ji v') k else T.fail) T.fail
    | .pointer p,some false=>bif C.P.cellsOf t==1 then cond (eR v') T.fail (T.bd p fun a=>T.aD a [v'] k) else T.fail
    | _,_=>T.fail) L K h:=by
 unfold FN at hx;obtain ⟨⟨b,off⟩,hpp,hx0⟩:=Wq.1 hx;clear hx
 have:=je.1 hpp; subst this
 have hx:=hx0;clear hx0;obtain ⟨g,hg,hx⟩:=Wq.1 hx;obtain ⟨l,hl,hx⟩:=Wq.1 hx;obtain ⟨hn,hx⟩:=bn.1 hx;obtain ⟨pl,hpl,rfl⟩:=hp.uy;obtain ⟨ha,l',hl',he⟩:=tg hv hl;obtain ⟨k1,k2⟩:=Hn R hl' hx hpl;have hn':l'.length=C.P.cellsOf t:=by rw [<- hl'.length]; exact WD hn
 cases g with
 | true =>
  simp only at he; subst he;simp only [hg,ha,cond_true]
  have:((ji v').length==C.P.cellsOf t)=true:=by simpa using hn'
  rw [this];exact ⟨k1,hk _ k2⟩
 | false =>
  simp only at he; subst he;simp only [hg,ha,cond_false]
  have:(C.P.cellsOf t==1)=true:=by simp at hn'; simp [<- hn']
  rw [this];exact ⟨k1,hk _ k2⟩
theorem iq {o:AO}:x8 s o=some s1↔s.σ.get s.nx=none/\s1=⟨s.σ.put s.nx o,s.nx+1⟩:=by
 unfold x8;split
 ·rename_i h;simp only [h,Option.some.injEq,true_and];exact eq_comm
 ·rename_i h;simp [h]
theorem Cz (R:Rel C h0 ρ s.σ h) {c c':List YB} {t:TypeId} {v:YB} (hc:dL ρ c c') (hx:CP s t c=some (v,s1)) (P:nK C h0 ρ s1 v kk L K):T.new c' t (fun a=>kk (.pointer (some a))) L K h:=by
 unfold CP at hx;obtain ⟨s2,hn2,hx⟩:=Wq.1 hx;obtain ⟨hn,h2⟩:=iq.1 hn2;subst h2;cases hx;have hb:=bC.new h t c';obtain ⟨R1,le⟩:=R.newRow (rest:=[]) (e:=t) (m:=0) (cap:=0) hn hc (by rw [Xy]; exact hb) (Ext.push h _) ad
 have:=VR.ptr (ρ:=jO ρ s.nx ⟨h.size,0,0⟩) 0 (fg _ _ _)
 exact P _ _ _ le R1 (by simpa using this)
theorem zc {P:Program} {t:TypeId} {l:List YB} (hx:zeroOf P t=some l):∃ z,(P.info? t).bind (·.zero)=some z/\l=z.cells.toList/\∀ ρ,dL ρ l l:=by
 unfold zeroOf at hx;obtain ⟨z,hz,hx⟩:=Wq.1 hx;obtain ⟨h1,h2⟩:=bn.1 hx;cases h2;exact ⟨z,hz,rfl,fun ρ=>qq (rP 9) _ h1⟩
end
end Go.Sx.Cr
