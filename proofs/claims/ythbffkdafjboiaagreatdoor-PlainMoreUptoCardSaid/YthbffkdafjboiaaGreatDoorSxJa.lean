/- Part of the framework. No condition. -/
import Derived.Test.YthbffkdafjboiaaGreatDoorSxJ
set_option linter.all false
set_option maxHeartbeats 4000000
namespace Go.Sx.Cr
section
variable {C:Cx} {h0:Hp} {ρ:gn} {s s1:CS} {h:Hp} {e:Ev} {e':Env} {L:Lp} {K:Xab->Hp->Prop} {kk:Xab->T}
def Py {d:TypeDesc} {v v':Xab} (hv:VR ρ v v') (j:vR d v=true):∃ x:Sv d,Td d x=v':=by
 cases d with
 | bool=>cases hv <;> first | exact ⟨_,rfl⟩ | (simp [vR] at j; done)
 | int k=>cases hv <;> first | (simp [vR] at j; done) | (simp only [vR,decide_eq_true_eq] at j; subst j; exact ⟨_,rfl⟩)
 | string=>cases hv <;> first | exact ⟨_,rfl⟩ | (simp [vR] at j; done)
 | pointer _=>cases hv <;> first | exact ⟨none,rfl⟩ | exact ⟨some _,rfl⟩ | (simp [vR] at j; done)
 | slice _=>cases hv <;> first | exact ⟨(none,_,_),rfl⟩ | exact ⟨(some _,_,_),rfl⟩ | (simp [vR] at j; done)
 | map _ _=>cases hv <;> first | exact ⟨none,rfl⟩ | exact ⟨some _,rfl⟩ | (simp [vR] at j; done)
 | _=>exact ⟨v',rfl⟩
theorem uZ:∀ {ds:List TypeDesc} {vs vs':List Xab},dS ρ vs vs'->fits ds vs=true->∃ x:qt ds,ef ds x=vs'
 | [],[],_,.nil,_=>⟨(),rfl⟩
 | d::ds,v::vs,_,.cons hv u,j=>by
  simp only [fits,Bool.and_eq_true] at j;obtain ⟨x,hx⟩:=Py hv j.1;obtain ⟨y,hy⟩:=uZ u j.2;exact ⟨(x,y),by simp only [ef,hx,hy]⟩
 | [],_::_,_,_,j=>by simp [fits] at j
 | _::_,[],_,_,j=>by simp [fits] at j
theorem FX:∀ {ds:List TypeDesc} {vs:List Xab},fits ds vs=true->vs.length=ds.length
 | [],[],_=>rfl
 | d::ds,v::vs,j=>by
  simp only [fits,Bool.and_eq_true] at j;simp [FX j.2]
 | [],_::_,j=>by simp [fits] at j
 | _::_,[],j=>by simp [fits] at j
def uI {v:Xab} {l:List Xab}:Al v=some l↔v=.agg ⟨l⟩:=by
 unfold Al;split
 ·simp
 ·rename_i hn;simp only [reduceCtorEq,false_iff];intro j; exact hn _ j
def Ej {v:Xab} {l:List Xab}:Nj v=some l↔v=.tuple ⟨l⟩:=by
 unfold Nj;split
 ·simp
 ·rename_i hn;simp only [reduceCtorEq,false_iff];intro j; exact hn _ j
def P1 {c:fJ} {v v':Xab} (hv:VR ρ v v') (j:CR c v=true):∃ x:qt c.2,∀ rest rs,parts (c::rest) (ef _ x++rs)=v'::parts rest rs:=by
 obtain ⟨b,ds⟩:=c;cases b with
 | true =>
  unfold CR at j;simp only at j;cases u:Al v with
  | none=>rw [u] at j; cases j
  | some l =>
   rw [u] at j
   have:=uI.1 u; subst this
   cases hv with
   | agg hl =>
    obtain ⟨x,hx⟩:=uZ hl j;refine ⟨x,fun rest rs=>?_⟩;have hn:=uc ds x;simp only [parts];rw [<- hn,bw9,bq9,hx]
 | false =>
  unfold CR at j;simp only at j;have hn:=FX j;obtain ⟨x,hx⟩:=uZ (.cons hv .nil) j;refine ⟨x,fun rest rs=>?_⟩;simp only [parts];rw [hx] <;> rfl
theorem Im:∀ (ds es:List TypeDesc) (x:qt ds) (y:qt es),∃ z:qt (ds++es),ef _ z=ef _ x++ef _ y
 | [],es,x,y=>⟨y,rfl⟩
 | d::ds,es,x,y=>by
  obtain ⟨z,j⟩:=Im ds es x.2 y;exact ⟨(x.1,z),by simp only [ef,j,List.cons_append]⟩
theorem ze:∀ {cs:List fJ} {vs vs':List Xab},dS ρ vs vs'->zV cs vs=true->∃ x:qt (flat cs),parts cs (ef _ x)=vs'
 | [],[],_,.nil,_=>⟨(),rfl⟩
 | c::cs,v::vs,_,.cons hv u,j=>by
  simp only [zV,Bool.and_eq_true] at j;obtain ⟨x,hx⟩:=P1 hv j.1;obtain ⟨y,hy⟩:=ze u j.2;obtain ⟨z,G⟩:=Im c.2 (flat cs) x y;refine ⟨z,?_⟩;show parts (c::cs) (ef (c.2++flat cs) z)=_;rw [G,hx,hy]
 | [],_::_,_,_,j=>by simp [zV] at j
 | _::_,[],_,_,j=>by simp [zV] at j
def vH {q:Bool × List fJ} {v v':Xab} (hv:VR ρ v v') (j:Hl q v=true):∃ x:qt (flat q.2),v'=rv q.1 q.2 (ef _ x):=by
 obtain ⟨b,cs⟩:=q;cases b with
 | true =>
  unfold Hl at j;simp only at j;cases u:Nj v with
  | none=>rw [u] at j; cases j
  | some l =>
   rw [u] at j
   have:=Ej.1 u; subst this
   cases hv with
   | tuple hl =>
    obtain ⟨x,hx⟩:=ze hl j;exact ⟨x,by simp only [rv]; rw [hx]⟩
 | false =>
  unfold Hl at j;simp only at j;obtain ⟨x,hx⟩:=ze (.cons hv .nil) j;exact ⟨x,by simp only [rv]; rw [hx]; rfl⟩
def ri (R:Rel C h0 ρ s.σ h) {b off n:Nat} {vs:List Xab} (hx:cells C s b off n=some vs) {pl:Pl} (G:ρ b=some pl) :
  vs.length=n/\∃ vs',dS ρ vs vs'/\aI h ⟨pl.cr,pl.sh+off,none⟩ 0 vs':=by
 unfold cells MN at hx;split at hx
 ·rename_i c e m hb;obtain ⟨h1,h2⟩:=pO off n c vs hx;obtain ⟨cs,f,u,hc,_⟩:=R.row hb G;exact ⟨h1,jx u vs 0 fun j v J=>by rw [cv9]; exact hc _ _ (h2 j v J)⟩
 ·rename_i hb;obtain ⟨c,hc,hx⟩:=YZ.1 hx;obtain ⟨h1,h2⟩:=pO off n c vs hx;obtain ⟨O,cs,e,f,u,U⟩:=R.ro b c hc;rw [R.PT b O] at G;cases G;have V:h[b]?=some (.cells cs e f):=by rw [R.base b (fj u)]; exact u
  refine ⟨h1,jx (pl:=⟨b,0,0⟩) V vs 0 fun j v J=>?_⟩;obtain ⟨e1,e2⟩:=U _ v (h2 j v J);exact ⟨v,by simpa using e1,r5 9 v e2⟩
 ·cases hx
def jG {v:Xab} {b off:Nat}:uA v=some (b,off)↔v=.pointer (some ⟨b,off,none⟩):=by
 unfold uA;split
 ·simp
 ·rename_i hn;simp only [reduceCtorEq,false_iff];intro j; exact hn _ _ j
def VR.uL {b off:Nat} {v':Xab} (hv:VR ρ (.pointer (some ⟨b,off,none⟩)) v'):∃ pl,ρ b=some pl/\v'=.pointer (some ⟨pl.cr,pl.sh+off,none⟩):=by
 cases hv with
 | ptr off h=>exact ⟨_,h,rfl⟩
def K9 (R : Rel C h0 ρ s.σ h) {t : TypeId} {v v' u : Xab} {b off : Nat} {l : List Xab} (hv : VR ρ v v') (hx : BF C t v s = some (b, off, l, u)) :
    ∃ pl l' G, ρ b = some pl /\ v' = .pointer (some ⟨pl.cr, pl.sh + off, none⟩) /\ dS ρ l l' /\ VR ρ u G /\ aI h ⟨pl.cr, pl.sh + off, none⟩ 0 l' /\ cells C s b off l.length = some l /\
      ((cF C.P t = some true /\ ((ff C.P 9 t).length == C.P.cellsOf t) = true /\ G = .agg l'.toArray /\ ∃ x : qt (ff C.P 9 t), ef _ x = l') \/
       (cF C.P t = some false /\ G = l'.headD undef /\ ∃ x : qt (cD C.P t).2, ef _ x = l')) := by
  unfold BF at hx;obtain ⟨⟨b1, J⟩, U, hx⟩ := YZ.1 hx;obtain ⟨g, O, hx⟩ := YZ.1 hx;have := jG.1 U; subst this;obtain ⟨pl, j, rfl⟩ := hv.uL;cases g with
  | true =>
    simp only [SP] at hx;obtain ⟨h1, hx⟩ := bq.1 hx;obtain ⟨vs, hc, hx⟩ := YZ.1 hx;obtain ⟨h2, hx⟩ := bq.1 hx;cases hx;obtain ⟨hn, l', h3, h4⟩ := ri R hc j;obtain ⟨x, hx⟩ := uZ h3 h2;exact ⟨pl, l', .agg l'.toArray, j, rfl, h3, .agg h3, h4, by rw [hn]; exact hc, .inl ⟨O, by simpa using h1, rfl, x, hx⟩⟩
  | false =>
    simp only [S0] at hx;obtain ⟨vs, hc, hx⟩ := YZ.1 hx;obtain ⟨h2, hx⟩ := bq.1 hx;cases hx;obtain ⟨hn, l', h3, h4⟩ := ri R hc j;obtain ⟨x, hx⟩ := uZ h3 h2;refine ⟨pl, l', l'.headD undef, j, rfl, h3, ?_, h4, by rw [hn]; exact hc, .inr ⟨O, rfl, x, hx⟩⟩;cases h3 with
    | nil => exact nN
    | cons h _ => exact h
def zT (R:Rel C h0 ρ s.σ h) {t:TypeId} {v v' u:Xab} {b off:Nat} {l:List Xab} (hv:VR ρ v v') (hx:BF C t v s=some (b,off,l,u)) :
  ∃ pl l' j,ρ b=some pl/\dS ρ l l'/\VR ρ u j/\cells C s b off l.length=some l/\∀ (kk:Xax->List Xab->Xab->T) (L:Lp) (K:Xab->Hp->Prop),kk ⟨pl.cr,pl.sh+off,none⟩ l' j L K h ->
   (match v',cF C.P t with
    | .pointer p,some true=>bif (ff C.P 9 t).length==C.P.cellsOf t then T.bG p fun a=>T.ah a (ff C.P 9 t) (ju _ fun l=>kk a l (.agg l.toArray)) else T.fail
    | .pointer p,some false=>T.bG p fun a=>T.ah a (cD C.P t).2 (ju _ fun l=>kk a l (l.headD undef))
    | _,_=>T.fail) L K h:=by
 obtain ⟨pl,l',j,h1,h2,h3,h4,h5,h6,h7⟩:=K9 R hv hx;refine ⟨pl,l',j,h1,h3,h4,h6,fun kk L K hk=>?_⟩;subst h2;rcases h7 with ⟨e1,e2,G,x,J⟩ | ⟨e1,e2,x,G⟩
 ·simp only [e1,e2,cond_true];subst G;exact ⟨x,by rw [J]; exact h5,by rw [dG,J]; exact hk⟩
 ·simp only [e1];subst e2;exact ⟨x,by rw [G]; exact h5,by rw [dG,G]; exact hk⟩
def MD {v v':Xab} (h:VR ρ v v'):cO v'=cO v:=by cases h <;> rfl
theorem wR:∀ {l l':List Xab},dS ρ l l'->l'.all cO=l.all cO
 | _,_,.nil=>rfl
 | _,_,.cons h t=>by rw [cn9,cn9,MD h,wR t]
def Uq {v v':Xab} (h:VR ρ v v'):eY v'=eY v:=by cases h <;> rfl
def tE {g:Bool} {v v':Xab} {l:List Xab} (hv:VR ρ v v') (hx:vL g v=some l):eY v'=g/\∃ l',dS ρ l l'/\l'=(match g with
  | true=>jK v'
  | false=>[v']):=by
 unfold vL at hx;cases g with
 | true =>
  have:=uI.1 hx; subst this
  cases hv with
  | agg hl=>exact ⟨rfl,_,hl,rfl⟩
 | false =>
  obtain ⟨h1,h2⟩:=bq.1 hx;cases h2;refine ⟨by rw [Uq hv]; simpa using h1,_,.cons hv .nil,rfl⟩
def IY (R:Rel C h0 ρ s.σ h) {b off:Nat} {vs vs':List Xab} (hv:dS ρ vs vs') (hx:QC s b off vs=some s1) {pl:Pl} (j:ρ b=some pl) :
  yb h ⟨pl.cr,pl.sh+off,none⟩ 0 vs'/\Rel C h0 ρ s1.σ (rN h ⟨pl.cr,pl.sh+off,none⟩ 0 vs'):=by
 unfold QC at hx;split at hx
 ·rename_i c e m hb;obtain ⟨h1,h2⟩:=bq.1 hx;cases h2;simp only [Bool.and_eq_true,Bool.not_eq_true'] at h1;obtain ⟨⟨⟨h1,h2⟩,h3⟩,h4⟩:=h1;refine R.store hb ?_ j hv (by rw [wR hv]; exact h2) (Zw h3) (Zw h4);intro hm;subst hm;cases h1
 ·cases hx
def KE (R:Rel C h0 ρ s.σ h) {t:TypeId} {p p' v v':Xab} (hp:VR ρ p p') (hv:VR ρ v v') (hx:Gz C.P t p v s=some s1) {k:T} (hk:∀ h1,Rel C h0 ρ s1.σ h1->k L K h1) :
   (match p',cF C.P t with
    | .pointer p,some true=>cond (eY v') (bif (jK v').length==C.P.cellsOf t then T.bG p fun a=>T.aC a (jK v') k else T.fail) T.fail
    | .pointer p,some false=>bif C.P.cellsOf t==1 then cond (eY v') T.fail (T.bG p fun a=>T.aC a [v'] k) else T.fail
    | _,_=>T.fail) L K h:=by
 unfold Gz at hx;obtain ⟨⟨b,off⟩,O,u⟩:=YZ.1 hx;clear hx
 have:=jG.1 O; subst this
 have hx:=u;clear u;obtain ⟨g,V,hx⟩:=YZ.1 hx;obtain ⟨l,hl,hx⟩:=YZ.1 hx;obtain ⟨hn,hx⟩:=bq.1 hx;obtain ⟨pl,U,rfl⟩:=hp.uL;obtain ⟨X,l',G,J⟩:=tE hv hl;obtain ⟨Y,Z⟩:=IY R G hx U;have j:l'.length=C.P.cellsOf t:=by rw [<- G.length]; exact Zf hn
 cases g with
 | true =>
  simp only at J; subst J;simp only [V,X,cond_true]
  have:((jK v').length==C.P.cellsOf t)=true:=by simpa using j
  rw [this];exact ⟨Y,hk _ Z⟩
 | false =>
  simp only at J; subst J;simp only [V,X,cond_false]
  have:(C.P.cellsOf t==1)=true:=by simp at j; simp [<- j]
  rw [this];exact ⟨Y,hk _ Z⟩
def iX {o:AO}:yN s o=some s1↔s.σ.get s.nx=none/\s1=⟨s.σ.put s.nx o,s.nx+1⟩:=by
 unfold yN;split
 ·rename_i h;simp only [h,Option.some.injEq,true_and];exact eq_comm
 ·rename_i h;simp [h]
def Dn (R:Rel C h0 ρ s.σ h) {c c':List Xab} {t:TypeId} {v:Xab} (hc:dS ρ c c') (hx:CX s t c=some (v,s1)) (P:nV C h0 ρ s1 v kk L K):T.new c' t (fun a=>kk (.pointer (some a))) L K h:=by
 unfold CX at hx;obtain ⟨G,j,hx⟩:=YZ.1 hx;obtain ⟨hn,h2⟩:=iX.1 j;subst h2;cases hx;have hb:=bF.new h t c';obtain ⟨u,le⟩:=R.newRow (rest:=[]) (e:=t) (m:=0) (cap:=0) hn hc (by rw [ZQ]; exact hb) (Ext.push h _) ad
 have:=VR.ptr (ρ:=jn ρ s.nx ⟨h.size,0,0⟩) 0 (fy _ _ _)
 exact P _ _ _ le u (by simpa using this)
def Aw {P:Program} {t:TypeId} {l:List Xab} (hx:zeroOf P t=some l):∃ z,(P.info? t).bind (·.zero)=some z/\l=z.cells.toList/\∀ ρ,dS ρ l l:=by
 unfold zeroOf at hx;obtain ⟨z,j,hx⟩:=YZ.1 hx;obtain ⟨h1,h2⟩:=bq.1 hx;cases h2;exact ⟨z,j,rfl,fun ρ=>qF (r5 9) _ h1⟩
end
end Go.Sx.Cr
