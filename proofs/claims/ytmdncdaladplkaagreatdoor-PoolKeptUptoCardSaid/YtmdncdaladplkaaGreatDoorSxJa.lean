/- Part of the framework. No condition. -/
import Derived.Test.YtmdncdaladplkaaGreatDoorSxJ
set_option linter.all false
set_option maxHeartbeats 4000000
namespace Go.Sx.Cr
section
variable {C:Cx} {h0:Hp} {ρ:iG} {s s1:CS} {h:Hp} {e:Ev} {e':Env} {L:Lp} {K:Xab->Hp->Prop} {kk:Xab->T}
def Th {d:TypeDesc} {v v':Xab} (hv:VR ρ v v') (a:xN d v=true):∃ x:Sv d,WD d x=v':=by
 cases d with
 | bool=>cases hv <;> first | exact ⟨_,rfl⟩ | (simp [xN] at a; done)
 | int k=>cases hv <;> first | (simp [xN] at a; done) | (simp only [xN,decide_eq_true_eq] at a; subst a; exact ⟨_,rfl⟩)
 | string=>cases hv <;> first | exact ⟨_,rfl⟩ | (simp [xN] at a; done)
 | pointer _=>cases hv <;> first | exact ⟨none,rfl⟩ | exact ⟨some _,rfl⟩ | (simp [xN] at a; done)
 | slice _=>cases hv <;> first | exact ⟨(none,_,_),rfl⟩ | exact ⟨(some _,_,_),rfl⟩ | (simp [xN] at a; done)
 | map _ _=>cases hv <;> first | exact ⟨none,rfl⟩ | exact ⟨some _,rfl⟩ | (simp [xN] at a; done)
 | _=>exact ⟨v',rfl⟩
theorem xg:∀ {c:List TypeDesc} {f b:List Xab},eA ρ f b->fits c f=true->∃ x:qu c,et c x=b
 | [],[],_,.nil,_=>⟨(),rfl⟩
 | d::c,v::f,_,.cons hv ht,a=>by
  simp only [fits,Bool.and_eq_true] at a;obtain ⟨x,g⟩:=Th hv a.1;obtain ⟨y,i⟩:=xg ht a.2;exact ⟨(x,y),by simp only [et,g,i]⟩
 | [],_::_,_,_,a=>by simp [fits] at a
 | _::_,[],_,_,a=>by simp [fits] at a
theorem Ic:∀ {b:List TypeDesc} {c:List Xab},fits b c=true->c.length=b.length
 | [],[],_=>rfl
 | d::b,v::c,a=>by
  simp only [fits,Bool.and_eq_true] at a;simp [Ic a.2]
 | [],_::_,a=>by simp [fits] at a
 | _::_,[],a=>by simp [fits] at a
def wQ {v:Xab} {l:List Xab}:B7 v=some l↔v=.agg ⟨l⟩:=by
 unfold B7;split
 ·simp
 ·rename_i hn;simp only [reduceCtorEq,false_iff];intro a; exact hn _ a
def GC {v:Xab} {l:List Xab}:QC v=some l↔v=.tuple ⟨l⟩:=by
 unfold QC;split
 ·simp
 ·rename_i hn;simp only [reduceCtorEq,false_iff];intro a; exact hn _ a
def TQ {c:ez} {v v':Xab} (hv:VR ρ v v') (a:EP c v=true):∃ x:qu c.2,∀ rest rs,parts (c::rest) (et _ x++rs)=v'::parts rest rs:=by
 obtain ⟨b,g⟩:=c;cases b with
 | true =>
  unfold EP at a;simp only at a;cases d:B7 v with
  | none=>rw [d] at a; cases a
  | some l =>
   rw [d] at a
   have:=wQ.1 d; subst this
   cases hv with
   | agg hl =>
    obtain ⟨x,f⟩:=xg hl a;refine ⟨x,λrest rs=>?_⟩;have hn:=wc g x;simp only [parts];rw [<- hn,eg9,dy9,f]
 | false =>
  unfold EP at a;simp only at a;have hn:=Ic a;obtain ⟨x,f⟩:=xg (.cons hv .nil) a;refine ⟨x,λrest rs=>?_⟩;simp only [parts];rw [f] <;> rfl
theorem K3:∀ (a es:List TypeDesc) (x:qu a) (y:qu es),∃ z:qu (a++es),et _ z=et _ x++et _ y
 | [],es,x,y=>⟨y,rfl⟩
 | d::a,es,x,y=>by
  obtain ⟨z,b⟩:=K3 a es x.2 y;exact ⟨(x.1,z),by simp only [et,b,List.cons_append]⟩
theorem AR:∀ {cs:List ez} {d b:List Xab},eA ρ d b->BI cs d=true->∃ x:qu (flat cs),parts cs (et _ x)=b
 | [],[],_,.nil,_=>⟨(),rfl⟩
 | c::cs,v::d,_,.cons hv ht,a=>by
  simp only [BI,Bool.and_eq_true] at a;obtain ⟨x,f⟩:=TQ hv a.1;obtain ⟨y,g⟩:=AR ht a.2;obtain ⟨z,i⟩:=K3 c.2 (flat cs) x y;refine ⟨z,?_⟩;show parts (c::cs) (et (c.2++flat cs) z)=_;rw [i,f,g]
 | [],_::_,_,_,a=>by simp [BI] at a
 | _::_,[],_,_,a=>by simp [BI] at a
def xC {q:Bool × List ez} {v v':Xab} (hv:VR ρ v v') (a:J2 q v=true):∃ x:qu (flat q.2),v'=rv q.1 q.2 (et _ x):=by
 obtain ⟨b,cs⟩:=q;cases b with
 | true =>
  unfold J2 at a;simp only at a;cases c:QC v with
  | none=>rw [c] at a; cases a
  | some l =>
   rw [c] at a
   have:=GC.1 c; subst this
   cases hv with
   | tuple hl =>
    obtain ⟨x,d⟩:=AR hl a;exact ⟨x,by simp only [rv]; rw [d]⟩
 | false =>
  unfold J2 at a;simp only at a;obtain ⟨x,d⟩:=AR (.cons hv .nil) a;exact ⟨x,by simp only [rv]; rw [d]; rfl⟩
variable {H:Nat}
def tz (R:Rel C h0 ρ s.σ h) {off n:Nat} {a:List Xab} (d:cells C s H off n=some a) {pl:Pl} (i:ρ H=some pl) :
  a.length=n/\∃ vs',eA ρ a vs'/\aH h ⟨pl.cj,pl.sh+off,none⟩ 0 vs':=by
 unfold cells P9 at d;split at d
 ·rename_i c e m q;obtain ⟨h1,h2⟩:=wo off n c a d;obtain ⟨cs,f,g,hc,_⟩:=R.row q i;exact ⟨h1,ka g a 0 λj v k=>by rw [eh9]; exact hc _ _ (h2 j v k)⟩
 ·rename_i q;obtain ⟨c,hc,d⟩:=aa9.1 d;obtain ⟨h1,h2⟩:=wo off n c a d;obtain ⟨l,cs,e,f,g,o⟩:=R.ro H c hc;rw [R.TG H l] at i;cases i;have p:h[H]?=some (.cells cs e f):=by rw [R.base H (eY g)]; exact g
  refine ⟨h1,ka (pl:=⟨H,0,0⟩) p a 0 λj v k=>?_⟩;obtain ⟨r,t⟩:=o _ v (h2 j v k);exact ⟨v,by simpa using r,uf 9 v t⟩
 ·cases d
def kw {v:Xab} {off:Nat}:wG v=some (H,off)↔v=.pointer (some ⟨H,off,none⟩):=by
 unfold wG;split
 ·simp
 ·rename_i hn;simp only [reduceCtorEq,false_iff];intro a; exact hn _ _ a
def VR.wT {off:Nat} {v':Xab} (hv:VR ρ (.pointer (some ⟨H,off,none⟩)) v'):∃ pl,ρ H=some pl/\v'=.pointer (some ⟨pl.cj,pl.sh+off,none⟩):=by
 cases hv with
 | ptr off h=>exact ⟨_,h,rfl⟩
variable {O:TypeId}
def Ol (R : Rel C h0 ρ s.σ h) {v v' u : Xab} {off:Nat} {l : List Xab} (hv : VR ρ v v') (a : DE C O v s = some (H, off, l, u)) :
    ∃ pl l' f, ρ H = some pl /\ v' = .pointer (some ⟨pl.cj, pl.sh + off, none⟩) /\ eA ρ l l' /\ VR ρ u f /\ aH h ⟨pl.cj, pl.sh + off, none⟩ 0 l' /\ cells C s H off l.length = some l /\
      ((cO C.P O = some true /\ ((fD C.P 9 O).length == C.P.cellsOf O) = true /\ f = .agg l'.toArray /\ ∃ x : qu (fD C.P 9 O), et _ x = l') \/
       (cO C.P O = some false /\ f = l'.headD undef /\ ∃ x : qu (cM C.P O).2, et _ x = l')) := by
  unfold DE at a;obtain ⟨⟨o, j⟩, m, a⟩ := aa9.1 a;obtain ⟨g, k, a⟩ := aa9.1 a;have := kw.1 m; subst this;obtain ⟨pl, c, rfl⟩ := hv.wT;cases g with
  | true =>
    simp only [Wj] at a;obtain ⟨h1, a⟩ := bt.1 a;obtain ⟨n, hc, a⟩ := aa9.1 a;obtain ⟨h2, a⟩ := bt.1 a;cases a;obtain ⟨hn, l', d, i⟩ := tz R hc c;obtain ⟨x, a⟩ := xg d h2;exact ⟨pl, l', .agg l'.toArray, c, rfl, d, .agg d, i, by rw [hn]; exact hc, .inl ⟨k, by simpa using h1, rfl, x, a⟩⟩
  | false =>
    simp only [Ws] at a;obtain ⟨n, hc, a⟩ := aa9.1 a;obtain ⟨h2, a⟩ := bt.1 a;cases a;obtain ⟨hn, l', d, i⟩ := tz R hc c;obtain ⟨x, a⟩ := xg d h2;refine ⟨pl, l', l'.headD undef, c, rfl, d, ?_, i, by rw [hn]; exact hc, .inr ⟨k, rfl, x, a⟩⟩;cases d with
    | nil => exact pA
    | cons h _ => exact h
def BG (R:Rel C h0 ρ s.σ h) {v v' u:Xab} {off:Nat} {l:List Xab} (hv:VR ρ v v') (k:DE C O v s=some (H,off,l,u)) :
  ∃ pl l' c,ρ H=some pl/\eA ρ l l'/\VR ρ u c/\cells C s H off l.length=some l/\∀ (kk:Xax->List Xab->Xab->T) (L:Lp) (K:Xab->Hp->Prop),kk ⟨pl.cj,pl.sh+off,none⟩ l' c L K h ->
   (match v',cO C.P O with
    | .pointer p,some true=>bif (fD C.P 9 O).length==C.P.cellsOf O then T.bh p λa=>T.ah a (fD C.P 9 O) (j7 _ λl=>kk a l (.agg l.toArray)) else T.fail
    | .pointer p,some false=>T.bh p λa=>T.ah a (cM C.P O).2 (j7 _ λl=>kk a l (l.headD undef))
    | _,_=>T.fail) L K h:=by
 obtain ⟨pl,l',c,h1,h2,m,n,i,o,q⟩:=Ol R hv k;refine ⟨pl,l',c,h1,m,n,o,λkk L K hk=>?_⟩;subst h2;rcases q with ⟨f,g,d,x,j⟩ | ⟨f,g,x,d⟩
 ·simp only [f,g,cond_true];subst d;exact ⟨x,by rw [j]; exact i,by rw [dX,j]; exact hk⟩
 ·simp only [f];subst g;exact ⟨x,by rw [d]; exact i,by rw [dX,d]; exact hk⟩
def PX {v v':Xab} (h:VR ρ v v'):df v'=df v:=by cases h <;> rfl
theorem yD:∀ {l l':List Xab},eA ρ l l'->l'.all df=l.all df
 | _,_,.nil=>rfl
 | _,_,.cons h t=>by rw [fl9,fl9,PX h,yD t]
def XX {v v':Xab} (h:VR ρ v v'):fx v'=fx v:=by cases h <;> rfl
def vA {g:Bool} {v v':Xab} {l:List Xab} (hv:VR ρ v v') (a:xF g v=some l):fx v'=g/\∃ l',eA ρ l l'/\l'=(match g with
  | true=>kC v'
  | false=>[v']):=by
 unfold xF at a;cases g with
 | true =>
  have:=wQ.1 a; subst this
  cases hv with
  | agg hl=>exact ⟨rfl,_,hl,rfl⟩
 | false =>
  obtain ⟨h1,h2⟩:=bt.1 a;cases h2;refine ⟨by rw [XX hv]; simpa using h1,_,.cons hv .nil,rfl⟩
def LU (R:Rel C h0 ρ s.σ h) {off:Nat} {f a:List Xab} (hv:eA ρ f a) (d:Uu s H off f=some s1) {pl:Pl} (g:ρ H=some pl) :
  zQ h ⟨pl.cj,pl.sh+off,none⟩ 0 a/\Rel C h0 ρ s1.σ (tS h ⟨pl.cj,pl.sh+off,none⟩ 0 a):=by
 unfold Uu at d;split at d
 ·rename_i c e m i;obtain ⟨h1,h2⟩:=bt.1 d;cases h2;simp only [Bool.and_eq_true,Bool.not_eq_true'] at h1;obtain ⟨⟨⟨h1,h2⟩,j⟩,k⟩:=h1;refine R.store i ?_ g hv (by rw [yD hv]; exact h2) (bk9 j) (bk9 k);intro l;subst l;cases h1
 ·cases d
def NN (R:Rel C h0 ρ s.σ h) {t:TypeId} {p p' v v':Xab} (u:VR ρ p p') (hv:VR ρ v v') (hx:I1 C.P t p v s=some s1) {k:T} (hk:∀ h1,Rel C h0 ρ s1.σ h1->k L K h1) :
   (match p',cO C.P t with
    | .pointer p,some true=>cond (fx v') (bif (kC v').length==C.P.cellsOf t then T.bh p λa=>T.aD a (kC v') k else T.fail) T.fail
    | .pointer p,some false=>bif C.P.cellsOf t==1 then cond (fx v') T.fail (T.bh p λa=>T.aD a [v'] k) else T.fail
    | _,_=>T.fail) L K h:=by
 unfold I1 at hx;obtain ⟨⟨b,off⟩,j,d⟩:=aa9.1 hx;clear hx
 have:=kw.1 j; subst this
 have hx:=d;clear d;obtain ⟨g,n,hx⟩:=aa9.1 hx;obtain ⟨l,hl,hx⟩:=aa9.1 hx;obtain ⟨hn,hx⟩:=bt.1 hx;obtain ⟨pl,m,rfl⟩:=u.wT;obtain ⟨o,l',f,i⟩:=vA hv hl;obtain ⟨q,r⟩:=LU R f hx m;have c:l'.length=C.P.cellsOf t:=by rw [<- f.length]; exact av9 hn
 cases g with
 | true =>
  simp only at i; subst i;simp only [n,o,cond_true]
  have:((kC v').length==C.P.cellsOf t)=true:=by simpa using c
  rw [this];exact ⟨q,hk _ r⟩
 | false =>
  simp only at i; subst i;simp only [n,o,cond_false]
  have:(C.P.cellsOf t==1)=true:=by simp at c; simp [<- c]
  rw [this];exact ⟨q,hk _ r⟩
def jK {o:AO}:Ar s o=some s1↔s.σ.get s.nx=none/\s1=⟨s.σ.put s.nx o,s.nx+1⟩:=by
 unfold Ar;split
 ·rename_i h;simp only [h,Option.some.injEq,true_and];exact eq_comm
 ·rename_i h;simp [h]
def Fz (R:Rel C h0 ρ s.σ h) {c c':List Xab} {v:Xab} (hc:eA ρ c c') (b:EX s O c=some (v,s1)) (P:pJ C h0 ρ s1 v kk L K):T.new c' O (λa=>kk (.pointer (some a))) L K h:=by
 unfold EX at b;obtain ⟨g,d,b⟩:=aa9.1 b;obtain ⟨hn,h2⟩:=jK.1 d;subst h2;cases b;have hb:=br.new h O c';obtain ⟨f,le⟩:=R.newRow (rest:=[]) (e:=O) (m:=0) (cap:=0) hn hc (by rw [cb9]; exact hb) (Ext.push h _) ad
 have:=VR.ptr (ρ:=lG ρ s.nx ⟨h.size,0,0⟩) 0 (fW _ _ _)
 exact P _ _ _ le f (by simpa using this)
def Cj {P:Program} {l:List Xab} (a:zeroOf P O=some l):∃ z,(P.info? O).bind (·.zero)=some z/\l=z.cells.toList/\∀ ρ,eA ρ l l:=by
 unfold zeroOf at a;obtain ⟨z,b,a⟩:=aa9.1 a;obtain ⟨h1,h2⟩:=bt.1 a;cases h2;exact ⟨z,b,rfl,λρ=>sI (uf 9) _ h1⟩
end
end Go.Sx.Cr
