/- Part of the framework. No condition. -/
import Derived.Test.YthbffkdafjboiaaGreatDoorSxJc
set_option linter.all false
set_option maxHeartbeats 4000000
namespace Go.Sx.Cr
section
variable {C:Cx} {h0:Hp} {ρ:gn} {s s1:CS} {h:Hp} {e:Ev} {e':Env} {L:Lp} {K:Xab->Hp->Prop} {kk:Xab->T}
def uE {d:Option TypeDesc} (h:xf d=true):d=some .string:=by
 unfold xf at h;split at h
 ·rfl
 ·cases h
def rU {t:TypeId} {a a' v:Xab} {j hi:Option Xab} (J:VR ρ a a') (hx:rH C.P t a j hi=some v) :
  ∃ v',VR ρ v v'/\∀ (kk:Xab->T) (L:Lp) (K:Xab->Hp->Prop),kk v' L K h->iR C.P t a' j hi none kk L K h:=by
 unfold rH at hx;obtain ⟨h1,hx⟩:=bq.1 hx;have u:(eA j && eA hi && eA none)=true:=by rw [h1]; rfl
 cases G:C.P.underlying t with
 | none=>rw [G] at hx; cases hx
 | some d =>
  rw [G] at hx;cases d <;> first | (cases hx; done) | skip
  ·simp only at hx;cases a <;> first | (cases hx; done) | skip
   cases J;obtain ⟨h2,hx⟩:=bq.1 (show fM _ _=some v from hx);cases hx;refine ⟨_,.string _,fun kk L K hk=>?_⟩;unfold iR;simp only [u,G];exact ⟨by simpa using h2,hk⟩
  ·rename_i e;simp only at hx;cases J with
   | @sl b pl off len cap c' hb hc hl =>
    obtain ⟨h2,hx⟩:=bq.1 (show fM _ _=some v from hx);cases hx;simp only [Bool.and_eq_true,decide_eq_true_eq,Bool.or_eq_true] at h2;obtain ⟨⟨h3,h4,h5,h6,h7⟩,h8⟩:=h2;refine ⟨.slice (some ⟨pl.cr,pl.sh+(off+(kj j).toNat*C.P.cellsOf e),none⟩) ((kJ len hi).toNat-(kj j).toNat) (c' - (kj j).toNat),?_,fun kk L K hk=>?_⟩
    ·refine .sl _ _ hb ?_ ad;rcases hc with ⟨g1,g2⟩ | ⟨g1,g2⟩
     ·exact .inl ⟨ad,ad⟩
     ·rcases h8 with h8 | h8
      ·rw [Nat.blt_eq] at h8; omega
      ·have h8:=Zw h8;exact .inr ⟨h8,by unfold half at *; omega⟩
    ·unfold iR;simp only [u,G,h3];refine ⟨⟨h4,h5,ad⟩,?_⟩;rw [Y2 ad];simp only [Option.map_some,aE];rw [Nat.add_assoc];exact hk
   | _=>cases hx
def UH {t:TypeId} {a a' v:Xab} {u hi J:Option Operand} {vs vs':List Xab} (G:VR ρ a a') (hv:dS ρ vs vs') (hx:XE C.P t u hi J a vs=some v) :
  ∃ v',VR ρ v v'/\∀ (kk:Xab->T) (L:Lp) (K:Xab->Hp->Prop),kk v' L K h->UX C.P t u hi J a' vs' kk L K h:=by
 unfold XE at hx;have one:∀ {l l':Xab},VR ρ l l'->eA (some l)=true->l'=l:=fun hl hi=>by
  cases hl <;> first | rfl | (simp [eA] at hi; done)
 have j:∀ {u hi:Option Xab},rH C.P t a u hi=some v->eA u=true/\eA hi=true:=fun hx=>by
  unfold rH at hx
  have:=(bq.1 hx).1
  simpa using this
 split at hx
 ·cases hv; exact rU G hx
 ·cases hv with
  | cons h1 hv=>cases hv; rw [one h1 (j hx).1]; exact rU G hx
 ·cases hv with
  | cons h1 hv=>cases hv; rw [one h1 (j hx).2]; exact rU G hx
 ·cases hv with
  | cons h1 hv=>cases hv with
   | cons h2 hv=>cases hv; rw [one h1 (j hx).1,one h2 (j hx).2]; exact rU G hx
 ·cases hx
def FP {i i':Xab} {n:Int} (hi:VR ρ i i') (hx:intOf i=some n):∃ k,i'=.int k n:=by
 cases hi <;> first | (cases hx; done) | (cases hx; exact ⟨_,rfl⟩)
def Mh {t:TypeId} {a a' i i' v:Xab} (u:VR ρ a a') (hi:VR ρ i i') (hx:OV C.P t a i=some v) :
  ∃ v',VR ρ v v'/\∀ (kk:Xab->T) (L:Lp) (K:Xab->Hp->Prop),kk v' L K h->xY C.P t a' i' kk L K h:=by
 unfold OV at hx;obtain ⟨n,hn,hx⟩:=YZ.1 hx;obtain ⟨k,rfl⟩:=FP hi hn;cases j:C.P.underlying t with
 | none=>rw [j] at hx; cases hx
 | some d =>
  rw [j] at hx;cases d <;> first | (cases hx; done) | skip
  case array len G =>
   simp only at hx;obtain ⟨⟨b,off⟩,J,hx⟩:=YZ.1 hx;obtain ⟨h1,hx⟩:=bq.1 (show fM _ _=some v from hx);cases hx
   have:=jG.1 J
   rw [this] at u;obtain ⟨pl,hb,rfl⟩:=u.uL;simp only [Bool.and_eq_true,decide_eq_true_eq] at h1;refine ⟨_,.ptr _ hb,fun kk L K hk=>?_⟩;unfold xY;simp only [j,h1.1,Bool.not_true,cond_false];refine ⟨h1.2,?_⟩;simp only [T.bG,aE];rw [Nat.add_assoc];exact hk
  case slice G =>
   simp only at hx;cases u with
   | @sl b pl off len cap c' hb hc hl =>
    obtain ⟨h1,hx⟩:=bq.1 (show fM _ _=some v from hx);cases hx;simp only [Bool.and_eq_true,decide_eq_true_eq] at h1;refine ⟨_,.ptr _ hb,fun kk L K hk=>?_⟩;unfold xY;simp only [j,h1.1,Bool.not_true,cond_false];refine ⟨h1.2,?_⟩;simp only [T.bG,aE];rw [Nat.add_assoc];exact hk
   | _=>cases hx
def PD {t:TypeId} {a a' i i' v:Xab} (j:VR ρ a a') (hi:VR ρ i i') (hx:Uz C.P t a i=some v) :
  VR ρ v v/\∀ (kk:Xab->T) (L:Lp) (K:Xab->Hp->Prop),kk v L K h->GG C.P t a' i' kk L K h:=by
 unfold Uz at hx;obtain ⟨n,hn,hx⟩:=YZ.1 hx;obtain ⟨k,rfl⟩:=FP hi hn;cases j <;> first | (cases hx; done) | skip
 obtain ⟨h1,hx⟩:=bq.1 (show fM _ _=some v from hx);cases hx;simp only [Bool.and_eq_true,decide_eq_true_eq] at h1;have u:=uE h1.1;refine ⟨.int _ _,fun kk L K hk=>?_⟩;unfold GG;simp only [u];exact ⟨h1.2,hk⟩
def K2 {P:Program} {t:TypeId} {f:Nat} {fd:Field} (hx:IS P t f=some fd):∃ fs,P.underlying t=some (.struct fs)/\fs[f]?=some fd:=by
 unfold IS at hx;split at hx
 ·rename_i fs j; exact ⟨fs,j,hx⟩
 ·cases hx
def Gl {t:TypeId} {f:Nat} {a a' v:Xab} (u:VR ρ a a') (hx:DG C.P t f a=some v) :
  ∃ v',VR ρ v v'/\∀ (kk:Xab->T) (L:Lp) (K:Xab->Hp->Prop),kk v' L K h->(match a',C.P.underlying t with
  | .pointer p,some (.struct fs)=>match fs[f]? with
   | some fd=>match C.P.cellsOf fd.type with
    | 0=>T.fail
    | _+1=>T.bG p fun a=>kk (.pointer (some (a.add fd.offset)))
   | none=>T.fail
  | _,_=>T.fail) L K h:=by
 unfold DG at hx;obtain ⟨⟨b,off⟩,G,hx⟩:=YZ.1 hx;obtain ⟨fd,J,hx⟩:=YZ.1 hx;obtain ⟨h1,hx⟩:=bq.1 hx;cases hx
 have:=jG.1 G
 rw [this] at u;obtain ⟨pl,hb,rfl⟩:=u.uL;obtain ⟨fs,O,j⟩:=K2 J;refine ⟨_,.ptr _ hb,fun kk L K hk=>?_⟩;simp only [O,j];have h1:=Zw h1;cases hc:C.P.cellsOf fd.type with
 | zero=>omega
 | succ n =>
  simp only [T.bG,aE];rw [Nat.add_assoc];exact hk
def NC {t:TypeId} {off:Nat} {cs u:List Xab} {v:Xab} (hc:dS ρ cs u) (hx:Lr C.P t off cs=some v) :
  ∃ v',VR ρ v v'/\∀ (kk:Xab->T) (L:Lp) (K:Xab->Hp->Prop),kk v' L K h->sV C.P t u off kk L K h:=by
 unfold Lr at hx;obtain ⟨g,j,hx⟩:=YZ.1 hx;unfold cF at j;cases G:C.P.underlying t with
 | none=>rw [G] at j; cases j
 | some d =>
  rw [G] at j;cases g with
  | true =>
   cases hx;refine ⟨_,.agg ((hc.drop off).take _),fun kk L K hk=>?_⟩;unfold sV;rw [G];cases d <;> first | (cases j; done) | exact hk
  | false =>
   obtain ⟨v',h1,h2⟩:=hc.get hx;refine ⟨v',h2,fun kk L K hk=>?_⟩;unfold sV;rw [G];cases d <;> first | (cases j; done) | (simp only [h1]; exact hk)
end
end Go.Sx.Cr
