/- Part of the framework. No condition. -/
import Derived.Test.YthbffkdafjboiaaGreatDoorSxJc
set_option linter.all false
set_option maxHeartbeats 4000000
namespace Go.Sx.Cr
section
variable {C:Cx} {h0:Hp} {ρ:gF} {s s1:CS} {h:Hp} {e:Ev} {e':Env} {L:Lp} {K:Xab->Hp->Prop} {kk:Xab->T}
def uU {d:Option TypeDesc} (h:xv d=true):d=some .string:=by
 unfold xv at h;split at h
 ·rfl
 ·cases h
def sy {t:TypeId} {a a' v:Xab} {j hi:Option Xab} (G:VR ρ a a') (hx:rW C.P t a j hi=some v) :
  ∃ v',VR ρ v v'/\∀ (kk:Xab->T) (L:Lp) (K:Xab->Hp->Prop),kk v' L K h->iQ C.P t a' j hi none kk L K h:=by
 unfold rW at hx;obtain ⟨h1,hx⟩:=bF.1 hx;have u:(eC j && eC hi && eC none)=true:=by rw [h1]; rfl
 cases F:C.P.underlying t with
 | none=>rw [F] at hx; cases hx
 | some d =>
  rw [F] at hx;cases d <;> first | (cases hx; done) | skip
  ·simp only at hx;cases a <;> first | (cases hx; done) | skip
   cases G;obtain ⟨h2,hx⟩:=bF.1 (show fF _ _=some v from hx);cases hx;refine ⟨_,.string _,fun kk L K hk=>?_⟩;unfold iQ;simp only [u,F];exact ⟨by simpa using h2,hk⟩
  ·rename_i e;simp only at hx;cases G with
   | @sl b pl off len cap c' J hc hl =>
    obtain ⟨h2,hx⟩:=bF.1 (show fF _ _=some v from hx);cases hx;simp only [Bool.and_eq_true,decide_eq_true_eq,Bool.or_eq_true] at h2;obtain ⟨⟨h3,h4,h5,h6,h7⟩,h8⟩:=h2;refine ⟨.slice (some ⟨pl.cv,pl.sh+(off+(kz j).toNat*C.P.cellsOf e),none⟩) ((kS len hi).toNat-(kz j).toNat) (c' - (kz j).toNat),?_,fun kk L K hk=>?_⟩
    ·refine .sl _ _ J ?_ ad;rcases hc with ⟨g1,g2⟩ | ⟨g1,g2⟩
     ·exact .inl ⟨ad,ad⟩
     ·rcases h8 with h8 | h8
      ·rw [Nat.blt_eq] at h8; omega
      ·have h8:=Y2 h8;exact .inr ⟨h8,by unfold half at *; omega⟩
    ·unfold iQ;simp only [u,F,h3];refine ⟨⟨h4,h5,ad⟩,?_⟩;rw [Yx ad];simp only [Option.map_some,aE];rw [Nat.add_assoc];exact hk
   | _=>cases hx
def U3 {t:TypeId} {a a' v:Xab} {j hi F:Option Operand} {vs vs':List Xab} (u:VR ρ a a') (hv:dS ρ vs vs') (hx:Xm C.P t j hi F a vs=some v) :
  ∃ v',VR ρ v v'/\∀ (kk:Xab->T) (L:Lp) (K:Xab->Hp->Prop),kk v' L K h->Vd C.P t j hi F a' vs' kk L K h:=by
 unfold Xm at hx;have one:∀ {l l':Xab},VR ρ l l'->eC (some l)=true->l'=l:=fun hl hi=>by
  cases hl <;> first | rfl | (simp [eC] at hi; done)
 have d:∀ {j hi:Option Xab},rW C.P t a j hi=some v->eC j=true/\eC hi=true:=fun hx=>by
  unfold rW at hx
  have:=(bF.1 hx).1
  simpa using this
 split at hx
 ·cases hv; exact sy u hx
 ·cases hv with
  | cons h1 hv=>cases hv; rw [one h1 (d hx).1]; exact sy u hx
 ·cases hv with
  | cons h1 hv=>cases hv; rw [one h1 (d hx).2]; exact sy u hx
 ·cases hv with
  | cons h1 hv=>cases hv with
   | cons h2 hv=>cases hv; rw [one h1 (d hx).1,one h2 (d hx).2]; exact sy u hx
 ·cases hx
def F6 {i i':Xab} {n:Int} (hi:VR ρ i i') (hx:intOf i=some n):∃ k,i'=.int k n:=by
 cases hi <;> first | (cases hx; done) | (cases hx; exact ⟨_,rfl⟩)
def MG {t:TypeId} {a a' i i' v:Xab} (u:VR ρ a a') (hi:VR ρ i i') (hx:Pm C.P t a i=some v) :
  ∃ v',VR ρ v v'/\∀ (kk:Xab->T) (L:Lp) (K:Xab->Hp->Prop),kk v' L K h->yk C.P t a' i' kk L K h:=by
 unfold Pm at hx;obtain ⟨n,hn,hx⟩:=Yt.1 hx;obtain ⟨k,rfl⟩:=F6 hi hn;cases j:C.P.underlying t with
 | none=>rw [j] at hx; cases hx
 | some d =>
  rw [j] at hx;cases d <;> first | (cases hx; done) | skip
  case array len G =>
   simp only at hx;obtain ⟨⟨b,off⟩,J,hx⟩:=Yt.1 hx;obtain ⟨h1,hx⟩:=bF.1 (show fF _ _=some v from hx);cases hx
   have:=jJ.1 J
   rw [this] at u;obtain ⟨pl,F,rfl⟩:=u.uZ;simp only [Bool.and_eq_true,decide_eq_true_eq] at h1;refine ⟨_,.ptr _ F,fun kk L K hk=>?_⟩;unfold yk;simp only [j,h1.1,Bool.not_true,cond_false];refine ⟨h1.2,?_⟩;simp only [T.bi,aE];rw [Nat.add_assoc];exact hk
  case slice G =>
   simp only at hx;cases u with
   | @sl b pl off len cap c' F hc hl =>
    obtain ⟨h1,hx⟩:=bF.1 (show fF _ _=some v from hx);cases hx;simp only [Bool.and_eq_true,decide_eq_true_eq] at h1;refine ⟨_,.ptr _ F,fun kk L K hk=>?_⟩;unfold yk;simp only [j,h1.1,Bool.not_true,cond_false];refine ⟨h1.2,?_⟩;simp only [T.bi,aE];rw [Nat.add_assoc];exact hk
   | _=>cases hx
def P6 {t:TypeId} {a a' i i' v:Xab} (d:VR ρ a a') (hi:VR ρ i i') (hx:UX C.P t a i=some v) :
  VR ρ v v/\∀ (kk:Xab->T) (L:Lp) (K:Xab->Hp->Prop),kk v L K h->GX C.P t a' i' kk L K h:=by
 unfold UX at hx;obtain ⟨n,hn,hx⟩:=Yt.1 hx;obtain ⟨k,rfl⟩:=F6 hi hn;cases d <;> first | (cases hx; done) | skip
 obtain ⟨h1,hx⟩:=bF.1 (show fF _ _=some v from hx);cases hx;simp only [Bool.and_eq_true,decide_eq_true_eq] at h1;have j:=uU h1.1;refine ⟨.int _ _,fun kk L K hk=>?_⟩;unfold GX;simp only [j];exact ⟨h1.2,hk⟩
def Lu {P:Program} {t:TypeId} {f:Nat} {fd:Field} (hx:Jd P t f=some fd):∃ fs,P.underlying t=some (.struct fs)/\fs[f]?=some fd:=by
 unfold Jd at hx;split at hx
 ·rename_i fs d; exact ⟨fs,d,hx⟩
 ·cases hx
def GA {t:TypeId} {f:Nat} {a a' v:Xab} (j:VR ρ a a') (hx:DW C.P t f a=some v) :
  ∃ v',VR ρ v v'/\∀ (kk:Xab->T) (L:Lp) (K:Xab->Hp->Prop),kk v' L K h->(match a',C.P.underlying t with
  | .pointer p,some (.struct fs)=>match fs[f]? with
   | some fd=>match C.P.cellsOf fd.type with
    | 0=>T.fail
    | _+1=>T.bi p fun a=>kk (.pointer (some (a.add fd.offset)))
   | none=>T.fail
  | _,_=>T.fail) L K h:=by
 unfold DW at hx;obtain ⟨⟨b,off⟩,u,hx⟩:=Yt.1 hx;obtain ⟨fd,F,hx⟩:=Yt.1 hx;obtain ⟨h1,hx⟩:=bF.1 hx;cases hx
 have:=jJ.1 u
 rw [this] at j;obtain ⟨pl,G,rfl⟩:=j.uZ;obtain ⟨fs,J,d⟩:=Lu F;refine ⟨_,.ptr _ G,fun kk L K hk=>?_⟩;simp only [J,d];have h1:=Y2 h1;cases hc:C.P.cellsOf fd.type with
 | zero=>omega
 | succ n =>
  simp only [T.bi,aE];rw [Nat.add_assoc];exact hk
def N3 {t:TypeId} {off:Nat} {cs u:List Xab} {v:Xab} (hc:dS ρ cs u) (hx:LS C.P t off cs=some v) :
  ∃ v',VR ρ v v'/\∀ (kk:Xab->T) (L:Lp) (K:Xab->Hp->Prop),kk v' L K h->tv C.P t u off kk L K h:=by
 unfold LS at hx;obtain ⟨g,j,hx⟩:=Yt.1 hx;unfold cH at j;cases F:C.P.underlying t with
 | none=>rw [F] at j; cases j
 | some d =>
  rw [F] at j;cases g with
  | true =>
   cases hx;refine ⟨_,.agg ((hc.drop off).take _),fun kk L K hk=>?_⟩;unfold tv;rw [F];cases d <;> first | (cases j; done) | exact hk
  | false =>
   obtain ⟨v',h1,h2⟩:=hc.get hx;refine ⟨v',h2,fun kk L K hk=>?_⟩;unfold tv;rw [F];cases d <;> first | (cases j; done) | (simp only [h1]; exact hk)
end
end Go.Sx.Cr
