/- Part of the framework. No condition. -/
import Derived.Test.YthbffkdafjboiaaGreatDoorSxJc
set_option linter.all false
set_option maxHeartbeats 4000000
namespace Go.Sx.Cr
section
variable {C:Cx} {h0:Hp} {ρ:gn} {s s1:CS} {h:Hp} {e:Ev} {e':Env} {L:Lp} {K:ZB->Hp->Prop} {kk:ZB->T}
def uc {d:Option TypeDesc} (h:wJ d=true):d=some .string:=by
 unfold wJ at h;split at h
 ·rfl
 ·cases h
def rC {t:TypeId} {a a' v:ZB} {lo hi:Option ZB} (ha:VR ρ a a') (hx:rj C.P t a lo hi=some v) :
  ∃ v',VR ρ v v'/\∀ (kk:ZB->T) (L:Lp) (K:ZB->Hp->Prop),kk v' L K h->iI C.P t a' lo hi none kk L K h:=by
 unfold rj at hx;obtain ⟨h1,hx⟩:=bq.1 hx;have hii:(ep lo && ep hi && ep none)=true:=by rw [h1]; rfl
 cases hd:C.P.underlying t with
 | none=>rw [hd] at hx; cases hx
 | some d =>
  rw [hd] at hx;cases d <;> first | (cases hx; done) | skip
  ·simp only at hx;cases a <;> first | (cases hx; done) | skip
   cases ha;obtain ⟨h2,hx⟩:=bq.1 (show fG _ _=some v from hx);cases hx;refine ⟨_,.string _,fun kk L K hk=>?_⟩;unfold iI;simp only [hii,hd];exact ⟨by simpa using h2,hk⟩
  ·rename_i e;simp only at hx;cases ha with
   | @sl b pl off len cap c' hb hc hl =>
    obtain ⟨h2,hx⟩:=bq.1 (show fG _ _=some v from hx);cases hx;simp only [Bool.and_eq_true,decide_eq_true_eq,Bool.or_eq_true] at h2;obtain ⟨⟨h3,h4,h5,h6,h7⟩,h8⟩:=h2;refine ⟨.slice (some ⟨pl.cj,pl.sh+(off+(j3 lo).toNat*C.P.cellsOf e),none⟩) ((kw len hi).toNat-(j3 lo).toNat) (c' - (j3 lo).toNat),?_,fun kk L K hk=>?_⟩
    ·refine .sl _ _ hb ?_ ad;rcases hc with ⟨g1,g2⟩ | ⟨g1,g2⟩
     ·exact .inl ⟨ad,ad⟩
     ·rcases h8 with h8 | h8
      ·rw [Nat.blt_eq] at h8; omega
      ·have h8:=Xx h8;exact .inr ⟨h8,by unfold half at *; omega⟩
    ·unfold iI;simp only [hii,hd,h3];refine ⟨⟨h4,h5,ad⟩,?_⟩;rw [W6 ad];simp only [Option.map_some,aG];rw [Nat.add_assoc];exact hk
   | _=>cases hx
def Tv {t:TypeId} {a a' v:ZB} {lo hi mx:Option Operand} {vs vs':List ZB} (ha:VR ρ a a') (hv:dQ ρ vs vs') (hx:VQ C.P t lo hi mx a vs=some v) :
  ∃ v',VR ρ v v'/\∀ (kk:ZB->T) (L:Lp) (K:ZB->Hp->Prop),kk v' L K h->TI C.P t lo hi mx a' vs' kk L K h:=by
 unfold VQ at hx;have one:∀ {l l':ZB},VR ρ l l'->ep (some l)=true->l'=l:=fun hl hi=>by
  cases hl <;> first | rfl | (simp [ep] at hi; done)
 have ints:∀ {lo hi:Option ZB},rj C.P t a lo hi=some v->ep lo=true/\ep hi=true:=fun hx=>by
  unfold rj at hx
  have:=(bq.1 hx).1
  simpa using this
 split at hx
 ·cases hv; exact rC ha hx
 ·cases hv with
  | cons h1 hv=>cases hv; rw [one h1 (ints hx).1]; exact rC ha hx
 ·cases hv with
  | cons h1 hv=>cases hv; rw [one h1 (ints hx).2]; exact rC ha hx
 ·cases hv with
  | cons h1 hv=>cases hv with
   | cons h2 hv=>cases hv; rw [one h1 (ints hx).1,one h2 (ints hx).2]; exact rC ha hx
 ·cases hx
def Fa {i i':ZB} {n:Int} (hi:VR ρ i i') (hx:intOf i=some n):∃ k,i'=.int k n:=by
 cases hi <;> first | (cases hx; done) | (cases hx; exact ⟨_,rfl⟩)
def Lr {t:TypeId} {a a' i i' v:ZB} (ha:VR ρ a a') (hi:VR ρ i i') (hx:N0 C.P t a i=some v) :
  ∃ v',VR ρ v v'/\∀ (kk:ZB->T) (L:Lp) (K:ZB->Hp->Prop),kk v' L K h->xF C.P t a' i' kk L K h:=by
 unfold N0 at hx;obtain ⟨n,hn,hx⟩:=W1.1 hx;obtain ⟨k,rfl⟩:=Fa hi hn;cases hd:C.P.underlying t with
 | none=>rw [hd] at hx; cases hx
 | some d =>
  rw [hd] at hx;cases d <;> first | (cases hx; done) | skip
  case array len el =>
   simp only at hx;obtain ⟨⟨b,off⟩,hp,hx⟩:=W1.1 hx;obtain ⟨h1,hx⟩:=bq.1 (show fG _ _=some v from hx);cases hx
   have:=jv.1 hp
   rw [this] at ha;obtain ⟨pl,hb,rfl⟩:=ha.uj;simp only [Bool.and_eq_true,decide_eq_true_eq] at h1;refine ⟨_,.ptr _ hb,fun kk L K hk=>?_⟩;unfold xF;simp only [hd,h1.1,Bool.not_true,cond_false];refine ⟨h1.2,?_⟩;simp only [T.bF,aG];rw [Nat.add_assoc];exact hk
  case slice el =>
   simp only at hx;cases ha with
   | @sl b pl off len cap c' hb hc hl =>
    obtain ⟨h1,hx⟩:=bq.1 (show fG _ _=some v from hx);cases hx;simp only [Bool.and_eq_true,decide_eq_true_eq] at h1;refine ⟨_,.ptr _ hb,fun kk L K hk=>?_⟩;unfold xF;simp only [hd,h1.1,Bool.not_true,cond_false];refine ⟨h1.2,?_⟩;simp only [T.bF,aG];rw [Nat.add_assoc];exact hk
   | _=>cases hx
def OF {t:TypeId} {a a' i i' v:ZB} (ha:VR ρ a a') (hi:VR ρ i i') (hx:To C.P t a i=some v) :
  VR ρ v v/\∀ (kk:ZB->T) (L:Lp) (K:ZB->Hp->Prop),kk v L K h->F6 C.P t a' i' kk L K h:=by
 unfold To at hx;obtain ⟨n,hn,hx⟩:=W1.1 hx;obtain ⟨k,rfl⟩:=Fa hi hn;cases ha <;> first | (cases hx; done) | skip
 obtain ⟨h1,hx⟩:=bq.1 (show fG _ _=some v from hx);cases hx;simp only [Bool.and_eq_true,decide_eq_true_eq] at h1;have hd:=uc h1.1;refine ⟨.int _ _,fun kk L K hk=>?_⟩;unfold F6;simp only [hd];exact ⟨h1.2,hk⟩
def Kj {P:Program} {t:TypeId} {f:Nat} {fd:Field} (hx:Ig P t f=some fd):∃ fs,P.underlying t=some (.struct fs)/\fs[f]?=some fd:=by
 unfold Ig at hx;split at hx
 ·rename_i fs hd; exact ⟨fs,hd,hx⟩
 ·cases hx
def FL {t:TypeId} {f:Nat} {a a' v:ZB} (ha:VR ρ a a') (hx:C7 C.P t f a=some v) :
  ∃ v',VR ρ v v'/\∀ (kk:ZB->T) (L:Lp) (K:ZB->Hp->Prop),kk v' L K h->(match a',C.P.underlying t with
  | .pointer p,some (.struct fs)=>match fs[f]? with
   | some fd=>match C.P.cellsOf fd.type with
    | 0=>T.fail
    | _+1=>T.bF p fun a=>kk (.pointer (some (a.add fd.offset)))
   | none=>T.fail
  | _,_=>T.fail) L K h:=by
 unfold C7 at hx;obtain ⟨⟨b,off⟩,hp,hx⟩:=W1.1 hx;obtain ⟨fd,hf,hx⟩:=W1.1 hx;obtain ⟨h1,hx⟩:=bq.1 hx;cases hx
 have:=jv.1 hp
 rw [this] at ha;obtain ⟨pl,hb,rfl⟩:=ha.uj;obtain ⟨fs,hd,hfs⟩:=Kj hf;refine ⟨_,.ptr _ hb,fun kk L K hk=>?_⟩;simp only [hd,hfs];have h1:=Xx h1;cases hc:C.P.cellsOf fd.type with
 | zero=>omega
 | succ n =>
  simp only [T.bF,aG];rw [Nat.add_assoc];exact hk
def MM {t:TypeId} {off:Nat} {cs cs':List ZB} {v:ZB} (hc:dQ ρ cs cs') (hx:KE C.P t off cs=some v) :
  ∃ v',VR ρ v v'/\∀ (kk:ZB->T) (L:Lp) (K:ZB->Hp->Prop),kk v' L K h->sy C.P t cs' off kk L K h:=by
 unfold KE at hx;obtain ⟨g,hg,hx⟩:=W1.1 hx;unfold cB at hg;cases hd:C.P.underlying t with
 | none=>rw [hd] at hg; cases hg
 | some d =>
  rw [hd] at hg;cases g with
  | true =>
   cases hx;refine ⟨_,.agg ((hc.drop off).take _),fun kk L K hk=>?_⟩;unfold sy;rw [hd];cases d <;> first | (cases hg; done) | exact hk
  | false =>
   obtain ⟨v',h1,h2⟩:=hc.get hx;refine ⟨v',h2,fun kk L K hk=>?_⟩;unfold sy;rw [hd];cases d <;> first | (cases hg; done) | (simp only [h1]; exact hk)
end
end Go.Sx.Cr
