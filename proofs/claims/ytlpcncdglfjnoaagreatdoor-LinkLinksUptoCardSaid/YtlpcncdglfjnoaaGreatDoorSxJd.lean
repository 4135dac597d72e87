/- Closed runs, part Jd: slicing, indexing, fields, maps over a store. Asked: of the context, what Ok says. -/
import Derived.Test.YtlpcncdglfjnoaaGreatDoorSxJc
set_option linter.all false
set_option maxHeartbeats 4000000
namespace Go.Sx.Cr
section
variable {C:Cx} {h0:Hp} {ρ:fZ} {s s1:CS} {h:Hp} {e:Ev} {e':Env} {L:Lp} {K:YB->Hp->Prop} {kk:YB->T}
theorem uJ {d:Option TypeDesc} (h:wU d=true):d=some .string:=by
 unfold wU at h;split at h
 ·rfl
 ·cases h
theorem rB {t:TypeId} {a a' v:YB} {lo hi:Option YB} (ha:VR ρ a a') (hx:qt C.P t a lo hi=some v) :
  ∃ v',VR ρ v v'/\∀ (kk:YB->T) (L:Lp) (K:YB->Hp->Prop),kk v' L K h->iH C.P t a' lo hi none kk L K h:=by
 unfold qt at hx;obtain ⟨h1,hx⟩:=bn.1 hx;have hii:(ef lo && ef hi && ef none)=true:=by rw [h1]; rfl
 cases hd:C.P.underlying t with
 | none=>rw [hd] at hx; cases hx
 | some d =>
  rw [hd] at hx;cases d <;> first | (cases hx; done) | skip
  ·simp only at hx;cases a <;> first | (cases hx; done) | skip
   cases ha;obtain ⟨h2,hx⟩:=bn.1 (show fz _ _=some v from hx);cases hx;refine ⟨_,.string _,fun kk L K hk=>?_⟩;unfold iH;simp only [hii,hd];exact ⟨by simpa using h2,hk⟩
  ·rename_i e;simp only at hx;cases ha with
   | @sl b pl off len cap c' hb hc hl =>
    obtain ⟨h2,hx⟩:=bn.1 (show fz _ _=some v from hx);cases hx;simp only [Bool.and_eq_true,decide_eq_true_eq,Bool.or_eq_true] at h2;obtain ⟨⟨h3,h4,h5,h6,h7⟩,h8⟩:=h2;refine ⟨.slice (some ⟨pl.cd,pl.sh+(off+(jR lo).toNat*C.P.cellsOf e),none⟩) ((j1 len hi).toNat-(jR lo).toNat) (c' - (jR lo).toNat),?_,fun kk L K hk=>?_⟩
    ·refine .sl _ _ hb ?_ ad;rcases hc with ⟨g1,g2⟩ | ⟨g1,g2⟩
     ·exact .inl ⟨ad,ad⟩
     ·rcases h8 with h8 | h8
      ·rw [Nat.blt_eq] at h8; omega
      ·have h8:=WW h8;exact .inr ⟨h8,by unfold half at *; omega⟩
    ·unfold iH;simp only [hii,hd,h3];refine ⟨⟨h4,h5,ad⟩,?_⟩;rw [Ww ad];simp only [Option.map_some,aE];rw [Nat.add_assoc];exact hk
   | _=>cases hx
theorem Sg {t:TypeId} {a a' v:YB} {lo hi mx:Option Operand} {vs vs':List YB} (ha:VR ρ a a') (hv:dL ρ vs vs') (hx:Vo C.P t lo hi mx a vs=some v) :
  ∃ v',VR ρ v v'/\∀ (kk:YB->T) (L:Lp) (K:YB->Hp->Prop),kk v' L K h->Tt C.P t lo hi mx a' vs' kk L K h:=by
 unfold Vo at hx;have one:∀ {l l':YB},VR ρ l l'->ef (some l)=true->l'=l:=fun hl hi=>by
  cases hl <;> first | rfl | (simp [ef] at hi; done)
 have ints:∀ {lo hi:Option YB},qt C.P t a lo hi=some v->ef lo=true/\ef hi=true:=fun hx=>by
  unfold qt at hx
  have:=(bn.1 hx).1
  simpa using this
 split at hx
 ·cases hv; exact rB ha hx
 ·cases hv with
  | cons h1 hv=>cases hv; rw [one h1 (ints hx).1]; exact rB ha hx
 ·cases hv with
  | cons h1 hv=>cases hv; rw [one h1 (ints hx).2]; exact rB ha hx
 ·cases hv with
  | cons h1 hv=>cases hv with
   | cons h2 hv=>cases hv; rw [one h1 (ints hx).1,one h2 (ints hx).2]; exact rB ha hx
 ·cases hx
theorem EE {i i':YB} {n:Int} (hi:VR ρ i i') (hx:intOf i=some n):∃ k,i'=.int k n:=by
 cases hi <;> first | (cases hx; done) | (cases hx; exact ⟨_,rfl⟩)
theorem KA {t:TypeId} {a a' i i' v:YB} (ha:VR ρ a a') (hi:VR ρ i i') (hx:K3 C.P t a i=some v) :
  ∃ v',VR ρ v v'/\∀ (kk:YB->T) (L:Lp) (K:YB->Hp->Prop),kk v' L K h->wZ C.P t a' i' kk L K h:=by
 unfold K3 at hx;obtain ⟨n,hn,hx⟩:=Wq.1 hx;obtain ⟨k,rfl⟩:=EE hi hn;cases hd:C.P.underlying t with
 | none=>rw [hd] at hx; cases hx
 | some d =>
  rw [hd] at hx;cases d <;> first | (cases hx; done) | skip
  case array len el =>
   simp only at hx;obtain ⟨⟨b,off⟩,hp,hx⟩:=Wq.1 hx;obtain ⟨h1,hx⟩:=bn.1 (show fz _ _=some v from hx);cases hx
   have:=je.1 hp
   rw [this] at ha;obtain ⟨pl,hb,rfl⟩:=ha.uy;simp only [Bool.and_eq_true,decide_eq_true_eq] at h1;refine ⟨_,.ptr _ hb,fun kk L K hk=>?_⟩;unfold wZ;simp only [hd,h1.1,Bool.not_true,cond_false];refine ⟨h1.2,?_⟩;simp only [T.bd,aE];rw [Nat.add_assoc];exact hk
  case slice el =>
   simp only at hx;cases ha with
   | @sl b pl off len cap c' hb hc hl =>
    obtain ⟨h1,hx⟩:=bn.1 (show fz _ _=some v from hx);cases hx;simp only [Bool.and_eq_true,decide_eq_true_eq] at h1;refine ⟨_,.ptr _ hb,fun kk L K hk=>?_⟩;unfold wZ;simp only [hd,h1.1,Bool.not_true,cond_false];refine ⟨h1.2,?_⟩;simp only [T.bd,aE];rw [Nat.add_assoc];exact hk
   | _=>cases hx
theorem Pd {t:TypeId} {a a' i i' v:YB} (ha:VR ρ a a') (hi:VR ρ i i') (hx:S9 C.P t a i=some v) :
  VR ρ v v/\∀ (kk:YB->T) (L:Lp) (K:YB->Hp->Prop),kk v L K h->Gd C.P t a' i' kk L K h:=by
 unfold S9 at hx;obtain ⟨n,hn,hx⟩:=Wq.1 hx;obtain ⟨k,rfl⟩:=EE hi hn;cases ha <;> first | (cases hx; done) | skip
 obtain ⟨h1,hx⟩:=bn.1 (show fz _ _=some v from hx);cases hx;simp only [Bool.and_eq_true,decide_eq_true_eq] at h1;have hd:=uJ h1.1;refine ⟨.int _ _,fun kk L K hk=>?_⟩;unfold Gd;simp only [hd];exact ⟨h1.2,hk⟩
theorem LY {P:Program} {t:TypeId} {f:Nat} {fd:Field} (hx:HO P t f=some fd):∃ fs,P.underlying t=some (.struct fs)/\fs[f]?=some fd:=by
 unfold HO at hx;split at hx
 ·rename_i fs hd; exact ⟨fs,hd,hx⟩
 ·cases hx
theorem Gj {t:TypeId} {f:Nat} {a a' v:YB} (ha:VR ρ a a') (hx:CB C.P t f a=some v) :
  ∃ v',VR ρ v v'/\∀ (kk:YB->T) (L:Lp) (K:YB->Hp->Prop),kk v' L K h->(match a',C.P.underlying t with
  | .pointer p,some (.struct fs)=>match fs[f]? with
   | some fd=>match C.P.cellsOf fd.type with
    | 0=>T.fail
    | _+1=>T.bd p fun a=>kk (.pointer (some (a.add fd.offset)))
   | none=>T.fail
  | _,_=>T.fail) L K h:=by
 unfold CB at hx;obtain ⟨⟨b,off⟩,hp,hx⟩:=Wq.1 hx;obtain ⟨fd,hf,hx⟩:=Wq.1 hx;obtain ⟨h1,hx⟩:=bn.1 hx;cases hx
 have:=je.1 hp
 rw [this] at ha;obtain ⟨pl,hb,rfl⟩:=ha.uy;obtain ⟨fs,hd,hfs⟩:=LY hf;refine ⟨_,.ptr _ hb,fun kk L K hk=>?_⟩;simp only [hd,hfs];have h1:=WW h1;cases hc:C.P.cellsOf fd.type with
 | zero=>omega
 | succ n =>
  simp only [T.bd,aE];rw [Nat.add_assoc];exact hk
theorem MG {t:TypeId} {off:Nat} {cs cs':List YB} {v:YB} (hc:dL ρ cs cs') (hx:No C.P t off cs=some v) :
  ∃ v',VR ρ v v'/\∀ (kk:YB->T) (L:Lp) (K:YB->Hp->Prop),kk v' L K h->sI C.P t cs' off kk L K h:=by
 unfold No at hx;obtain ⟨g,hg,hx⟩:=Wq.1 hx;unfold cw at hg;cases hd:C.P.underlying t with
 | none=>rw [hd] at hg; cases hg
 | some d =>
  rw [hd] at hg;cases g with
  | true =>
   cases hx;refine ⟨_,.agg ((hc.drop off).take _),fun kk L K hk=>?_⟩;unfold sI;rw [hd];cases d <;> first | (cases hg; done) | exact hk
  | false =>
   obtain ⟨v',h1,h2⟩:=hc.get hx;refine ⟨v',h2,fun kk L K hk=>?_⟩;unfold sI;rw [hd];cases d <;> first | (cases hg; done) | (simp only [h1]; exact hk)
end
end Go.Sx.Cr
