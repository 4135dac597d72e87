/- Closed runs, part Jd: slicing, indexing, fields, maps over a store. Asked: of the context, what Ok says. -/
import Derived.Test.YtlpcncdglfjnoaaGreatDoorSxJc
set_option linter.all false
set_option maxHeartbeats 4000000
namespace Go.Sx.Cr
section
variable {C:Cx} {h0:Hp} {ρ:fR} {s s1:CS} {h:Hp} {e:Ev} {e':Env} {L:Lp} {K:ZB->Hp->Prop} {kk:ZB->T}
theorem uT {d:Option TypeDesc} (h:vZ d=true):d=some .string:=by
 unfold vZ at h;split at h
 ·rfl
 ·cases h
theorem rp {t:TypeId} {a a' v:ZB} {lo hi:Option ZB} (ha:VR ρ a a') (hx:rj C.P t a lo hi=some v) :
  ∃ v',VR ρ v v'/\∀ (kk:ZB->T) (L:Lp) (K:ZB->Hp->Prop),kk v' L K h->iw C.P t a' lo hi none kk L K h:=by
 unfold rj at hx;obtain ⟨h1,hx⟩:=bj.1 hx;have hii:(eb lo && eb hi && eb none)=true:=by rw [h1]; rfl
 cases hd:C.P.underlying t with
 | none=>rw [hd] at hx; cases hx
 | some d =>
  rw [hd] at hx;cases d <;> first | (cases hx; done) | skip
  ·simp only at hx;cases a <;> first | (cases hx; done) | skip
   cases ha;obtain ⟨h2,hx⟩:=bj.1 (show fw _ _=some v from hx);cases hx;refine ⟨_,.string _,fun kk L K hk=>?_⟩;unfold iw;simp only [hii,hd];exact ⟨by simpa using h2,hk⟩
  ·rename_i e;simp only at hx;cases ha with
   | @sl b pl off len cap c' hb hc hl =>
    obtain ⟨h2,hx⟩:=bj.1 (show fw _ _=some v from hx);cases hx;simp only [Bool.and_eq_true,decide_eq_true_eq,Bool.or_eq_true] at h2;obtain ⟨⟨h3,h4,h5,h6,h7⟩,h8⟩:=h2;refine ⟨.slice (some ⟨pl.bY,pl.sh+(off+(jR lo).toNat*C.P.cellsOf e),none⟩) ((jU len hi).toNat-(jR lo).toNat) (c' - (jR lo).toNat),?_,fun kk L K hk=>?_⟩
    ·refine .sl _ _ hb ?_ ad;rcases hc with ⟨g1,g2⟩ | ⟨g1,g2⟩
     ·exact .inl ⟨ad,ad⟩
     ·rcases h8 with h8 | h8
      ·rw [Nat.blt_eq] at h8; omega
      ·have h8:=Xi h8;exact .inr ⟨h8,by unfold half at *; omega⟩
    ·unfold iw;simp only [hii,hd,h3];refine ⟨⟨h4,h5,ad⟩,?_⟩;rw [WV ad];simp only [Option.map_some,aE];rw [Nat.add_assoc];exact hk
   | _=>cases hx
theorem Sl {t:TypeId} {a a' v:ZB} {lo hi mx:Option Operand} {vs vs':List ZB} (ha:VR ρ a a') (hv:dG ρ vs vs') (hx:VX C.P t lo hi mx a vs=some v) :
  ∃ v',VR ρ v v'/\∀ (kk:ZB->T) (L:Lp) (K:ZB->Hp->Prop),kk v' L K h->TM C.P t lo hi mx a' vs' kk L K h:=by
 unfold VX at hx;have one:∀ {l l':ZB},VR ρ l l'->eb (some l)=true->l'=l:=fun hl hi=>by
  cases hl <;> first | rfl | (simp [eb] at hi; done)
 have ints:∀ {lo hi:Option ZB},rj C.P t a lo hi=some v->eb lo=true/\eb hi=true:=fun hx=>by
  unfold rj at hx
  have:=(bj.1 hx).1
  simpa using this
 split at hx
 ·cases hv; exact rp ha hx
 ·cases hv with
  | cons h1 hv=>cases hv; rw [one h1 (ints hx).1]; exact rp ha hx
 ·cases hv with
  | cons h1 hv=>cases hv; rw [one h1 (ints hx).2]; exact rp ha hx
 ·cases hv with
  | cons h1 hv=>cases hv with
   | cons h2 hv=>cases hv; rw [one h1 (ints hx).1,one h2 (ints hx).2]; exact rp ha hx
 ·cases hx
theorem FI {i i':ZB} {n:Int} (hi:VR ρ i i') (hx:intOf i=some n):∃ k,i'=.int k n:=by
 cases hi <;> first | (cases hx; done) | (cases hx; exact ⟨_,rfl⟩)
theorem KC {t:TypeId} {a a' i i' v:ZB} (ha:VR ρ a a') (hi:VR ρ i i') (hx:Ll C.P t a i=some v) :
  ∃ v',VR ρ v v'/\∀ (kk:ZB->T) (L:Lp) (K:ZB->Hp->Prop),kk v' L K h->xA C.P t a' i' kk L K h:=by
 unfold Ll at hx;obtain ⟨n,hn,hx⟩:=WO.1 hx;obtain ⟨k,rfl⟩:=FI hi hn;cases hd:C.P.underlying t with
 | none=>rw [hd] at hx; cases hx
 | some d =>
  rw [hd] at hx;cases d <;> first | (cases hx; done) | skip
  case array len el =>
   simp only at hx;obtain ⟨⟨b,off⟩,hp,hx⟩:=WO.1 hx;obtain ⟨h1,hx⟩:=bj.1 (show fw _ _=some v from hx);cases hx
   have:=iY.1 hp
   rw [this] at ha;obtain ⟨pl,hb,rfl⟩:=ha.vh;simp only [Bool.and_eq_true,decide_eq_true_eq] at h1;refine ⟨_,.ptr _ hb,fun kk L K hk=>?_⟩;unfold xA;simp only [hd,h1.1,Bool.not_true,cond_false];refine ⟨h1.2,?_⟩;simp only [T.bk,aE];rw [Nat.add_assoc];exact hk
  case slice el =>
   simp only at hx;cases ha with
   | @sl b pl off len cap c' hb hc hl =>
    obtain ⟨h1,hx⟩:=bj.1 (show fw _ _=some v from hx);cases hx;simp only [Bool.and_eq_true,decide_eq_true_eq] at h1;refine ⟨_,.ptr _ hb,fun kk L K hk=>?_⟩;unfold xA;simp only [hd,h1.1,Bool.not_true,cond_false];refine ⟨h1.2,?_⟩;simp only [T.bk,aE];rw [Nat.add_assoc];exact hk
   | _=>cases hx
theorem QH {t:TypeId} {a a' i i' v:ZB} (ha:VR ρ a a') (hi:VR ρ i i') (hx:Tj C.P t a i=some v) :
  VR ρ v v/\∀ (kk:ZB->T) (L:Lp) (K:ZB->Hp->Prop),kk v L K h->FP C.P t a' i' kk L K h:=by
 unfold Tj at hx;obtain ⟨n,hn,hx⟩:=WO.1 hx;obtain ⟨k,rfl⟩:=FI hi hn;cases ha <;> first | (cases hx; done) | skip
 obtain ⟨h1,hx⟩:=bj.1 (show fw _ _=some v from hx);cases hx;simp only [Bool.and_eq_true,decide_eq_true_eq] at h1;have hd:=uT h1.1;refine ⟨.int _ _,fun kk L K hk=>?_⟩;unfold FP;simp only [hd];exact ⟨h1.2,hk⟩
theorem ME {P:Program} {t:TypeId} {f:Nat} {fd:Field} (hx:H5 P t f=some fd):∃ fs,P.underlying t=some (.struct fs)/\fs[f]?=some fd:=by
 unfold H5 at hx;split at hx
 ·rename_i fs hd; exact ⟨fs,hd,hx⟩
 ·cases hx
theorem G1 {t:TypeId} {f:Nat} {a a' v:ZB} (ha:VR ρ a a') (hx:Ct C.P t f a=some v) :
  ∃ v',VR ρ v v'/\∀ (kk:ZB->T) (L:Lp) (K:ZB->Hp->Prop),kk v' L K h->(match a',C.P.underlying t with
  | .pointer p,some (.struct fs)=>match fs[f]? with
   | some fd=>match C.P.cellsOf fd.type with
    | 0=>T.fail
    | _+1=>T.bk p fun a=>kk (.pointer (some (a.add fd.offset)))
   | none=>T.fail
  | _,_=>T.fail) L K h:=by
 unfold Ct at hx;obtain ⟨⟨b,off⟩,hp,hx⟩:=WO.1 hx;obtain ⟨fd,hf,hx⟩:=WO.1 hx;obtain ⟨h1,hx⟩:=bj.1 hx;cases hx
 have:=iY.1 hp
 rw [this] at ha;obtain ⟨pl,hb,rfl⟩:=ha.vh;obtain ⟨fs,hd,hfs⟩:=ME hf;refine ⟨_,.ptr _ hb,fun kk L K hk=>?_⟩;simp only [hd,hfs];have h1:=Xi h1;cases hc:C.P.cellsOf fd.type with
 | zero=>omega
 | succ n =>
  simp only [T.bk,aE];rw [Nat.add_assoc];exact hk
theorem N7 {t:TypeId} {off:Nat} {cs cs':List ZB} {v:ZB} (hc:dG ρ cs cs') (hx:KG C.P t off cs=some v) :
  ∃ v',VR ρ v v'/\∀ (kk:ZB->T) (L:Lp) (K:ZB->Hp->Prop),kk v' L K h->sJ C.P t cs' off kk L K h:=by
 unfold KG at hx;obtain ⟨g,hg,hx⟩:=WO.1 hx;unfold cv at hg;cases hd:C.P.underlying t with
 | none=>rw [hd] at hg; cases hg
 | some d =>
  rw [hd] at hg;cases g with
  | true =>
   cases hx;refine ⟨_,.agg ((hc.drop off).take _),fun kk L K hk=>?_⟩;unfold sJ;rw [hd];cases d <;> first | (cases hg; done) | exact hk
  | false =>
   obtain ⟨v',h1,h2⟩:=hc.get hx;refine ⟨v',h2,fun kk L K hk=>?_⟩;unfold sJ;rw [hd];cases d <;> first | (cases hg; done) | (simp only [h1]; exact hk)
end
end Go.Sx.Cr
