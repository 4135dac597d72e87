/- Part of the framework. No condition. -/
import Derived.Test.YtlpcncdglfjnoaaGreatDoorSxJc
set_option linter.all false
set_option maxHeartbeats 4000000
namespace Go.Sx.Cr
section
variable {C:Cx} {h0:Hp} {ρ:ix} {s s1:CS} {h:Hp} {e:Ev} {e':Env} {L:Lp} {K:Xab->Hp->Prop} {kk:Xab->T}
def wC {d:Option TypeDesc} (h:yA d=true):d=some .string:=by
 unfold yA at h;split at h
 ·rfl
 ·cases h
variable {H:TypeId}
def tR {a a' v:Xab} {lo hi:Option Xab} (i:VR ρ a a') (c:tG C.P H a lo hi=some v) :
  ∃ v',VR ρ v v'/\∀ (kk:Xab->T) (L:Lp) (K:Xab->Hp->Prop),kk v' L K h->jx C.P H a' lo hi none kk L K h:=by
 unfold tG at c;obtain ⟨h1,c⟩:=bI.1 c;have f:(eU lo && eU hi && eU none)=true:=by rw [h1]; rfl
 cases g:C.P.underlying H with
 | none=>rw [g] at c; cases c
 | some d =>
  rw [g] at c;cases d <;> first | (cases c; done) | skip
  ·simp only at c;cases a <;> first | (cases c; done) | skip
   cases i;obtain ⟨h2,c⟩:=bI.1 (show gu _ _=some v from c);cases c;refine ⟨_,.string _,fun kk L K hk=>?_⟩;unfold jx;simp only [f,g];exact ⟨by simpa using h2,hk⟩
  ·rename_i e;simp only at c;cases i with
   | @sl b pl off len cap c' j hc hl =>
    obtain ⟨h2,c⟩:=bI.1 (show gu _ _=some v from c);cases c;simp only [Bool.and_eq_true,decide_eq_true_eq,Bool.or_eq_true] at h2;obtain ⟨⟨k,l,m,p,q⟩,h8⟩:=h2;refine ⟨.slice (some ⟨pl.cj,pl.sh+(off+(kT lo).toNat*C.P.cellsOf e),none⟩) ((lz len hi).toNat-(kT lo).toNat) (c' - (kT lo).toNat),?_,fun kk L K hk=>?_⟩
    ·refine .sl _ _ j ?_ ad;rcases hc with ⟨n,o⟩ | ⟨n,o⟩
     ·exact .inl ⟨ad,ad⟩
     ·rcases h8 with h8 | h8
      ·rw [Nat.blt_eq] at h8; omega
      ·have h8:=Zw h8;exact .inr ⟨h8,by unfold half at *; omega⟩
    ·unfold jx;simp only [f,g,k];refine ⟨⟨l,m,ad⟩,?_⟩;rw [Y1 ad];simp only [Option.map_some,aC];rw [Nat.add_assoc];exact hk
   | _=>cases c
def Vy {a a' v:Xab} {lo hi g:Option Operand} {i d:List Xab} (f:VR ρ a a') (hv:eC ρ i d) (b:XL C.P H lo hi g a i=some v) :
  ∃ v',VR ρ v v'/\∀ (kk:Xab->T) (L:Lp) (K:Xab->Hp->Prop),kk v' L K h->VK C.P H lo hi g a' d kk L K h:=by
 unfold XL at b;have one:∀ {l l':Xab},VR ρ l l'->eU (some l)=true->l'=l:=fun hl hi=>by
  cases hl <;> first | rfl | (simp [eU] at hi; done)
 have c:∀ {lo hi:Option Xab},tG C.P H a lo hi=some v->eU lo=true/\eU hi=true:=fun b=>by
  unfold tG at b
  have:=(bI.1 b).1
  simpa using this
 split at b
 ·cases hv; exact tR f b
 ·cases hv with
  | cons h1 hv=>cases hv; rw [one h1 (c b).1]; exact tR f b
 ·cases hv with
  | cons h1 hv=>cases hv; rw [one h1 (c b).2]; exact tR f b
 ·cases hv with
  | cons h1 hv=>cases hv with
   | cons h2 hv=>cases hv; rw [one h1 (c b).1,one h2 (c b).2]; exact tR f b
 ·cases b
def G6 {i a:Xab} {n:Int} (hi:VR ρ i a) (b:intOf i=some n):∃ k,a=.int k n:=by
 cases hi <;> first | (cases b; done) | (cases b; exact ⟨_,rfl⟩)
def NJ {a a' i l v:Xab} (g:VR ρ a a') (hi:VR ρ i l) (c:Qd C.P H a i=some v) :
  ∃ v',VR ρ v v'/\∀ (kk:Xab->T) (L:Lp) (K:Xab->Hp->Prop),kk v' L K h->zt C.P H a' l kk L K h:=by
 unfold Qd at c;obtain ⟨n,hn,c⟩:=YX.1 c;obtain ⟨k,rfl⟩:=G6 hi hn;cases f:C.P.underlying H with
 | none=>rw [f] at c; cases c
 | some d =>
  rw [f] at c;cases d <;> first | (cases c; done) | skip
  case array len m =>
   simp only at c;obtain ⟨⟨b,off⟩,o,c⟩:=YX.1 c;obtain ⟨h1,c⟩:=bI.1 (show gu _ _=some v from c);cases c
   have:=j8.1 o
   rw [this] at g;obtain ⟨pl,j,rfl⟩:=g.wJ;simp only [Bool.and_eq_true,decide_eq_true_eq] at h1;refine ⟨_,.ptr _ j,fun kk L K hk=>?_⟩;unfold zt;simp only [f,h1.1,Bool.not_true,cond_false];refine ⟨h1.2,?_⟩;simp only [T.aR,aC];rw [Nat.add_assoc];exact hk
  case slice m =>
   simp only at c;cases g with
   | @sl b pl off len cap c' j hc hl =>
    obtain ⟨h1,c⟩:=bI.1 (show gu _ _=some v from c);cases c;simp only [Bool.and_eq_true,decide_eq_true_eq] at h1;refine ⟨_,.ptr _ j,fun kk L K hk=>?_⟩;unfold zt;simp only [f,h1.1,Bool.not_true,cond_false];refine ⟨h1.2,?_⟩;simp only [T.aR,aC];rw [Nat.add_assoc];exact hk
   | _=>cases c
def QO {a a' i c v:Xab} (d:VR ρ a a') (hi:VR ρ i c) (b:Vs C.P H a i=some v) :
  VR ρ v v/\∀ (kk:Xab->T) (L:Lp) (K:Xab->Hp->Prop),kk v L K h->H0 C.P H a' c kk L K h:=by
 unfold Vs at b;obtain ⟨n,hn,b⟩:=YX.1 b;obtain ⟨k,rfl⟩:=G6 hi hn;cases d <;> first | (cases b; done) | skip
 obtain ⟨h1,b⟩:=bI.1 (show gu _ _=some v from b);cases b;simp only [Bool.and_eq_true,decide_eq_true_eq] at h1;have hd:=wC h1.1;refine ⟨.int _ _,fun kk L K hk=>?_⟩;unfold H0;simp only [hd];exact ⟨h1.2,hk⟩
variable {I:Nat}
def Mw {P:Program} {fd:Field} (a:Ki P H I=some fd):∃ b,P.underlying H=some (.struct b)/\b[I]?=some fd:=by
 unfold Ki at a;split at a
 ·rename_i b c; exact ⟨b,c,a⟩
 ·cases a
def HE {a a' v:Xab} (i:VR ρ a a') (c:EW C.P H I a=some v) :
  ∃ v',VR ρ v v'/\∀ (kk:Xab->T) (L:Lp) (K:Xab->Hp->Prop),kk v' L K h->(match a',C.P.underlying H with
  | .pointer p,some (.struct j)=>match j[I]? with
   | some d=>match C.P.cellsOf d.type with
    | 0=>T.fail
    | _+1=>T.aR p fun a=>kk (.pointer (some (a.add d.offset)))
   | none=>T.fail
  | _,_=>T.fail) L K h:=by
 unfold EW at c;obtain ⟨⟨b,off⟩,k,c⟩:=YX.1 c;obtain ⟨d,l,c⟩:=YX.1 c;obtain ⟨h1,c⟩:=bI.1 c;cases c
 have:=j8.1 k
 rw [this] at i;obtain ⟨pl,m,rfl⟩:=i.wJ;obtain ⟨j,o,g⟩:=Mw l;refine ⟨_,.ptr _ m,fun kk L K hk=>?_⟩;simp only [o,g];have h1:=Zw h1;cases hc:C.P.cellsOf d.type with
 | zero=>omega
 | succ n =>
  simp only [T.aR,aC];rw [Nat.add_assoc];exact hk
def OZ {off:Nat} {cs b:List Xab} {v:Xab} (hc:eC ρ cs b) (c:MV C.P H off cs=some v) :
  ∃ v',VR ρ v v'/\∀ (kk:Xab->T) (L:Lp) (K:Xab->Hp->Prop),kk v' L K h->uK C.P H b off kk L K h:=by
 unfold MV at c;obtain ⟨g,a,c⟩:=YX.1 c;unfold cP at a;cases f:C.P.underlying H with
 | none=>rw [f] at a; cases a
 | some d =>
  rw [f] at a;cases g with
  | true =>
   cases c;refine ⟨_,.agg ((hc.drop off).take _),fun kk L K hk=>?_⟩;unfold uK;rw [f];cases d <;> first | (cases a; done) | exact hk
  | false =>
   obtain ⟨v',h1,h2⟩:=hc.get c;refine ⟨v',h2,fun kk L K hk=>?_⟩;unfold uK;rw [f];cases d <;> first | (cases a; done) | (simp only [h1]; exact hk)
end
end Go.Sx.Cr
