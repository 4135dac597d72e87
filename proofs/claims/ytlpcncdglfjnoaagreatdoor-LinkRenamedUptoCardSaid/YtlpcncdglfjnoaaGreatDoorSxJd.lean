/- Part of the framework. No condition. -/
import Derived.Test.YtlpcncdglfjnoaaGreatDoorSxJc
set_option linter.all false
set_option maxHeartbeats 4000000
namespace Go.Sx.Cr
section
variable {C:Cx} {h0:Hp} {ρ:fY} {s s1:CS} {h:Hp} {e:Ev} {e':Env} {L:Lp} {K:XB->Hp->Prop} {kk:XB->T}
def tZ {d:Option TypeDesc} (h:wV d=true):d=some .string:=by
 unfold wV at h;split at h
 ·rfl
 ·cases h
variable {H:TypeId}
def rf {a a' v:XB} {f hi:Option XB} (j:VR ρ a a') (c:qU C.P H a f hi=some v) :
  ∃ v',VR ρ v v'/\∀ (kk:XB->T) (L:Lp) (K:XB->Hp->Prop),kk v' L K h->iq C.P H a' f hi none kk L K h:=by
 unfold qU at c;obtain ⟨h1,c⟩:=bi.1 c;have g:(ej f && ej hi && ej none)=true:=by rw [h1]; rfl
 cases i:C.P.underlying H with
 | none=>rw [i] at c; cases c
 | some d =>
  rw [i] at c;cases d <;> first | (cases c; done) | skip
  ·simp only at c;cases a <;> first | (cases c; done) | skip
   cases j;obtain ⟨h2,c⟩:=bi.1 (show fx _ _=some v from c);cases c;refine ⟨_,.string _,fun kk L K hk=>?_⟩;unfold iq;simp only [g,i];exact ⟨by simpa using h2,hk⟩
  ·rename_i e;simp only at c;cases j with
   | @sl b pl off len cap c' k hc hl =>
    obtain ⟨h2,c⟩:=bi.1 (show fx _ _=some v from c);cases c;simp only [Bool.and_eq_true,decide_eq_true_eq,Bool.or_eq_true] at h2;obtain ⟨⟨l,m,n,q,r⟩,h8⟩:=h2;refine ⟨.slice (some ⟨pl.cu,pl.sh+(off+(jN f).toNat*C.P.cellsOf e),none⟩) ((jZ len hi).toNat-(jN f).toNat) (c' - (jN f).toNat),?_,fun kk L K hk=>?_⟩
    ·refine .sl _ _ k ?_ ad;rcases hc with ⟨o,p⟩ | ⟨o,p⟩
     ·exact .inl ⟨ad,ad⟩
     ·rcases h8 with h8 | h8
      ·rw [Nat.blt_eq] at h8; omega
      ·have h8:=VX h8;exact .inr ⟨h8,by unfold half at *; omega⟩
    ·unfold iq;simp only [g,i,l];refine ⟨⟨m,n,ad⟩,?_⟩;rw [Vu ad];simp only [Option.map_some,ax];rw [Nat.add_assoc];exact hk
   | _=>cases c
def RU {a a' v:XB} {d hi i:Option Operand} {j f:List XB} (g:VR ρ a a') (hv:dO ρ j f) (b:Uc C.P H d hi i a j=some v) :
  ∃ v',VR ρ v v'/\∀ (kk:XB->T) (L:Lp) (K:XB->Hp->Prop),kk v' L K h->Sb C.P H d hi i a' f kk L K h:=by
 unfold Uc at b;have one:∀ {l l':XB},VR ρ l l'->ej (some l)=true->l'=l:=fun hl hi=>by
  cases hl <;> first | rfl | (simp [ej] at hi; done)
 have c:∀ {d hi:Option XB},qU C.P H a d hi=some v->ej d=true/\ej hi=true:=fun b=>by
  unfold qU at b
  have:=(bi.1 b).1
  simpa using this
 split at b
 ·cases hv; exact rf g b
 ·cases hv with
  | cons h1 hv=>cases hv; rw [one h1 (c b).1]; exact rf g b
 ·cases hv with
  | cons h1 hv=>cases hv; rw [one h1 (c b).2]; exact rf g b
 ·cases hv with
  | cons h1 hv=>cases hv with
   | cons h2 hv=>cases hv; rw [one h1 (c b).1,one h2 (c b).2]; exact rf g b
 ·cases b
def EJ {i a:XB} {n:Int} (hi:VR ρ i a) (b:intOf i=some n):∃ k,a=.int k n:=by
 cases hi <;> first | (cases b; done) | (cases b; exact ⟨_,rfl⟩)
def KU {a a' i l v:XB} (g:VR ρ a a') (hi:VR ρ i l) (c:Nr C.P H a i=some v) :
  ∃ v',VR ρ v v'/\∀ (kk:XB->T) (L:Lp) (K:XB->Hp->Prop),kk v' L K h->xJ C.P H a' l kk L K h:=by
 unfold Nr at c;obtain ⟨n,hn,c⟩:=Vq.1 c;obtain ⟨k,rfl⟩:=EJ hi hn;cases f:C.P.underlying H with
 | none=>rw [f] at c; cases c
 | some d =>
  rw [f] at c;cases d <;> first | (cases c; done) | skip
  case array len m =>
   simp only at c;obtain ⟨⟨b,off⟩,o,c⟩:=Vq.1 c;obtain ⟨h1,c⟩:=bi.1 (show fx _ _=some v from c);cases c
   have:=jf.1 o
   rw [this] at g;obtain ⟨pl,j,rfl⟩:=g.ui;simp only [Bool.and_eq_true,decide_eq_true_eq] at h1;refine ⟨_,.ptr _ j,fun kk L K hk=>?_⟩;unfold xJ;simp only [f,h1.1,Bool.not_true,cond_false];refine ⟨h1.2,?_⟩;simp only [T.bd,ax];rw [Nat.add_assoc];exact hk
  case slice m =>
   simp only at c;cases g with
   | @sl b pl off len cap c' j hc hl =>
    obtain ⟨h1,c⟩:=bi.1 (show fx _ _=some v from c);cases c;simp only [Bool.and_eq_true,decide_eq_true_eq] at h1;refine ⟨_,.ptr _ j,fun kk L K hk=>?_⟩;unfold xJ;simp only [f,h1.1,Bool.not_true,cond_false];refine ⟨h1.2,?_⟩;simp only [T.bd,ax];rw [Nat.add_assoc];exact hk
   | _=>cases c
def NV {a a' i c v:XB} (d:VR ρ a a') (hi:VR ρ i c) (b:RN C.P H a i=some v) :
  VR ρ v v/\∀ (kk:XB->T) (L:Lp) (K:XB->Hp->Prop),kk v L K h->FO C.P H a' c kk L K h:=by
 unfold RN at b;obtain ⟨n,hn,b⟩:=Vq.1 b;obtain ⟨k,rfl⟩:=EJ hi hn;cases d <;> first | (cases b; done) | skip
 obtain ⟨h1,b⟩:=bi.1 (show fx _ _=some v from b);cases b;simp only [Bool.and_eq_true,decide_eq_true_eq] at h1;have hd:=tZ h1.1;refine ⟨.int _ _,fun kk L K hk=>?_⟩;unfold FO;simp only [hd];exact ⟨h1.2,hk⟩
variable {I:Nat}
def JM {P:Program} {fd:Field} (a:HT P H I=some fd):∃ b,P.underlying H=some (.struct b)/\b[I]?=some fd:=by
 unfold HT at a;split at a
 ·rename_i b c; exact ⟨b,c,a⟩
 ·cases a
def Fv {a a' v:XB} (i:VR ρ a a') (c:CR C.P H I a=some v) :
  ∃ v',VR ρ v v'/\∀ (kk:XB->T) (L:Lp) (K:XB->Hp->Prop),kk v' L K h->(match a',C.P.underlying H with
  | .pointer p,some (.struct j)=>match j[I]? with
   | some d=>match C.P.cellsOf d.type with
    | 0=>T.fail
    | _+1=>T.bd p fun a=>kk (.pointer (some (a.add d.offset)))
   | none=>T.fail
  | _,_=>T.fail) L K h:=by
 unfold CR at c;obtain ⟨⟨b,off⟩,k,c⟩:=Vq.1 c;obtain ⟨d,l,c⟩:=Vq.1 c;obtain ⟨h1,c⟩:=bi.1 c;cases c
 have:=jf.1 k
 rw [this] at i;obtain ⟨pl,m,rfl⟩:=i.ui;obtain ⟨j,o,g⟩:=JM l;refine ⟨_,.ptr _ m,fun kk L K hk=>?_⟩;simp only [o,g];have h1:=VX h1;cases hc:C.P.cellsOf d.type with
 | zero=>omega
 | succ n =>
  simp only [T.bd,ax];rw [Nat.add_assoc];exact hk
def Mg {off:Nat} {cs b:List XB} {v:XB} (hc:dO ρ cs b) (c:J9 C.P H off cs=some v) :
  ∃ v',VR ρ v v'/\∀ (kk:XB->T) (L:Lp) (K:XB->Hp->Prop),kk v' L K h->sn C.P H b off kk L K h:=by
 unfold J9 at c;obtain ⟨g,a,c⟩:=Vq.1 c;unfold cB at a;cases f:C.P.underlying H with
 | none=>rw [f] at a; cases a
 | some d =>
  rw [f] at a;cases g with
  | true =>
   cases c;refine ⟨_,.agg ((hc.drop off).take _),fun kk L K hk=>?_⟩;unfold sn;rw [f];cases d <;> first | (cases a; done) | exact hk
  | false =>
   obtain ⟨v',h1,h2⟩:=hc.get c;refine ⟨v',h2,fun kk L K hk=>?_⟩;unfold sn;rw [f];cases d <;> first | (cases a; done) | (simp only [h1]; exact hk)
end
end Go.Sx.Cr
