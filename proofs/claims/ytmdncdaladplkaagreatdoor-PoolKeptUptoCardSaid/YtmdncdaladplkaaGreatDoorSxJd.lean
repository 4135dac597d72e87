/- Part of the framework. No condition. -/
import Derived.Test.YtmdncdaladplkaaGreatDoorSxJc
set_option linter.all false
set_option maxHeartbeats 4000000
namespace Go.Sx.Cr
section
variable {C:Cx} {h0:Hp} {ρ:iG} {s s1:CS} {h:Hp} {e:Ev} {e':Env} {L:Lp} {K:Xab->Hp->Prop} {kk:Xab->T}
def wN {d:Option TypeDesc} (h:yS d=true):d=some .string:=by
 unfold yS at h;split at h
 ·rfl
 ·cases h
variable {H:TypeId}
def tY {a a' v:Xab} {lo hi:Option Xab} (i:VR ρ a a') (c:tP C.P H a lo hi=some v) :
  ∃ v',VR ρ v v'/\∀ (kk:Xab->T) (L:Lp) (K:Xab->Hp->Prop),kk v' L K h->jy C.P H a' lo hi none kk L K h:=by
 unfold tP at c;obtain ⟨h1,c⟩:=bt.1 c;have f:(eV lo && eV hi && eV none)=true:=by rw [h1]; rfl
 cases g:C.P.underlying H with
 | none=>rw [g] at c; cases c
 | some d =>
  rw [g] at c;cases d <;> first | (cases c; done) | skip
  ·simp only at c;cases a <;> first | (cases c; done) | skip
   cases i;obtain ⟨h2,c⟩:=bt.1 (show gF _ _=some v from c);cases c;refine ⟨_,.string _,λkk L K hk=>?_⟩;unfold jy;simp only [f,g];exact ⟨by simpa using h2,hk⟩
  ·rename_i e;simp only at c;cases i with
   | @sl b pl off len cap c' j hc hl =>
    obtain ⟨h2,c⟩:=bt.1 (show gF _ _=some v from c);cases c;simp only [Bool.and_eq_true,decide_eq_true_eq,Bool.or_eq_true] at h2;obtain ⟨⟨k,l,m,p,q⟩,h8⟩:=h2;refine ⟨.slice (some ⟨pl.cj,pl.sh+(off+(lI lo).toNat*C.P.cellsOf e),none⟩) ((lX len hi).toNat-(lI lo).toNat) (c' - (lI lo).toNat),?_,λkk L K hk=>?_⟩
    ·refine .sl _ _ j ?_ ad;rcases hc with ⟨n,o⟩ | ⟨n,o⟩
     ·exact .inl ⟨ad,ad⟩
     ·rcases h8 with h8 | h8
      ·rw [Nat.blt_eq] at h8; omega
      ·have h8:=bk9 h8;exact .inr ⟨h8,by unfold half at *; omega⟩
    ·unfold jy;simp only [f,g,k];refine ⟨⟨l,m,ad⟩,?_⟩;rw [ac9 ad];simp only [Option.map_some,aw];rw [Nat.add_assoc];exact hk
   | _=>cases c
def Yf {a a' v:Xab} {lo hi g:Option Operand} {i d:List Xab} (f:VR ρ a a') (hv:eA ρ i d) (b:csl C.P H lo hi g a i=some v) :
  ∃ v',VR ρ v v'/\∀ (kk:Xab->T) (L:Lp) (K:Xab->Hp->Prop),kk v' L K h->Yr C.P H lo hi g a' d kk L K h:=by
 unfold csl at b;have one:∀ {l l':Xab},VR ρ l l'->eV (some l)=true->l'=l:=λhl hi=>by
  cases hl <;> first | rfl | (simp [eV] at hi; done)
 have c:∀ {lo hi:Option Xab},tP C.P H a lo hi=some v->eV lo=true/\eV hi=true:=λb=>by
  unfold tP at b
  have:=(bt.1 b).1
  simpa using this
 split at b
 ·cases hv; exact tY f b
 ·cases hv with
  | cons h1 hv=>cases hv; rw [one h1 (c b).1]; exact tY f b
 ·cases hv with
  | cons h1 hv=>cases hv; rw [one h1 (c b).2]; exact tY f b
 ·cases hv with
  | cons h1 hv=>cases hv with
   | cons h2 hv=>cases hv; rw [one h1 (c b).1,one h2 (c b).2]; exact tY f b
 ·cases b
def H7 {i a:Xab} {n:Int} (hi:VR ρ i a) (b:intOf i=some n):∃ k,a=.int k n:=by
 cases hi <;> first | (cases b; done) | (cases b; exact ⟨_,rfl⟩)
def Pv {a a' i l v:Xab} (g:VR ρ a a') (hi:VR ρ i l) (c:SA C.P H a i=some v) :
  ∃ v',VR ρ v v'/\∀ (kk:Xab->T) (L:Lp) (K:Xab->Hp->Prop),kk v' L K h->zK C.P H a' l kk L K h:=by
 unfold SA at c;obtain ⟨n,hn,c⟩:=aa9.1 c;obtain ⟨k,rfl⟩:=H7 hi hn;cases f:C.P.underlying H with
 | none=>rw [f] at c; cases c
 | some d =>
  rw [f] at c;cases d <;> first | (cases c; done) | skip
  case array len m =>
   simp only at c;obtain ⟨⟨b,off⟩,o,c⟩:=aa9.1 c;obtain ⟨h1,c⟩:=bt.1 (show gF _ _=some v from c);cases c
   have:=kw.1 o
   rw [this] at g;obtain ⟨pl,j,rfl⟩:=g.wT;simp only [Bool.and_eq_true,decide_eq_true_eq] at h1;refine ⟨_,.ptr _ j,λkk L K hk=>?_⟩;unfold zK;simp only [f,h1.1,Bool.not_true,cond_false];refine ⟨h1.2,?_⟩;simp only [T.bh,aw];rw [Nat.add_assoc];exact hk
  case slice m =>
   simp only at c;cases g with
   | @sl b pl off len cap c' j hc hl =>
    obtain ⟨h1,c⟩:=bt.1 (show gF _ _=some v from c);cases c;simp only [Bool.and_eq_true,decide_eq_true_eq] at h1;refine ⟨_,.ptr _ j,λkk L K hk=>?_⟩;unfold zK;simp only [f,h1.1,Bool.not_true,cond_false];refine ⟨h1.2,?_⟩;simp only [T.bh,aw];rw [Nat.add_assoc];exact hk
   | _=>cases c
def Tm {a a' i c v:Xab} (d:VR ρ a a') (hi:VR ρ i c) (b:X9 C.P H a i=some v) :
  VR ρ v v/\∀ (kk:Xab->T) (L:Lp) (K:Xab->Hp->Prop),kk v L K h->Je C.P H a' c kk L K h:=by
 unfold X9 at b;obtain ⟨n,hn,b⟩:=aa9.1 b;obtain ⟨k,rfl⟩:=H7 hi hn;cases d <;> first | (cases b; done) | skip
 obtain ⟨h1,b⟩:=bt.1 (show gF _ _=some v from b);cases b;simp only [Bool.and_eq_true,decide_eq_true_eq] at h1;have hd:=wN h1.1;refine ⟨.int _ _,λkk L K hk=>?_⟩;unfold Je;simp only [hd];exact ⟨h1.2,hk⟩
variable {O:Nat}
def Oc {P:Program} {fd:Field} (a:LK P H O=some fd):∃ b,P.underlying H=some (.struct b)/\b[O]?=some fd:=by
 unfold LK at a;split at a
 ·rename_i b c; exact ⟨b,c,a⟩
 ·cases a
def IL {a a' v:Xab} (i:VR ρ a a') (c:FW C.P H O a=some v) :
  ∃ v',VR ρ v v'/\∀ (kk:Xab->T) (L:Lp) (K:Xab->Hp->Prop),kk v' L K h->(match a',C.P.underlying H with
  | .pointer p,some (.struct j)=>match j[O]? with
   | some d=>match C.P.cellsOf d.type with
    | 0=>T.fail
    | _+1=>T.bh p λa=>kk (.pointer (some (a.add d.offset)))
   | none=>T.fail
  | _,_=>T.fail) L K h:=by
 unfold FW at c;obtain ⟨⟨b,off⟩,k,c⟩:=aa9.1 c;obtain ⟨d,l,c⟩:=aa9.1 c;obtain ⟨h1,c⟩:=bt.1 c;cases c
 have:=kw.1 k
 rw [this] at i;obtain ⟨pl,m,rfl⟩:=i.wT;obtain ⟨j,o,g⟩:=Oc l;refine ⟨_,.ptr _ m,λkk L K hk=>?_⟩;simp only [o,g];have h1:=bk9 h1;cases hc:C.P.cellsOf d.type with
 | zero=>omega
 | succ n =>
  simp only [T.bh,aw];rw [Nat.add_assoc];exact hk
def Q3 {off:Nat} {cs b:List Xab} {v:Xab} (hc:eA ρ cs b) (c:OH C.P H off cs=some v) :
  ∃ v',VR ρ v v'/\∀ (kk:Xab->T) (L:Lp) (K:Xab->Hp->Prop),kk v' L K h->uU C.P H b off kk L K h:=by
 unfold OH at c;obtain ⟨g,a,c⟩:=aa9.1 c;unfold cO at a;cases f:C.P.underlying H with
 | none=>rw [f] at a; cases a
 | some d =>
  rw [f] at a;cases g with
  | true =>
   cases c;refine ⟨_,.agg ((hc.drop off).take _),λkk L K hk=>?_⟩;unfold uU;rw [f];cases d <;> first | (cases a; done) | exact hk
  | false =>
   obtain ⟨v',h1,h2⟩:=hc.get c;refine ⟨v',h2,λkk L K hk=>?_⟩;unfold uU;rw [f];cases d <;> first | (cases a; done) | (simp only [h1]; exact hk)
end
end Go.Sx.Cr
