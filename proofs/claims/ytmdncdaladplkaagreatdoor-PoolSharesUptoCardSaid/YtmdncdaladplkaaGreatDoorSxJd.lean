/- Part of the framework. No condition. -/
import Derived.Test.YtmdncdaladplkaaGreatDoorSxJc
set_option linter.all false
set_option maxHeartbeats 4000000
namespace Go.Sx.Cr
section
variable {C:Cx} {h0:Hp} {ρ:iv} {s s1:CS} {h:Hp} {e:Ev} {e':Env} {L:Lp} {K:Xab->Hp->Prop} {kk:Xab->T}
def vY {d:Option TypeDesc} (h:yx d=true):d=some .string:=by
 unfold yx at h;split at h
 ·rfl
 ·cases h
variable {H:TypeId}
def tq {a a' v:Xab} {lo hi:Option Xab} (i:VR ρ a a') (c:sZ C.P H a lo hi=some v) :
  ∃ v',VR ρ v v'/\∀ (kk:Xab->T) (L:Lp) (K:Xab->Hp->Prop),kk v' L K h->jk C.P H a' lo hi none kk L K h:=by
 unfold sZ at c;obtain ⟨h1,c⟩:=bF.1 c;have f:(eU lo && eU hi && eU none)=true:=by rw [h1]; rfl
 cases g:C.P.underlying H with
 | none=>rw [g] at c; cases c
 | some d =>
  rw [g] at c;cases d <;> first | (cases c; done) | skip
  ·simp only at c;cases a <;> first | (cases c; done) | skip
   cases i;obtain ⟨h2,c⟩:=bF.1 (show gj _ _=some v from c);cases c;refine ⟨_,.string _,fun kk L K hk=>?_⟩;unfold jk;simp only [f,g];exact ⟨by simpa using h2,hk⟩
  ·rename_i e;simp only at c;cases i with
   | @sl b pl off len cap c' j hc hl =>
    obtain ⟨h2,c⟩:=bF.1 (show gj _ _=some v from c);cases c;simp only [Bool.and_eq_true,decide_eq_true_eq,Bool.or_eq_true] at h2;obtain ⟨⟨k,l,m,p,q⟩,h8⟩:=h2;refine ⟨.slice (some ⟨pl.cB,pl.sh+(off+(kQ lo).toNat*C.P.cellsOf e),none⟩) ((lx len hi).toNat-(kQ lo).toNat) (c' - (kQ lo).toNat),?_,fun kk L K hk=>?_⟩
    ·refine .sl _ _ j ?_ ad;rcases hc with ⟨n,o⟩ | ⟨n,o⟩
     ·exact .inl ⟨ad,ad⟩
     ·rcases h8 with h8 | h8
      ·rw [Nat.blt_eq] at h8; omega
      ·have h8:=bk9 h8;exact .inr ⟨h8,by unfold half at *; omega⟩
    ·unfold jk;simp only [f,g,k];refine ⟨⟨l,m,ad⟩,?_⟩;rw [ac9 ad];simp only [Option.map_some,aE];rw [Nat.add_assoc];exact hk
   | _=>cases c
def Xq {a a' v:Xab} {lo hi g:Option Operand} {i d:List Xab} (f:VR ρ a a') (hv:eu ρ i d) (b:ZO C.P H lo hi g a i=some v) :
  ∃ v',VR ρ v v'/\∀ (kk:Xab->T) (L:Lp) (K:Xab->Hp->Prop),kk v' L K h->XB C.P H lo hi g a' d kk L K h:=by
 unfold ZO at b;have one:∀ {l l':Xab},VR ρ l l'->eU (some l)=true->l'=l:=fun hl hi=>by
  cases hl <;> first | rfl | (simp [eU] at hi; done)
 have c:∀ {lo hi:Option Xab},sZ C.P H a lo hi=some v->eU lo=true/\eU hi=true:=fun b=>by
  unfold sZ at b
  have:=(bF.1 b).1
  simpa using this
 split at b
 ·cases hv; exact tq f b
 ·cases hv with
  | cons h1 hv=>cases hv; rw [one h1 (c b).1]; exact tq f b
 ·cases hv with
  | cons h1 hv=>cases hv; rw [one h1 (c b).2]; exact tq f b
 ·cases hv with
  | cons h1 hv=>cases hv with
   | cons h2 hv=>cases hv; rw [one h1 (c b).1,one h2 (c b).2]; exact tq f b
 ·cases b
def Hx {i a:Xab} {n:Int} (hi:VR ρ i a) (b:intOf i=some n):∃ k,a=.int k n:=by
 cases hi <;> first | (cases b; done) | (cases b; exact ⟨_,rfl⟩)
def OM {a a' i l v:Xab} (g:VR ρ a a') (hi:VR ρ i l) (c:RG C.P H a i=some v) :
  ∃ v',VR ρ v v'/\∀ (kk:Xab->T) (L:Lp) (K:Xab->Hp->Prop),kk v' L K h->zt C.P H a' l kk L K h:=by
 unfold RG at c;obtain ⟨n,hn,c⟩:=aa9.1 c;obtain ⟨k,rfl⟩:=Hx hi hn;cases f:C.P.underlying H with
 | none=>rw [f] at c; cases c
 | some d =>
  rw [f] at c;cases d <;> first | (cases c; done) | skip
  case array len m =>
   simp only at c;obtain ⟨⟨b,off⟩,o,c⟩:=aa9.1 c;obtain ⟨h1,c⟩:=bF.1 (show gj _ _=some v from c);cases c
   have:=jZ.1 o
   rw [this] at g;obtain ⟨pl,j,rfl⟩:=g.we;simp only [Bool.and_eq_true,decide_eq_true_eq] at h1;refine ⟨_,.ptr _ j,fun kk L K hk=>?_⟩;unfold zt;simp only [f,h1.1,Bool.not_true,cond_false];refine ⟨h1.2,?_⟩;simp only [T.bf,aE];rw [Nat.add_assoc];exact hk
  case slice m =>
   simp only at c;cases g with
   | @sl b pl off len cap c' j hc hl =>
    obtain ⟨h1,c⟩:=bF.1 (show gj _ _=some v from c);cases c;simp only [Bool.and_eq_true,decide_eq_true_eq] at h1;refine ⟨_,.ptr _ j,fun kk L K hk=>?_⟩;unfold zt;simp only [f,h1.1,Bool.not_true,cond_false];refine ⟨h1.2,?_⟩;simp only [T.bf,aE];rw [Nat.add_assoc];exact hk
   | _=>cases c
def Sr {a a' i c v:Xab} (d:VR ρ a a') (hi:VR ρ i c) (b:Xk C.P H a i=some v) :
  VR ρ v v/\∀ (kk:Xab->T) (L:Lp) (K:Xab->Hp->Prop),kk v L K h->Iy C.P H a' c kk L K h:=by
 unfold Xk at b;obtain ⟨n,hn,b⟩:=aa9.1 b;obtain ⟨k,rfl⟩:=Hx hi hn;cases d <;> first | (cases b; done) | skip
 obtain ⟨h1,b⟩:=bF.1 (show gj _ _=some v from b);cases b;simp only [Bool.and_eq_true,decide_eq_true_eq] at h1;have hd:=vY h1.1;refine ⟨.int _ _,fun kk L K hk=>?_⟩;unfold Iy;simp only [hd];exact ⟨h1.2,hk⟩
variable {O:Nat}
def Nw {P:Program} {fd:Field} (a:KW P H O=some fd):∃ b,P.underlying H=some (.struct b)/\b[O]?=some fd:=by
 unfold KW at a;split at a
 ·rename_i b c; exact ⟨b,c,a⟩
 ·cases a
def H9 {a a' v:Xab} (i:VR ρ a a') (c:Fs C.P H O a=some v) :
  ∃ v',VR ρ v v'/\∀ (kk:Xab->T) (L:Lp) (K:Xab->Hp->Prop),kk v' L K h->(match a',C.P.underlying H with
  | .pointer p,some (.struct j)=>match j[O]? with
   | some d=>match C.P.cellsOf d.type with
    | 0=>T.fail
    | _+1=>T.bf p fun a=>kk (.pointer (some (a.add d.offset)))
   | none=>T.fail
  | _,_=>T.fail) L K h:=by
 unfold Fs at c;obtain ⟨⟨b,off⟩,k,c⟩:=aa9.1 c;obtain ⟨d,l,c⟩:=aa9.1 c;obtain ⟨h1,c⟩:=bF.1 c;cases c
 have:=jZ.1 k
 rw [this] at i;obtain ⟨pl,m,rfl⟩:=i.we;obtain ⟨j,o,g⟩:=Nw l;refine ⟨_,.ptr _ m,fun kk L K hk=>?_⟩;simp only [o,g];have h1:=bk9 h1;cases hc:C.P.cellsOf d.type with
 | zero=>omega
 | succ n =>
  simp only [T.bf,aE];rw [Nat.add_assoc];exact hk
def Qe {off:Nat} {cs b:List Xab} {v:Xab} (hc:eu ρ cs b) (c:N0 C.P H off cs=some v) :
  ∃ v',VR ρ v v'/\∀ (kk:Xab->T) (L:Lp) (K:Xab->Hp->Prop),kk v' L K h->uk C.P H b off kk L K h:=by
 unfold N0 at c;obtain ⟨g,a,c⟩:=aa9.1 c;unfold cH at a;cases f:C.P.underlying H with
 | none=>rw [f] at a; cases a
 | some d =>
  rw [f] at a;cases g with
  | true =>
   cases c;refine ⟨_,.agg ((hc.drop off).take _),fun kk L K hk=>?_⟩;unfold uk;rw [f];cases d <;> first | (cases a; done) | exact hk
  | false =>
   obtain ⟨v',h1,h2⟩:=hc.get c;refine ⟨v',h2,fun kk L K hk=>?_⟩;unfold uk;rw [f];cases d <;> first | (cases a; done) | (simp only [h1]; exact hk)
end
end Go.Sx.Cr
