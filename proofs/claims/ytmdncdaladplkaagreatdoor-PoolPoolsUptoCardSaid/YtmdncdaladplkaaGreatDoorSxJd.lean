/- Part of the framework. No condition. -/
import Derived.Test.YtmdncdaladplkaaGreatDoorSxJc
set_option linter.all false
set_option maxHeartbeats 4000000
namespace Go.Sx.Cr
section
variable {C:Cx} {h0:Hp} {ρ:gX} {s s1:CS} {h:Hp} {e:Ev} {e':Env} {L:Lp} {K:Xab->Hp->Prop} {kk:Xab->T}
def vT {d:Option TypeDesc} (h:yf d=true):d=some .string:=by
 unfold yf at h;split at h
 ·rfl
 ·cases h
variable {H:TypeId}
def tj {a a' v:Xab} {lo hi:Option Xab} (i:VR ρ a a') (c:sV C.P H a lo hi=some v) :
  ∃ v',VR ρ v v'/\∀ (kk:Xab->T) (L:Lp) (K:Xab->Hp->Prop),kk v' L K h->jb C.P H a' lo hi none kk L K h:=by
 unfold sV at c;obtain ⟨h1,c⟩:=bt.1 c;have f:(eO lo && eO hi && eO none)=true:=by rw [h1]; rfl
 cases g:C.P.underlying H with
 | none=>rw [g] at c; cases c
 | some d =>
  rw [g] at c;cases d <;> first | (cases c; done) | skip
  ·simp only at c;cases a <;> first | (cases c; done) | skip
   cases i;obtain ⟨h2,c⟩:=bt.1 (show fY _ _=some v from c);cases c;refine ⟨_,.string _,fun kk L K hk=>?_⟩;unfold jb;simp only [f,g];exact ⟨by simpa using h2,hk⟩
  ·rename_i e;simp only at c;cases i with
   | @sl b pl off len cap c' j hc hl =>
    obtain ⟨h2,c⟩:=bt.1 (show fY _ _=some v from c);cases c;simp only [Bool.and_eq_true,decide_eq_true_eq,Bool.or_eq_true] at h2;obtain ⟨⟨k,l,m,p,q⟩,h8⟩:=h2;refine ⟨.slice (some ⟨pl.cw,pl.sh+(off+(kT lo).toNat*C.P.cellsOf e),none⟩) ((lA len hi).toNat-(kT lo).toNat) (c' - (kT lo).toNat),?_,fun kk L K hk=>?_⟩
    ·refine .sl _ _ j ?_ ad;rcases hc with ⟨n,o⟩ | ⟨n,o⟩
     ·exact .inl ⟨ad,ad⟩
     ·rcases h8 with h8 | h8
      ·rw [Nat.blt_eq] at h8; omega
      ·have h8:=bi9 h8;exact .inr ⟨h8,by unfold half at *; omega⟩
    ·unfold jb;simp only [f,g,k];refine ⟨⟨l,m,ad⟩,?_⟩;rw [ac9 ad];simp only [Option.map_some,ay];rw [Nat.add_assoc];exact hk
   | _=>cases c
def Xc {a a' v:Xab} {lo hi g:Option Operand} {i d:List Xab} (f:VR ρ a a') (hv:et ρ i d) (b:Zx C.P H lo hi g a i=some v) :
  ∃ v',VR ρ v v'/\∀ (kk:Xab->T) (L:Lp) (K:Xab->Hp->Prop),kk v' L K h->Xn C.P H lo hi g a' d kk L K h:=by
 unfold Zx at b;have one:∀ {l l':Xab},VR ρ l l'->eO (some l)=true->l'=l:=fun hl hi=>by
  cases hl <;> first | rfl | (simp [eO] at hi; done)
 have c:∀ {lo hi:Option Xab},sV C.P H a lo hi=some v->eO lo=true/\eO hi=true:=fun b=>by
  unfold sV at b
  have:=(bt.1 b).1
  simpa using this
 split at b
 ·cases hv; exact tj f b
 ·cases hv with
  | cons h1 hv=>cases hv; rw [one h1 (c b).1]; exact tj f b
 ·cases hv with
  | cons h1 hv=>cases hv; rw [one h1 (c b).2]; exact tj f b
 ·cases hv with
  | cons h1 hv=>cases hv with
   | cons h2 hv=>cases hv; rw [one h1 (c b).1,one h2 (c b).2]; exact tj f b
 ·cases b
def Hs {i a:Xab} {n:Int} (hi:VR ρ i a) (b:intOf i=some n):∃ k,a=.int k n:=by
 cases hi <;> first | (cases b; done) | (cases b; exact ⟨_,rfl⟩)
def OD {a a' i l v:Xab} (g:VR ρ a a') (hi:VR ρ i l) (c:Rv C.P H a i=some v) :
  ∃ v',VR ρ v v'/\∀ (kk:Xab->T) (L:Lp) (K:Xab->Hp->Prop),kk v' L K h->za C.P H a' l kk L K h:=by
 unfold Rv at c;obtain ⟨n,hn,c⟩:=aa9.1 c;obtain ⟨k,rfl⟩:=Hs hi hn;cases f:C.P.underlying H with
 | none=>rw [f] at c; cases c
 | some d =>
  rw [f] at c;cases d <;> first | (cases c; done) | skip
  case array len m =>
   simp only at c;obtain ⟨⟨b,off⟩,o,c⟩:=aa9.1 c;obtain ⟨h1,c⟩:=bt.1 (show fY _ _=some v from c);cases c
   have:=jW.1 o
   rw [this] at g;obtain ⟨pl,j,rfl⟩:=g.vY;simp only [Bool.and_eq_true,decide_eq_true_eq] at h1;refine ⟨_,.ptr _ j,fun kk L K hk=>?_⟩;unfold za;simp only [f,h1.1,Bool.not_true,cond_false];refine ⟨h1.2,?_⟩;simp only [T.bi,ay];rw [Nat.add_assoc];exact hk
  case slice m =>
   simp only at c;cases g with
   | @sl b pl off len cap c' j hc hl =>
    obtain ⟨h1,c⟩:=bt.1 (show fY _ _=some v from c);cases c;simp only [Bool.and_eq_true,decide_eq_true_eq] at h1;refine ⟨_,.ptr _ j,fun kk L K hk=>?_⟩;unfold za;simp only [f,h1.1,Bool.not_true,cond_false];refine ⟨h1.2,?_⟩;simp only [T.bi,ay];rw [Nat.add_assoc];exact hk
   | _=>cases c
def Sb {a a' i c v:Xab} (d:VR ρ a a') (hi:VR ρ i c) (b:W6 C.P H a i=some v) :
  VR ρ v v/\∀ (kk:Xab->T) (L:Lp) (K:Xab->Hp->Prop),kk v L K h->Iu C.P H a' c kk L K h:=by
 unfold W6 at b;obtain ⟨n,hn,b⟩:=aa9.1 b;obtain ⟨k,rfl⟩:=Hs hi hn;cases d <;> first | (cases b; done) | skip
 obtain ⟨h1,b⟩:=bt.1 (show fY _ _=some v from b);cases b;simp only [Bool.and_eq_true,decide_eq_true_eq] at h1;have hd:=vT h1.1;refine ⟨.int _ _,fun kk L K hk=>?_⟩;unfold Iu;simp only [hd];exact ⟨h1.2,hk⟩
variable {O:Nat}
def Nj {P:Program} {fd:Field} (a:KT P H O=some fd):∃ b,P.underlying H=some (.struct b)/\b[O]?=some fd:=by
 unfold KT at a;split at a
 ·rename_i b c; exact ⟨b,c,a⟩
 ·cases a
def H5 {a a' v:Xab} (i:VR ρ a a') (c:Fg C.P H O a=some v) :
  ∃ v',VR ρ v v'/\∀ (kk:Xab->T) (L:Lp) (K:Xab->Hp->Prop),kk v' L K h->(match a',C.P.underlying H with
  | .pointer p,some (.struct j)=>match j[O]? with
   | some d=>match C.P.cellsOf d.type with
    | 0=>T.fail
    | _+1=>T.bi p fun a=>kk (.pointer (some (a.add d.offset)))
   | none=>T.fail
  | _,_=>T.fail) L K h:=by
 unfold Fg at c;obtain ⟨⟨b,off⟩,k,c⟩:=aa9.1 c;obtain ⟨d,l,c⟩:=aa9.1 c;obtain ⟨h1,c⟩:=bt.1 c;cases c
 have:=jW.1 k
 rw [this] at i;obtain ⟨pl,m,rfl⟩:=i.vY;obtain ⟨j,o,g⟩:=Nj l;refine ⟨_,.ptr _ m,fun kk L K hk=>?_⟩;simp only [o,g];have h1:=bi9 h1;cases hc:C.P.cellsOf d.type with
 | zero=>omega
 | succ n =>
  simp only [T.bi,ay];rw [Nat.add_assoc];exact hk
def P5 {off:Nat} {cs b:List Xab} {v:Xab} (hc:et ρ cs b) (c:NM C.P H off cs=some v) :
  ∃ v',VR ρ v v'/\∀ (kk:Xab->T) (L:Lp) (K:Xab->Hp->Prop),kk v' L K h->uh C.P H b off kk L K h:=by
 unfold NM at c;obtain ⟨g,a,c⟩:=aa9.1 c;unfold cK at a;cases f:C.P.underlying H with
 | none=>rw [f] at a; cases a
 | some d =>
  rw [f] at a;cases g with
  | true =>
   cases c;refine ⟨_,.agg ((hc.drop off).take _),fun kk L K hk=>?_⟩;unfold uh;rw [f];cases d <;> first | (cases a; done) | exact hk
  | false =>
   obtain ⟨v',h1,h2⟩:=hc.get c;refine ⟨v',h2,fun kk L K hk=>?_⟩;unfold uh;rw [f];cases d <;> first | (cases a; done) | (simp only [h1]; exact hk)
end
end Go.Sx.Cr
