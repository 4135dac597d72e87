/- Part of the framework. No condition. -/
import Derived.Test.YthbffkdafjboiaaGreatDoorSxZ
set_option linter.all false
set_option maxHeartbeats 4000000
namespace Go.Sx.Cr
theorem BZ {h:Hp} {ρ:gn} {g o:Nat} {cs:Array Xab} {e:TypeId} {f:Nat × Nat} (u:h[g]?=some (.cells cs e f)):∀ (r:List Xab) (i:Nat),(∀ (j:Nat) (v:Xab),r[j]?=some v->∃ v',cs[o+(i+j)]?=some v'/\VR ρ v v')->∃ r',dS ρ r r'/\aI h ⟨g,o,none⟩ i r'
 | [],i,_=>⟨[],.nil,trivial⟩
 | v::r,i,hv=>by
  obtain ⟨v',h1,h2⟩:=hv 0 v aj;obtain ⟨r',h3,h4⟩:=BZ u r (i+1) fun j w hw=>by
   have:=hv (j+1) w (by simpa using hw)
   rw [show i+1+j=i+(j+1) from ad];exact this
  refine ⟨v'::r',.cons h2 h3,?_,h4⟩;rw [aE,iN u];exact h1
def Mv {C:Cx} {h0 h:Hp} {ρ:gn} {σ:dK AO} (R:Rel C h0 ρ σ h) {b m:Nat} {c:List Xab} {e:TypeId} {pl:Pl} (hb:σ.get b=some (.row c e m)) (u:ρ b=some pl) (off n:Nat) {r:List Xab} (G:Eh off n c=some r) :
  ∃ r',dS ρ r r'/\aI h ⟨pl.cr,pl.sh+off,none⟩ 0 r':=by
 obtain ⟨pl',e1,cs,f,h1,h2,_⟩:=R.obj b _ hb;rw [u] at e1;cases e1;obtain ⟨h3,h4⟩:=pO off n c r G;refine BZ h1 r 0 fun j v hv=>?_
 have:=h2 (off+j) v (h4 j v hv)
 rw [show pl.sh+off+(0+j)=pl.sh+(off+j) from ad];exact this
end Go.Sx.Cr
