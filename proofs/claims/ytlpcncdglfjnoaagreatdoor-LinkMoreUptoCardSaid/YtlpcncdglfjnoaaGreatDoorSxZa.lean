/- Closed runs, part Za: cells read out of a run's store. No condition. -/
import Derived.Test.YtlpcncdglfjnoaaGreatDoorSxZ
set_option linter.all false
set_option maxHeartbeats 4000000
namespace Go.Sx.Cr
theorem BC {h:Hp} {ρ:fR} {g o:Nat} {cs:Array ZB} {e:TypeId} {f:Nat × Nat} (hg:h[g]?=some (.cells cs e f)):∀ (r:List ZB) (i:Nat),(∀ (j:Nat) (v:ZB),r[j]?=some v->∃ v',cs[o+(i+j)]?=some v'/\VR ρ v v')->∃ r',dG ρ r r'/\aG h ⟨g,o,none⟩ i r'
 | [],i,_=>⟨[],.nil,trivial⟩
 | v::r,i,hv=>by
  obtain ⟨v',h1,h2⟩:=hv 0 v aj;obtain ⟨r',h3,h4⟩:=BC hg r (i+1) fun j w hw=>by
   have:=hv (j+1) w (by simpa using hw)
   rw [show i+1+j=i+(j+1) from ad];exact this
  refine ⟨v'::r',.cons h2 h3,?_,h4⟩;rw [aE,np hg];exact h1
theorem EK {C:Cx} {h0 h:Hp} {ρ:fR} {σ:dB AO} (R:Rel C h0 ρ σ h) {b m:Nat} {c:List ZB} {e:TypeId} {pl:Pl} (hb:σ.get b=some (.row c e m)) (hp:ρ b=some pl) (off n:Nat) {r:List ZB} (ht:zJ off n c=some r) :
  ∃ r',dG ρ r r'/\aG h ⟨pl.bY,pl.sh+off,none⟩ 0 r':=by
 obtain ⟨pl',e1,cs,f,h1,h2,_⟩:=R.obj b _ hb;rw [hp] at e1;cases e1;obtain ⟨h3,h4⟩:=oA off n c r ht;refine BC h1 r 0 fun j v hv=>?_
 have:=h2 (off+j) v (h4 j v hv)
 rw [show pl.sh+off+(0+j)=pl.sh+(off+j) from ad];exact this
end Go.Sx.Cr
