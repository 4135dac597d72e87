/- Part of the framework. No condition. -/
import Derived.Test.YthbffkdafjboiaaGreatDoorSxW
set_option linter.all false
set_option maxHeartbeats 4000000
namespace Go.Sx.Cr
structure Ok (C:Cx):Prop where
 kt:∀ k,TR C k=true->AE C.P k OK
 ki:∀ k,TQ C k=true->AE C.P k Pk
 idx:∀ (x:ZA) (n:Int) (h:Hp) (K:ZB->Hp->Prop),K (.int .i64 (Lib.indexByte x.data.toList n.toNat.toUInt8)) h->aS C.P (G3 C.idx #[.string x,.int .u8 n]) h K
 Re:∀ (h:Hp) (q b:Nat) (D:List (ZA × ZB)) (cs:Array ZB) (e:TypeId) (f:Nat × Nat),h[q]?=some (.cells cs e f)->cs[0]?=some (.map (some b))->dT h b D->D.length<=1024 ->
  HC C.P C.Re #[.func (.func C.seq) #[] #[.pointer (some ⟨q,0,none⟩)]] h fun v h'=>Ext h h'/\match D with
   | []=>v=.slice none 0 0
   | _::_=>∃ g rest cap,h.size<=g/\v=.slice (some ⟨g,0,none⟩) D.length cap/\cap<9223372036854775808/\cap*C.P.cellsOf 9=D.length+rest.length/\D.length<=cap/\bH h' g 9 ((qB (D.map (·.1))).map .string++rest)
def ER (ρ:gn) (e:Ev) (e':Env):Prop:=∀ t v,e.get t=some v->∃ v',cM e' t=some v'/\VR ρ v v'
def ER.mono {ρ ρ':gn} (le:Le ρ ρ') {e:Ev} {e':Env} (h:ER ρ e e'):ER ρ' e e':=fun t v ht=>by
 obtain ⟨v',h1,h2⟩:=h t v ht;exact ⟨v',h1,h2.mono le⟩
def nH (C:Cx) (h0:Hp) (ρ:gn) (s1:CS) (v:ZB) (kk:ZB->T) (L:Lp) (K:ZB->Hp->Prop):Prop :=
 ∀ ρ1 v1 h1,Le ρ ρ1->Rel C h0 ρ1 s1.σ h1->VR ρ1 v v1->kk v1 L K h1
def mZ (C:Cx) (h0:Hp) (call:fV):Prop :=
 ∀ f vs s v s1,call f vs s=some (v,s1)->∀ ρ h vs',Rel C h0 ρ s.σ h->dQ ρ vs vs'->HC C.P f vs'.toArray h fun v' h'=>∃ ρ1,Le ρ ρ1/\Rel C h0 ρ1 s1.σ h'/\VR ρ1 v v'
section
variable {C:Cx} {h0:Hp} {ρ:gn} {s s1:CS} {h:Hp} {e:Ev} {e':Env} {L:Lp} {K:ZB->Hp->Prop} {kk:ZB->T}
def Bj {v u:ZB}:Fm v=some u↔fA 9 v=true/\v=u:=by
 unfold Fm; rw [bq]; simp
def F8 (R:Rel C h0 ρ s.σ h) (er:ER ρ e e') {x:Operand} {v:ZB} (hx:j4 C e x=some v):∃ v',ev e' x=some v'/\VR ρ v v':=by
 cases x with
 | tmp t=>exact er t v hx
 | const u =>
  obtain ⟨h1,rfl⟩:=Bj.1 (show Fm u=some v from hx);exact ⟨u,rfl,rI 9 u h1⟩
 | func f =>
  have:some (Value.func (.func f) #[] #[])=some v:=hx
  cases this;exact ⟨_,rfl,.func f .nil .nil⟩
 | global g =>
  obtain ⟨h1,h2⟩:=bq.1 (show Rk C g=some v from hx);cases h2;have hg:g<C.ng:=by simpa [Nat.blt_eq] using h1
  refine ⟨_,rfl,?_⟩
  have:=VR.ptr (ρ:=ρ) 0 (R.OT g hg)
  simpa using this
def bP (R:Rel C h0 ρ s.σ h) (er:ER ρ e e') {x:Operand} {v:ZB} (hx:j4 C e x=some v):∃ v',VR ρ v v'/\ev e' x=some v'/\∀ k:ZB->T,bU e' x k=k v':=by
 obtain ⟨v',h1,h2⟩:=F8 R er hx;exact ⟨v',h2,h1,fun k=>by unfold bU; rw [h1]⟩
theorem jw (R:Rel C h0 ρ s.σ h) (er:ER ρ e e'):∀ {xs:List Operand} {vs:List ZB},zm C e xs=some vs->∃ vs',dQ ρ vs vs'/\∀ k:List ZB->T,gY e' xs k=k vs'
 | [],vs,hx=>by
  have:some []=some vs:=hx
  cases this;exact ⟨[],.nil,fun k=>rfl⟩
 | x::xs,vs,hx=>by
  obtain ⟨v,hv,hx⟩:=W1.1 (show (j4 C e x).bind _=some vs from hx);obtain ⟨l,hl,hx⟩:=W1.1 hx;cases hx;obtain ⟨v',h1,_,h2⟩:=bP R er hv;obtain ⟨l',h3,h4⟩:=jw R er hl;exact ⟨v'::l',.cons h1 h3,fun k=>by simp only [gY]; rw [h2,h4]⟩
def dU {r:Option ZB} {v:ZB}:val s r=some (v,s1)↔r=some v/\s=s1:=by
 unfold val;cases r <;> simp
def nH.here {v v':ZB} (P:nH C h0 ρ s v kk L K) (R:Rel C h0 ρ s.σ h) (hv:VR ρ v v'):kk v' L K h:=P ρ v' h (Le.refl _) R hv
def Qy {op : BinOp} {k : IntKind} {m n : Int} {v : ZB} (hx : KA op k m n = some v) (hk : kk v L K h) : G1 op k m n kk L K h := by
  unfold KA at hx
  cases op <;> simp only [Option.some.injEq, reduceCtorEq] at hx <;> simp only [G1] <;> first
    | (subst hx; exact hk)
    | (obtain ⟨h1, h2⟩ := bq.1 hx
       cases h2;exact ⟨by simpa using h1, hk⟩)
def Oi {op : BinOp} {m n : ZA} {v : ZB} (hx : Ns op m n = some v) (hk : kk v L K h) : GV op m n kk L K h := by
  unfold Ns at hx;simp only [<- ByteArray.toList_eq] at hx
  cases op <;> simp only [Option.some.injEq, reduceCtorEq] at hx <;> simp only [GV] <;> first
    | (subst hx; exact hk)
    | (obtain ⟨h1, h2⟩ := bq.1 hx
       cases h2;exact ⟨by simpa using h1, hk⟩)
def wE {op:BinOp} {b:Bool} {v:ZB} {other:T} (hx:pj op b=some v) (hk:kk v L K h):asked op b kk other L K h:=by
 unfold pj at hx;cases op <;> simp only [Option.some.injEq,reduceCtorEq] at hx <;> (subst hx; exact hk)
def IZ {op : BinOp} {k : IntKind} {m n : Int} {v : ZB} (hx : KA op k m n = some v) : VR ρ v v := by
  unfold KA at hx
  cases op <;> simp only [Option.some.injEq, reduceCtorEq] at hx <;> first
    | (subst hx; first | exact .int _ _ | exact .bool _)
    | (obtain ⟨h1, h2⟩ := bq.1 hx
       cases h2;exact .int _ _)
def Jf {op : BinOp} {m n : ZA} {v : ZB} (hx : Ns op m n = some v) : VR ρ v v := by
  unfold Ns at hx
  cases op <;> simp only [Option.some.injEq, reduceCtorEq] at hx <;> first
    | (subst hx; first | exact .string _ | exact .bool _)
    | (obtain ⟨h1, h2⟩ := bq.1 hx
       cases h2;exact .string _)
def mw {op:BinOp} {b:Bool} {v:ZB} (hx:pj op b=some v):VR ρ v v:=by
 unfold pj at hx;cases op <;> simp only [Option.some.injEq,reduceCtorEq] at hx <;> (subst hx; exact .bool _)
def Dt {op:BinOp} {t:TypeId} {a b a' b' v:ZB} (ha:VR ρ a a') (hb:VR ρ b b') (hx:N3 C.P op t a b=some v) (hk:kk v L K h):sq C.P op t a' b' kk L K h/\VR ρ v v:=by
 unfold N3 at hx;split at hx
 ·cases ha; cases hb;obtain ⟨h1,h2⟩:=bq.1 hx;simp only [Bool.and_eq_true,Bool.not_eq_true',decide_eq_true_eq] at h1;obtain ⟨h1,rfl⟩:=h1;unfold sq;simp only [h1,decide_true];exact ⟨Qy h2 hk,IZ h2⟩
 ·cases ha; cases hb;exact ⟨Oi hx hk,Jf hx⟩
 ·cases ha; cases hb;obtain ⟨h1,h2⟩:=bq.1 hx;unfold HV at h1;split at h1 <;> first | (cases h1; done) | skip
  rename_i hd;unfold sq;simp only [hd];exact ⟨wE h2 hk,mw h2⟩
 ·obtain ⟨h1,h2⟩:=bq.1 hx;unfold KC at h1;split at h1 <;> first | (cases h1; done) | skip
  rename_i hd;refine ⟨?_,mw h2⟩;cases ha <;> cases hb <;> (unfold sq; simp only [hd]; exact wE h2 hk)
 ·obtain ⟨h1,h2⟩:=bq.1 hx;unfold Ie at h1;split at h1 <;> first | (cases h1; done) | skip
  rename_i hd;refine ⟨?_,mw h2⟩;cases ha <;> cases hb <;> (unfold sq; simp only [hd]; exact wE h2 hk)
 ·cases hx
def NI {op:UnOp} {a a' v:ZB} (ha:VR ρ a a') (hx:V4 op a=some v) (hk:kk v L K h):TB op a' kk L K h/\VR ρ v v:=by
 unfold V4 at hx;split at hx
 ·cases ha; cases hx; exact ⟨hk,.int _ _⟩
 ·cases ha; cases hx; exact ⟨hk,.bool _⟩
 ·cases hx
def DJ {a d:TypeId} {x x' v:ZB} (hx':VR ρ x x') (hx:KP C.P a d x=some v) (hk:kk v L K h):xf C.P a d x' kk L K h/\VR ρ v v:=by
 unfold KP at hx;split at hx
 ·rename_i h1 h2;cases hx'; cases hx;unfold xf;simp only [h1,h2];exact ⟨hk,.int _ _⟩
 ·rename_i h1 h2;cases hx'; cases hx;unfold xf;simp only [h1,h2];exact ⟨hk,.string _⟩
 ·cases hx
end
end Go.Sx.Cr
