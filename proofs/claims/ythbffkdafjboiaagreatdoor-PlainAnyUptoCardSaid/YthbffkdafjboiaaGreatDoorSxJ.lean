/- Part of the framework. No condition. -/
import Derived.Test.YthbffkdafjboiaaGreatDoorSxW
set_option linter.all false
set_option maxHeartbeats 4000000
namespace Go.Sx.Cr
structure Ok (C:Cx):Prop where
 kt:∀ k,Vl C k=true->Bs C.P k Qb
 ki:∀ k,Vk C k=true->Bs C.P k QV
 idx:∀ (x:Xaa) (n:Int) (h:Hp) (K:Xab->Hp->Prop),K (.int .i64 (Lib.indexByte x.data.toList n.toNat.toUInt8)) h->aU C.P (HU C.idx #[.string x,.int .u8 n]) h K
 SU:∀ (h:Hp) (q b:Nat) (D:List (Xaa × Xab)) (cs:Array Xab) (e:TypeId) (f:Nat × Nat),h[q]?=some (.cells cs e f)->cs[0]?=some (.map (some b))->dV h b D->D.length<=1024 ->
  HC C.P C.SU #[.func (.func C.seq) #[] #[.pointer (some ⟨q,0,none⟩)]] h fun v h'=>Ext h h'/\match D with
   | []=>v=.slice none 0 0
   | _::_=>∃ g rest cap,h.size<=g/\v=.slice (some ⟨g,0,none⟩) D.length cap/\cap<9223372036854775808/\cap*C.P.cellsOf 9=D.length+rest.length/\D.length<=cap/\bI h' g 9 ((rm (D.map (·.1))).map .string++rest)
def ER (ρ:gF) (e:Ev) (e':Env):Prop:=∀ t v,e.get t=some v->∃ v',cQ e' t=some v'/\VR ρ v v'
def ER.mono {ρ ρ':gF} (le:Le ρ ρ') {e:Ev} {e':Env} (h:ER ρ e e'):ER ρ' e e':=fun t v d=>by
 obtain ⟨v',h1,h2⟩:=h t v d;exact ⟨v',h1,h2.mono le⟩
def oy (C:Cx) (h0:Hp) (ρ:gF) (s1:CS) (v:Xab) (kk:Xab->T) (L:Lp) (K:Xab->Hp->Prop):Prop :=
 ∀ ρ1 d h1,Le ρ ρ1->Rel C h0 ρ1 s1.σ h1->VR ρ1 v d->kk d L K h1
def nT (C:Cx) (h0:Hp) (call:fY):Prop :=
 ∀ f vs s v s1,call f vs s=some (v,s1)->∀ ρ h vs',Rel C h0 ρ s.σ h->dS ρ vs vs'->HC C.P f vs'.toArray h fun v' h'=>∃ ρ1,Le ρ ρ1/\Rel C h0 ρ1 s1.σ h'/\VR ρ1 v v'
section
variable {C:Cx} {h0:Hp} {ρ:gF} {s s1:CS} {h:Hp} {e:Ev} {e':Env} {L:Lp} {K:Xab->Hp->Prop} {kk:Xab->T}
def Cb {v u:Xab}:Gf v=some u↔fD 9 v=true/\v=u:=by
 unfold Gf; rw [bF]; simp
def GZ (R:Rel C h0 ρ s.σ h) (d:ER ρ e e') {x:Operand} {v:Xab} (hx:kA C e x=some v):∃ v',ev e' x=some v'/\VR ρ v v':=by
 cases x with
 | tmp t=>exact d t v hx
 | const u =>
  obtain ⟨h1,rfl⟩:=Cb.1 (show Gf u=some v from hx);exact ⟨u,rfl,sF 9 u h1⟩
 | func f =>
  have:some (Value.func (.func f) #[] #[])=some v:=hx
  cases this;exact ⟨_,rfl,.func f .nil .nil⟩
 | global g =>
  obtain ⟨h1,h2⟩:=bF.1 (show S0 C g=some v from hx);cases h2;have j:g<C.ng:=by simpa [Nat.blt_eq] using h1
  refine ⟨_,rfl,?_⟩
  have:=VR.ptr (ρ:=ρ) 0 (R.Qk g j)
  simpa using this
def bS (R:Rel C h0 ρ s.σ h) (d:ER ρ e e') {x:Operand} {v:Xab} (hx:kA C e x=some v):∃ v',VR ρ v v'/\ev e' x=some v'/\∀ k:Xab->T,bY e' x k=k v':=by
 obtain ⟨v',h1,h2⟩:=GZ R d hx;exact ⟨v',h2,h1,fun k=>by unfold bY; rw [h1]⟩
theorem jK (R:Rel C h0 ρ s.σ h) (d:ER ρ e e'):∀ {xs:List Operand} {vs:List Xab},zY C e xs=some vs->∃ vs',dS ρ vs vs'/\∀ k:List Xab->T,iq e' xs k=k vs'
 | [],vs,hx=>by
  have:some []=some vs:=hx
  cases this;exact ⟨[],.nil,fun k=>rfl⟩
 | x::xs,vs,hx=>by
  obtain ⟨v,hv,hx⟩:=Yt.1 (show (kA C e x).bind _=some vs from hx);obtain ⟨l,hl,hx⟩:=Yt.1 hx;cases hx;obtain ⟨v',h1,_,h2⟩:=bS R d hv;obtain ⟨l',h3,h4⟩:=jK R d hl;exact ⟨v'::l',.cons h1 h3,fun k=>by simp only [iq]; rw [h2,h4]⟩
def dW {r:Option Xab} {v:Xab}:val s r=some (v,s1)↔r=some v/\s=s1:=by
 unfold val;cases r <;> simp
def oy.here {v v':Xab} (P:oy C h0 ρ s v kk L K) (R:Rel C h0 ρ s.σ h) (hv:VR ρ v v'):kk v' L K h:=P ρ v' h (Le.refl _) R hv
def Sa {op : BinOp} {k : IntKind} {m n : Int} {v : Xab} (hx : LN op k m n = some v) (hk : kk v L K h) : HS op k m n kk L K h := by
  unfold LN at hx
  cases op <;> simp only [Option.some.injEq, reduceCtorEq] at hx <;> simp only [HS] <;> first
    | (subst hx; exact hk)
    | (obtain ⟨h1, h2⟩ := bF.1 hx
       cases h2;exact ⟨by simpa using h1, hk⟩)
def PK {op : BinOp} {m n : Xaa} {v : Xab} (hx : OL op m n = some v) (hk : kk v L K h) : HM op m n kk L K h := by
  unfold OL at hx;simp only [<- ByteArray.toList_eq] at hx
  cases op <;> simp only [Option.some.injEq, reduceCtorEq] at hx <;> simp only [HM] <;> first
    | (subst hx; exact hk)
    | (obtain ⟨h1, h2⟩ := bF.1 hx
       cases h2;exact ⟨by simpa using h1, hk⟩)
def xo {op:BinOp} {b:Bool} {v:Xab} {other:T} (hx:qa op b=some v) (hk:kk v L K h):asked op b kk other L K h:=by
 unfold qa at hx;cases op <;> simp only [Option.some.injEq,reduceCtorEq] at hx <;> (subst hx; exact hk)
def JZ {op : BinOp} {k : IntKind} {m n : Int} {v : Xab} (hx : LN op k m n = some v) : VR ρ v v := by
  unfold LN at hx
  cases op <;> simp only [Option.some.injEq, reduceCtorEq] at hx <;> first
    | (subst hx; first | exact .int _ _ | exact .bool _)
    | (obtain ⟨h1, h2⟩ := bF.1 hx
       cases h2;exact .int _ _)
def Kg {op : BinOp} {m n : Xaa} {v : Xab} (hx : OL op m n = some v) : VR ρ v v := by
  unfold OL at hx
  cases op <;> simp only [Option.some.injEq, reduceCtorEq] at hx <;> first
    | (subst hx; first | exact .string _ | exact .bool _)
    | (obtain ⟨h1, h2⟩ := bF.1 hx
       cases h2;exact .string _)
def ni {op:BinOp} {b:Bool} {v:Xab} (hx:qa op b=some v):VR ρ v v:=by
 unfold qa at hx;cases op <;> simp only [Option.some.injEq,reduceCtorEq] at hx <;> (subst hx; exact .bool _)
def Eg {op:BinOp} {t:TypeId} {a b a' b' v:Xab} (d:VR ρ a a') (j:VR ρ b b') (hx:Pr C.P op t a b=some v) (hk:kk v L K h):tk C.P op t a' b' kk L K h/\VR ρ v v:=by
 unfold Pr at hx;split at hx
 ·cases d; cases j;obtain ⟨h1,h2⟩:=bF.1 hx;simp only [Bool.and_eq_true,Bool.not_eq_true',decide_eq_true_eq] at h1;obtain ⟨h1,rfl⟩:=h1;unfold tk;simp only [h1,decide_true];exact ⟨Sa h2 hk,JZ h2⟩
 ·cases d; cases j;exact ⟨PK hx hk,Kg hx⟩
 ·cases d; cases j;obtain ⟨h1,h2⟩:=bF.1 hx;unfold IP at h1;split at h1 <;> first | (cases h1; done) | skip
  rename_i u;unfold tk;simp only [u];exact ⟨xo h2 hk,ni h2⟩
 ·obtain ⟨h1,h2⟩:=bF.1 hx;unfold LQ at h1;split at h1 <;> first | (cases h1; done) | skip
  rename_i u;refine ⟨?_,ni h2⟩;cases d <;> cases j <;> (unfold tk; simp only [u]; exact xo h2 hk)
 ·obtain ⟨h1,h2⟩:=bF.1 hx;unfold Jc at h1;split at h1 <;> first | (cases h1; done) | skip
  rename_i u;refine ⟨?_,ni h2⟩;cases d <;> cases j <;> (unfold tk; simp only [u]; exact xo h2 hk)
 ·cases hx
def O0 {op:UnOp} {a a' v:Xab} (d:VR ρ a a') (hx:Xy op a=some v) (hk:kk v L K h):U9 op a' kk L K h/\VR ρ v v:=by
 unfold Xy at hx;split at hx
 ·cases d; cases hx; exact ⟨hk,.int _ _⟩
 ·cases d; cases hx; exact ⟨hk,.bool _⟩
 ·cases hx
def EB {a d:TypeId} {x u v:Xab} (j:VR ρ x u) (hx:L8 C.P a d x=some v) (hk:kk v L K h):xO C.P a d u kk L K h/\VR ρ v v:=by
 unfold L8 at hx;split at hx
 ·rename_i h1 h2;cases j; cases hx;unfold xO;simp only [h1,h2];exact ⟨hk,.int _ _⟩
 ·rename_i h1 h2;cases j; cases hx;unfold xO;simp only [h1,h2];exact ⟨hk,.string _⟩
 ·cases hx
end
end Go.Sx.Cr
