/- Part of the framework. No condition. -/
import Derived.Test.YthbffkdafjboiaaGreatDoorSxW
set_option linter.all false
set_option maxHeartbeats 4000000
namespace Go.Sx.Cr
structure Ok (C:Cx):Prop where
 kt:∀ k,U8 C k=true->A9 C.P k PI
 ki:∀ k,U6 C k=true->A9 C.P k Ql
 idx:∀ (x:Xaa) (n:Int) (h:Hp) (K:Xab->Hp->Prop),K (.int .i64 (Lib.indexByte x.data.toList n.toNat.toUInt8)) h->aS C.P (HF C.idx #[.string x,.int .u8 n]) h K
 Sl:∀ (h:Hp) (q b:Nat) (D:List (Xaa × Xab)) (cs:Array Xab) (e:TypeId) (f:Nat × Nat),h[q]?=some (.cells cs e f)->cs[0]?=some (.map (some b))->dW h b D->D.length<=1024 ->
  HC C.P C.Sl #[.func (.func C.seq) #[] #[.pointer (some ⟨q,0,none⟩)]] h fun v h'=>Ext h h'/\match D with
   | []=>v=.slice none 0 0
   | _::_=>∃ g rest cap,h.size<=g/\v=.slice (some ⟨g,0,none⟩) D.length cap/\cap<9223372036854775808/\cap*C.P.cellsOf 9=D.length+rest.length/\D.length<=cap/\bF h' g 9 ((qS (D.map (·.1))).map .string++rest)
def ER (ρ:gn) (e:Ev) (e':Env):Prop:=∀ t v,e.get t=some v->∃ v',cQ e' t=some v'/\VR ρ v v'
def ER.mono {ρ ρ':gn} (le:Le ρ ρ') {e:Ev} {e':Env} (h:ER ρ e e'):ER ρ' e e':=fun t v j=>by
 obtain ⟨v',h1,h2⟩:=h t v j;exact ⟨v',h1,h2.mono le⟩
def nV (C:Cx) (h0:Hp) (ρ:gn) (s1:CS) (v:Xab) (kk:Xab->T) (L:Lp) (K:Xab->Hp->Prop):Prop :=
 ∀ ρ1 j h1,Le ρ ρ1->Rel C h0 ρ1 s1.σ h1->VR ρ1 v j->kk j L K h1
def nv (C:Cx) (h0:Hp) (call:gd):Prop :=
 ∀ f vs s v s1,call f vs s=some (v,s1)->∀ ρ h vs',Rel C h0 ρ s.σ h->dS ρ vs vs'->HC C.P f vs'.toArray h fun v' h'=>∃ ρ1,Le ρ ρ1/\Rel C h0 ρ1 s1.σ h'/\VR ρ1 v v'
section
variable {C:Cx} {h0:Hp} {ρ:gn} {s s1:CS} {h:Hp} {e:Ev} {e':Env} {L:Lp} {K:Xab->Hp->Prop} {kk:Xab->T}
def BO {v u:Xab}:F0 v=some u↔fE 9 v=true/\v=u:=by
 unfold F0; rw [bq]; simp
def GJ (R:Rel C h0 ρ s.σ h) (j:ER ρ e e') {x:Operand} {v:Xab} (hx:ko C e x=some v):∃ v',ev e' x=some v'/\VR ρ v v':=by
 cases x with
 | tmp t=>exact j t v hx
 | const u =>
  obtain ⟨h1,rfl⟩:=BO.1 (show F0 u=some v from hx);exact ⟨u,rfl,r5 9 u h1⟩
 | func f =>
  have:some (Value.func (.func f) #[] #[])=some v:=hx
  cases this;exact ⟨_,rfl,.func f .nil .nil⟩
 | global g =>
  obtain ⟨h1,h2⟩:=bq.1 (show Sy C g=some v from hx);cases h2;have G:g<C.ng:=by simpa [Nat.blt_eq] using h1
  refine ⟨_,rfl,?_⟩
  have:=VR.ptr (ρ:=ρ) 0 (R.PT g G)
  simpa using this
def bS (R:Rel C h0 ρ s.σ h) (j:ER ρ e e') {x:Operand} {v:Xab} (hx:ko C e x=some v):∃ v',VR ρ v v'/\ev e' x=some v'/\∀ k:Xab->T,cg e' x k=k v':=by
 obtain ⟨v',h1,h2⟩:=GJ R j hx;exact ⟨v',h2,h1,fun k=>by unfold cg; rw [h1]⟩
theorem jH (R:Rel C h0 ρ s.σ h) (j:ER ρ e e'):∀ {xs:List Operand} {vs:List Xab},zQ C e xs=some vs->∃ vs',dS ρ vs vs'/\∀ k:List Xab->T,iv e' xs k=k vs'
 | [],vs,hx=>by
  have:some []=some vs:=hx
  cases this;exact ⟨[],.nil,fun k=>rfl⟩
 | x::xs,vs,hx=>by
  obtain ⟨v,hv,hx⟩:=YZ.1 (show (ko C e x).bind _=some vs from hx);obtain ⟨l,hl,hx⟩:=YZ.1 hx;cases hx;obtain ⟨v',h1,_,h2⟩:=bS R j hv;obtain ⟨l',h3,h4⟩:=jH R j hl;exact ⟨v'::l',.cons h1 h3,fun k=>by simp only [iv]; rw [h2,h4]⟩
def dY {r:Option Xab} {v:Xab}:val s r=some (v,s1)↔r=some v/\s=s1:=by
 unfold val;cases r <;> simp
def nV.here {v v':Xab} (P:nV C h0 ρ s v kk L K) (R:Rel C h0 ρ s.σ h) (hv:VR ρ v v'):kk v' L K h:=P ρ v' h (Le.refl _) R hv
def RH {op : BinOp} {k : IntKind} {m n : Int} {v : Xab} (hx : Lm op k m n = some v) (hk : kk v L K h) : HD op k m n kk L K h := by
  unfold Lm at hx
  cases op <;> simp only [Option.some.injEq, reduceCtorEq] at hx <;> simp only [HD] <;> first
    | (subst hx; exact hk)
    | (obtain ⟨h1, h2⟩ := bq.1 hx
       cases h2;exact ⟨by simpa using h1, hk⟩)
def Pf {op : BinOp} {m n : Xaa} {v : Xab} (hx : Og op m n = some v) (hk : kk v L K h) : Hw op m n kk L K h := by
  unfold Og at hx;simp only [<- ByteArray.toList_eq] at hx
  cases op <;> simp only [Option.some.injEq, reduceCtorEq] at hx <;> simp only [Hw] <;> first
    | (subst hx; exact hk)
    | (obtain ⟨h1, h2⟩ := bq.1 hx
       cases h2;exact ⟨by simpa using h1, hk⟩)
def w8 {op:BinOp} {b:Bool} {v:Xab} {other:T} (hx:pL op b=some v) (hk:kk v L K h):asked op b kk other L K h:=by
 unfold pL at hx;cases op <;> simp only [Option.some.injEq,reduceCtorEq] at hx <;> (subst hx; exact hk)
def JF {op : BinOp} {k : IntKind} {m n : Int} {v : Xab} (hx : Lm op k m n = some v) : VR ρ v v := by
  unfold Lm at hx
  cases op <;> simp only [Option.some.injEq, reduceCtorEq] at hx <;> first
    | (subst hx; first | exact .int _ _ | exact .bool _)
    | (obtain ⟨h1, h2⟩ := bq.1 hx
       cases h2;exact .int _ _)
def JT {op : BinOp} {m n : Xaa} {v : Xab} (hx : Og op m n = some v) : VR ρ v v := by
  unfold Og at hx
  cases op <;> simp only [Option.some.injEq, reduceCtorEq] at hx <;> first
    | (subst hx; first | exact .string _ | exact .bool _)
    | (obtain ⟨h1, h2⟩ := bq.1 hx
       cases h2;exact .string _)
def mJ {op:BinOp} {b:Bool} {v:Xab} (hx:pL op b=some v):VR ρ v v:=by
 unfold pL at hx;cases op <;> simp only [Option.some.injEq,reduceCtorEq] at hx <;> (subst hx; exact .bool _)
def D3 {op:BinOp} {t:TypeId} {a b a' b' v:Xab} (j:VR ρ a a') (hb:VR ρ b b') (hx:OY C.P op t a b=some v) (hk:kk v L K h):sR C.P op t a' b' kk L K h/\VR ρ v v:=by
 unfold OY at hx;split at hx
 ·cases j; cases hb;obtain ⟨h1,h2⟩:=bq.1 hx;simp only [Bool.and_eq_true,Bool.not_eq_true',decide_eq_true_eq] at h1;obtain ⟨h1,rfl⟩:=h1;unfold sR;simp only [h1,decide_true];exact ⟨RH h2 hk,JF h2⟩
 ·cases j; cases hb;exact ⟨Pf hx hk,JT hx⟩
 ·cases j; cases hb;obtain ⟨h1,h2⟩:=bq.1 hx;unfold Iz at h1;split at h1 <;> first | (cases h1; done) | skip
  rename_i u;unfold sR;simp only [u];exact ⟨w8 h2 hk,mJ h2⟩
 ·obtain ⟨h1,h2⟩:=bq.1 hx;unfold Lo at h1;split at h1 <;> first | (cases h1; done) | skip
  rename_i u;refine ⟨?_,mJ h2⟩;cases j <;> cases hb <;> (unfold sR; simp only [u]; exact w8 h2 hk)
 ·obtain ⟨h1,h2⟩:=bq.1 hx;unfold IR at h1;split at h1 <;> first | (cases h1; done) | skip
  rename_i u;refine ⟨?_,mJ h2⟩;cases j <;> cases hb <;> (unfold sR; simp only [u]; exact w8 h2 hk)
 ·cases hx
def OB {op:UnOp} {a a' v:Xab} (j:VR ρ a a') (hx:XW op a=some v) (hk:kk v L K h):UQ op a' kk L K h/\VR ρ v v:=by
 unfold XW at hx;split at hx
 ·cases j; cases hx; exact ⟨hk,.int _ _⟩
 ·cases j; cases hx; exact ⟨hk,.bool _⟩
 ·cases hx
def Ek {a d:TypeId} {x u v:Xab} (j:VR ρ x u) (hx:LD C.P a d x=some v) (hk:kk v L K h):xD C.P a d u kk L K h/\VR ρ v v:=by
 unfold LD at hx;split at hx
 ·rename_i h1 h2;cases j; cases hx;unfold xD;simp only [h1,h2];exact ⟨hk,.int _ _⟩
 ·rename_i h1 h2;cases j; cases hx;unfold xD;simp only [h1,h2];exact ⟨hk,.string _⟩
 ·cases hx
end
end Go.Sx.Cr
