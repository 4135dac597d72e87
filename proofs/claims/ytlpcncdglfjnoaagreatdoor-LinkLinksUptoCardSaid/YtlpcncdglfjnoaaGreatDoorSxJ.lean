/- Closed runs, part J: what an operation comes to over a store, it comes to over the heap that the store stands for. Asked: of the context, what Ok says. -/
import Derived.Test.YtlpcncdglfjnoaaGreatDoorSxW
set_option linter.all false
set_option maxHeartbeats 4000000
namespace Go.Sx.Cr
structure Ok (C:Cx):Prop where
 kt:∀ k,Tm C k=true->AF C.P k P8
 ki:∀ k,Tp C k=true->AF C.P k Oc
 idx:∀ (x:YA) (n:Int) (h:Hp) (K:YB->Hp->Prop),K (.int .i64 (Lib.indexByte x.data.toList n.toNat.toUInt8)) h->aP C.P (FO C.idx #[.string x,.int .u8 n]) h K
 Ra:∀ (h:Hp) (q b:Nat) (D:List (YA × YB)) (cs:Array YB) (e:TypeId) (f:Nat × Nat),h[q]?=some (.cells cs e f)->cs[0]?=some (.map (some b))->eA h b D->D.length<=1024 ->
  HC C.P C.Ra #[.func (.func C.seq) #[] #[.pointer (some ⟨q,0,none⟩)]] h fun v h'=>Ext h h'/\match D with
   | []=>v=.slice none 0 0
   | _::_=>∃ g rest cap,h.size<=g/\v=.slice (some ⟨g,0,none⟩) D.length cap/\cap<9223372036854775808/\cap*C.P.cellsOf 9=D.length+rest.length/\D.length<=cap/\bC h' g 9 ((qL (D.map (·.1))).map .string++rest)
def ER (ρ:fZ) (e:Ev) (e':Env):Prop:=∀ t v,e.get t=some v->∃ v',cJ e' t=some v'/\VR ρ v v'
theorem ER.mono {ρ ρ':fZ} (le:Le ρ ρ') {e:Ev} {e':Env} (h:ER ρ e e'):ER ρ' e e':=fun t v ht=>by
 obtain ⟨v',h1,h2⟩:=h t v ht;exact ⟨v',h1,h2.mono le⟩
def nK (C:Cx) (h0:Hp) (ρ:fZ) (s1:CS) (v:YB) (kk:YB->T) (L:Lp) (K:YB->Hp->Prop):Prop :=
 ∀ ρ1 v1 h1,Le ρ ρ1->Rel C h0 ρ1 s1.σ h1->VR ρ1 v v1->kk v1 L K h1
def mH (C:Cx) (h0:Hp) (call:fL):Prop :=
 ∀ f vs s v s1,call f vs s=some (v,s1)->∀ ρ h vs',Rel C h0 ρ s.σ h->dL ρ vs vs'->HC C.P f vs'.toArray h fun v' h'=>∃ ρ1,Le ρ ρ1/\Rel C h0 ρ1 s1.σ h'/\VR ρ1 v v'
section
variable {C:Cx} {h0:Hp} {ρ:fZ} {s s1:CS} {h:Hp} {e:Ev} {e':Env} {L:Lp} {K:YB->Hp->Prop} {kk:YB->T}
theorem Bk {v u:YB}:E6 v=some u↔fo 9 v=true/\v=u:=by
 unfold E6; rw [bn]; simp
theorem GX (R:Rel C h0 ρ s.σ h) (er:ER ρ e e') {x:Operand} {v:YB} (hx:jT C e x=some v):∃ v',ev e' x=some v'/\VR ρ v v':=by
 cases x with
 | tmp t=>exact er t v hx
 | const u =>
  obtain ⟨h1,rfl⟩:=Bk.1 (show E6 u=some v from hx);exact ⟨u,rfl,rP 9 u h1⟩
 | func f =>
  have:some (Value.func (.func f) #[] #[])=some v:=hx
  cases this;exact ⟨_,rfl,.func f .nil .nil⟩
 | global g =>
  obtain ⟨h1,h2⟩:=bn.1 (show Rm C g=some v from hx);cases h2;have hg:g<C.ng:=by simpa [Nat.blt_eq] using h1
  refine ⟨_,rfl,?_⟩
  have:=VR.ptr (ρ:=ρ) 0 (R.Qq g hg)
  simpa using this
theorem bH (R:Rel C h0 ρ s.σ h) (er:ER ρ e e') {x:Operand} {v:YB} (hx:jT C e x=some v):∃ v',VR ρ v v'/\ev e' x=some v'/\∀ k:YB->T,bQ e' x k=k v':=by
 obtain ⟨v',h1,h2⟩:=GX R er hx;exact ⟨v',h2,h1,fun k=>by unfold bQ; rw [h1]⟩
theorem jk (R:Rel C h0 ρ s.σ h) (er:ER ρ e e'):∀ {xs:List Operand} {vs:List YB},zK C e xs=some vs->∃ vs',dL ρ vs vs'/\∀ k:List YB->T,gQ e' xs k=k vs'
 | [],vs,hx=>by
  have:some []=some vs:=hx
  cases this;exact ⟨[],.nil,fun k=>rfl⟩
 | x::xs,vs,hx=>by
  obtain ⟨v,hv,hx⟩:=Wq.1 (show (jT C e x).bind _=some vs from hx);obtain ⟨l,hl,hx⟩:=Wq.1 hx;cases hx;obtain ⟨v',h1,_,h2⟩:=bH R er hv;obtain ⟨l',h3,h4⟩:=jk R er hl;exact ⟨v'::l',.cons h1 h3,fun k=>by simp only [gQ]; rw [h2,h4]⟩
theorem dM {r:Option YB} {v:YB}:val s r=some (v,s1)↔r=some v/\s=s1:=by
 unfold val;cases r <;> simp
theorem nK.here {v v':YB} (P:nK C h0 ρ s v kk L K) (R:Rel C h0 ρ s.σ h) (hv:VR ρ v v'):kk v' L K h:=P ρ v' h (Le.refl _) R hv
theorem Ot {op : BinOp} {k : IntKind} {m n : Int} {v : YB} (hx : NU op k m n = some v) (hk : kk v L K h) : G6 op k m n kk L K h := by
  unfold NU at hx
  cases op <;> simp only [Option.some.injEq, reduceCtorEq] at hx <;> simp only [G6] <;> first
    | (subst hx; exact hk)
    | (obtain ⟨h1, h2⟩ := bn.1 hx
       cases h2;exact ⟨by simpa using h1, hk⟩)
theorem O2 {op : BinOp} {m n : YA} {v : YB} (hx : Ki op m n = some v) (hk : kk v L K h) : GR op m n kk L K h := by
  unfold Ki at hx;simp only [<- ByteArray.toList_eq] at hx
  cases op <;> simp only [Option.some.injEq, reduceCtorEq] at hx <;> simp only [GR] <;> first
    | (subst hx; exact hk)
    | (obtain ⟨h1, h2⟩ := bn.1 hx
       cases h2;exact ⟨by simpa using h1, hk⟩)
theorem wh {op:BinOp} {b:Bool} {v:YB} {other:T} (hx:pe op b=some v) (hk:kk v L K h):asked op b kk other L K h:=by
 unfold pe at hx;cases op <;> simp only [Option.some.injEq,reduceCtorEq] at hx <;> (subst hx; exact hk)
theorem JX {op : BinOp} {k : IntKind} {m n : Int} {v : YB} (hx : NU op k m n = some v) : VR ρ v v := by
  unfold NU at hx
  cases op <;> simp only [Option.some.injEq, reduceCtorEq] at hx <;> first
    | (subst hx; first | exact .int _ _ | exact .bool _)
    | (obtain ⟨h1, h2⟩ := bn.1 hx
       cases h2;exact .int _ _)
theorem JJ {op : BinOp} {m n : YA} {v : YB} (hx : Ki op m n = some v) : VR ρ v v := by
  unfold Ki at hx
  cases op <;> simp only [Option.some.injEq, reduceCtorEq] at hx <;> first
    | (subst hx; first | exact .string _ | exact .bool _)
    | (obtain ⟨h1, h2⟩ := bn.1 hx
       cases h2;exact .string _)
theorem lY {op:BinOp} {b:Bool} {v:YB} (hx:pe op b=some v):VR ρ v v:=by
 unfold pe at hx;cases op <;> simp only [Option.some.injEq,reduceCtorEq] at hx <;> (subst hx; exact .bool _)
theorem D1 {op:BinOp} {t:TypeId} {a b a' b' v:YB} (ha:VR ρ a a') (hb:VR ρ b b') (hx:Lq C.P op t a b=some v) (hk:kk v L K h):sE C.P op t a' b' kk L K h/\VR ρ v v:=by
 unfold Lq at hx;split at hx
 ·cases ha; cases hb;obtain ⟨h1,h2⟩:=bn.1 hx;simp only [Bool.and_eq_true,Bool.not_eq_true',decide_eq_true_eq] at h1;obtain ⟨h1,rfl⟩:=h1;unfold sE;simp only [h1,decide_true];exact ⟨Ot h2 hk,JX h2⟩
 ·cases ha; cases hb;exact ⟨O2 hx hk,JJ hx⟩
 ·cases ha; cases hb;obtain ⟨h1,h2⟩:=bn.1 hx;unfold HY at h1;split at h1 <;> first | (cases h1; done) | skip
  rename_i hd;unfold sE;simp only [hd];exact ⟨wh h2 hk,lY h2⟩
 ·obtain ⟨h1,h2⟩:=bn.1 hx;unfold KE at h1;split at h1 <;> first | (cases h1; done) | skip
  rename_i hd;refine ⟨?_,lY h2⟩;cases ha <;> cases hb <;> (unfold sE; simp only [hd]; exact wh h2 hk)
 ·obtain ⟨h1,h2⟩:=bn.1 hx;unfold Iw at h1;split at h1 <;> first | (cases h1; done) | skip
  rename_i hd;refine ⟨?_,lY h2⟩;cases ha <;> cases hb <;> (unfold sE; simp only [hd]; exact wh h2 hk)
 ·cases hx
theorem L0 {op:UnOp} {a a' v:YB} (ha:VR ρ a a') (hx:Ve op a=some v) (hk:kk v L K h):S7 op a' kk L K h/\VR ρ v v:=by
 unfold Ve at hx;split at hx
 ·cases ha; cases hx; exact ⟨hk,.int _ _⟩
 ·cases ha; cases hx; exact ⟨hk,.bool _⟩
 ·cases hx
theorem Fx {a d:TypeId} {x x' v:YB} (hx':VR ρ x x') (hx:Nv C.P a d x=some v) (hk:kk v L K h):xo C.P a d x' kk L K h/\VR ρ v v:=by
 unfold Nv at hx;split at hx
 ·rename_i h1 h2;cases hx'; cases hx;unfold xo;simp only [h1,h2];exact ⟨hk,.int _ _⟩
 ·rename_i h1 h2;cases hx'; cases hx;unfold xo;simp only [h1,h2];exact ⟨hk,.string _⟩
 ·cases hx
end
end Go.Sx.Cr
