/- Closed runs, part J: what an operation comes to over a store, it comes to over the heap that the store stands for. Asked: of the context, what Ok says. -/
import Derived.Test.YtlpcncdglfjnoaaGreatDoorSxW
set_option linter.all false
set_option maxHeartbeats 4000000
namespace Go.Sx.Cr
structure Ok (C:Cx):Prop where
 kt:∀ k,TP C k=true->Aw C.P k PC
 ki:∀ k,TT C k=true->Aw C.P k P7
 idx:∀ (x:ZA) (n:Int) (h:Hp) (K:ZB->Hp->Prop),K (.int .i64 (Lib.indexByte x.data.toList n.toNat.toUInt8)) h->aQ C.P (G7 C.idx #[.string x,.int .u8 n]) h K
 RB:∀ (h:Hp) (q b:Nat) (D:List (ZA × ZB)) (cs:Array ZB) (e:TypeId) (f:Nat × Nat),h[q]?=some (.cells cs e f)->cs[0]?=some (.map (some b))->eD h b D->D.length<=1024 ->
  HC C.P C.RB #[.func (.func C.seq) #[] #[.pointer (some ⟨q,0,none⟩)]] h fun v h'=>Ext h h'/\match D with
   | []=>v=.slice none 0 0
   | _::_=>∃ g rest cap,h.size<=g/\v=.slice (some ⟨g,0,none⟩) D.length cap/\cap<9223372036854775808/\cap*C.P.cellsOf 9=D.length+rest.length/\D.length<=cap/\bz h' g 9 ((qW (D.map (·.1))).map .string++rest)
def ER (ρ:fR) (e:Ev) (e':Env):Prop:=∀ t v,e.get t=some v->∃ v',cJ e' t=some v'/\VR ρ v v'
theorem ER.mono {ρ ρ':fR} (le:Le ρ ρ') {e:Ev} {e':Env} (h:ER ρ e e'):ER ρ' e e':=fun t v ht=>by
 obtain ⟨v',h1,h2⟩:=h t v ht;exact ⟨v',h1,h2.mono le⟩
def oi (C:Cx) (h0:Hp) (ρ:fR) (s1:CS) (v:ZB) (kk:ZB->T) (L:Lp) (K:ZB->Hp->Prop):Prop :=
 ∀ ρ1 v1 h1,Le ρ ρ1->Rel C h0 ρ1 s1.σ h1->VR ρ1 v v1->kk v1 L K h1
def mE (C:Cx) (h0:Hp) (call:fL):Prop :=
 ∀ f vs s v s1,call f vs s=some (v,s1)->∀ ρ h vs',Rel C h0 ρ s.σ h->dG ρ vs vs'->HC C.P f vs'.toArray h fun v' h'=>∃ ρ1,Le ρ ρ1/\Rel C h0 ρ1 s1.σ h'/\VR ρ1 v v'
section
variable {C:Cx} {h0:Hp} {ρ:fR} {s s1:CS} {h:Hp} {e:Ev} {e':Env} {L:Lp} {K:ZB->Hp->Prop} {kk:ZB->T}
theorem AQ {v u:ZB}:D6 v=some u↔fk 9 v=true/\v=u:=by
 unfold D6; rw [bj]; simp
theorem GH (R:Rel C h0 ρ s.σ h) (er:ER ρ e e') {x:Operand} {v:ZB} (hx:jQ C e x=some v):∃ v',ev e' x=some v'/\VR ρ v v':=by
 cases x with
 | tmp t=>exact er t v hx
 | const u =>
  obtain ⟨h1,rfl⟩:=AQ.1 (show D6 u=some v from hx);exact ⟨u,rfl,rF 9 u h1⟩
 | func f =>
  have:some (Value.func (.func f) #[] #[])=some v:=hx
  cases this;exact ⟨_,rfl,.func f .nil .nil⟩
 | global g =>
  obtain ⟨h1,h2⟩:=bj.1 (show Rt C g=some v from hx);cases h2;have hg:g<C.ng:=by simpa [Nat.blt_eq] using h1
  refine ⟨_,rfl,?_⟩
  have:=VR.ptr (ρ:=ρ) 0 (R.P2 g hg)
  simpa using this
theorem bH (R:Rel C h0 ρ s.σ h) (er:ER ρ e e') {x:Operand} {v:ZB} (hx:jQ C e x=some v):∃ v',VR ρ v v'/\ev e' x=some v'/\∀ k:ZB->T,bP e' x k=k v':=by
 obtain ⟨v',h1,h2⟩:=GH R er hx;exact ⟨v',h2,h1,fun k=>by unfold bP; rw [h1]⟩
theorem jj (R:Rel C h0 ρ s.σ h) (er:ER ρ e e'):∀ {xs:List Operand} {vs:List ZB},yv C e xs=some vs->∃ vs',dG ρ vs vs'/\∀ k:List ZB->T,gT e' xs k=k vs'
 | [],vs,hx=>by
  have:some []=some vs:=hx
  cases this;exact ⟨[],.nil,fun k=>rfl⟩
 | x::xs,vs,hx=>by
  obtain ⟨v,hv,hx⟩:=WO.1 (show (jQ C e x).bind _=some vs from hx);obtain ⟨l,hl,hx⟩:=WO.1 hx;cases hx;obtain ⟨v',h1,_,h2⟩:=bH R er hv;obtain ⟨l',h3,h4⟩:=jj R er hl;exact ⟨v'::l',.cons h1 h3,fun k=>by simp only [gT]; rw [h2,h4]⟩
theorem dM {r:Option ZB} {v:ZB}:val s r=some (v,s1)↔r=some v/\s=s1:=by
 unfold val;cases r <;> simp
theorem oi.here {v v':ZB} (P:oi C h0 ρ s v kk L K) (R:Rel C h0 ρ s.σ h) (hv:VR ρ v v'):kk v' L K h:=P ρ v' h (Le.refl _) R hv
theorem PE {op : BinOp} {k : IntKind} {m n : Int} {v : ZB} (hx : Nj op k m n = some v) (hk : kk v L K h) : FW op k m n kk L K h := by
  unfold Nj at hx
  cases op <;> simp only [Option.some.injEq, reduceCtorEq] at hx <;> simp only [FW] <;> first
    | (subst hx; exact hk)
    | (obtain ⟨h1, h2⟩ := bj.1 hx
       cases h2;exact ⟨by simpa using h1, hk⟩)
theorem P1 {op : BinOp} {m n : ZA} {v : ZB} (hx : MH op m n = some v) (hk : kk v L K h) : Gb op m n kk L K h := by
  unfold MH at hx;simp only [<- ByteArray.toList_eq] at hx
  cases op <;> simp only [Option.some.injEq, reduceCtorEq] at hx <;> simp only [Gb] <;> first
    | (subst hx; exact hk)
    | (obtain ⟨h1, h2⟩ := bj.1 hx
       cases h2;exact ⟨by simpa using h1, hk⟩)
theorem wI {op:BinOp} {b:Bool} {v:ZB} {other:T} (hx:oJ op b=some v) (hk:kk v L K h):asked op b kk other L K h:=by
 unfold oJ at hx;cases op <;> simp only [Option.some.injEq,reduceCtorEq] at hx <;> (subst hx; exact hk)
theorem JA {op : BinOp} {k : IntKind} {m n : Int} {v : ZB} (hx : Nj op k m n = some v) : VR ρ v v := by
  unfold Nj at hx
  cases op <;> simp only [Option.some.injEq, reduceCtorEq] at hx <;> first
    | (subst hx; first | exact .int _ _ | exact .bool _)
    | (obtain ⟨h1, h2⟩ := bj.1 hx
       cases h2;exact .int _ _)
theorem JD {op : BinOp} {m n : ZA} {v : ZB} (hx : MH op m n = some v) : VR ρ v v := by
  unfold MH at hx
  cases op <;> simp only [Option.some.injEq, reduceCtorEq] at hx <;> first
    | (subst hx; first | exact .string _ | exact .bool _)
    | (obtain ⟨h1, h2⟩ := bj.1 hx
       cases h2;exact .string _)
theorem lP {op:BinOp} {b:Bool} {v:ZB} (hx:oJ op b=some v):VR ρ v v:=by
 unfold oJ at hx;cases op <;> simp only [Option.some.injEq,reduceCtorEq] at hx <;> (subst hx; exact .bool _)
theorem Ds {op:BinOp} {t:TypeId} {a b a' b' v:ZB} (ha:VR ρ a a') (hb:VR ρ b b') (hx:Me C.P op t a b=some v) (hk:kk v L K h):sy C.P op t a' b' kk L K h/\VR ρ v v:=by
 unfold Me at hx;split at hx
 ·cases ha; cases hb;obtain ⟨h1,h2⟩:=bj.1 hx;simp only [Bool.and_eq_true,Bool.not_eq_true',decide_eq_true_eq] at h1;obtain ⟨h1,rfl⟩:=h1;unfold sy;simp only [h1,decide_true];exact ⟨PE h2 hk,JA h2⟩
 ·cases ha; cases hb;exact ⟨P1 hx hk,JD hx⟩
 ·cases ha; cases hb;obtain ⟨h1,h2⟩:=bj.1 hx;unfold Hz at h1;split at h1 <;> first | (cases h1; done) | skip
  rename_i hd;unfold sy;simp only [hd];exact ⟨wI h2 hk,lP h2⟩
 ·obtain ⟨h1,h2⟩:=bj.1 hx;unfold NJ at h1;split at h1 <;> first | (cases h1; done) | skip
  rename_i hd;refine ⟨?_,lP h2⟩;cases ha <;> cases hb <;> (unfold sy; simp only [hd]; exact wI h2 hk)
 ·obtain ⟨h1,h2⟩:=bj.1 hx;unfold H4 at h1;split at h1 <;> first | (cases h1; done) | skip
  rename_i hd;refine ⟨?_,lP h2⟩;cases ha <;> cases hb <;> (unfold sy; simp only [hd]; exact wI h2 hk)
 ·cases hx
theorem LV {op:UnOp} {a a' v:ZB} (ha:VR ρ a a') (hx:Vs op a=some v) (hk:kk v L K h):RT op a' kk L K h/\VR ρ v v:=by
 unfold Vs at hx;split at hx
 ·cases ha; cases hx; exact ⟨hk,.int _ _⟩
 ·cases ha; cases hx; exact ⟨hk,.bool _⟩
 ·cases hx
theorem Fa {a d:TypeId} {x x' v:ZB} (hx':VR ρ x x') (hx:Ko C.P a d x=some v) (hk:kk v L K h):xz C.P a d x' kk L K h/\VR ρ v v:=by
 unfold Ko at hx;split at hx
 ·rename_i h1 h2;cases hx'; cases hx;unfold xz;simp only [h1,h2];exact ⟨hk,.int _ _⟩
 ·rename_i h1 h2;cases hx'; cases hx;unfold xz;simp only [h1,h2];exact ⟨hk,.string _⟩
 ·cases hx
end
end Go.Sx.Cr
