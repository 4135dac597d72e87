/- Part of the framework. No condition. -/
import Derived.Test.YtlpcncdglfjnoaaGreatDoorSxW
set_option linter.all false
set_option maxHeartbeats 4000000
namespace Go.Sx.Cr
structure Ok (C:Cx):Prop where
 kt:∀ k,Sn C k=true->As C.P k NZ
 ki:∀ k,Sk C k=true->As C.P k Oz
 idx:∀ (x:XA) (n:Int) (h:Hp) (K:XB->Hp->Prop),K (.int .i64 (Lib.indexByte x.data.toList n.toNat.toUInt8)) h->aI C.P (GM C.idx #[.string x,.int .u8 n]) h K
 PW:∀ (h:Hp) (q b:Nat) (D:List (XA × XB)) (cs:Array XB) (e:TypeId) (f:Nat × Nat),h[q]?=some (.cells cs e f)->cs[0]?=some (.map (some b))->eJ h b D->D.length<=1024 ->
  HC C.P C.PW #[.func (.func C.seq) #[] #[.pointer (some ⟨q,0,none⟩)]] h fun v h'=>Ext h h'/\match D with
   | []=>v=.slice none 0 0
   | _::_=>∃ g rest cap,h.size<=g/\v=.slice (some ⟨g,0,none⟩) D.length cap/\cap<9223372036854775808/\cap*C.P.cellsOf 9=D.length+rest.length/\D.length<=cap/\bm h' g 9 ((qm (D.map (·.1))).map .string++rest)
def ER (ρ:fY) (e:Ev) (a:Env):Prop:=∀ t v,e.get t=some v->∃ v',cQ a t=some v'/\VR ρ v v'
def ER.mono {ρ ρ':fY} (le:Le ρ ρ') {e:Ev} {e':Env} (h:ER ρ e e'):ER ρ' e e':=fun t v a=>by
 obtain ⟨v',h1,h2⟩:=h t v a;exact ⟨v',h1,h2.mono le⟩
def nr (C:Cx) (h0:Hp) (ρ:fY) (b:CS) (v:XB) (c:XB->T) (L:Lp) (K:XB->Hp->Prop):Prop :=
 ∀ ρ1 a h1,Le ρ ρ1->Rel C h0 ρ1 b.σ h1->VR ρ1 v a->c a L K h1
def mM (C:Cx) (h0:Hp) (call:fL):Prop :=
 ∀ f b s v c,call f b s=some (v,c)->∀ ρ h a,Rel C h0 ρ s.σ h->dO ρ b a->HC C.P f a.toArray h fun v' h'=>∃ ρ1,Le ρ ρ1/\Rel C h0 ρ1 c.σ h'/\VR ρ1 v v'
section
variable {C:Cx} {h0:Hp} {ρ:fY} {s s1:CS} {h:Hp} {e:Ev} {e':Env} {L:Lp} {K:XB->Hp->Prop} {kk:XB->T}
def A9 {v u:XB}:EV v=some u↔fm 9 v=true/\v=u:=by
 unfold EV; rw [bi]; simp
def FT (R:Rel C h0 ρ s.σ h) (b:ER ρ e e') {x:Operand} {v:XB} (a:jO C e x=some v):∃ v',ev e' x=some v'/\VR ρ v v':=by
 cases x with
 | tmp t=>exact b t v a
 | const u =>
  obtain ⟨h1,rfl⟩:=A9.1 (show EV u=some v from a);exact ⟨u,rfl,rl 9 u h1⟩
 | func f =>
  have:some (Value.func (.func f) #[] #[])=some v:=a
  cases this;exact ⟨_,rfl,.func f .nil .nil⟩
 | global g =>
  obtain ⟨h1,h2⟩:=bi.1 (show P1 C g=some v from a);cases h2;have c:g<C.ng:=by simpa [Nat.blt_eq] using h1
  refine ⟨_,rfl,?_⟩
  have:=VR.ptr (ρ:=ρ) 0 (R.N8 g c)
  simpa using this
def bG (R:Rel C h0 ρ s.σ h) (a:ER ρ e e') {x:Operand} {v:XB} (b:jO C e x=some v):∃ v',VR ρ v v'/\ev e' x=some v'/\∀ k:XB->T,bK e' x k=k v':=by
 obtain ⟨v',h1,h2⟩:=FT R a b;exact ⟨v',h2,h1,fun k=>by unfold bK; rw [h1]⟩
theorem jg (R:Rel C h0 ρ s.σ h) (c:ER ρ e e'):∀ {xs:List Operand} {vs:List XB},zf C e xs=some vs->∃ b,dO ρ vs b/\∀ k:List XB->T,gR e' xs k=k b
 | [],vs,a=>by
  have:some []=some vs:=a
  cases this;exact ⟨[],.nil,fun k=>rfl⟩
 | x::xs,vs,a=>by
  obtain ⟨v,hv,a⟩:=Vq.1 (show (jO C e x).bind _=some vs from a);obtain ⟨l,hl,a⟩:=Vq.1 a;cases a;obtain ⟨v',h1,_,h2⟩:=bG R c hv;obtain ⟨l',d,f⟩:=jg R c hl;exact ⟨v'::l',.cons h1 d,fun k=>by simp only [gR]; rw [h2,f]⟩
def dP {r:Option XB} {v:XB}:val s r=some (v,s1)↔r=some v/\s=s1:=by
 unfold val;cases r <;> simp
def nr.here {v v':XB} (P:nr C h0 ρ s v kk L K) (R:Rel C h0 ρ s.σ h) (hv:VR ρ v v'):kk v' L K h:=P ρ v' h (Le.refl _) R hv
variable {H:IntKind} {I O:Int}
def Pu {op : BinOp} {v : XB} (a : J5 op H I O = some v) (hk : kk v L K h) : GK op H I O kk L K h := by
  unfold J5 at a
  cases op <;> simp only [Option.some.injEq, reduceCtorEq] at a <;> simp only [GK] <;> first
    | (subst a; exact hk)
    | (obtain ⟨h1, h2⟩ := bi.1 a
       cases h2;exact ⟨by simpa using h1, hk⟩)
variable {U V:XA}
def NH {op : BinOp} {v : XB} (a : MO op U V = some v) (hk : kk v L K h) : GB op U V kk L K h := by
  unfold MO at a;simp only [<- ByteArray.toList_eq] at a
  cases op <;> simp only [Option.some.injEq, reduceCtorEq] at a <;> simp only [GB] <;> first
    | (subst a; exact hk)
    | (obtain ⟨h1, h2⟩ := bi.1 a
       cases h2;exact ⟨by simpa using h1, hk⟩)
variable {Y:Bool}
def wO {op:BinOp} {v:XB} {other:T} (a:oU op Y=some v) (hk:kk v L K h):asked op Y kk other L K h:=by
 unfold oU at a;cases op <;> simp only [Option.some.injEq,reduceCtorEq] at a <;> (subst a; exact hk)
def Iz {op : BinOp} {v : XB} (a : J5 op H I O = some v) : VR ρ v v := by
  unfold J5 at a
  cases op <;> simp only [Option.some.injEq, reduceCtorEq] at a <;> first
    | (subst a; first | exact .int _ _ | exact .bool _)
    | (obtain ⟨h1, h2⟩ := bi.1 a
       cases h2;exact .int _ _)
def IL {op : BinOp} {v : XB} (a : MO op U V = some v) : VR ρ v v := by
  unfold MO at a
  cases op <;> simp only [Option.some.injEq, reduceCtorEq] at a <;> first
    | (subst a; first | exact .string _ | exact .bool _)
    | (obtain ⟨h1, h2⟩ := bi.1 a
       cases h2;exact .string _)
def lX {op:BinOp} {v:XB} (a:oU op Y=some v):VR ρ v v:=by
 unfold oU at a;cases op <;> simp only [Option.some.injEq,reduceCtorEq] at a <;> (subst a; exact .bool _)
variable {Z:TypeId}
def Da {op:BinOp} {a b a' b' v:XB} (d:VR ρ a a') (f:VR ρ b b') (c:Nt C.P op Z a b=some v) (hk:kk v L K h):r8 C.P op Z a' b' kk L K h/\VR ρ v v:=by
 unfold Nt at c;split at c
 ·cases d; cases f;obtain ⟨h1,h2⟩:=bi.1 c;simp only [Bool.and_eq_true,Bool.not_eq_true',decide_eq_true_eq] at h1;obtain ⟨h1,rfl⟩:=h1;unfold r8;simp only [h1,decide_true];exact ⟨Pu h2 hk,Iz h2⟩
 ·cases d; cases f;exact ⟨NH c hk,IL c⟩
 ·cases d; cases f;obtain ⟨h1,h2⟩:=bi.1 c;unfold HA at h1;split at h1 <;> first | (cases h1; done) | skip
  rename_i g;unfold r8;simp only [g];exact ⟨wO h2 hk,lX h2⟩
 ·obtain ⟨h1,h2⟩:=bi.1 c;unfold J7 at h1;split at h1 <;> first | (cases h1; done) | skip
  rename_i g;refine ⟨?_,lX h2⟩;cases d <;> cases f <;> (unfold r8; simp only [g]; exact wO h2 hk)
 ·obtain ⟨h1,h2⟩:=bi.1 c;unfold HS at h1;split at h1 <;> first | (cases h1; done) | skip
  rename_i g;refine ⟨?_,lX h2⟩;cases d <;> cases f <;> (unfold r8; simp only [g]; exact wO h2 hk)
 ·cases c
def M5 {op:UnOp} {a a' v:XB} (c:VR ρ a a') (b:Us op a=some v) (hk:kk v L K h):R4 op a' kk L K h/\VR ρ v v:=by
 unfold Us at b;split at b
 ·cases c; cases b; exact ⟨hk,.int _ _⟩
 ·cases c; cases b; exact ⟨hk,.bool _⟩
 ·cases b
def Dp {d:TypeId} {x f v:XB} (b:VR ρ x f) (c:Km C.P Z d x=some v) (hk:kk v L K h):xn C.P Z d f kk L K h/\VR ρ v v:=by
 unfold Km at c;split at c
 ·rename_i h1 h2;cases b; cases c;unfold xn;simp only [h1,h2];exact ⟨hk,.int _ _⟩
 ·rename_i h1 h2;cases b; cases c;unfold xn;simp only [h1,h2];exact ⟨hk,.string _⟩
 ·cases c
end
end Go.Sx.Cr
