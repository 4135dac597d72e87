/- Part of the framework. No condition. -/
import Derived.Test.YtlpcncdglfjnoaaGreatDoorSxW
set_option linter.all false
set_option maxHeartbeats 4000000
namespace Go.Sx.Cr
structure Ok (C:Cx):Prop where
 kt:∀ k,VW C k=true->Ck C.P k QX
 ki:∀ k,VV C k=true->Ck C.P k RB
 idx:∀ (x:Xaa) (n:Int) (h:Hp) (K:Xab->Hp->Prop),K (.int .i64 (Lib.indexByte x.data.toList n.toNat.toUInt8)) h->aZ C.P (IZ C.idx #[.string x,.int .u8 n]) h K
 TA:∀ (h:Hp) (q b:Nat) (D:List (Xaa × Xab)) (cs:Array Xab) (e:TypeId) (f:Nat × Nat),h[q]?=some (.cells cs e f)->cs[0]?=some (.map (some b))->fm h b D->D.length<=1024 ->
  HC C.P C.TA #[.func (.func C.seq) #[] #[.pointer (some ⟨q,0,none⟩)]] h fun v h'=>Ext h h'/\match D with
   | []=>v=.slice none 0 0
   | _::_=>∃ g rest cap,h.size<=g/\v=.slice (some ⟨g,0,none⟩) D.length cap/\cap<9223372036854775808/\cap*C.P.cellsOf 9=D.length+rest.length/\D.length<=cap/\bF h' g 9 ((sO (D.map (·.1))).map .string++rest)
def ER (ρ:ix) (e:Ev) (a:Env):Prop:=∀ t v,e.get t=some v->∃ v',dc a t=some v'/\VR ρ v v'
def ER.mono {ρ ρ':ix} (le:Le ρ ρ') {e:Ev} {e':Env} (h:ER ρ e e'):ER ρ' e e':=fun t v a=>by
 obtain ⟨v',h1,h2⟩:=h t v a;exact ⟨v',h1,h2.mono le⟩
def pA (C:Cx) (h0:Hp) (ρ:ix) (b:CS) (v:Xab) (c:Xab->T) (L:Lp) (K:Xab->Hp->Prop):Prop :=
 ∀ ρ1 a h1,Le ρ ρ1->Rel C h0 ρ1 b.σ h1->VR ρ1 v a->c a L K h1
def oP (C:Cx) (h0:Hp) (call:gU):Prop :=
 ∀ f b s v c,call f b s=some (v,c)->∀ ρ h a,Rel C h0 ρ s.σ h->eC ρ b a->HC C.P f a.toArray h fun v' h'=>∃ ρ1,Le ρ ρ1/\Rel C h0 ρ1 c.σ h'/\VR ρ1 v v'
section
variable {C:Cx} {h0:Hp} {ρ:ix} {s s1:CS} {h:Hp} {e:Ev} {e':Env} {L:Lp} {K:Xab->Hp->Prop} {kk:Xab->T}
def C4 {v u:Xab}:Hf v=some u↔gd 9 v=true/\v=u:=by
 unfold Hf; rw [bI]; simp
def H3 (R:Rel C h0 ρ s.σ h) (b:ER ρ e e') {x:Operand} {v:Xab} (a:kU C e x=some v):∃ v',ev e' x=some v'/\VR ρ v v':=by
 cases x with
 | tmp t=>exact b t v a
 | const u =>
  obtain ⟨h1,rfl⟩:=C4.1 (show Hf u=some v from a);exact ⟨u,rfl,tY 9 u h1⟩
 | func f =>
  have:some (Value.func (.func f) #[] #[])=some v:=a
  cases this;exact ⟨_,rfl,.func f .nil .nil⟩
 | global g =>
  obtain ⟨h1,h2⟩:=bI.1 (show TG C g=some v from a);cases h2;have c:g<C.ng:=by simpa [Nat.blt_eq] using h1
  refine ⟨_,rfl,?_⟩
  have:=VR.ptr (ρ:=ρ) 0 (R.Q8 g c)
  simpa using this
def bT (R:Rel C h0 ρ s.σ h) (a:ER ρ e e') {x:Operand} {v:Xab} (b:kU C e x=some v):∃ v',VR ρ v v'/\ev e' x=some v'/\∀ k:Xab->T,cg e' x k=k v':=by
 obtain ⟨v',h1,h2⟩:=H3 R a b;exact ⟨v',h2,h1,fun k=>by unfold cg; rw [h1]⟩
theorem j9 (R:Rel C h0 ρ s.σ h) (d:ER ρ e e'):∀ {c:List Operand} {vs:List Xab},A6 C e c=some vs->∃ b,eC ρ vs b/\∀ k:List Xab->T,ja e' c k=k b
 | [],vs,a=>by
  have:some []=some vs:=a
  cases this;exact ⟨[],.nil,fun k=>rfl⟩
 | x::c,vs,a=>by
  obtain ⟨v,hv,a⟩:=YX.1 (show (kU C e x).bind _=some vs from a);obtain ⟨l,hl,a⟩:=YX.1 a;cases a;obtain ⟨v',h1,_,h2⟩:=bT R d hv;obtain ⟨l',f,g⟩:=j9 R d hl;exact ⟨v'::l',.cons h1 f,fun k=>by simp only [ja]; rw [h2,g]⟩
def eG {r:Option Xab} {v:Xab}:val s r=some (v,s1)↔r=some v/\s=s1:=by
 unfold val;cases r <;> simp
def pA.here {v v':Xab} (P:pA C h0 ρ s v kk L K) (R:Rel C h0 ρ s.σ h) (hv:VR ρ v v'):kk v' L K h:=P ρ v' h (Le.refl _) R hv
variable {H:IntKind} {I O:Int}
def SY {op : BinOp} {v : Xab} (a : MQ op H I O = some v) (hk : kk v L K h) : IW op H I O kk L K h := by
  unfold MQ at a
  cases op <;> simp only [Option.some.injEq, reduceCtorEq] at a <;> simp only [IW] <;> first
    | (subst a; exact hk)
    | (obtain ⟨h1, h2⟩ := bI.1 a
       cases h2;exact ⟨by simpa using h1, hk⟩)
variable {U V:Xaa}
def Qt {op : BinOp} {v : Xab} (a : PE op U V = some v) (hk : kk v L K h) : IQ op U V kk L K h := by
  unfold PE at a;simp only [<- ByteArray.toList_eq] at a
  cases op <;> simp only [Option.some.injEq, reduceCtorEq] at a <;> simp only [IQ] <;> first
    | (subst a; exact hk)
    | (obtain ⟨h1, h2⟩ := bI.1 a
       cases h2;exact ⟨by simpa using h1, hk⟩)
variable {Y:Bool}
def yv {op:BinOp} {v:Xab} {other:T} (a:q8 op Y=some v) (hk:kk v L K h):asked op Y kk other L K h:=by
 unfold q8 at a;cases op <;> simp only [Option.some.injEq,reduceCtorEq] at a <;> (subst a; exact hk)
def K1 {op : BinOp} {v : Xab} (a : MQ op H I O = some v) : VR ρ v v := by
  unfold MQ at a
  cases op <;> simp only [Option.some.injEq, reduceCtorEq] at a <;> first
    | (subst a; first | exact .int _ _ | exact .bool _)
    | (obtain ⟨h1, h2⟩ := bI.1 a
       cases h2;exact .int _ _)
def Lj {op : BinOp} {v : Xab} (a : PE op U V = some v) : VR ρ v v := by
  unfold PE at a
  cases op <;> simp only [Option.some.injEq, reduceCtorEq] at a <;> first
    | (subst a; first | exact .string _ | exact .bool _)
    | (obtain ⟨h1, h2⟩ := bI.1 a
       cases h2;exact .string _)
def ob {op:BinOp} {v:Xab} (a:q8 op Y=some v):VR ρ v v:=by
 unfold q8 at a;cases op <;> simp only [Option.some.injEq,reduceCtorEq] at a <;> (subst a; exact .bool _)
variable {Z:TypeId}
def Fs {op:BinOp} {a b a' b' v:Xab} (d:VR ρ a a') (f:VR ρ b b') (c:Qg C.P op Z a b=some v) (hk:kk v L K h):uG C.P op Z a' b' kk L K h/\VR ρ v v:=by
 unfold Qg at c;split at c
 ·cases d; cases f;obtain ⟨h1,h2⟩:=bI.1 c;simp only [Bool.and_eq_true,Bool.not_eq_true',decide_eq_true_eq] at h1;obtain ⟨h1,rfl⟩:=h1;unfold uG;simp only [h1,decide_true];exact ⟨SY h2 hk,K1 h2⟩
 ·cases d; cases f;exact ⟨Qt c hk,Lj c⟩
 ·cases d; cases f;obtain ⟨h1,h2⟩:=bI.1 c;unfold JY at h1;split at h1 <;> first | (cases h1; done) | skip
  rename_i g;unfold uG;simp only [g];exact ⟨yv h2 hk,ob h2⟩
 ·obtain ⟨h1,h2⟩:=bI.1 c;unfold MT at h1;split at h1 <;> first | (cases h1; done) | skip
  rename_i g;refine ⟨?_,ob h2⟩;cases d <;> cases f <;> (unfold uG; simp only [g]; exact yv h2 hk)
 ·obtain ⟨h1,h2⟩:=bI.1 c;unfold Kh at h1;split at h1 <;> first | (cases h1; done) | skip
  rename_i g;refine ⟨?_,ob h2⟩;cases d <;> cases f <;> (unfold uG; simp only [g]; exact yv h2 hk)
 ·cases c
def PV {op:UnOp} {a a' v:Xab} (c:VR ρ a a') (b:X0 op a=some v) (hk:kk v L K h):VE op a' kk L K h/\VR ρ v v:=by
 unfold X0 at b;split at b
 ·cases c; cases b; exact ⟨hk,.int _ _⟩
 ·cases c; cases b; exact ⟨hk,.bool _⟩
 ·cases b
def FG {d:TypeId} {x f v:Xab} (b:VR ρ x f) (c:M' C.P Z d x=some v) (hk:kk v L K h):yX C.P Z d f kk L K h/\VR ρ v v:=by
 unfold M' at c;split at c
 ·rename_i h1 h2;cases b; cases c;unfold yX;simp only [h1,h2];exact ⟨hk,.int _ _⟩
 ·rename_i h1 h2;cases b; cases c;unfold yX;simp only [h1,h2];exact ⟨hk,.string _⟩
 ·cases c
end
end Go.Sx.Cr
