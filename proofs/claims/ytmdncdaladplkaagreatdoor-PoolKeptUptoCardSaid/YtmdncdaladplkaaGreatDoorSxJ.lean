/- Part of the framework. No condition. -/
import Derived.Test.YtmdncdaladplkaaGreatDoorSxW
set_option linter.all false
set_option maxHeartbeats 4000000
namespace Go.Sx.Cr
structure Ok (C:Cx):Prop where
 kt:∀ k,YB C k=true->yC C.P k Tr
 ki:∀ k,Yz C k=true->yC C.P k Hf
 idx:∀ (x:Xaa) (n:Int) (h:Hp) (K:Xab->Hp->Prop),K (.int .i64 (Lib.indexByte x.data.toList n.toNat.toUInt8)) h->aQ C.P (Km C.idx #[.string x,.int .u8 n]) h K
 VY:∀ (h:Hp) (q b:Nat) (D:List (Xaa × Xab)) (cs:Array Xab) (e:TypeId) (f:Nat × Nat),h[q]?=some (.cells cs e f)->cs[0]?=some (.map (some b))->fq h b D->D.length<=1024 ->
  HC C.P C.VY #[.func (.func C.seq) #[] #[.pointer (some ⟨q,0,none⟩)]] h λv h'=>Ext h h'/\match D with
   | []=>v=.slice none 0 0
   | _::_=>∃ g rest cap,h.size<=g/\v=.slice (some ⟨g,0,none⟩) D.length cap/\cap<9223372036854775808/\cap*C.P.cellsOf 9=D.length+rest.length/\D.length<=cap/\br h' g 9 ((sU (D.map (·.1))).map .string++rest)
def ER (ρ:iG) (e:Ev) (a:Env):Prop:=∀ t v,e.get t=some v->∃ v',db a t=some v'/\VR ρ v v'
def ER.mono {ρ ρ':iG} (le:Le ρ ρ') {e:Ev} {e':Env} (h:ER ρ e e'):ER ρ' e e':=λt v ht=>by
 obtain ⟨v',h1,h2⟩:=h t v ht;exact ⟨v',h1,h2.mono le⟩
def pJ (C:Cx) (h0:Hp) (ρ:iG) (b:CS) (v:Xab) (c:Xab->T) (L:Lp) (K:Xab->Hp->Prop):Prop :=
 ∀ ρ1 a h1,Le ρ ρ1->Rel C h0 ρ1 b.σ h1->VR ρ1 v a->c a L K h1
def oU (C:Cx) (h0:Hp) (call:gY):Prop :=
 ∀ f b s v c,call f b s=some (v,c)->∀ ρ h a,Rel C h0 ρ s.σ h->eA ρ b a->HC C.P f a.toArray h λv' h'=>∃ ρ1,Le ρ ρ1/\Rel C h0 ρ1 c.σ h'/\VR ρ1 v v'
section
variable {C:Cx} {h0:Hp} {ρ:iG} {s s1:CS} {h:Hp} {e:Ev} {e':Env} {L:Lp} {K:Xab->Hp->Prop} {kk:Xab->T}
def DO {v u:Xab}:Ii v=some u↔gi 9 v=true/\v=u:=by
 unfold Ii; rw [bt]; simp
def Jj (R:Rel C h0 ρ s.σ h) (b:ER ρ e e') {x:Operand} {v:Xab} (a:lJ C e x=some v):∃ v',ev e' x=some v'/\VR ρ v v':=by
 cases x with
 | tmp t=>exact b t v a
 | const u =>
  obtain ⟨h1,rfl⟩:=DO.1 (show Ii u=some v from a);exact ⟨u,rfl,uf 9 u h1⟩
 | func f =>
  have:some (Value.func (.func f) #[] #[])=some v:=a
  cases this;exact ⟨_,rfl,.func f .nil .nil⟩
 | global g =>
  obtain ⟨h1,h2⟩:=bt.1 (show V3 C g=some v from a);cases h2;have c:g<C.ng:=by simpa [Nat.blt_eq] using h1
  refine ⟨_,rfl,?_⟩
  have:=VR.ptr (ρ:=ρ) 0 (R.TG g c)
  simpa using this
def bQ (R:Rel C h0 ρ s.σ h) (a:ER ρ e e') {x:Operand} {v:Xab} (b:lJ C e x=some v):∃ v',VR ρ v v'/\ev e' x=some v'/\∀ k:Xab->T,cd e' x k=k v':=by
 obtain ⟨v',h1,h2⟩:=Jj R a b;exact ⟨v',h2,h1,λk=>by unfold cd; rw [h1]⟩
theorem kx (R:Rel C h0 ρ s.σ h) (c:ER ρ e e'):∀ {xs:List Operand} {vs:List Xab},BA C e xs=some vs->∃ b,eA ρ vs b/\∀ k:List Xab->T,jh e' xs k=k b
 | [],vs,a=>by
  have:some []=some vs:=a
  cases this;exact ⟨[],.nil,λk=>rfl⟩
 | x::xs,vs,a=>by
  obtain ⟨v,hv,a⟩:=aa9.1 (show (lJ C e x).bind _=some vs from a);obtain ⟨l,hl,a⟩:=aa9.1 a;cases a;obtain ⟨v',h1,_,h2⟩:=bQ R c hv;obtain ⟨l',d,f⟩:=kx R c hl;exact ⟨v'::l',.cons h1 d,λk=>by simp only [jh]; rw [h2,f]⟩
def eD {r:Option Xab} {v:Xab}:val s r=some (v,s1)↔r=some v/\s=s1:=by
 unfold val;cases r <;> simp
def pJ.here {v v':Xab} (P:pJ C h0 ρ s v kk L K) (R:Rel C h0 ρ s.σ h) (hv:VR ρ v v'):kk v' L K h:=P ρ v' h (Le.refl _) R hv
variable {H:IntKind} {O U:Int}
def Vq {op : BinOp} {v : Xab} (a : OA op H O U = some v) (hk : kk v L K h) : Ki op H O U kk L K h := by
  unfold OA at a
  cases op <;> simp only [Option.some.injEq, reduceCtorEq] at a <;> simp only [Ki] <;> first
    | (subst a; exact hk)
    | (obtain ⟨h1, h2⟩ := bt.1 a
       cases h2;exact ⟨by simpa using h1, hk⟩)
variable {V Y:Xaa}
def SZ {op : BinOp} {v : Xab} (a : RP op V Y = some v) (hk : kk v L K h) : Kb op V Y kk L K h := by
  unfold RP at a;simp only [<- ByteArray.toList_eq] at a
  cases op <;> simp only [Option.some.injEq, reduceCtorEq] at a <;> simp only [Kb] <;> first
    | (subst a; exact hk)
    | (obtain ⟨h1, h2⟩ := bt.1 a
       cases h2;exact ⟨by simpa using h1, hk⟩)
variable {Z:Bool}
def yO {op:BinOp} {v:Xab} {other:T} (a:rn op Z=some v) (hk:kk v L K h):asked op Z kk other L K h:=by
 unfold rn at a;cases op <;> simp only [Option.some.injEq,reduceCtorEq] at a <;> (subst a; exact hk)
def MH {op : BinOp} {v : Xab} (a : OA op H O U = some v) : VR ρ v v := by
  unfold OA at a
  cases op <;> simp only [Option.some.injEq, reduceCtorEq] at a <;> first
    | (subst a; first | exact .int _ _ | exact .bool _)
    | (obtain ⟨h1, h2⟩ := bt.1 a
       cases h2;exact .int _ _)
def MZ {op : BinOp} {v : Xab} (a : RP op V Y = some v) : VR ρ v v := by
  unfold RP at a
  cases op <;> simp only [Option.some.injEq, reduceCtorEq] at a <;> first
    | (subst a; first | exact .string _ | exact .bool _)
    | (obtain ⟨h1, h2⟩ := bt.1 a
       cases h2;exact .string _)
def oq {op:BinOp} {v:Xab} (a:rn op Z=some v):VR ρ v v:=by
 unfold rn at a;cases op <;> simp only [Option.some.injEq,reduceCtorEq] at a <;> (subst a; exact .bool _)
variable {a:TypeId}
def Gm {op:BinOp} {c b a' b' v:Xab} (f:VR ρ c a') (g:VR ρ b b') (d:SE C.P op a c b=some v) (hk:kk v L K h):uQ C.P op a a' b' kk L K h/\VR ρ v v:=by
 unfold SE at d;split at d
 ·cases f; cases g;obtain ⟨h1,h2⟩:=bt.1 d;simp only [Bool.and_eq_true,Bool.not_eq_true',decide_eq_true_eq] at h1;obtain ⟨h1,rfl⟩:=h1;unfold uQ;simp only [h1,decide_true];exact ⟨Vq h2 hk,MH h2⟩
 ·cases f; cases g;exact ⟨SZ d hk,MZ d⟩
 ·cases f; cases g;obtain ⟨h1,h2⟩:=bt.1 d;unfold Ll at h1;split at h1 <;> first | (cases h1; done) | skip
  rename_i i;unfold uQ;simp only [i];exact ⟨yO h2 hk,oq h2⟩
 ·obtain ⟨h1,h2⟩:=bt.1 d;unfold OC at h1;split at h1 <;> first | (cases h1; done) | skip
  rename_i i;refine ⟨?_,oq h2⟩;cases f <;> cases g <;> (unfold uQ; simp only [i]; exact yO h2 hk)
 ·obtain ⟨h1,h2⟩:=bt.1 d;unfold LJ at h1;split at h1 <;> first | (cases h1; done) | skip
  rename_i i;refine ⟨?_,oq h2⟩;cases f <;> cases g <;> (unfold uQ; simp only [i]; exact yO h2 hk)
 ·cases d
def R8 {op:UnOp} {a a' v:Xab} (c:VR ρ a a') (b:cun op a=some v) (hk:kk v L K h):Yl op a' kk L K h/\VR ρ v v:=by
 unfold cun at b;split at b
 ·cases c; cases b; exact ⟨hk,.int _ _⟩
 ·cases c; cases b; exact ⟨hk,.bool _⟩
 ·cases b
def GD {d:TypeId} {x f v:Xab} (b:VR ρ x f) (c:OU C.P a d x=some v) (hk:kk v L K h):zh C.P a d f kk L K h/\VR ρ v v:=by
 unfold OU at c;split at c
 ·rename_i h1 h2;cases b; cases c;unfold zh;simp only [h1,h2];exact ⟨hk,.int _ _⟩
 ·rename_i h1 h2;cases b; cases c;unfold zh;simp only [h1,h2];exact ⟨hk,.string _⟩
 ·cases c
end
end Go.Sx.Cr
