/- Part of the framework. No condition. -/
import Derived.Test.YtmdncdaladplkaaGreatDoorSxW
set_option linter.all false
set_option maxHeartbeats 4000000
namespace Go.Sx.Cr
structure Ok (C:Cx):Prop where
 kt:∀ k,Xv C k=true->xV C.P k Sh
 ki:∀ k,Xu C k=true->xV C.P k GC
 idx:∀ (x:Xaa) (n:Int) (h:Hp) (K:Xab->Hp->Prop),K (.int .i64 (Lib.indexByte x.data.toList n.toNat.toUInt8)) h->aP C.P (JE C.idx #[.string x,.int .u8 n]) h K
 UT:∀ (h:Hp) (q b:Nat) (D:List (Xaa × Xab)) (cs:Array Xab) (e:TypeId) (f:Nat × Nat),h[q]?=some (.cells cs e f)->cs[0]?=some (.map (some b))->ff h b D->D.length<=1024 ->
  HC C.P C.UT #[.func (.func C.seq) #[] #[.pointer (some ⟨q,0,none⟩)]] h fun v h'=>Ext h h'/\match D with
   | []=>v=.slice none 0 0
   | _::_=>∃ g rest cap,h.size<=g/\v=.slice (some ⟨g,0,none⟩) D.length cap/\cap<9223372036854775808/\cap*C.P.cellsOf 9=D.length+rest.length/\D.length<=cap/\br h' g 9 ((r6 (D.map (·.1))).map .string++rest)
def ER (ρ:gX) (e:Ev) (a:Env):Prop:=∀ t v,e.get t=some v->∃ v',cX a t=some v'/\VR ρ v v'
def ER.mono {ρ ρ':gX} (le:Le ρ ρ') {e:Ev} {e':Env} (h:ER ρ e e'):ER ρ' e e':=fun t v ht=>by
 obtain ⟨v',h1,h2⟩:=h t v ht;exact ⟨v',h1,h2.mono le⟩
def oW (C:Cx) (h0:Hp) (ρ:gX) (b:CS) (v:Xab) (c:Xab->T) (L:Lp) (K:Xab->Hp->Prop):Prop :=
 ∀ ρ1 a h1,Le ρ ρ1->Rel C h0 ρ1 b.σ h1->VR ρ1 v a->c a L K h1
def ox (C:Cx) (h0:Hp) (call:gp):Prop :=
 ∀ f b s v c,call f b s=some (v,c)->∀ ρ h a,Rel C h0 ρ s.σ h->et ρ b a->HC C.P f a.toArray h fun v' h'=>∃ ρ1,Le ρ ρ1/\Rel C h0 ρ1 c.σ h'/\VR ρ1 v v'
section
variable {C:Cx} {h0:Hp} {ρ:gX} {s s1:CS} {h:Hp} {e:Ev} {e':Env} {L:Lp} {K:Xab->Hp->Prop} {kk:Xab->T}
def Dd {v u:Xab}:HD v=some u↔fQ 9 v=true/\v=u:=by
 unfold HD; rw [bt]; simp
def Iz (R:Rel C h0 ρ s.σ h) (b:ER ρ e e') {x:Operand} {v:Xab} (a:kU C e x=some v):∃ v',ev e' x=some v'/\VR ρ v v':=by
 cases x with
 | tmp t=>exact b t v a
 | const u =>
  obtain ⟨h1,rfl⟩:=Dd.1 (show HD u=some v from a);exact ⟨u,rfl,tu 9 u h1⟩
 | func f =>
  have:some (Value.func (.func f) #[] #[])=some v:=a
  cases this;exact ⟨_,rfl,.func f .nil .nil⟩
 | global g =>
  obtain ⟨h1,h2⟩:=bt.1 (show U0 C g=some v from a);cases h2;have c:g<C.ng:=by simpa [Nat.blt_eq] using h1
  refine ⟨_,rfl,?_⟩
  have:=VR.ptr (ρ:=ρ) 0 (R.Sw g c)
  simpa using this
def bT (R:Rel C h0 ρ s.σ h) (a:ER ρ e e') {x:Operand} {v:Xab} (b:kU C e x=some v):∃ v',VR ρ v v'/\ev e' x=some v'/\∀ k:Xab->T,cd e' x k=k v':=by
 obtain ⟨v',h1,h2⟩:=Iz R a b;exact ⟨v',h2,h1,fun k=>by unfold cd; rw [h1]⟩
theorem jX (R:Rel C h0 ρ s.σ h) (c:ER ρ e e'):∀ {xs:List Operand} {vs:List Xab},A' C e xs=some vs->∃ b,et ρ vs b/\∀ k:List Xab->T,iK e' xs k=k b
 | [],vs,a=>by
  have:some []=some vs:=a
  cases this;exact ⟨[],.nil,fun k=>rfl⟩
 | x::xs,vs,a=>by
  obtain ⟨v,hv,a⟩:=aa9.1 (show (kU C e x).bind _=some vs from a);obtain ⟨l,hl,a⟩:=aa9.1 a;cases a;obtain ⟨v',h1,_,h2⟩:=bT R c hv;obtain ⟨l',d,f⟩:=jX R c hl;exact ⟨v'::l',.cons h1 d,fun k=>by simp only [iK]; rw [h2,f]⟩
def ey {r:Option Xab} {v:Xab}:val s r=some (v,s1)↔r=some v/\s=s1:=by
 unfold val;cases r <;> simp
def oW.here {v v':Xab} (P:oW C h0 ρ s v kk L K) (R:Rel C h0 ρ s.σ h) (hv:VR ρ v v'):kk v' L K h:=P ρ v' h (Le.refl _) R hv
variable {H:IntKind} {O U:Int}
def Un {op : BinOp} {v : Xab} (a : NF op H O U = some v) (hk : kk v L K h) : JA op H O U kk L K h := by
  unfold NF at a
  cases op <;> simp only [Option.some.injEq, reduceCtorEq] at a <;> simp only [JA] <;> first
    | (subst a; exact hk)
    | (obtain ⟨h1, h2⟩ := bt.1 a
       cases h2;exact ⟨by simpa using h1, hk⟩)
variable {V Y:Xaa}
def RR {op : BinOp} {v : Xab} (a : QV op V Y = some v) (hk : kk v L K h) : Jt op V Y kk L K h := by
  unfold QV at a;simp only [<- ByteArray.toList_eq] at a
  cases op <;> simp only [Option.some.injEq, reduceCtorEq] at a <;> simp only [Jt] <;> first
    | (subst a; exact hk)
    | (obtain ⟨h1, h2⟩ := bt.1 a
       cases h2;exact ⟨by simpa using h1, hk⟩)
variable {Z:Bool}
def yb {op:BinOp} {v:Xab} {other:T} (a:qL op Z=some v) (hk:kk v L K h):asked op Z kk other L K h:=by
 unfold qL at a;cases op <;> simp only [Option.some.injEq,reduceCtorEq] at a <;> (subst a; exact hk)
def LQ {op : BinOp} {v : Xab} (a : NF op H O U = some v) : VR ρ v v := by
  unfold NF at a
  cases op <;> simp only [Option.some.injEq, reduceCtorEq] at a <;> first
    | (subst a; first | exact .int _ _ | exact .bool _)
    | (obtain ⟨h1, h2⟩ := bt.1 a
       cases h2;exact .int _ _)
def Mb {op : BinOp} {v : Xab} (a : QV op V Y = some v) : VR ρ v v := by
  unfold QV at a
  cases op <;> simp only [Option.some.injEq, reduceCtorEq] at a <;> first
    | (subst a; first | exact .string _ | exact .bool _)
    | (obtain ⟨h1, h2⟩ := bt.1 a
       cases h2;exact .string _)
def nI {op:BinOp} {v:Xab} (a:qL op Z=some v):VR ρ v v:=by
 unfold qL at a;cases op <;> simp only [Option.some.injEq,reduceCtorEq] at a <;> (subst a; exact .bool _)
variable {a:TypeId}
def FL {op:BinOp} {c b a' b' v:Xab} (f:VR ρ c a') (g:VR ρ b b') (d:Rz C.P op a c b=some v) (hk:kk v L K h):uc C.P op a a' b' kk L K h/\VR ρ v v:=by
 unfold Rz at d;split at d
 ·cases f; cases g;obtain ⟨h1,h2⟩:=bt.1 d;simp only [Bool.and_eq_true,Bool.not_eq_true',decide_eq_true_eq] at h1;obtain ⟨h1,rfl⟩:=h1;unfold uc;simp only [h1,decide_true];exact ⟨Un h2 hk,LQ h2⟩
 ·cases f; cases g;exact ⟨RR d hk,Mb d⟩
 ·cases f; cases g;obtain ⟨h1,h2⟩:=bt.1 d;unfold KA at h1;split at h1 <;> first | (cases h1; done) | skip
  rename_i i;unfold uc;simp only [i];exact ⟨yb h2 hk,nI h2⟩
 ·obtain ⟨h1,h2⟩:=bt.1 d;unfold NH at h1;split at h1 <;> first | (cases h1; done) | skip
  rename_i i;refine ⟨?_,nI h2⟩;cases f <;> cases g <;> (unfold uc; simp only [i]; exact yb h2 hk)
 ·obtain ⟨h1,h2⟩:=bt.1 d;unfold KS at h1;split at h1 <;> first | (cases h1; done) | skip
  rename_i i;refine ⟨?_,nI h2⟩;cases f <;> cases g <;> (unfold uc; simp only [i]; exact yb h2 hk)
 ·cases d
def Rc {op:UnOp} {a a' v:Xab} (c:VR ρ a a') (b:ZL op a=some v) (hk:kk v L K h):Xi op a' kk L K h/\VR ρ v v:=by
 unfold ZL at b;split at b
 ·cases c; cases b; exact ⟨hk,.int _ _⟩
 ·cases c; cases b; exact ⟨hk,.bool _⟩
 ·cases b
def F2 {d:TypeId} {x f v:Xab} (b:VR ρ x f) (c:N2 C.P a d x=some v) (hk:kk v L K h):yB C.P a d f kk L K h/\VR ρ v v:=by
 unfold N2 at c;split at c
 ·rename_i h1 h2;cases b; cases c;unfold yB;simp only [h1,h2];exact ⟨hk,.int _ _⟩
 ·rename_i h1 h2;cases b; cases c;unfold yB;simp only [h1,h2];exact ⟨hk,.string _⟩
 ·cases c
end
end Go.Sx.Cr
