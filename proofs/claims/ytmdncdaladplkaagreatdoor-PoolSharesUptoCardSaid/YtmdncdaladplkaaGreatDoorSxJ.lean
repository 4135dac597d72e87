/- Part of the framework. No condition. -/
import Derived.Test.YtmdncdaladplkaaGreatDoorSxW
set_option linter.all false
set_option maxHeartbeats 4000000
namespace Go.Sx.Cr
structure Ok (C:Cx):Prop where
 kt:∀ k,XJ C k=true->wA C.P k SA
 ki:∀ k,XI C k=true->wA C.P k GI
 idx:∀ (x:Xaa) (n:Int) (h:Hp) (K:Xab->Hp->Prop),K (.int .i64 (Lib.indexByte x.data.toList n.toNat.toUInt8)) h->aS C.P (JJ C.idx #[.string x,.int .u8 n]) h K
 U9:∀ (h:Hp) (q b:Nat) (D:List (Xaa × Xab)) (cs:Array Xab) (e:TypeId) (f:Nat × Nat),h[q]?=some (.cells cs e f)->cs[0]?=some (.map (some b))->fl h b D->D.length<=1024 ->
  HC C.P C.U9 #[.func (.func C.seq) #[] #[.pointer (some ⟨q,0,none⟩)]] h fun v h'=>Ext h h'/\match D with
   | []=>v=.slice none 0 0
   | _::_=>∃ g rest cap,h.size<=g/\v=.slice (some ⟨g,0,none⟩) D.length cap/\cap<9223372036854775808/\cap*C.P.cellsOf 9=D.length+rest.length/\D.length<=cap/\bC h' g 9 ((sf (D.map (·.1))).map .string++rest)
def ER (ρ:iv) (e:Ev) (a:Env):Prop:=∀ t v,e.get t=some v->∃ v',da a t=some v'/\VR ρ v v'
def ER.mono {ρ ρ':iv} (le:Le ρ ρ') {e:Ev} {e':Env} (h:ER ρ e e'):ER ρ' e e':=fun t v ht=>by
 obtain ⟨v',h1,h2⟩:=h t v ht;exact ⟨v',h1,h2.mono le⟩
def oV (C:Cx) (h0:Hp) (ρ:iv) (b:CS) (v:Xab) (c:Xab->T) (L:Lp) (K:Xab->Hp->Prop):Prop :=
 ∀ ρ1 a h1,Le ρ ρ1->Rel C h0 ρ1 b.σ h1->VR ρ1 v a->c a L K h1
def ov (C:Cx) (h0:Hp) (call:gJ):Prop :=
 ∀ f b s v c,call f b s=some (v,c)->∀ ρ h a,Rel C h0 ρ s.σ h->eu ρ b a->HC C.P f a.toArray h fun v' h'=>∃ ρ1,Le ρ ρ1/\Rel C h0 ρ1 c.σ h'/\VR ρ1 v v'
section
variable {C:Cx} {h0:Hp} {ρ:iv} {s s1:CS} {h:Hp} {e:Ev} {e':Env} {L:Lp} {K:Xab->Hp->Prop} {kk:Xab->T}
def Dp {v u:Xab}:HJ v=some u↔fU 9 v=true/\v=u:=by
 unfold HJ; rw [bF]; simp
def ID (R:Rel C h0 ρ s.σ h) (b:ER ρ e e') {x:Operand} {v:Xab} (a:kR C e x=some v):∃ v',ev e' x=some v'/\VR ρ v v':=by
 cases x with
 | tmp t=>exact b t v a
 | const u =>
  obtain ⟨h1,rfl⟩:=Dp.1 (show HJ u=some v from a);exact ⟨u,rfl,tB 9 u h1⟩
 | func f =>
  have:some (Value.func (.func f) #[] #[])=some v:=a
  cases this;exact ⟨_,rfl,.func f .nil .nil⟩
 | global g =>
  obtain ⟨h1,h2⟩:=bF.1 (show Vd C g=some v from a);cases h2;have c:g<C.ng:=by simpa [Nat.blt_eq] using h1
  refine ⟨_,rfl,?_⟩
  have:=VR.ptr (ρ:=ρ) 0 (R.SO g c)
  simpa using this
def bX (R:Rel C h0 ρ s.σ h) (a:ER ρ e e') {x:Operand} {v:Xab} (b:kR C e x=some v):∃ v',VR ρ v v'/\ev e' x=some v'/\∀ k:Xab->T,ct e' x k=k v':=by
 obtain ⟨v',h1,h2⟩:=ID R a b;exact ⟨v',h2,h1,fun k=>by unfold ct; rw [h1]⟩
theorem j0 (R:Rel C h0 ρ s.σ h) (c:ER ρ e e'):∀ {xs:List Operand} {vs:List Xab},Bi C e xs=some vs->∃ b,eu ρ vs b/\∀ k:List Xab->T,iT e' xs k=k b
 | [],vs,a=>by
  have:some []=some vs:=a
  cases this;exact ⟨[],.nil,fun k=>rfl⟩
 | x::xs,vs,a=>by
  obtain ⟨v,hv,a⟩:=aa9.1 (show (kR C e x).bind _=some vs from a);obtain ⟨l,hl,a⟩:=aa9.1 a;cases a;obtain ⟨v',h1,_,h2⟩:=bX R c hv;obtain ⟨l',d,f⟩:=j0 R c hl;exact ⟨v'::l',.cons h1 d,fun k=>by simp only [iT]; rw [h2,f]⟩
def eA {r:Option Xab} {v:Xab}:val s r=some (v,s1)↔r=some v/\s=s1:=by
 unfold val;cases r <;> simp
def oV.here {v v':Xab} (P:oV C h0 ρ s v kk L K) (R:Rel C h0 ρ s.σ h) (hv:VR ρ v v'):kk v' L K h:=P ρ v' h (Le.refl _) R hv
variable {H:IntKind} {O U:Int}
def UB {op : BinOp} {v : Xab} (a : NR op H O U = some v) (hk : kk v L K h) : JF op H O U kk L K h := by
  unfold NR at a
  cases op <;> simp only [Option.some.injEq, reduceCtorEq] at a <;> simp only [JF] <;> first
    | (subst a; exact hk)
    | (obtain ⟨h1, h2⟩ := bF.1 a
       cases h2;exact ⟨by simpa using h1, hk⟩)
variable {V Y:Xaa}
def R4 {op : BinOp} {v : Xab} (a : Q4 op V Y = some v) (hk : kk v L K h) : Jy op V Y kk L K h := by
  unfold Q4 at a;simp only [<- ByteArray.toList_eq] at a
  cases op <;> simp only [Option.some.injEq, reduceCtorEq] at a <;> simp only [Jy] <;> first
    | (subst a; exact hk)
    | (obtain ⟨h1, h2⟩ := bF.1 a
       cases h2;exact ⟨by simpa using h1, hk⟩)
variable {Z:Bool}
def yp {op:BinOp} {v:Xab} {other:T} (a:qK op Z=some v) (hk:kk v L K h):asked op Z kk other L K h:=by
 unfold qK at a;cases op <;> simp only [Option.some.injEq,reduceCtorEq] at a <;> (subst a; exact hk)
def LV {op : BinOp} {v : Xab} (a : NR op H O U = some v) : VR ρ v v := by
  unfold NR at a
  cases op <;> simp only [Option.some.injEq, reduceCtorEq] at a <;> first
    | (subst a; first | exact .int _ _ | exact .bool _)
    | (obtain ⟨h1, h2⟩ := bF.1 a
       cases h2;exact .int _ _)
def Mh {op : BinOp} {v : Xab} (a : Q4 op V Y = some v) : VR ρ v v := by
  unfold Q4 at a
  cases op <;> simp only [Option.some.injEq, reduceCtorEq] at a <;> first
    | (subst a; first | exact .string _ | exact .bool _)
    | (obtain ⟨h1, h2⟩ := bF.1 a
       cases h2;exact .string _)
def nI {op:BinOp} {v:Xab} (a:qK op Z=some v):VR ρ v v:=by
 unfold qK at a;cases op <;> simp only [Option.some.injEq,reduceCtorEq] at a <;> (subst a; exact .bool _)
variable {a:TypeId}
def FR {op:BinOp} {c b a' b' v:Xab} (f:VR ρ c a') (g:VR ρ b b') (d:RL C.P op a c b=some v) (hk:kk v L K h):ug C.P op a a' b' kk L K h/\VR ρ v v:=by
 unfold RL at d;split at d
 ·cases f; cases g;obtain ⟨h1,h2⟩:=bF.1 d;simp only [Bool.and_eq_true,Bool.not_eq_true',decide_eq_true_eq] at h1;obtain ⟨h1,rfl⟩:=h1;unfold ug;simp only [h1,decide_true];exact ⟨UB h2 hk,LV h2⟩
 ·cases f; cases g;exact ⟨R4 d hk,Mh d⟩
 ·cases f; cases g;obtain ⟨h1,h2⟩:=bF.1 d;unfold KE at h1;split at h1 <;> first | (cases h1; done) | skip
  rename_i i;unfold ug;simp only [i];exact ⟨yp h2 hk,nI h2⟩
 ·obtain ⟨h1,h2⟩:=bF.1 d;unfold NU at h1;split at h1 <;> first | (cases h1; done) | skip
  rename_i i;refine ⟨?_,nI h2⟩;cases f <;> cases g <;> (unfold ug; simp only [i]; exact yp h2 hk)
 ·obtain ⟨h1,h2⟩:=bF.1 d;unfold KV at h1;split at h1 <;> first | (cases h1; done) | skip
  rename_i i;refine ⟨?_,nI h2⟩;cases f <;> cases g <;> (unfold ug; simp only [i]; exact yp h2 hk)
 ·cases d
def Rm {op:UnOp} {a a' v:Xab} (c:VR ρ a a') (b:Z3 op a=some v) (hk:kk v L K h):Xw op a' kk L K h/\VR ρ v v:=by
 unfold Z3 at b;split at b
 ·cases c; cases b; exact ⟨hk,.int _ _⟩
 ·cases c; cases b; exact ⟨hk,.bool _⟩
 ·cases b
def F7 {d:TypeId} {x f v:Xab} (b:VR ρ x f) (c:Od C.P a d x=some v) (hk:kk v L K h):yT C.P a d f kk L K h/\VR ρ v v:=by
 unfold Od at c;split at c
 ·rename_i h1 h2;cases b; cases c;unfold yT;simp only [h1,h2];exact ⟨hk,.int _ _⟩
 ·rename_i h1 h2;cases b; cases c;unfold yT;simp only [h1,h2];exact ⟨hk,.string _⟩
 ·cases c
end
end Go.Sx.Cr
