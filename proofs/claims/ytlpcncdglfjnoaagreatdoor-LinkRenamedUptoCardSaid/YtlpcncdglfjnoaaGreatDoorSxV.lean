/- Part of the framework. No condition. -/
import Derived.Test.YtlpcncdglfjnoaaGreatDoorSxK
import Derived.Test.YtlpcncdglfjnoaaGreatDoorSxE
set_option linter.all false
set_option maxHeartbeats 4000000
namespace Go.Sx.Cr
structure Pl where
 cu:Nat
 sh:Nat
 cap:Nat
abbrev fY:=Nat->Option Pl
def o5:Nat:=1208925819614629174706176
def half:Nat:=604462909807314587353088
def I2 (pl:Pl) (c c':Nat):Prop:=(c<half/\c'=c)\/(half<=c/\c'+o5=pl.cap+c)
mutual
inductive VR (ρ:fY):XB->XB->Prop
 | bool (b:Bool):VR ρ (.bool b) (.bool b)
 | int (k:IntKind) (n:Int):VR ρ (.int k n) (.int k n)
 | string (s:XA):VR ρ (.string s) (.string s)
 | Pe:VR ρ (.pointer none) (.pointer none)
 | ptr {b:Nat} {pl:Pl} (off:Nat) (h:ρ b=some pl):VR ρ (.pointer (some ⟨b,off,none⟩)) (.pointer (some ⟨pl.cu,pl.sh+off,none⟩))
 | nZ {l c:Nat} (hl:l<=c):VR ρ (.slice none l c) (.slice none l c)
 | sl {b:Nat} {pl:Pl} (off l:Nat) {c c':Nat} (h:ρ b=some pl) (hc:I2 pl c c') (hl:l<=c'):VR ρ (.slice (some ⟨b,off,none⟩) l c) (.slice (some ⟨pl.cu,pl.sh+off,none⟩) l c')
 | OZ:VR ρ (.map none) (.map none)
 | map {b:Nat} {pl:Pl} (h:ρ b=some pl):VR ρ (.map (some b)) (.map (some pl.cu))
 | func (f:FuncId) {a a' c c':List XB} (h1:dO ρ a a') (h2:dO ρ c c'):VR ρ (.func (.func f) ⟨a⟩ ⟨c⟩) (.func (.func f) ⟨a'⟩ ⟨c'⟩)
 | nilFunc:VR ρ .nilFunc .nilFunc
 | nilIface:VR ρ .nilIface .nilIface
 | iface (t:TypeId) {v v':XB} (h:VR ρ v v'):VR ρ (.iface t v) (.iface t v')
 | agg {l l':List XB} (h:dO ρ l l'):VR ρ (.agg ⟨l⟩) (.agg ⟨l'⟩)
 | tuple {l l':List XB} (h:dO ρ l l'):VR ρ (.tuple ⟨l⟩) (.tuple ⟨l'⟩)
inductive dO (ρ:fY):List XB->List XB->Prop
 | nil:dO ρ [] []
 | cons {v v':XB} {l l':List XB} (h:VR ρ v v') (t:dO ρ l l'):dO ρ (v::l) (v'::l')
end
def Le (ρ ρ':fY):Prop:=∀ b pl,ρ b=some pl->ρ' b=some pl
def Le.refl (ρ:fY):Le ρ ρ:=fun _ _ h=>h
def Le.trans {a b c:fY} (h:Le a b) (k:Le b c):Le a c:=fun x pl d=>k x pl (h x pl d)
mutual
theorem VR.mono {ρ ρ':fY} (le:Le ρ ρ'):∀ {v v':XB},VR ρ v v'->VR ρ' v v'
 | _,_,.bool b=>.bool b
 | _,_,.int k n=>.int k n
 | _,_,.string s=>.string s
 | _,_,.Pe=>.Pe
 | _,_,.ptr off h=>.ptr off (le _ _ h)
 | _,_,.nZ hl=>.nZ hl
 | _,_,.sl off l h hc hl=>.sl off l (le _ _ h) hc hl
 | _,_,.OZ=>.OZ
 | _,_,.map h=>.map (le _ _ h)
 | _,_,.func f h1 h2=>.func f (dO.mono le h1) (dO.mono le h2)
 | _,_,.nilFunc=>.nilFunc
 | _,_,.nilIface=>.nilIface
 | _,_,.iface t h=>.iface t (VR.mono le h)
 | _,_,.agg h=>.agg (dO.mono le h)
 | _,_,.tuple h=>.tuple (dO.mono le h)
theorem dO.mono {ρ ρ':fY} (le:Le ρ ρ'):∀ {l l':List XB},dO ρ l l'->dO ρ' l l'
 | _,_,.nil=>.nil
 | _,_,.cons h t=>.cons (VR.mono le h) (dO.mono le t)
end
theorem dO.length {ρ:fY}:∀ {l l':List XB},dO ρ l l'->l.length=l'.length
 | _,_,.nil=>rfl
 | _,_,.cons h t=>by simp [dO.length t]
theorem dO.append {ρ:fY}:∀ {l l' k k':List XB},dO ρ l l'->dO ρ k k'->dO ρ (l++k) (l'++k')
 | _,_,_,_,.nil,h=>h
 | _,_,_,_,.cons h t,k=>.cons h (dO.append t k)
theorem dO.get {ρ:fY}:∀ {l l':List XB} {i:Nat} {v:XB},dO ρ l l'->l[i]?=some v->∃ v',l'[i]?=some v'/\VR ρ v v'
 | _,_,i,v,.nil,h=>by simp at h
 | _,_,0,v,.cons (v':=v') h t,hi=>by
  simp only [List.getElem?_cons_zero,Option.some.injEq] at hi;subst hi; exact ⟨v',ah,h⟩
 | _,_,i+1,v,.cons h t,hi=>by
  simp only [List.getElem?_cons_succ] at hi ⊢;exact dO.get t hi
theorem dO.take {ρ:fY}:∀ {l l':List XB} (n:Nat),dO ρ l l'->dO ρ (l.take n) (l'.take n)
 | _,_,0,_=>.nil
 | _,_,n+1,.nil=>.nil
 | _,_,n+1,.cons h t=>.cons h (dO.take n t)
theorem dO.drop {ρ:fY}:∀ {l l':List XB} (n:Nat),dO ρ l l'->dO ρ (l.drop n) (l'.drop n)
 | _,_,0,h=>h
 | _,_,n+1,.nil=>.nil
 | _,_,n+1,.cons h t=>dO.drop n t
theorem dO.set {ρ:fY}:∀ {l l':List XB} {v v':XB} (i:Nat),dO ρ l l'->VR ρ v v'->dO ρ (l.set i v) (l'.set i v')
 | _,_,_,_,_,.nil,_=>.nil
 | _,_,_,_,0,.cons h t,hv=>.cons hv t
 | _,_,_,_,i+1,.cons h t,hv=>.cons h (dO.set i t hv)
theorem dO.Nn {ρ:fY}:∀ {l l':List XB},l.length=l'.length->(∀ (i:Nat) (v:XB),l[i]?=some v->∃ v',l'[i]?=some v'/\VR ρ v v')->dO ρ l l'
 | [],[],_,_=>.nil
 | [],v::l,hl,_=>by simp at hl
 | v::l,[],hl,_=>by simp at hl
 | v::l,v'::l',hl,h=>by
  obtain ⟨u,h1,h2⟩:=h 0 v ah;simp only [List.getElem?_cons_zero,Option.some.injEq] at h1;subst h1;refine .cons h2 (dO.Nn (by simpa using hl) fun i w a=>?_)
  have:=h (i+1) w (by simpa using a)
  simpa using this
def fm:Nat->XB->Bool
 | _,.bool _=>true
 | _,.int _ _=>true
 | _,.string _=>true
 | _,.pointer none=>true
 | _,.slice none l c=>Nat.ble l c
 | _,.map none=>true
 | _,.nilFunc=>true
 | _,.nilIface=>true
 | n+1,.iface _ v=>fm n v
 | n+1,.agg ⟨l⟩=>l.all (fm n)
 | n+1,.tuple ⟨l⟩=>l.all (fm n)
 | _,.func (.func _) ⟨[]⟩ ⟨[]⟩=>true
 | _,_=>false
theorem pY {ρ:fY} {p:XB->Bool} (a:∀ v,p v=true->VR ρ v v):∀ l:List XB,l.all p=true->dO ρ l l
 | [],_=>.nil
 | v::l,h=>by
  simp only [List.all_cons,Bool.and_eq_true] at h;exact .cons (a v h.1) (pY a l h.2)
def rl {ρ:fY}:∀ (n:Nat) (v:XB),fm n v=true->VR ρ v v:=by
 have h0:∀ (n:Nat) (v:XB),(∀ k,n=k+1->∀ v,fm k v=true->VR ρ v v)->fm n v=true->VR ρ v v:=by
  intro n v d h;cases v with
  | bool b=>exact .bool _
  | int k n=>exact .int _ _
  | string s=>exact .string _
  | pointer p=>cases p with
   | none=>exact .Pe
   | some a=>cases n <;> simp [fm] at h
  | slice p l c=>cases p with
   | none=>cases n <;> exact .nZ (VX h)
   | some a=>cases n <;> simp [fm] at h
  | map p=>cases p with
   | none=>exact .OZ
   | some a=>cases n <;> simp [fm] at h
  | nilFunc=>exact .nilFunc
  | nilIface=>exact .nilIface
  | iface t v=>cases n with
   | zero=>simp [fm] at h
   | succ n=>exact .iface _ (d n rfl v h)
  | agg c=>obtain ⟨l⟩:=c; cases n with
   | zero=>simp [fm] at h
   | succ n=>exact .agg (pY (d n rfl) l h)
  | tuple c=>obtain ⟨l⟩:=c; cases n with
   | zero=>simp [fm] at h
   | succ n=>exact .tuple (pY (d n rfl) l h)
  | func f a c =>
   obtain ⟨a⟩:=a; obtain ⟨c⟩:=c;cases f <;> cases a <;> cases c <;> cases n <;> first
    | exact .func _ .nil .nil
    | simp [fm] at h
  | float k b=>cases n <;> simp [fm] at h
  | complex k b c=>cases n <;> simp [fm] at h
  | chan r=>cases n <;> simp [fm] at h
 intro n
 induction n with
 | zero=>exact fun v=>h0 0 v fun k hk=>ad
 | succ n d=>exact fun v=>h0 (n+1) v fun k hk=>by cases hk; exact d
def ni {ρ:fY}:VR ρ undef undef:=.tuple .nil
inductive AO where
 | row (c:List XB) (e:TypeId) (m:Nat)
 | vW (d:List (XA × XB))
 | xW (d:List ((Nat × XA) × XB))
 | xV (d:List ((Nat × Nat) × XB))
 | gone
inductive dF (α:Type) where
 | nil
 | node (o:Option α) (l r:dF α)
noncomputable def dF.get {α:Type} (t:dF α):Nat->Option α :=
 dF.rec (fun _=>none) (fun o _ _ l r n=>Nat.rec o (fun m _=>Nat.rec (l (m / 2)) (fun _ _=>r (m / 2)) (m % 2)) n) t
noncomputable def dF.set {α:Type} (c:Nat):dF α->Nat->α->dF α :=
 Nat.rec (fun t _ _=>t) (fun _ b t n a=>dF.rec
  (Nat.rec (.node (some a) .nil .nil) (fun m _=>Nat.rec (.node none (b .nil (m / 2) a) .nil) (fun _ _=>.node none .nil (b .nil (m / 2) a)) (m % 2)) n)
  (fun o l r _ _=>Nat.rec (.node (some a) l r) (fun m _=>Nat.rec (.node o (b l (m / 2) a) r) (fun _ _=>.node o l (b r (m / 2) a)) (m % 2)) n) t) c
def QV {β:Type} (a b:β) (n:Nat):Nat.rec (motive:=fun _=>β) a (fun _ _=>b) n=match n with
  | 0=>a
  | _+1=>b:=by cases n <;> rfl
def dF.tQ {α:Type} (o:Option α) (l r:dF α) (n:Nat):(dF.node o l r).get n=match n with
  | 0=>o
  | m+1=>match m % 2 with
   | 0=>l.get (m / 2)
   | _+1=>r.get (m / 2):=by
 cases n with
 | zero=>rfl
 | succ m =>
  exact QV _ _ _
def dF.set_nil {α:Type} (b n:Nat) (a:α):dF.set (b+1) (.nil:dF α) n a=match n with
   | 0=>.node (some a) .nil .nil
   | m+1=>match m % 2 with
    | 0=>.node none (dF.set b .nil (m / 2) a) .nil
    | _+1=>.node none .nil (dF.set b .nil (m / 2) a):=by
 cases n with
 | zero=>rfl
 | succ m =>
  exact QV _ _ _
def dF.DJ {α:Type} (b:Nat) (o:Option α) (l r:dF α) (n:Nat) (a:α):dF.set (b+1) (.node o l r) n a=match n with
   | 0=>.node (some a) l r
   | m+1=>match m % 2 with
    | 0=>.node o (dF.set b l (m / 2) a) r
    | _+1=>.node o l (dF.set b r (m / 2) a):=by
 cases n with
 | zero=>rfl
 | succ m =>
  exact QV _ _ _
def dF.get_nil {α:Type} (n:Nat):(dF.nil:dF α).get n=none:=rfl
theorem dF.CC {α:Type}:∀ (b:Nat) (t:dF α) (n m:Nat) (a:α),n<b->(dF.set b t n a).get m=if m=n then some a else t.get m
 | 0,t,n,m,a,h=>ad
 | b+1,t,n,m,a,h=>by
  have c:∀ (o:Option α) (l r:dF α),(dF.set (b+1) (.node o l r) n a).get m=if m=n then some a else (dF.node o l r).get m:=by
   intro o l r;rw [dF.DJ];cases n with
   | zero =>
    simp only [dF.tQ];cases m with
    | zero=>simp
    | succ m=>simp
   | succ n =>
    have f:n % 2=0\/n % 2=1:=ad
    cases m with
    | zero=>rcases f with e | e <;> simp [e,dF.tQ]
    | succ m =>
     have i:m % 2=0\/m % 2=1:=ad
     rcases f with e | e <;> rcases i with g | g <;> simp only [e,g,dF.tQ]
     ·rw [dF.CC b l (n / 2) (m / 2) a ad]
      by_cases d:m=n
      ·subst d; simp
      ·rw [Vu ad,Vu ad]
     ·rw [Vu (by intro d; omega)]
     ·rw [Vu (by intro d; omega)]
     ·rw [dF.CC b r (n / 2) (m / 2) a ad]
      by_cases d:m=n
      ·subst d; simp
      ·rw [Vu ad,Vu ad]
  cases t with
  | node o l r=>exact c o l r
  | nil =>
   have:=c none .nil .nil
   have e0:(dF.node none .nil .nil:dF α).get m=(dF.nil:dF α).get m:=by
    rw [dF.tQ];cases m with
    | zero=>rfl
    | succ m=>rcases Nat.mod_two_eq_zero_or_one m with e | e <;> simp only [e] <;> rfl
   rw [e0] at this;rw [<- this,dF.set_nil,dF.DJ]
def NZ (k:Nat × XA):XB:=.agg #[.int .i64 (k.1:Int),.string k.2]
def Oz (k:Nat × Nat):XB:=.agg #[.int .i64 (k.1:Int),.int .i64 (k.2:Int)]
def DR {α:Type} (ρ:fY) (d a:List (α × XB)):Prop:=d.map (·.1)=a.map (·.1)/\dO ρ (d.map (·.2)) (a.map (·.2))
def DR.mono {α:Type} {ρ ρ':fY} (le:Le ρ ρ') {d d':List (α × XB)} (h:DR ρ d d'):DR ρ' d d':=⟨h.1,h.2.mono le⟩
def AO.live:AO->Bool
 | .gone=>false
 | _=>true
def wH (P:Program) (ρ:fY) (h0 h:Hp) (pl:Pl):AO->Prop
 | .row c e m=>∃ cs f,h[pl.cu]?=some (.cells cs e f)/\(∀ i v,c[i]?=some v->∃ v',cs[pl.sh+i]?=some v'/\VR ρ v v') /\
   (m≠2->f=(0,0)/\h0.size<=pl.cu)/\(m=1->pl.sh+pl.cap*P.cellsOf e=cs.size/\pl.cap<9223372036854775808)/\(m=0->pl.sh=0)
 | .vW d=>h0.size<=pl.cu/\∃ a,eJ h pl.cu a/\DR ρ d a
 | .xW d=>h0.size<=pl.cu/\∃ a,om NZ h pl.cu a/\DR ρ d a
 | .xV d=>h0.size<=pl.cu/\∃ a,om Oz h pl.cu a/\DR ρ d a
 | .gone=>True
structure Cx where
 P:Program
 kt:TypeId
 ku:TypeId
 ki:TypeId
 PW:FuncId
 seq:FuncId
 idx:FuncId
 ng:Nat
 ro:Nat->Option (List XB)
noncomputable def Lr (n:Nat):List XB->Option (List XB) :=
 Nat.rec (fun _=>some []) (fun _ a l=>List.rec none (fun v l _=>(a l).bind fun r=>some (v::r)) l) n
noncomputable def Kk (o n:Nat):List XB->Option (List XB) :=
 Nat.rec (Lr n) (fun _ a l=>List.rec none (fun _ l _=>a l) l) o
theorem zD:∀ (n:Nat) (l r:List XB),Lr n l=some r->r.length=n/\∀ (j:Nat) (v:XB),r[j]?=some v->l[j]?=some v
 | 0,_,r,h=>by
  have h:some []=some r:=h;simp only [Option.some.injEq] at h;subst h; exact ⟨rfl,fun j v hv=>by simp at hv⟩
 | n+1,[],r,h=>by cases (show none=some r from h)
 | n+1,v::l,r,h=>by
  have h:(Lr n l).bind (fun r=>some (v::r))=some r:=h;obtain ⟨k,b,h⟩:=Vq.1 h;simp only [Option.some.injEq] at h;subst h;obtain ⟨h1,h2⟩:=zD n l k b;refine ⟨by simp [h1],fun j u a=>?_⟩;cases j with
  | zero=>simpa using a
  | succ j=>simpa using h2 j u (by simpa using a)
theorem tI:∀ (o n:Nat) (l r:List XB),Kk o n l=some r->r.length=n/\∀ (j:Nat) (v:XB),r[j]?=some v->l[o+j]?=some v
 | 0,n,l,r,h=>by
  have:=zD n l r h
  simpa using this
 | o+1,n,[],r,h=>by cases (show none=some r from h)
 | o+1,n,v::l,r,h=>by
  obtain ⟨h1,h2⟩:=tI o n l r h;refine ⟨h1,fun j u a=>?_⟩;rw [show o+1+j=(o+j)+1 from ad,Xe];exact h2 j u a
structure Rel (C:Cx) (h0:Hp) (ρ:fY) (σ:dF AO) (h:Hp):Prop where
 N8:∀ g,g<C.ng->ρ g=some ⟨g,0,0⟩
 ro:∀ b c,C.ro b=some c->b<C.ng/\∃ cs e f,h0[b]?=some (.cells cs e f)/\∀ (i:Nat) (v:XB),c[i]?=some v->cs[i]?=some v/\fm 9 v=true
 size:h0.size<=h.size
 base:∀ i,i<h0.size->h[i]?=h0[i]?
 obj:∀ b o,σ.get b=some o->∃ pl,ρ b=some pl/\wH C.P ρ h0 h pl o
 apart:∀ b b' o o' pl pl',σ.get b=some o->σ.get b'=some o'->o.live=true->o'.live=true->ρ b=some pl->ρ b'=some pl'->pl.cu=pl'.cu->b=b'
 NB:∀ b,σ.get b=none->ρ b=none
def jL (ρ:fY) (n:Nat) (pl:Pl):fY:=fun b=>if b=n then some pl else ρ b
def ff (ρ:fY) (n:Nat) (pl:Pl):jL ρ n pl n=some pl:=by simp [jL]
variable {H:Nat}
def GR {ρ:fY} {b:Nat} {pl:Pl} (h:b≠H):jL ρ H pl b=ρ b:=by simp [jL,h]
def Le.jL {ρ:fY} {n:Nat} {pl:Pl} (h:ρ n=none):Le ρ (jL ρ n pl):=fun b p a=>by
 rw [GR (fun c=>by subst c; rw [h] at a; cases a)]; exact a
def wH.af {P:Program} {ρ ρ':fY} {h0 h h':Hp} {pl:Pl} {a:AO} (le:Le ρ ρ') (o:wH P ρ h0 h pl a) (hk:a.live=true->h'[pl.cu]?=h[pl.cu]?):wH P ρ' h0 h' pl a:=by
 cases a with
 | gone=>trivial
 | row c e m =>
  obtain ⟨cs,f,h1,h2,b,j⟩:=o;refine ⟨cs,f,(hk rfl).trans h1,fun i v hv=>?_,b,j⟩;obtain ⟨v',k,l⟩:=h2 i v hv;exact ⟨v',k,l.mono le⟩
 | vW d =>
  obtain ⟨h1,g,h2,b⟩:=o;refine ⟨h1,g,?_,b.mono le⟩;unfold eJ at h2 ⊢;rw [hk rfl]; exact h2
 | xW d =>
  obtain ⟨h1,g,h2,b⟩:=o;refine ⟨h1,g,?_,b.mono le⟩;unfold om at h2 ⊢;rw [hk rfl]; exact h2
 | xV d =>
  obtain ⟨h1,g,h2,b⟩:=o;refine ⟨h1,g,?_,b.mono le⟩;unfold om at h2 ⊢;rw [hk rfl]; exact h2
def wH.lt {P:Program} {ρ:fY} {h0 h:Hp} {pl:Pl} {a:AO} (o:wH P ρ h0 h pl a) (hl:a.live=true):pl.cu<h.size:=by
 cases a with
 | gone=>cases hl
 | row c e m=>obtain ⟨cs,f,h1,_⟩:=o; exact fq h1
 | vW d=>obtain ⟨_,b,h2,_⟩:=o; exact h2.lt
 | xW d=>obtain ⟨_,b,h2,_⟩:=o; exact h2.lt
 | xV d=>obtain ⟨_,b,h2,_⟩:=o; exact h2.lt
noncomputable def dF.put {α:Type} (t:dF α) (n:Nat) (a:α):dF α:=dF.set (n+1) t n a
def dF.vF {α:Type} (t:dF α) (n m:Nat) (a:α):(t.put n a).get m=if m=n then some a else t.get m:=dF.CC _ _ _ _ _ (Nat.lt_succ_self n)
def dF.ix {α:Type} (t:dF α) (n:Nat) (a:α):(t.put n a).get n=some a:=by rw [dF.vF,VE rfl]
def dF.jQ {α:Type} (t:dF α) {m:Nat} (a:α) (h:m≠H):(t.put H a).get m=t.get m:=by rw [dF.vF,Vu h]
section rel
variable {C:Cx} {h0:Hp} {ρ:fY} {σ:dF AO} {h:Hp}
variable {H:Nat}
def Rel.row (R:Rel C h0 ρ σ h) {o:AO} (a:σ.get H=some o) {pl:Pl} (c:ρ H=some pl):wH C.P ρ h0 h pl o:=by
 obtain ⟨pl',h1,h2⟩:=R.obj H _ a;rw [c] at h1; cases h1; exact h2
def Rel.JY (R:Rel C h0 ρ σ h) {g b:Nat} {h':Hp} {σ':dF AO} {ρ':fY} {o:AO} {pl:Pl} (k:Ch [g] h h') (I:h0.size<=g) (le:Le ρ ρ')
  (F:σ'.get b=some o) (A:ρ' b=some pl) (n:pl.cu=g) (G:wH C.P ρ' h0 h' pl o)
  (r:∀ x a,x≠b->σ'.get x=some a->σ.get x=some a\/a=.gone/\σ.get x≠none)
  (t:∀ x a p,x≠b->σ'.get x=some a->a.live=true->ρ x=some p->p.cu≠g)
  (u:∀ x,σ'.get x=none->ρ' x=none):Rel C h0 ρ' σ' h':=by
 have d:∀ x a,x≠b->σ'.get x=some a->a.live=true->σ.get x=some a:=by
  intro x a f H hl;rcases r x a f H with h1 | ⟨rfl,_⟩
  ·exact h1
  ·cases hl
 refine ⟨fun i hi=>le _ _ (R.N8 i hi),R.ro,by have:=R.size; have:=k.size; omega,fun i hi=>?_,fun x a f=>?_,fun x y a a' p p' f D hl s e m B=>?_,u⟩
 ·have:=R.size
  rw [k.same i ad (by simp; omega)]; exact R.base i hi
 ·by_cases c:x=b
  ·subst c; rw [F] at f; cases f; exact ⟨pl,A,G⟩
  ·rcases r x a c f with h1 | ⟨rfl,h1⟩
   ·obtain ⟨p,l,w⟩:=R.obj x a h1;refine ⟨p,le _ _ l,w.af le fun hl=>?_⟩;exact k.same _ (w.lt hl) (by simpa using t x a p c f hl l)
   ·cases E:σ.get x with
    | none=>exact (h1 E).elim
    | some a' =>
     obtain ⟨p,l,_⟩:=R.obj x a' E;exact ⟨p,le _ _ l,trivial⟩
 ·have z:∀ x a p,x≠b->σ'.get x=some a->a.live=true->ρ' x=some p->p.cu≠g:=by
   intro x a p c f hl e;have h1:=d x a c f hl;obtain ⟨q,l,_⟩:=R.obj x a h1
   have:=le _ _ l
   rw [e] at this; cases this;exact t x a _ c f hl l
  by_cases c:x=b
  ·by_cases j:y=b
   ·rw [c,j]
   ·subst c; rw [A] at e; cases e;exact (z y a' p' j D s m (by rw [<- B,n])).elim
  ·by_cases j:y=b
   ·subst j; rw [A] at m; cases m;exact (z x a p c f hl e (by rw [B,n])).elim
   ·have h1:=d x a c f hl;have h2:=d y a' j D s;obtain ⟨q,l,_⟩:=R.obj x a h1;obtain ⟨J,w,_⟩:=R.obj y a' h2;have e3:=le _ _ l;have e4:=le _ _ w;rw [e] at e3; rw [m] at e4; cases e3; cases e4;exact R.apart x y a a' _ _ h1 h2 hl s l w B
def Rel.ext (R:Rel C h0 ρ σ h) {h':Hp} (k:Ext h h'):Rel C h0 ρ σ h':=by
 refine ⟨R.N8,R.ro,Wi R.size k.size,fun i hi=>?_,fun b o c=>?_,R.apart,R.NB⟩
 ·have:=R.size
  rw [k.same i ad ah]; exact R.base i hi
 ·obtain ⟨p,d,a⟩:=R.obj b o c;exact ⟨p,d,a.af (Le.refl _) fun hl=>k.same _ (a.lt hl) ah⟩
def Rel.new (R:Rel C h0 ρ σ h) {n:Nat} (hn:σ.get n=none) {o:AO} {pl:Pl} {h':Hp} (f:h.size<=pl.cu) (k:Ext h h') (i:wH C.P (jL ρ n pl) h0 h' pl o) :
  Rel C h0 (jL ρ n pl) (σ.put n o) h'/\Le ρ (jL ρ n pl):=by
 have hρ:=R.NB n hn;have le:Le ρ (jL ρ n pl):=Le.jL hρ;refine ⟨R.JY (k.mono ah) (g:=pl.cu) (b:=n) (Wi R.size f) le (dF.ix _ _ _) (ff _ _ _) rfl i (fun x a c e=>?_) (fun x a p c e hl j=>?_) (fun x c=>?_),le⟩
 ·rw [dF.jQ _ _ c] at e; exact .inl e
 ·rw [dF.jQ _ _ c] at e
  have:=(R.row e j).lt hl
  omega
 ·by_cases d:x=n
  ·subst d; rw [dF.ix] at c; cases c
  ·rw [dF.jQ _ _ d] at c;rw [GR d]; exact R.NB x c
variable {I:List XB}
def GO {P:Program} {ρ ρ':fY} {h0 h':Hp} {c' rest:List XB} {e:TypeId} {m cap:Nat} (b:h0.size<=H) (hc:dO ρ I c') (le:Le ρ ρ') (d:bm h' H e (c'++rest))
  (f:m=1->cap*P.cellsOf e=c'.length+rest.length/\cap<9223372036854775808):wH P ρ' h0 h' ⟨H,0,cap⟩ (.row I e m):=by
 refine ⟨(c'++rest).toArray,(0,0),d,fun i v hv=>?_,fun _=>⟨rfl,b⟩,fun h1=>?_,fun _=>rfl⟩
 ·obtain ⟨v',a,j⟩:=hc.get hv;refine ⟨v',?_,j.mono le⟩
  have:i<c'.length:=by
   rcases Wo i c'.length with h | h
   ·exact h
   ·rw [V5 h] at a; cases a
  rw [V9,W4,Wb this];exact a
 ·have:=f h1
  simp [this]
def Rel.newRow (R:Rel C h0 ρ σ h) (hn:σ.get H=none) {c c' rest:List XB} {e:TypeId} {m cap:Nat} {h':Hp} (hc:dO ρ c c') (a:bm h' h.size e (c'++rest)) (k:Ext h h')
  (b:m=1->cap*C.P.cellsOf e=c'.length+rest.length/\cap<9223372036854775808) :
  Rel C h0 (jL ρ H ⟨h.size,0,cap⟩) (σ.put H (.row c e m)) h'/\Le ρ (jL ρ H ⟨h.size,0,cap⟩) :=
 R.new hn (VL _) k (GO R.size hc (Le.jL (R.NB H hn)) a b)
def Rel.put (R:Rel C h0 ρ σ h) {b:Nat} {o o':AO} {pl:Pl} {h':Hp} (j:σ.get b=some o) (hl:o.live=true) (i:ρ b=some pl) (l:h0.size<=pl.cu) (k:Ch [pl.cu] h h') (m:wH C.P ρ h0 h' pl o') :
  Rel C h0 ρ (σ.put b o') h':=by
 refine R.JY k l (Le.refl _) (dF.ix _ _ _) i rfl m (fun x a c d=>?_) (fun x a p c d f g n=>?_) (fun x c=>?_)
 ·rw [dF.jQ _ _ c] at d; exact .inl d
 ·rw [dF.jQ _ _ c] at d;exact c (R.apart x b a o p pl d j f hl g i n)
 ·by_cases e:x=b
  ·subst e; rw [dF.ix] at c; cases c
  ·rw [dF.jQ _ _ e] at c; exact R.NB x c
def Rel.move (R:Rel C h0 ρ σ h) {b n:Nat} {o o':AO} {pl pl':Pl} {h':Hp} (hn:σ.get n=none) (m:σ.get b=some o) (hl:o.live=true) (q:ρ b=some pl) (k:Ch [pl'.cu] h h')
  (j:pl'.cu=pl.cu\/pl'.cu=h.size) (r:h0.size<=pl'.cu) (s:wH C.P (jL ρ n pl') h0 h' pl' o') :
  Rel C h0 (jL ρ n pl') ((σ.put b .gone).put n o') h'/\Le ρ (jL ρ n pl'):=by
 have hρ:=R.NB n hn;have le:Le ρ (jL ρ n pl'):=Le.jL hρ;have t:b≠n:=fun u=>by subst u; rw [hn] at m; cases m
 refine ⟨R.JY k r le (dF.ix _ _ _) (ff _ _ _) rfl s (fun x a f d=>?_) (fun x a p f d g l w=>?_) (fun x f=>?_),le⟩
 ·rw [dF.jQ _ _ f] at d
  by_cases c:x=b
  ·subst c; rw [dF.ix] at d; cases d;exact .inr ⟨rfl,by rw [m]; simp⟩
  ·rw [dF.jQ _ _ c] at d; exact .inl d
 ·rw [dF.jQ _ _ f] at d
  by_cases c:x=b
  ·subst c; rw [dF.ix] at d; cases d; cases g
  ·rw [dF.jQ _ _ c] at d;rcases j with e | e
   ·exact c (R.apart x b a o p pl d m g hl l q (by rw [w,e]))
   ·have:=(R.row d l).lt g
    omega
 ·by_cases i:x=n
  ·subst i; rw [dF.ix] at f; cases f
  ·rw [dF.jQ _ _ i] at f;rw [GR i]
   by_cases c:x=b
   ·subst c; rw [dF.ix] at f; cases f
   ·rw [dF.jQ _ _ c] at f; exact R.NB x f
theorem iZ {pl:Pl} {cs:Array XB} {e:TypeId} {f:Nat × Nat} (a:h[pl.cu]?=some (.cells cs e f)) {off:Nat}:∀ (k:List XB) (i:Nat),(∀ j v,k[j]?=some v->∃ v',cs[pl.sh+(off+i+j)]?=some v'/\VR ρ v v') ->
  ∃ k',dO ρ k k'/\aE h ⟨pl.cu,pl.sh+off,none⟩ i k'
 | [],i,_=>⟨[],.nil,trivial⟩
 | v::k,i,hk=>by
  obtain ⟨v',b,c⟩:=hk 0 v ah;obtain ⟨k',d,g⟩:=iZ a k (i+1) fun j w l=>by
   have:=hk (j+1) w (by simpa using l)
   rw [show off+(i+1)+j=off+i+(j+1) from ad]; exact this
  refine ⟨v'::k',.cons c d,?_,g⟩;rw [ax,qg a,<- b]; congr 1; omega
def Rel.store (R:Rel C h0 ρ σ h) {e:TypeId} {m:Nat} (q:σ.get H=some (.row I e m)) (t:m≠2) {pl:Pl} (r:ρ H=some pl) {off:Nat} {vs a:List XB}
  (hv:dO ρ vs a) (l:a.all cO=true) (h1:1<=vs.length) (hl:off+vs.length<=I.length) :
  xO h ⟨pl.cu,pl.sh+off,none⟩ 0 a/\Rel C h0 ρ (σ.put H (.row (gW I off vs) e m)) (qW h ⟨pl.cu,pl.sh+off,none⟩ 0 a):=by
 obtain ⟨cs,f,u,h2,w,s⟩:=R.row q r;obtain ⟨rfl,j⟩:=w t;have bx:bm h pl.cu e cs.toList:=by unfold bm; simpa using u
 have d:pl.sh+off+a.length<=cs.toList.length:=by
  rw [<- hv.length];obtain ⟨v',g,_⟩:=h2 (off+vs.length-1) (I[off+vs.length-1]'ad) (by rw [VC])
  have:pl.sh+(off+vs.length-1)<cs.size:=by
   rcases Wo (pl.sh+(off+vs.length-1)) cs.size with h | h
   ·exact h
   ·rw [Wp h] at g; cases g
  simp; omega
 obtain ⟨x,y,z,A⟩:=kO (off:=pl.sh+off) a h 0 _ bx l (by simpa using d);refine ⟨x,R.put q rfl r j z ⟨_,_,y,fun i v hi=>?_,fun _=>⟨rfl,j⟩,fun h1=>?_,s.2⟩⟩
 ·rw [oR _ _ _ hl] at hi;rw [W4,oR _ _ _ (by simpa using d),Xy];have n:pl.sh+off<=cs.toList.length:=ad
  rcases Wo i off with k | k
  ·rw [VW,Wb (by simp; omega),W3,VE k] at hi;rw [VW,Wb (by rw [VQ]; omega),W3,VE ad];rw [WE];exact h2 i v hi
  ·rcases Wo i (off+vs.length) with o | o
   ·have g:(I.take off).length=off:=by rw [VQ]; omega
    have p:(cs.toList.take (pl.sh+off)).length=pl.sh+off:=by rw [VQ]; omega
    rw [VW,V8 ad,g,Wb ad] at hi;rw [VW,V8 ad,p,Wb (by rw [<- hv.length]; omega),show pl.sh+i-(pl.sh+off)=i-off from ad];exact hv.get hi
   ·have g:(I.take off++vs).length=off+vs.length:=by rw [Vs,VQ]; omega
    have p:(cs.toList.take (pl.sh+off)++a).length=pl.sh+off+vs.length:=by rw [Vs,VQ,<- hv.length]; omega
    rw [V8 ad,g,WW,show off+vs.length+(i-(off+vs.length))=i from ad] at hi;rw [V8 ad,p,WW,<- hv.length,show pl.sh+off+vs.length+(pl.sh+i-(pl.sh+off+vs.length))=pl.sh+i from ad,WE];exact h2 i v hi
 ·have:=s.1 h1
  simpa [lY] using this
end rel
end Go.Sx.Cr
