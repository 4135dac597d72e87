/- Part of the framework. No condition. -/
import Derived.Test.YthbffkdafjboiaaGreatDoorSxK
import Derived.Test.YthbffkdafjboiaaGreatDoorSxE
set_option linter.all false
set_option maxHeartbeats 4000000
namespace Go.Sx.Cr
structure Pl where
 cv:Nat
 sh:Nat
 cap:Nat
abbrev gF:=Nat->Option Pl
def qh:Nat:=1208925819614629174706176
def half:Nat:=604462909807314587353088
def KD (pl:Pl) (c c':Nat):Prop:=(c<half/\c'=c)\/(half<=c/\c'+qh=pl.cap+c)
mutual
inductive VR (ρ:gF):Xab->Xab->Prop
 | bool (b:Bool):VR ρ (.bool b) (.bool b)
 | int (k:IntKind) (n:Int):VR ρ (.int k n) (.int k n)
 | string (s:Xaa):VR ρ (.string s) (.string s)
 | RV:VR ρ (.pointer none) (.pointer none)
 | ptr {b:Nat} {pl:Pl} (off:Nat) (h:ρ b=some pl):VR ρ (.pointer (some ⟨b,off,none⟩)) (.pointer (some ⟨pl.cv,pl.sh+off,none⟩))
 | mM {l c:Nat} (hl:l<=c):VR ρ (.slice none l c) (.slice none l c)
 | sl {b:Nat} {pl:Pl} (off l:Nat) {c c':Nat} (h:ρ b=some pl) (hc:KD pl c c') (hl:l<=c'):VR ρ (.slice (some ⟨b,off,none⟩) l c) (.slice (some ⟨pl.cv,pl.sh+off,none⟩) l c')
 | Ry:VR ρ (.map none) (.map none)
 | map {b:Nat} {pl:Pl} (h:ρ b=some pl):VR ρ (.map (some b)) (.map (some pl.cv))
 | func (f:FuncId) {a a' c c':List Xab} (h1:dS ρ a a') (h2:dS ρ c c'):VR ρ (.func (.func f) ⟨a⟩ ⟨c⟩) (.func (.func f) ⟨a'⟩ ⟨c'⟩)
 | nilFunc:VR ρ .nilFunc .nilFunc
 | nilIface:VR ρ .nilIface .nilIface
 | iface (t:TypeId) {v v':Xab} (h:VR ρ v v'):VR ρ (.iface t v) (.iface t v')
 | agg {l l':List Xab} (h:dS ρ l l'):VR ρ (.agg ⟨l⟩) (.agg ⟨l'⟩)
 | tuple {l l':List Xab} (h:dS ρ l l'):VR ρ (.tuple ⟨l⟩) (.tuple ⟨l'⟩)
inductive dS (ρ:gF):List Xab->List Xab->Prop
 | nil:dS ρ [] []
 | cons {v v':Xab} {l l':List Xab} (h:VR ρ v v') (t:dS ρ l l'):dS ρ (v::l) (v'::l')
end
def Le (ρ ρ':gF):Prop:=∀ b pl,ρ b=some pl->ρ' b=some pl
def Le.refl (ρ:gF):Le ρ ρ:=fun _ _ h=>h
def Le.trans {a b c:gF} (h:Le a b) (k:Le b c):Le a c:=fun x pl hx=>k x pl (h x pl hx)
mutual
theorem VR.mono {ρ ρ':gF} (le:Le ρ ρ'):∀ {v v':Xab},VR ρ v v'->VR ρ' v v'
 | _,_,.bool b=>.bool b
 | _,_,.int k n=>.int k n
 | _,_,.string s=>.string s
 | _,_,.RV=>.RV
 | _,_,.ptr off h=>.ptr off (le _ _ h)
 | _,_,.mM hl=>.mM hl
 | _,_,.sl off l h hc hl=>.sl off l (le _ _ h) hc hl
 | _,_,.Ry=>.Ry
 | _,_,.map h=>.map (le _ _ h)
 | _,_,.func f h1 h2=>.func f (dS.mono le h1) (dS.mono le h2)
 | _,_,.nilFunc=>.nilFunc
 | _,_,.nilIface=>.nilIface
 | _,_,.iface t h=>.iface t (VR.mono le h)
 | _,_,.agg h=>.agg (dS.mono le h)
 | _,_,.tuple h=>.tuple (dS.mono le h)
theorem dS.mono {ρ ρ':gF} (le:Le ρ ρ'):∀ {l l':List Xab},dS ρ l l'->dS ρ' l l'
 | _,_,.nil=>.nil
 | _,_,.cons h t=>.cons (VR.mono le h) (dS.mono le t)
end
theorem dS.length {ρ:gF}:∀ {l l':List Xab},dS ρ l l'->l.length=l'.length
 | _,_,.nil=>rfl
 | _,_,.cons h t=>by simp [dS.length t]
theorem dS.append {ρ:gF}:∀ {l l' k k':List Xab},dS ρ l l'->dS ρ k k'->dS ρ (l++k) (l'++k')
 | _,_,_,_,.nil,h=>h
 | _,_,_,_,.cons h t,k=>.cons h (dS.append t k)
theorem dS.get {ρ:gF}:∀ {l l':List Xab} {i:Nat} {v:Xab},dS ρ l l'->l[i]?=some v->∃ v',l'[i]?=some v'/\VR ρ v v'
 | _,_,i,v,.nil,h=>by simp at h
 | _,_,0,v,.cons (v':=v') h t,hi=>by
  simp only [List.getElem?_cons_zero,Option.some.injEq] at hi;subst hi; exact ⟨v',aj,h⟩
 | _,_,i+1,v,.cons h t,hi=>by
  simp only [List.getElem?_cons_succ] at hi ⊢;exact dS.get t hi
theorem dS.take {ρ:gF}:∀ {l l':List Xab} (n:Nat),dS ρ l l'->dS ρ (l.take n) (l'.take n)
 | _,_,0,_=>.nil
 | _,_,n+1,.nil=>.nil
 | _,_,n+1,.cons h t=>.cons h (dS.take n t)
theorem dS.drop {ρ:gF}:∀ {l l':List Xab} (n:Nat),dS ρ l l'->dS ρ (l.drop n) (l'.drop n)
 | _,_,0,h=>h
 | _,_,n+1,.nil=>.nil
 | _,_,n+1,.cons h t=>dS.drop n t
theorem dS.set {ρ:gF}:∀ {l l':List Xab} {v v':Xab} (i:Nat),dS ρ l l'->VR ρ v v'->dS ρ (l.set i v) (l'.set i v')
 | _,_,_,_,_,.nil,_=>.nil
 | _,_,_,_,0,.cons h t,hv=>.cons hv t
 | _,_,_,_,i+1,.cons h t,hv=>.cons h (dS.set i t hv)
theorem dS.Pf {ρ:gF}:∀ {l l':List Xab},l.length=l'.length->(∀ (i:Nat) (v:Xab),l[i]?=some v->∃ v',l'[i]?=some v'/\VR ρ v v')->dS ρ l l'
 | [],[],_,_=>.nil
 | [],v::l,hl,_=>by simp at hl
 | v::l,[],hl,_=>by simp at hl
 | v::l,v'::l',hl,h=>by
  obtain ⟨u,h1,h2⟩:=h 0 v aj;simp only [List.getElem?_cons_zero,Option.some.injEq] at h1;subst h1;refine .cons h2 (dS.Pf (by simpa using hl) fun i w hw=>?_)
  have:=h (i+1) w (by simpa using hw)
  simpa using this
def fD:Nat->Xab->Bool
 | _,.bool _=>true
 | _,.int _ _=>true
 | _,.string _=>true
 | _,.pointer none=>true
 | _,.slice none l c=>Nat.ble l c
 | _,.map none=>true
 | _,.nilFunc=>true
 | _,.nilIface=>true
 | n+1,.iface _ v=>fD n v
 | n+1,.agg ⟨l⟩=>l.all (fD n)
 | n+1,.tuple ⟨l⟩=>l.all (fD n)
 | _,.func (.func _) ⟨[]⟩ ⟨[]⟩=>true
 | _,_=>false
theorem qW {ρ:gF} {p:Xab->Bool} (d:∀ v,p v=true->VR ρ v v):∀ l:List Xab,l.all p=true->dS ρ l l
 | [],_=>.nil
 | v::l,h=>by
  simp only [List.all_cons,Bool.and_eq_true] at h;exact .cons (d v h.1) (qW d l h.2)
def sF {ρ:gF}:∀ (n:Nat) (v:Xab),fD n v=true->VR ρ v v:=by
 have h0:∀ (n:Nat) (v:Xab),(∀ k,n=k+1->∀ v,fD k v=true->VR ρ v v)->fD n v=true->VR ρ v v:=by
  intro n v d h;cases v with
  | bool b=>exact .bool _
  | int k n=>exact .int _ _
  | string s=>exact .string _
  | pointer p=>cases p with
   | none=>exact .RV
   | some a=>cases n <;> simp [fD] at h
  | slice p l c=>cases p with
   | none=>cases n <;> exact .mM (Y2 h)
   | some a=>cases n <;> simp [fD] at h
  | map p=>cases p with
   | none=>exact .Ry
   | some a=>cases n <;> simp [fD] at h
  | nilFunc=>exact .nilFunc
  | nilIface=>exact .nilIface
  | iface t v=>cases n with
   | zero=>simp [fD] at h
   | succ n=>exact .iface _ (d n rfl v h)
  | agg c=>obtain ⟨l⟩:=c; cases n with
   | zero=>simp [fD] at h
   | succ n=>exact .agg (qW (d n rfl) l h)
  | tuple c=>obtain ⟨l⟩:=c; cases n with
   | zero=>simp [fD] at h
   | succ n=>exact .tuple (qW (d n rfl) l h)
  | func f a c =>
   obtain ⟨a⟩:=a; obtain ⟨c⟩:=c;cases f <;> cases a <;> cases c <;> cases n <;> first
    | exact .func _ .nil .nil
    | simp [fD] at h
  | float k b=>cases n <;> simp [fD] at h
  | complex k b c=>cases n <;> simp [fD] at h
  | chan r=>cases n <;> simp [fD] at h
 intro n
 induction n with
 | zero=>exact fun v=>h0 0 v fun k hk=>ad
 | succ n d=>exact fun v=>h0 (n+1) v fun k hk=>by cases hk; exact d
def ot {ρ:gF}:VR ρ undef undef:=.tuple .nil
inductive AO where
 | row (c:List Xab) (e:TypeId) (m:Nat)
 | wJ (d:List (Xaa × Xab))
 | yF (d:List ((Nat × Xaa) × Xab))
 | yE (d:List ((Nat × Nat) × Xab))
 | gone
inductive dL (α:Type) where
 | nil
 | node (o:Option α) (l r:dL α)
noncomputable def dL.get {α:Type} (t:dL α):Nat->Option α :=
 dL.rec (fun _=>none) (fun o _ _ l r n=>Nat.rec o (fun m _=>Nat.rec (l (m / 2)) (fun _ _=>r (m / 2)) (m % 2)) n) t
noncomputable def dL.set {α:Type} (fu:Nat):dL α->Nat->α->dL α :=
 Nat.rec (fun t _ _=>t) (fun _ d t n a=>dL.rec
  (Nat.rec (.node (some a) .nil .nil) (fun m _=>Nat.rec (.node none (d .nil (m / 2) a) .nil) (fun _ _=>.node none .nil (d .nil (m / 2) a)) (m % 2)) n)
  (fun o l r _ _=>Nat.rec (.node (some a) l r) (fun m _=>Nat.rec (.node o (d l (m / 2) a) r) (fun _ _=>.node o l (d r (m / 2) a)) (m % 2)) n) t) fu
def TY {β:Type} (a b:β) (n:Nat):Nat.rec (motive:=fun _=>β) a (fun _ _=>b) n=match n with
  | 0=>a
  | _+1=>b:=by cases n <;> rfl
def dL.uK {α:Type} (o:Option α) (l r:dL α) (n:Nat):(dL.node o l r).get n=match n with
  | 0=>o
  | m+1=>match m % 2 with
   | 0=>l.get (m / 2)
   | _+1=>r.get (m / 2):=by
 cases n with
 | zero=>rfl
 | succ m =>
  exact TY _ _ _
def dL.set_nil {α:Type} (fu:Nat) (n:Nat) (a:α):dL.set (fu+1) (.nil:dL α) n a=match n with
   | 0=>.node (some a) .nil .nil
   | m+1=>match m % 2 with
    | 0=>.node none (dL.set fu .nil (m / 2) a) .nil
    | _+1=>.node none .nil (dL.set fu .nil (m / 2) a):=by
 cases n with
 | zero=>rfl
 | succ m =>
  exact TY _ _ _
def dL.EY {α:Type} (fu:Nat) (o:Option α) (l r:dL α) (n:Nat) (a:α):dL.set (fu+1) (.node o l r) n a=match n with
   | 0=>.node (some a) l r
   | m+1=>match m % 2 with
    | 0=>.node o (dL.set fu l (m / 2) a) r
    | _+1=>.node o l (dL.set fu r (m / 2) a):=by
 cases n with
 | zero=>rfl
 | succ m =>
  exact TY _ _ _
def dL.get_nil {α:Type} (n:Nat):(dL.nil:dL α).get n=none:=rfl
theorem dL.DK {α:Type}:∀ (fu:Nat) (t:dL α) (n m:Nat) (a:α),n<fu->(dL.set fu t n a).get m=if m=n then some a else t.get m
 | 0,t,n,m,a,h=>ad
 | fu+1,t,n,m,a,h=>by
  have key:∀ (o:Option α) (l r:dL α),(dL.set (fu+1) (.node o l r) n a).get m=if m=n then some a else (dL.node o l r).get m:=by
   intro o l r;rw [dL.EY];cases n with
   | zero =>
    simp only [dL.uK];cases m with
    | zero=>simp
    | succ m=>simp
   | succ n =>
    have e2:n % 2=0\/n % 2=1:=ad
    cases m with
    | zero=>rcases e2 with e | e <;> simp [e,dL.uK]
    | succ m =>
     have j:m % 2=0\/m % 2=1:=ad
     rcases e2 with e | e <;> rcases j with e' | e' <;> simp only [e,e',dL.uK]
     ·rw [dL.DK fu l (n / 2) (m / 2) a ad]
      by_cases d:m=n
      ·subst d; simp
      ·rw [Yx ad,Yx ad]
     ·rw [Yx (by intro d; omega)]
     ·rw [Yx (by intro d; omega)]
     ·rw [dL.DK fu r (n / 2) (m / 2) a ad]
      by_cases d:m=n
      ·subst d; simp
      ·rw [Yx ad,Yx ad]
  cases t with
  | node o l r=>exact key o l r
  | nil =>
   have:=key none .nil .nil
   have e0:(dL.node none .nil .nil:dL α).get m=(dL.nil:dL α).get m:=by
    rw [dL.uK];cases m with
    | zero=>rfl
    | succ m=>rcases Nat.mod_two_eq_zero_or_one m with e | e <;> simp only [e] <;> rfl
   rw [e0] at this;rw [<- this,dL.set_nil,dL.EY]
def Qb (k:Nat × Xaa):Xab:=.agg #[.int .i64 (k.1:Int),.string k.2]
def QV (k:Nat × Nat):Xab:=.agg #[.int .i64 (k.1:Int),.int .i64 (k.2:Int)]
def DR {α:Type} (ρ:gF) (d d':List (α × Xab)):Prop:=d.map (·.1)=d'.map (·.1)/\dS ρ (d.map (·.2)) (d'.map (·.2))
def DR.mono {α:Type} {ρ ρ':gF} (le:Le ρ ρ') {d d':List (α × Xab)} (h:DR ρ d d'):DR ρ' d d':=⟨h.1,h.2.mono le⟩
def AO.live:AO->Bool
 | .gone=>false
 | _=>true
def xh (P:Program) (ρ:gF) (h0 h:Hp) (pl:Pl):AO->Prop
 | .row c e m=>∃ cs f,h[pl.cv]?=some (.cells cs e f)/\(∀ i v,c[i]?=some v->∃ v',cs[pl.sh+i]?=some v'/\VR ρ v v') /\
   (m≠2->f=(0,0)/\h0.size<=pl.cv)/\(m=1->pl.sh+pl.cap*P.cellsOf e=cs.size/\pl.cap<9223372036854775808)/\(m=0->pl.sh=0)
 | .wJ d=>h0.size<=pl.cv/\∃ d',dV h pl.cv d'/\DR ρ d d'
 | .yF d=>h0.size<=pl.cv/\∃ d',pt Qb h pl.cv d'/\DR ρ d d'
 | .yE d=>h0.size<=pl.cv/\∃ d',pt QV h pl.cv d'/\DR ρ d d'
 | .gone=>True
structure Cx where
 P:Program
 kt:TypeId
 ku:TypeId
 ki:TypeId
 SU:FuncId
 seq:FuncId
 idx:FuncId
 ng:Nat
 ro:Nat->Option (List Xab)
noncomputable def Nb (n:Nat):List Xab->Option (List Xab) :=
 Nat.rec (fun _=>some []) (fun _ d l=>List.rec none (fun v l _=>(d l).bind fun r=>some (v::r)) l) n
noncomputable def L6 (o n:Nat):List Xab->Option (List Xab) :=
 Nat.rec (Nb n) (fun _ d l=>List.rec none (fun _ l _=>d l) l) o
theorem Ax:∀ (n:Nat) (l r:List Xab),Nb n l=some r->r.length=n/\∀ (j:Nat) (v:Xab),r[j]?=some v->l[j]?=some v
 | 0,_,r,h=>by
  have h:some []=some r:=h;simp only [Option.some.injEq] at h;subst h; exact ⟨rfl,fun j v hv=>by simp at hv⟩
 | n+1,[],r,h=>by cases (show none=some r from h)
 | n+1,v::l,r,h=>by
  have h:(Nb n l).bind (fun r=>some (v::r))=some r:=h;obtain ⟨k,d,h⟩:=Yt.1 h;simp only [Option.some.injEq] at h;subst h;obtain ⟨h1,h2⟩:=Ax n l k d;refine ⟨by simp [h1],fun j u hu=>?_⟩;cases j with
  | zero=>simpa using hu
  | succ j=>simpa using h2 j u (by simpa using hu)
theorem uC:∀ (o n:Nat) (l r:List Xab),L6 o n l=some r->r.length=n/\∀ (j:Nat) (v:Xab),r[j]?=some v->l[o+j]?=some v
 | 0,n,l,r,h=>by
  have:=Ax n l r h
  simpa using this
 | o+1,n,[],r,h=>by cases (show none=some r from h)
 | o+1,n,v::l,r,h=>by
  obtain ⟨h1,h2⟩:=uC o n l r h;refine ⟨h1,fun j u hu=>?_⟩;rw [show o+1+j=(o+j)+1 from ad,as9];exact h2 j u hu
structure Rel (C:Cx) (h0:Hp) (ρ:gF) (σ:dL AO) (h:Hp):Prop where
 Qk:∀ g,g<C.ng->ρ g=some ⟨g,0,0⟩
 ro:∀ b c,C.ro b=some c->b<C.ng/\∃ cs e f,h0[b]?=some (.cells cs e f)/\∀ (i:Nat) (v:Xab),c[i]?=some v->cs[i]?=some v/\fD 9 v=true
 size:h0.size<=h.size
 base:∀ i,i<h0.size->h[i]?=h0[i]?
 obj:∀ b o,σ.get b=some o->∃ pl,ρ b=some pl/\xh C.P ρ h0 h pl o
 apart:∀ b b' o o' pl pl',σ.get b=some o->σ.get b'=some o'->o.live=true->o'.live=true->ρ b=some pl->ρ b'=some pl'->pl.cv=pl'.cv->b=b'
 PG:∀ b,σ.get b=none->ρ b=none
def iR (ρ:gF) (n:Nat) (pl:Pl):gF:=fun b=>if b=n then some pl else ρ b
def fv (ρ:gF) (n:Nat) (pl:Pl):iR ρ n pl n=some pl:=by simp [iR]
def HY {ρ:gF} {n b:Nat} {pl:Pl} (h:b≠n):iR ρ n pl b=ρ b:=by simp [iR,h]
def Le.iR {ρ:gF} {n:Nat} {pl:Pl} (h:ρ n=none):Le ρ (iR ρ n pl):=fun b p d=>by
 rw [HY (fun j=>by subst j; rw [h] at d; cases d)]; exact d
def xh.an {P:Program} {ρ ρ':gF} {h0 h h':Hp} {pl:Pl} {a:AO} (le:Le ρ ρ') (o:xh P ρ h0 h pl a) (hk:a.live=true->h'[pl.cv]?=h[pl.cv]?):xh P ρ' h0 h' pl a:=by
 cases a with
 | gone=>trivial
 | row c e m =>
  obtain ⟨cs,f,h1,h2,h3,h4⟩:=o;refine ⟨cs,f,(hk rfl).trans h1,fun i v hv=>?_,h3,h4⟩;obtain ⟨v',e1,e2⟩:=h2 i v hv;exact ⟨v',e1,e2.mono le⟩
 | wJ d =>
  obtain ⟨h1,d',h2,h3⟩:=o;refine ⟨h1,d',?_,h3.mono le⟩;unfold dV at h2 ⊢;rw [hk rfl]; exact h2
 | yF d =>
  obtain ⟨h1,d',h2,h3⟩:=o;refine ⟨h1,d',?_,h3.mono le⟩;unfold pt at h2 ⊢;rw [hk rfl]; exact h2
 | yE d =>
  obtain ⟨h1,d',h2,h3⟩:=o;refine ⟨h1,d',?_,h3.mono le⟩;unfold pt at h2 ⊢;rw [hk rfl]; exact h2
def xh.lt {P:Program} {ρ:gF} {h0 h:Hp} {pl:Pl} {a:AO} (o:xh P ρ h0 h pl a) (hl:a.live=true):pl.cv<h.size:=by
 cases a with
 | gone=>cases hl
 | row c e m=>obtain ⟨cs,f,h1,_⟩:=o; exact fc h1
 | wJ d=>obtain ⟨_,d',h2,_⟩:=o; exact h2.lt
 | yF d=>obtain ⟨_,d',h2,_⟩:=o; exact h2.lt
 | yE d=>obtain ⟨_,d',h2,_⟩:=o; exact h2.lt
noncomputable def dL.put {α:Type} (t:dL α) (n:Nat) (a:α):dL α:=dL.set (n+1) t n a
def dL.wu {α:Type} (t:dL α) (n m:Nat) (a:α):(t.put n a).get m=if m=n then some a else t.get m:=dL.DK _ _ _ _ _ (Nat.lt_succ_self n)
def dL.iW {α:Type} (t:dL α) (n:Nat) (a:α):(t.put n a).get n=some a:=by rw [dL.wu,YC rfl]
def dL.kF {α:Type} (t:dL α) {n m:Nat} (a:α) (h:m≠n):(t.put n a).get m=t.get m:=by rw [dL.wu,Yx h]
section rel
variable {C:Cx} {h0:Hp} {ρ:gF} {σ:dL AO} {h:Hp}
def Rel.row (R:Rel C h0 ρ σ h) {b:Nat} {o:AO} (d:σ.get b=some o) {pl:Pl} (j:ρ b=some pl):xh C.P ρ h0 h pl o:=by
 obtain ⟨pl',h1,h2⟩:=R.obj b _ d;rw [j] at h1; cases h1; exact h2
def Rel.Ty (R:Rel C h0 ρ σ h) {g b:Nat} {h':Hp} {σ':dL AO} {ρ':gF} {o:AO} {pl:Pl} (k:Ch [g] h h') (hg:h0.size<=g) (le:Le ρ ρ')
  (hb:σ'.get b=some o) (Z:ρ' b=some pl) (J:pl.cv=g) (ho:xh C.P ρ' h0 h' pl o)
  (O:∀ x a,x≠b->σ'.get x=some a->σ.get x=some a\/a=.gone/\σ.get x≠none)
  (V:∀ x a p,x≠b->σ'.get x=some a->a.live=true->ρ x=some p->p.cv≠g)
  (X:∀ x,σ'.get x=none->ρ' x=none):Rel C h0 ρ' σ' h':=by
 have j:∀ x a,x≠b->σ'.get x=some a->a.live=true->σ.get x=some a:=by
  intro x a hx ha hl;rcases O x a hx ha with h1 | ⟨rfl,_⟩
  ·exact h1
  ·cases hl
 refine ⟨fun i hi=>le _ _ (R.Qk i hi),R.ro,by have:=R.size; have:=k.size; omega,fun i hi=>?_,fun x a hx=>?_,fun x y a a' p p' hx hy hl U u G he=>?_,X⟩
 ·have:=R.size
  rw [k.same i ad (by simp; omega)]; exact R.base i hi
 ·by_cases d:x=b
  ·subst d; rw [hb] at hx; cases hx; exact ⟨pl,Z,ho⟩
  ·rcases O x a d hx with h1 | ⟨rfl,h1⟩
   ·obtain ⟨p,e1,e2⟩:=R.obj x a h1;refine ⟨p,le _ _ e1,e2.an le fun hl=>?_⟩;exact k.same _ (e2.lt hl) (by simpa using V x a p d hx hl e1)
   ·cases hs:σ.get x with
    | none=>exact (h1 hs).elim
    | some a' =>
     obtain ⟨p,e1,_⟩:=R.obj x a' hs;exact ⟨p,le _ _ e1,trivial⟩
 ·have Y:∀ x a p,x≠b->σ'.get x=some a->a.live=true->ρ' x=some p->p.cv≠g:=by
   intro x a p d hx hl u;have h1:=j x a d hx hl;obtain ⟨q,e1,_⟩:=R.obj x a h1
   have:=le _ _ e1
   rw [u] at this; cases this;exact V x a _ d hx hl e1
  by_cases d:x=b
  ·by_cases F:y=b
   ·rw [d,F]
   ·subst d; rw [Z] at u; cases u;exact (Y y a' p' F hy U G (by rw [<- he,J])).elim
  ·by_cases F:y=b
   ·subst F; rw [Z] at G; cases G;exact (Y x a p d hx hl u (by rw [he,J])).elim
   ·have h1:=j x a d hx hl;have h2:=j y a' F hy U;obtain ⟨q,e1,_⟩:=R.obj x a h1;obtain ⟨q',e2,_⟩:=R.obj y a' h2;have e3:=le _ _ e1;have e4:=le _ _ e2;rw [u] at e3; rw [G] at e4; cases e3; cases e4;exact R.apart x y a a' _ _ h1 h2 hl U e1 e2 he
def Rel.ext (R:Rel C h0 ρ σ h) {h':Hp} (k:Ext h h'):Rel C h0 ρ σ h':=by
 refine ⟨R.Qk,R.ro,Zq R.size k.size,fun i hi=>?_,fun b o d=>?_,R.apart,R.PG⟩
 ·have:=R.size
  rw [k.same i ad aj]; exact R.base i hi
 ·obtain ⟨p,e1,e2⟩:=R.obj b o d;exact ⟨p,e1,e2.an (Le.refl _) fun hl=>k.same _ (e2.lt hl) aj⟩
def Rel.new (R:Rel C h0 ρ σ h) {n:Nat} (hn:σ.get n=none) {o:AO} {pl:Pl} {h':Hp} (u:h.size<=pl.cv) (k:Ext h h') (F:xh C.P (iR ρ n pl) h0 h' pl o) :
  Rel C h0 (iR ρ n pl) (σ.put n o) h'/\Le ρ (iR ρ n pl):=by
 have G:=R.PG n hn;have le:Le ρ (iR ρ n pl):=Le.iR G;refine ⟨R.Ty (k.mono aj) (g:=pl.cv) (b:=n) (Zq R.size u) le (dL.iW _ _ _) (fv _ _ _) rfl F (fun x a hx j=>?_) (fun x a p hx j hl J=>?_) (fun x hx=>?_),le⟩
 ·rw [dL.kF _ _ hx] at j; exact .inl j
 ·rw [dL.kF _ _ hx] at j
  have:=(R.row j J).lt hl
  omega
 ·by_cases d:x=n
  ·subst d; rw [dL.iW] at hx; cases hx
  ·rw [dL.kF _ _ d] at hx;rw [HY d]; exact R.PG x hx
def HW {P:Program} {ρ ρ':gF} {h0 h':Hp} {c c' rest:List Xab} {e:TypeId} {m cap g:Nat} (hs:h0.size<=g) (hc:dS ρ c c') (le:Le ρ ρ') (d:bI h' g e (c'++rest))
  (hm:m=1->cap*P.cellsOf e=c'.length+rest.length/\cap<9223372036854775808):xh P ρ' h0 h' ⟨g,0,cap⟩ (.row c e m):=by
 refine ⟨(c'++rest).toArray,(0,0),d,fun i v hv=>?_,fun _=>⟨rfl,hs⟩,fun h1=>?_,fun _=>rfl⟩
 ·obtain ⟨v',e1,e2⟩:=hc.get hv;refine ⟨v',?_,e2.mono le⟩
  have:i<c'.length:=by
   rcases Zn i c'.length with h | h
   ·exact h
   ·rw [Y9 h] at e1; cases e1
  rw [Y7,al9,Za this];exact e1
 ·have:=hm h1
  simp [this]
def Rel.newRow (R:Rel C h0 ρ σ h) {n:Nat} (hn:σ.get n=none) {c c' rest:List Xab} {e:TypeId} {m cap:Nat} {h':Hp} (hc:dS ρ c c') (d:bI h' h.size e (c'++rest)) (k:Ext h h')
  (hm:m=1->cap*C.P.cellsOf e=c'.length+rest.length/\cap<9223372036854775808) :
  Rel C h0 (iR ρ n ⟨h.size,0,cap⟩) (σ.put n (.row c e m)) h'/\Le ρ (iR ρ n ⟨h.size,0,cap⟩) :=
 R.new hn (YI _) k (HW R.size hc (Le.iR (R.PG n hn)) d hm)
def Rel.put (R:Rel C h0 ρ σ h) {b:Nat} {o o':AO} {pl:Pl} {h':Hp} (J:σ.get b=some o) (hl:o.live=true) (G:ρ b=some pl) (O:h0.size<=pl.cv) (k:Ch [pl.cv] h h') (U:xh C.P ρ h0 h' pl o') :
  Rel C h0 ρ (σ.put b o') h':=by
 refine R.Ty k O (Le.refl _) (dL.iW _ _ _) G rfl U (fun x a hx d=>?_) (fun x a p hx d u F V=>?_) (fun x hx=>?_)
 ·rw [dL.kF _ _ hx] at d; exact .inl d
 ·rw [dL.kF _ _ hx] at d;exact hx (R.apart x b a o p pl d J u hl F G V)
 ·by_cases j:x=b
  ·subst j; rw [dL.iW] at hx; cases hx
  ·rw [dL.kF _ _ j] at hx; exact R.PG x hx
def Rel.move (R:Rel C h0 ρ σ h) {b n:Nat} {o o':AO} {pl pl':Pl} {h':Hp} (hn:σ.get n=none) (O:σ.get b=some o) (hl:o.live=true) (U:ρ b=some pl) (k:Ch [pl'.cv] h h')
  (G:pl'.cv=pl.cv\/pl'.cv=h.size) (V:h0.size<=pl'.cv) (X:xh C.P (iR ρ n pl') h0 h' pl' o') :
  Rel C h0 (iR ρ n pl') ((σ.put b .gone).put n o') h'/\Le ρ (iR ρ n pl'):=by
 have Y:=R.PG n hn;have le:Le ρ (iR ρ n pl'):=Le.iR Y;have Z:b≠n:=fun hh=>by subst hh; rw [hn] at O; cases O
 refine ⟨R.Ty k V le (dL.iW _ _ _) (fv _ _ _) rfl X (fun x a hx j=>?_) (fun x a p hx j u J he=>?_) (fun x hx=>?_),le⟩
 ·rw [dL.kF _ _ hx] at j
  by_cases d:x=b
  ·subst d; rw [dL.iW] at j; cases j;exact .inr ⟨rfl,by rw [O]; simp⟩
  ·rw [dL.kF _ _ d] at j; exact .inl j
 ·rw [dL.kF _ _ hx] at j
  by_cases d:x=b
  ·subst d; rw [dL.iW] at j; cases j; cases u
  ·rw [dL.kF _ _ d] at j;rcases G with e | e
   ·exact d (R.apart x b a o p pl j O u hl J U (by rw [he,e]))
   ·have:=(R.row j J).lt u
    omega
 ·by_cases F:x=n
  ·subst F; rw [dL.iW] at hx; cases hx
  ·rw [dL.kF _ _ F] at hx;rw [HY F]
   by_cases d:x=b
   ·subst d; rw [dL.iW] at hx; cases hx
   ·rw [dL.kF _ _ d] at hx; exact R.PG x hx
theorem jz {pl:Pl} {cs:Array Xab} {e:TypeId} {f:Nat × Nat} (d:h[pl.cv]?=some (.cells cs e f)) {off:Nat}:∀ (k:List Xab) (i:Nat),(∀ j v,k[j]?=some v->∃ v',cs[pl.sh+(off+i+j)]?=some v'/\VR ρ v v') ->
  ∃ k',dS ρ k k'/\aJ h ⟨pl.cv,pl.sh+off,none⟩ i k'
 | [],i,_=>⟨[],.nil,trivial⟩
 | v::k,i,hk=>by
  obtain ⟨v',e1,e2⟩:=hk 0 v aj;obtain ⟨k',u,F⟩:=jz d k (i+1) fun j w hw=>by
   have:=hk (j+1) w (by simpa using hw)
   rw [show off+(i+1)+j=off+i+(j+1) from ad]; exact this
  refine ⟨v'::k',.cons e2 u,?_,F⟩;rw [aE,jW d,<- e1]; congr 1; omega
def Rel.store (R:Rel C h0 ρ σ h) {b:Nat} {c:List Xab} {e:TypeId} {m:Nat} (O:σ.get b=some (.row c e m)) (hm:m≠2) {pl:Pl} (U:ρ b=some pl) {off:Nat} {vs vs':List Xab}
  (hv:dS ρ vs vs') (F:vs'.all cU=true) (h1:1<=vs.length) (hl:off+vs.length<=c.length) :
  yq h ⟨pl.cv,pl.sh+off,none⟩ 0 vs'/\Rel C h0 ρ (σ.put b (.row (lh c off vs) e m)) (r5 h ⟨pl.cv,pl.sh+off,none⟩ 0 vs'):=by
 obtain ⟨cs,f,V,h2,h3,h4⟩:=R.row O U;obtain ⟨rfl,j⟩:=h3 hm;have bx:bI h pl.cv e cs.toList:=by unfold bI; simpa using V
 have d:pl.sh+off+vs'.length<=cs.toList.length:=by
  rw [<- hv.length];obtain ⟨v',e1,_⟩:=h2 (off+vs.length-1) (c[off+vs.length-1]'ad) (by rw [Yv])
  have:pl.sh+(off+vs.length-1)<cs.size:=by
   rcases Zn (pl.sh+(off+vs.length-1)) cs.size with h | h
   ·exact h
   ·rw [Zt h] at e1; cases e1
  simp; omega
 obtain ⟨X,Y,Z,k4⟩:=jE (off:=pl.sh+off) vs' h 0 _ bx F (by simpa using d);refine ⟨X,R.put O rfl U j Z ⟨_,_,Y,fun i v hi=>?_,fun _=>⟨rfl,j⟩,fun h1=>?_,h4.2⟩⟩
 ·rw [nk _ _ _ hl] at hi;rw [al9,nk _ _ _ (by simpa using d),bm9];have G:pl.sh+off<=cs.toList.length:=ad
  rcases Zn i off with u | u
  ·rw [YV,Za (by simp; omega),ah9,YC u] at hi;rw [YV,Za (by rw [YQ]; omega),ah9,YC ad];rw [ZO];exact h2 i v hi
  ·rcases Zn i (off+vs.length) with J | J
   ·have e1:(c.take off).length=off:=by rw [YQ]; omega
    have e2:(cs.toList.take (pl.sh+off)).length=pl.sh+off:=by rw [YQ]; omega
    rw [YV,Y5 ad,e1,Za ad] at hi;rw [YV,Y5 ad,e2,Za (by rw [<- hv.length]; omega),show pl.sh+i-(pl.sh+off)=i-off from ad];exact hv.get hi
   ·have e1:(c.take off++vs).length=off+vs.length:=by rw [Yy,YQ]; omega
    have e2:(cs.toList.take (pl.sh+off)++vs').length=pl.sh+off+vs.length:=by rw [Yy,YQ,<- hv.length]; omega
    rw [Y5 ad,e1,Z6,show off+vs.length+(i-(off+vs.length))=i from ad] at hi;rw [Y5 ad,e2,Z6,<- hv.length,show pl.sh+off+vs.length+(pl.sh+i-(pl.sh+off+vs.length))=pl.sh+i from ad,ZO];exact h2 i v hi
 ·have:=h4.1 h1
  simpa [nj] using this
end rel
end Go.Sx.Cr
