/- Part of the framework. No condition. -/
import Derived.Test.YthbffkdafjboiaaGreatDoorSxK
import Derived.Test.YthbffkdafjboiaaGreatDoorSxE
set_option linter.all false
set_option maxHeartbeats 4000000
namespace Go.Sx.Cr
structure Pl where
 cj:Nat
 sh:Nat
 cap:Nat
abbrev gn:=Nat->Option Pl
def pB:Nat:=1208925819614629174706176
def half:Nat:=604462909807314587353088
def JD (pl:Pl) (c c':Nat):Prop:=(c<half/\c'=c)\/(half<=c/\c'+pB=pl.cap+c)
mutual
inductive VR (ρ:gn):ZB->ZB->Prop
 | bool (b:Bool):VR ρ (.bool b) (.bool b)
 | int (k:IntKind) (n:Int):VR ρ (.int k n) (.int k n)
 | string (s:ZA):VR ρ (.string s) (.string s)
 | Ql:VR ρ (.pointer none) (.pointer none)
 | ptr {b:Nat} {pl:Pl} (off:Nat) (h:ρ b=some pl):VR ρ (.pointer (some ⟨b,off,none⟩)) (.pointer (some ⟨pl.cj,pl.sh+off,none⟩))
 | lX {l c:Nat} (hl:l<=c):VR ρ (.slice none l c) (.slice none l c)
 | sl {b:Nat} {pl:Pl} (off l:Nat) {c c':Nat} (h:ρ b=some pl) (hc:JD pl c c') (hl:l<=c'):VR ρ (.slice (some ⟨b,off,none⟩) l c) (.slice (some ⟨pl.cj,pl.sh+off,none⟩) l c')
 | PZ:VR ρ (.map none) (.map none)
 | map {b:Nat} {pl:Pl} (h:ρ b=some pl):VR ρ (.map (some b)) (.map (some pl.cj))
 | func (f:FuncId) {a a' c c':List ZB} (h1:dQ ρ a a') (h2:dQ ρ c c'):VR ρ (.func (.func f) ⟨a⟩ ⟨c⟩) (.func (.func f) ⟨a'⟩ ⟨c'⟩)
 | nilFunc:VR ρ .nilFunc .nilFunc
 | nilIface:VR ρ .nilIface .nilIface
 | iface (t:TypeId) {v v':ZB} (h:VR ρ v v'):VR ρ (.iface t v) (.iface t v')
 | agg {l l':List ZB} (h:dQ ρ l l'):VR ρ (.agg ⟨l⟩) (.agg ⟨l'⟩)
 | tuple {l l':List ZB} (h:dQ ρ l l'):VR ρ (.tuple ⟨l⟩) (.tuple ⟨l'⟩)
inductive dQ (ρ:gn):List ZB->List ZB->Prop
 | nil:dQ ρ [] []
 | cons {v v':ZB} {l l':List ZB} (h:VR ρ v v') (t:dQ ρ l l'):dQ ρ (v::l) (v'::l')
end
def Le (ρ ρ':gn):Prop:=∀ b pl,ρ b=some pl->ρ' b=some pl
def Le.refl (ρ:gn):Le ρ ρ:=fun _ _ h=>h
def Le.trans {a b c:gn} (h:Le a b) (k:Le b c):Le a c:=fun x pl hx=>k x pl (h x pl hx)
mutual
theorem VR.mono {ρ ρ':gn} (le:Le ρ ρ'):∀ {v v':ZB},VR ρ v v'->VR ρ' v v'
 | _,_,.bool b=>.bool b
 | _,_,.int k n=>.int k n
 | _,_,.string s=>.string s
 | _,_,.Ql=>.Ql
 | _,_,.ptr off h=>.ptr off (le _ _ h)
 | _,_,.lX hl=>.lX hl
 | _,_,.sl off l h hc hl=>.sl off l (le _ _ h) hc hl
 | _,_,.PZ=>.PZ
 | _,_,.map h=>.map (le _ _ h)
 | _,_,.func f h1 h2=>.func f (dQ.mono le h1) (dQ.mono le h2)
 | _,_,.nilFunc=>.nilFunc
 | _,_,.nilIface=>.nilIface
 | _,_,.iface t h=>.iface t (VR.mono le h)
 | _,_,.agg h=>.agg (dQ.mono le h)
 | _,_,.tuple h=>.tuple (dQ.mono le h)
theorem dQ.mono {ρ ρ':gn} (le:Le ρ ρ'):∀ {l l':List ZB},dQ ρ l l'->dQ ρ' l l'
 | _,_,.nil=>.nil
 | _,_,.cons h t=>.cons (VR.mono le h) (dQ.mono le t)
end
theorem dQ.length {ρ:gn}:∀ {l l':List ZB},dQ ρ l l'->l.length=l'.length
 | _,_,.nil=>rfl
 | _,_,.cons h t=>by simp [dQ.length t]
theorem dQ.append {ρ:gn}:∀ {l l' k k':List ZB},dQ ρ l l'->dQ ρ k k'->dQ ρ (l++k) (l'++k')
 | _,_,_,_,.nil,h=>h
 | _,_,_,_,.cons h t,k=>.cons h (dQ.append t k)
theorem dQ.get {ρ:gn}:∀ {l l':List ZB} {i:Nat} {v:ZB},dQ ρ l l'->l[i]?=some v->∃ v',l'[i]?=some v'/\VR ρ v v'
 | _,_,i,v,.nil,h=>by simp at h
 | _,_,0,v,.cons (v':=v') h t,hi=>by
  simp only [List.getElem?_cons_zero,Option.some.injEq] at hi;subst hi; exact ⟨v',aj,h⟩
 | _,_,i+1,v,.cons h t,hi=>by
  simp only [List.getElem?_cons_succ] at hi ⊢;exact dQ.get t hi
theorem dQ.take {ρ:gn}:∀ {l l':List ZB} (n:Nat),dQ ρ l l'->dQ ρ (l.take n) (l'.take n)
 | _,_,0,_=>.nil
 | _,_,n+1,.nil=>.nil
 | _,_,n+1,.cons h t=>.cons h (dQ.take n t)
theorem dQ.drop {ρ:gn}:∀ {l l':List ZB} (n:Nat),dQ ρ l l'->dQ ρ (l.drop n) (l'.drop n)
 | _,_,0,h=>h
 | _,_,n+1,.nil=>.nil
 | _,_,n+1,.cons h t=>dQ.drop n t
theorem dQ.set {ρ:gn}:∀ {l l':List ZB} {v v':ZB} (i:Nat),dQ ρ l l'->VR ρ v v'->dQ ρ (l.set i v) (l'.set i v')
 | _,_,_,_,_,.nil,_=>.nil
 | _,_,_,_,0,.cons h t,hv=>.cons hv t
 | _,_,_,_,i+1,.cons h t,hv=>.cons h (dQ.set i t hv)
theorem dQ.NW {ρ:gn}:∀ {l l':List ZB},l.length=l'.length->(∀ (i:Nat) (v:ZB),l[i]?=some v->∃ v',l'[i]?=some v'/\VR ρ v v')->dQ ρ l l'
 | [],[],_,_=>.nil
 | [],v::l,hl,_=>by simp at hl
 | v::l,[],hl,_=>by simp at hl
 | v::l,v'::l',hl,h=>by
  obtain ⟨u,h1,h2⟩:=h 0 v aj;simp only [List.getElem?_cons_zero,Option.some.injEq] at h1;subst h1;refine .cons h2 (dQ.NW (by simpa using hl) fun i w hw=>?_)
  have:=h (i+1) w (by simpa using hw)
  simpa using this
def fA:Nat->ZB->Bool
 | _,.bool _=>true
 | _,.int _ _=>true
 | _,.string _=>true
 | _,.pointer none=>true
 | _,.slice none l c=>Nat.ble l c
 | _,.map none=>true
 | _,.nilFunc=>true
 | _,.nilIface=>true
 | n+1,.iface _ v=>fA n v
 | n+1,.agg ⟨l⟩=>l.all (fA n)
 | n+1,.tuple ⟨l⟩=>l.all (fA n)
 | _,.func (.func _) ⟨[]⟩ ⟨[]⟩=>true
 | _,_=>false
theorem qm {ρ:gn} {p:ZB->Bool} (hp:∀ v,p v=true->VR ρ v v):∀ l:List ZB,l.all p=true->dQ ρ l l
 | [],_=>.nil
 | v::l,h=>by
  simp only [List.all_cons,Bool.and_eq_true] at h;exact .cons (hp v h.1) (qm hp l h.2)
def rI {ρ:gn}:∀ (n:Nat) (v:ZB),fA n v=true->VR ρ v v:=by
 have h0:∀ (n:Nat) (v:ZB),(∀ k,n=k+1->∀ v,fA k v=true->VR ρ v v)->fA n v=true->VR ρ v v:=by
  intro n v ih h;cases v with
  | bool b=>exact .bool _
  | int k n=>exact .int _ _
  | string s=>exact .string _
  | pointer p=>cases p with
   | none=>exact .Ql
   | some a=>cases n <;> simp [fA] at h
  | slice p l c=>cases p with
   | none=>cases n <;> exact .lX (Xx h)
   | some a=>cases n <;> simp [fA] at h
  | map p=>cases p with
   | none=>exact .PZ
   | some a=>cases n <;> simp [fA] at h
  | nilFunc=>exact .nilFunc
  | nilIface=>exact .nilIface
  | iface t v=>cases n with
   | zero=>simp [fA] at h
   | succ n=>exact .iface _ (ih n rfl v h)
  | agg c=>obtain ⟨l⟩:=c; cases n with
   | zero=>simp [fA] at h
   | succ n=>exact .agg (qm (ih n rfl) l h)
  | tuple c=>obtain ⟨l⟩:=c; cases n with
   | zero=>simp [fA] at h
   | succ n=>exact .tuple (qm (ih n rfl) l h)
  | func f a c =>
   obtain ⟨a⟩:=a; obtain ⟨c⟩:=c;cases f <;> cases a <;> cases c <;> cases n <;> first
    | exact .func _ .nil .nil
    | simp [fA] at h
  | float k b=>cases n <;> simp [fA] at h
  | complex k b c=>cases n <;> simp [fA] at h
  | chan r=>cases n <;> simp [fA] at h
 intro n
 induction n with
 | zero=>exact fun v=>h0 0 v fun k hk=>ad
 | succ n ih=>exact fun v=>h0 (n+1) v fun k hk=>by cases hk; exact ih
def nB {ρ:gn}:VR ρ undef undef:=.tuple .nil
inductive AO where
 | row (c:List ZB) (e:TypeId) (m:Nat)
 | vL (d:List (ZA × ZB))
 | xW (d:List ((Nat × ZA) × ZB))
 | xV (d:List ((Nat × Nat) × ZB))
 | gone
inductive dI (α:Type) where
 | nil
 | node (o:Option α) (l r:dI α)
noncomputable def dI.get {α:Type} (t:dI α):Nat->Option α :=
 dI.rec (fun _=>none) (fun o _ _ l r n=>Nat.rec o (fun m _=>Nat.rec (l (m / 2)) (fun _ _=>r (m / 2)) (m % 2)) n) t
noncomputable def dI.set {α:Type} (fu:Nat):dI α->Nat->α->dI α :=
 Nat.rec (fun t _ _=>t) (fun _ ih t n a=>dI.rec
  (Nat.rec (.node (some a) .nil .nil) (fun m _=>Nat.rec (.node none (ih .nil (m / 2) a) .nil) (fun _ _=>.node none .nil (ih .nil (m / 2) a)) (m % 2)) n)
  (fun o l r _ _=>Nat.rec (.node (some a) l r) (fun m _=>Nat.rec (.node o (ih l (m / 2) a) r) (fun _ _=>.node o l (ih r (m / 2) a)) (m % 2)) n) t) fu
def Se {β:Type} (a b:β) (n:Nat):Nat.rec (motive:=fun _=>β) a (fun _ _=>b) n=match n with
  | 0=>a
  | _+1=>b:=by cases n <;> rfl
def dI.tU {α:Type} (o:Option α) (l r:dI α) (n:Nat):(dI.node o l r).get n=match n with
  | 0=>o
  | m+1=>match m % 2 with
   | 0=>l.get (m / 2)
   | _+1=>r.get (m / 2):=by
 cases n with
 | zero=>rfl
 | succ m =>
  exact Se _ _ _
def dI.set_nil {α:Type} (fu:Nat) (n:Nat) (a:α):dI.set (fu+1) (.nil:dI α) n a=match n with
   | 0=>.node (some a) .nil .nil
   | m+1=>match m % 2 with
    | 0=>.node none (dI.set fu .nil (m / 2) a) .nil
    | _+1=>.node none .nil (dI.set fu .nil (m / 2) a):=by
 cases n with
 | zero=>rfl
 | succ m =>
  exact Se _ _ _
def dI.D6 {α:Type} (fu:Nat) (o:Option α) (l r:dI α) (n:Nat) (a:α):dI.set (fu+1) (.node o l r) n a=match n with
   | 0=>.node (some a) l r
   | m+1=>match m % 2 with
    | 0=>.node o (dI.set fu l (m / 2) a) r
    | _+1=>.node o l (dI.set fu r (m / 2) a):=by
 cases n with
 | zero=>rfl
 | succ m =>
  exact Se _ _ _
def dI.get_nil {α:Type} (n:Nat):(dI.nil:dI α).get n=none:=rfl
theorem dI.CW {α:Type}:∀ (fu:Nat) (t:dI α) (n m:Nat) (a:α),n<fu->(dI.set fu t n a).get m=if m=n then some a else t.get m
 | 0,t,n,m,a,h=>ad
 | fu+1,t,n,m,a,h=>by
  have key:∀ (o:Option α) (l r:dI α),(dI.set (fu+1) (.node o l r) n a).get m=if m=n then some a else (dI.node o l r).get m:=by
   intro o l r;rw [dI.D6];cases n with
   | zero =>
    simp only [dI.tU];cases m with
    | zero=>simp
    | succ m=>simp
   | succ n =>
    have e2:n % 2=0\/n % 2=1:=ad
    cases m with
    | zero=>rcases e2 with e | e <;> simp [e,dI.tU]
    | succ m =>
     have e3:m % 2=0\/m % 2=1:=ad
     rcases e2 with e | e <;> rcases e3 with e' | e' <;> simp only [e,e',dI.tU]
     ·rw [dI.CW fu l (n / 2) (m / 2) a ad]
      by_cases hh:m=n
      ·subst hh; simp
      ·rw [W6 ad,W6 ad]
     ·rw [W6 (by intro hh; omega)]
     ·rw [W6 (by intro hh; omega)]
     ·rw [dI.CW fu r (n / 2) (m / 2) a ad]
      by_cases hh:m=n
      ·subst hh; simp
      ·rw [W6 ad,W6 ad]
  cases t with
  | node o l r=>exact key o l r
  | nil =>
   have:=key none .nil .nil
   have e0:(dI.node none .nil .nil:dI α).get m=(dI.nil:dI α).get m:=by
    rw [dI.tU];cases m with
    | zero=>rfl
    | succ m=>rcases Nat.mod_two_eq_zero_or_one m with e | e <;> simp only [e] <;> rfl
   rw [e0] at this;rw [<- this,dI.set_nil,dI.D6]
def OK (k:Nat × ZA):ZB:=.agg #[.int .i64 (k.1:Int),.string k.2]
def Pk (k:Nat × Nat):ZB:=.agg #[.int .i64 (k.1:Int),.int .i64 (k.2:Int)]
def DR {α:Type} (ρ:gn) (d d':List (α × ZB)):Prop:=d.map (·.1)=d'.map (·.1)/\dQ ρ (d.map (·.2)) (d'.map (·.2))
def DR.mono {α:Type} {ρ ρ':gn} (le:Le ρ ρ') {d d':List (α × ZB)} (h:DR ρ d d'):DR ρ' d d':=⟨h.1,h.2.mono le⟩
def AO.live:AO->Bool
 | .gone=>false
 | _=>true
def wu (P:Program) (ρ:gn) (h0 h:Hp) (pl:Pl):AO->Prop
 | .row c e m=>∃ cs f,h[pl.cj]?=some (.cells cs e f)/\(∀ i v,c[i]?=some v->∃ v',cs[pl.sh+i]?=some v'/\VR ρ v v') /\
   (m≠2->f=(0,0)/\h0.size<=pl.cj)/\(m=1->pl.sh+pl.cap*P.cellsOf e=cs.size/\pl.cap<9223372036854775808)/\(m=0->pl.sh=0)
 | .vL d=>h0.size<=pl.cj/\∃ d',dT h pl.cj d'/\DR ρ d d'
 | .xW d=>h0.size<=pl.cj/\∃ d',oA OK h pl.cj d'/\DR ρ d d'
 | .xV d=>h0.size<=pl.cj/\∃ d',oA Pk h pl.cj d'/\DR ρ d d'
 | .gone=>True
structure Cx where
 P:Program
 kt:TypeId
 ku:TypeId
 ki:TypeId
 Re:FuncId
 seq:FuncId
 idx:FuncId
 ng:Nat
 ro:Nat->Option (List ZB)
noncomputable def L0 (n:Nat):List ZB->Option (List ZB) :=
 Nat.rec (fun _=>some []) (fun _ ih l=>List.rec none (fun v l _=>(ih l).bind fun r=>some (v::r)) l) n
noncomputable def KN (o n:Nat):List ZB->Option (List ZB) :=
 Nat.rec (L0 n) (fun _ ih l=>List.rec none (fun _ l _=>ih l) l) o
theorem zH:∀ (n:Nat) (l r:List ZB),L0 n l=some r->r.length=n/\∀ (j:Nat) (v:ZB),r[j]?=some v->l[j]?=some v
 | 0,_,r,h=>by
  have h:some []=some r:=h;simp only [Option.some.injEq] at h;subst h; exact ⟨rfl,fun j v hv=>by simp at hv⟩
 | n+1,[],r,h=>by cases (show none=some r from h)
 | n+1,v::l,r,h=>by
  have h:(L0 n l).bind (fun r=>some (v::r))=some r:=h;obtain ⟨k,ht,h⟩:=W1.1 h;simp only [Option.some.injEq] at h;subst h;obtain ⟨h1,h2⟩:=zH n l k ht;refine ⟨by simp [h1],fun j u hu=>?_⟩;cases j with
  | zero=>simpa using hu
  | succ j=>simpa using h2 j u (by simpa using hu)
theorem tN:∀ (o n:Nat) (l r:List ZB),KN o n l=some r->r.length=n/\∀ (j:Nat) (v:ZB),r[j]?=some v->l[o+j]?=some v
 | 0,n,l,r,h=>by
  have:=zH n l r h
  simpa using this
 | o+1,n,[],r,h=>by cases (show none=some r from h)
 | o+1,n,v::l,r,h=>by
  obtain ⟨h1,h2⟩:=tN o n l r h;refine ⟨h1,fun j u hu=>?_⟩;rw [show o+1+j=(o+j)+1 from ad,YV];exact h2 j u hu
structure Rel (C:Cx) (h0:Hp) (ρ:gn) (σ:dI AO) (h:Hp):Prop where
 OT:∀ g,g<C.ng->ρ g=some ⟨g,0,0⟩
 ro:∀ b c,C.ro b=some c->b<C.ng/\∃ cs e f,h0[b]?=some (.cells cs e f)/\∀ (i:Nat) (v:ZB),c[i]?=some v->cs[i]?=some v/\fA 9 v=true
 size:h0.size<=h.size
 base:∀ i,i<h0.size->h[i]?=h0[i]?
 obj:∀ b o,σ.get b=some o->∃ pl,ρ b=some pl/\wu C.P ρ h0 h pl o
 apart:∀ b b' o o' pl pl',σ.get b=some o->σ.get b'=some o'->o.live=true->o'.live=true->ρ b=some pl->ρ b'=some pl'->pl.cj=pl'.cj->b=b'
 Oe:∀ b,σ.get b=none->ρ b=none
def je (ρ:gn) (n:Nat) (pl:Pl):gn:=fun b=>if b=n then some pl else ρ b
def fp (ρ:gn) (n:Nat) (pl:Pl):je ρ n pl n=some pl:=by simp [je]
def G7 {ρ:gn} {n b:Nat} {pl:Pl} (h:b≠n):je ρ n pl b=ρ b:=by simp [je,h]
def Le.je {ρ:gn} {n:Nat} {pl:Pl} (h:ρ n=none):Le ρ (je ρ n pl):=fun b p hb=>by
 rw [G7 (fun hh=>by subst hh; rw [h] at hb; cases hb)]; exact hb
def wu.an {P:Program} {ρ ρ':gn} {h0 h h':Hp} {pl:Pl} {a:AO} (le:Le ρ ρ') (o:wu P ρ h0 h pl a) (hk:a.live=true->h'[pl.cj]?=h[pl.cj]?):wu P ρ' h0 h' pl a:=by
 cases a with
 | gone=>trivial
 | row c e m =>
  obtain ⟨cs,f,h1,h2,h3,h4⟩:=o;refine ⟨cs,f,(hk rfl).trans h1,fun i v hv=>?_,h3,h4⟩;obtain ⟨v',e1,e2⟩:=h2 i v hv;exact ⟨v',e1,e2.mono le⟩
 | vL d =>
  obtain ⟨h1,d',h2,h3⟩:=o;refine ⟨h1,d',?_,h3.mono le⟩;unfold dT at h2 ⊢;rw [hk rfl]; exact h2
 | xW d =>
  obtain ⟨h1,d',h2,h3⟩:=o;refine ⟨h1,d',?_,h3.mono le⟩;unfold oA at h2 ⊢;rw [hk rfl]; exact h2
 | xV d =>
  obtain ⟨h1,d',h2,h3⟩:=o;refine ⟨h1,d',?_,h3.mono le⟩;unfold oA at h2 ⊢;rw [hk rfl]; exact h2
def wu.lt {P:Program} {ρ:gn} {h0 h:Hp} {pl:Pl} {a:AO} (o:wu P ρ h0 h pl a) (hl:a.live=true):pl.cj<h.size:=by
 cases a with
 | gone=>cases hl
 | row c e m=>obtain ⟨cs,f,h1,_⟩:=o; exact eX h1
 | vL d=>obtain ⟨_,d',h2,_⟩:=o; exact h2.lt
 | xW d=>obtain ⟨_,d',h2,_⟩:=o; exact h2.lt
 | xV d=>obtain ⟨_,d',h2,_⟩:=o; exact h2.lt
noncomputable def dI.put {α:Type} (t:dI α) (n:Nat) (a:α):dI α:=dI.set (n+1) t n a
def dI.vp {α:Type} (t:dI α) (n m:Nat) (a:α):(t.put n a).get m=if m=n then some a else t.get m:=dI.CW _ _ _ _ _ (Nat.lt_succ_self n)
def dI.iN {α:Type} (t:dI α) (n:Nat) (a:α):(t.put n a).get n=some a:=by rw [dI.vp,Xb rfl]
def dI.j9 {α:Type} (t:dI α) {n m:Nat} (a:α) (h:m≠n):(t.put n a).get m=t.get m:=by rw [dI.vp,W6 h]
section rel
variable {C:Cx} {h0:Hp} {ρ:gn} {σ:dI AO} {h:Hp}
def Rel.row (R:Rel C h0 ρ σ h) {b:Nat} {o:AO} (hb:σ.get b=some o) {pl:Pl} (hp:ρ b=some pl):wu C.P ρ h0 h pl o:=by
 obtain ⟨pl',h1,h2⟩:=R.obj b _ hb;rw [hp] at h1; cases h1; exact h2
def Rel.RP (R:Rel C h0 ρ σ h) {g b:Nat} {h':Hp} {σ':dI AO} {ρ':gn} {o:AO} {pl:Pl} (k:Ch [g] h h') (hg:h0.size<=g) (le:Le ρ ρ')
  (hb:σ'.get b=some o) (hp:ρ' b=some pl) (hblk:pl.cj=g) (ho:wu C.P ρ' h0 h' pl o)
  (hold:∀ x a,x≠b->σ'.get x=some a->σ.get x=some a\/a=.gone/\σ.get x≠none)
  (hap:∀ x a p,x≠b->σ'.get x=some a->a.live=true->ρ x=some p->p.cj≠g)
  (hdom:∀ x,σ'.get x=none->ρ' x=none):Rel C h0 ρ' σ' h':=by
 have hlive:∀ x a,x≠b->σ'.get x=some a->a.live=true->σ.get x=some a:=by
  intro x a hx ha hl;rcases hold x a hx ha with h1 | ⟨rfl,_⟩
  ·exact h1
  ·cases hl
 refine ⟨fun i hi=>le _ _ (R.OT i hi),R.ro,by have:=R.size; have:=k.size; omega,fun i hi=>?_,fun x a hx=>?_,fun x y a a' p p' hx hy hl hl' hpx hpy he=>?_,hdom⟩
 ·have:=R.size
  rw [k.same i ad (by simp; omega)]; exact R.base i hi
 ·by_cases hxb:x=b
  ·subst hxb; rw [hb] at hx; cases hx; exact ⟨pl,hp,ho⟩
  ·rcases hold x a hxb hx with h1 | ⟨rfl,h1⟩
   ·obtain ⟨p,e1,e2⟩:=R.obj x a h1;refine ⟨p,le _ _ e1,e2.an le fun hl=>?_⟩;exact k.same _ (e2.lt hl) (by simpa using hap x a p hxb hx hl e1)
   ·cases hs:σ.get x with
    | none=>exact (h1 hs).elim
    | some a' =>
     obtain ⟨p,e1,_⟩:=R.obj x a' hs;exact ⟨p,le _ _ e1,trivial⟩
 ·have far:∀ x a p,x≠b->σ'.get x=some a->a.live=true->ρ' x=some p->p.cj≠g:=by
   intro x a p hxb hx hl hpx;have h1:=hlive x a hxb hx hl;obtain ⟨q,e1,_⟩:=R.obj x a h1
   have:=le _ _ e1
   rw [hpx] at this; cases this;exact hap x a _ hxb hx hl e1
  by_cases hxb:x=b
  ·by_cases hyb:y=b
   ·rw [hxb,hyb]
   ·subst hxb; rw [hp] at hpx; cases hpx;exact (far y a' p' hyb hy hl' hpy (by rw [<- he,hblk])).elim
  ·by_cases hyb:y=b
   ·subst hyb; rw [hp] at hpy; cases hpy;exact (far x a p hxb hx hl hpx (by rw [he,hblk])).elim
   ·have h1:=hlive x a hxb hx hl;have h2:=hlive y a' hyb hy hl';obtain ⟨q,e1,_⟩:=R.obj x a h1;obtain ⟨q',e2,_⟩:=R.obj y a' h2;have e3:=le _ _ e1;have e4:=le _ _ e2;rw [hpx] at e3; rw [hpy] at e4; cases e3; cases e4;exact R.apart x y a a' _ _ h1 h2 hl hl' e1 e2 he
def Rel.ext (R:Rel C h0 ρ σ h) {h':Hp} (k:Ext h h'):Rel C h0 ρ σ h':=by
 refine ⟨R.OT,R.ro,XV R.size k.size,fun i hi=>?_,fun b o hb=>?_,R.apart,R.Oe⟩
 ·have:=R.size
  rw [k.same i ad aj]; exact R.base i hi
 ·obtain ⟨p,e1,e2⟩:=R.obj b o hb;exact ⟨p,e1,e2.an (Le.refl _) fun hl=>k.same _ (e2.lt hl) aj⟩
def Rel.new (R:Rel C h0 ρ σ h) {n:Nat} (hn:σ.get n=none) {o:AO} {pl:Pl} {h':Hp} (hb:h.size<=pl.cj) (k:Ext h h') (ho:wu C.P (je ρ n pl) h0 h' pl o) :
  Rel C h0 (je ρ n pl) (σ.put n o) h'/\Le ρ (je ρ n pl):=by
 have hρ:=R.Oe n hn;have le:Le ρ (je ρ n pl):=Le.je hρ;refine ⟨R.RP (k.mono aj) (g:=pl.cj) (b:=n) (XV R.size hb) le (dI.iN _ _ _) (fp _ _ _) rfl ho (fun x a hx ha=>?_) (fun x a p hx ha hl hp=>?_) (fun x hx=>?_),le⟩
 ·rw [dI.j9 _ _ hx] at ha; exact .inl ha
 ·rw [dI.j9 _ _ hx] at ha
  have:=(R.row ha hp).lt hl
  omega
 ·by_cases hxn:x=n
  ·subst hxn; rw [dI.iN] at hx; cases hx
  ·rw [dI.j9 _ _ hxn] at hx;rw [G7 hxn]; exact R.Oe x hx
def G5 {P:Program} {ρ ρ':gn} {h0 h':Hp} {c c' rest:List ZB} {e:TypeId} {m cap g:Nat} (hs:h0.size<=g) (hc:dQ ρ c c') (le:Le ρ ρ') (hb:bH h' g e (c'++rest))
  (hm:m=1->cap*P.cellsOf e=c'.length+rest.length/\cap<9223372036854775808):wu P ρ' h0 h' ⟨g,0,cap⟩ (.row c e m):=by
 refine ⟨(c'++rest).toArray,(0,0),hb,fun i v hv=>?_,fun _=>⟨rfl,hs⟩,fun h1=>?_,fun _=>rfl⟩
 ·obtain ⟨v',e1,e2⟩:=hc.get hv;refine ⟨v',?_,e2.mono le⟩
  have:i<c'.length:=by
   rcases XR i c'.length with h | h
   ·exact h
   ·rw [XI h] at e1; cases e1
  rw [XK,YP,XG this];exact e1
 ·have:=hm h1
  simp [this]
def Rel.newRow (R:Rel C h0 ρ σ h) {n:Nat} (hn:σ.get n=none) {c c' rest:List ZB} {e:TypeId} {m cap:Nat} {h':Hp} (hc:dQ ρ c c') (hb:bH h' h.size e (c'++rest)) (k:Ext h h')
  (hm:m=1->cap*C.P.cellsOf e=c'.length+rest.length/\cap<9223372036854775808) :
  Rel C h0 (je ρ n ⟨h.size,0,cap⟩) (σ.put n (.row c e m)) h'/\Le ρ (je ρ n ⟨h.size,0,cap⟩) :=
 R.new hn (Xk _) k (G5 R.size hc (Le.je (R.Oe n hn)) hb hm)
def Rel.put (R:Rel C h0 ρ σ h) {b:Nat} {o o':AO} {pl:Pl} {h':Hp} (hb:σ.get b=some o) (hl:o.live=true) (hp:ρ b=some pl) (hg:h0.size<=pl.cj) (k:Ch [pl.cj] h h') (ho:wu C.P ρ h0 h' pl o') :
  Rel C h0 ρ (σ.put b o') h':=by
 refine R.RP k hg (Le.refl _) (dI.iN _ _ _) hp rfl ho (fun x a hx ha=>?_) (fun x a p hx ha hl' hp' he=>?_) (fun x hx=>?_)
 ·rw [dI.j9 _ _ hx] at ha; exact .inl ha
 ·rw [dI.j9 _ _ hx] at ha;exact hx (R.apart x b a o p pl ha hb hl' hl hp' hp he)
 ·by_cases hxn:x=b
  ·subst hxn; rw [dI.iN] at hx; cases hx
  ·rw [dI.j9 _ _ hxn] at hx; exact R.Oe x hx
def Rel.move (R:Rel C h0 ρ σ h) {b n:Nat} {o o':AO} {pl pl':Pl} {h':Hp} (hn:σ.get n=none) (hb:σ.get b=some o) (hl:o.live=true) (hp:ρ b=some pl) (k:Ch [pl'.cj] h h')
  (hblk:pl'.cj=pl.cj\/pl'.cj=h.size) (hg:h0.size<=pl'.cj) (ho:wu C.P (je ρ n pl') h0 h' pl' o') :
  Rel C h0 (je ρ n pl') ((σ.put b .gone).put n o') h'/\Le ρ (je ρ n pl'):=by
 have hρ:=R.Oe n hn;have le:Le ρ (je ρ n pl'):=Le.je hρ;have hbn:b≠n:=fun hh=>by subst hh; rw [hn] at hb; cases hb
 refine ⟨R.RP k hg le (dI.iN _ _ _) (fp _ _ _) rfl ho (fun x a hx ha=>?_) (fun x a p hx ha hl' hp' he=>?_) (fun x hx=>?_),le⟩
 ·rw [dI.j9 _ _ hx] at ha
  by_cases hxb:x=b
  ·subst hxb; rw [dI.iN] at ha; cases ha;exact .inr ⟨rfl,by rw [hb]; simp⟩
  ·rw [dI.j9 _ _ hxb] at ha; exact .inl ha
 ·rw [dI.j9 _ _ hx] at ha
  by_cases hxb:x=b
  ·subst hxb; rw [dI.iN] at ha; cases ha; cases hl'
  ·rw [dI.j9 _ _ hxb] at ha;rcases hblk with e | e
   ·exact hxb (R.apart x b a o p pl ha hb hl' hl hp' hp (by rw [he,e]))
   ·have:=(R.row ha hp').lt hl'
    omega
 ·by_cases hxn:x=n
  ·subst hxn; rw [dI.iN] at hx; cases hx
  ·rw [dI.j9 _ _ hxn] at hx;rw [G7 hxn]
   by_cases hxb:x=b
   ·subst hxb; rw [dI.iN] at hx; cases hx
   ·rw [dI.j9 _ _ hxb] at hx; exact R.Oe x hx
theorem jm {pl:Pl} {cs:Array ZB} {e:TypeId} {f:Nat × Nat} (hg:h[pl.cj]?=some (.cells cs e f)) {off:Nat}:∀ (k:List ZB) (i:Nat),(∀ j v,k[j]?=some v->∃ v',cs[pl.sh+(off+i+j)]?=some v'/\VR ρ v v') ->
  ∃ k',dQ ρ k k'/\aJ h ⟨pl.cj,pl.sh+off,none⟩ i k'
 | [],i,_=>⟨[],.nil,trivial⟩
 | v::k,i,hk=>by
  obtain ⟨v',e1,e2⟩:=hk 0 v aj;obtain ⟨k',e3,e4⟩:=jm hg k (i+1) fun j w hw=>by
   have:=hk (j+1) w (by simpa using hw)
   rw [show off+(i+1)+j=off+i+(j+1) from ad]; exact this
  refine ⟨v'::k',.cons e2 e3,?_,e4⟩;rw [aG,jI hg,<- e1]; congr 1; omega
def Rel.store (R:Rel C h0 ρ σ h) {b:Nat} {c:List ZB} {e:TypeId} {m:Nat} (hb:σ.get b=some (.row c e m)) (hm:m≠2) {pl:Pl} (hp:ρ b=some pl) {off:Nat} {vs vs':List ZB}
  (hv:dQ ρ vs vs') (hpl:vs'.all cX=true) (h1:1<=vs.length) (hl:off+vs.length<=c.length) :
  xK h ⟨pl.cj,pl.sh+off,none⟩ 0 vs'/\Rel C h0 ρ (σ.put b (.row (la c off vs) e m)) (rp h ⟨pl.cj,pl.sh+off,none⟩ 0 vs'):=by
 obtain ⟨cs,f,hg,h2,h3,h4⟩:=R.row hb hp;obtain ⟨rfl,hgs⟩:=h3 hm;have bx:bH h pl.cj e cs.toList:=by unfold bH; simpa using hg
 have hlen:pl.sh+off+vs'.length<=cs.toList.length:=by
  rw [<- hv.length];obtain ⟨v',e1,_⟩:=h2 (off+vs.length-1) (c[off+vs.length-1]'ad) (by rw [W5])
  have:pl.sh+(off+vs.length-1)<cs.size:=by
   rcases XR (pl.sh+(off+vs.length-1)) cs.size with h | h
   ·exact h
   ·rw [XY h] at e1; cases e1
  simp; omega
 obtain ⟨k1,k2,k3,k4⟩:=lf (off:=pl.sh+off) vs' h 0 _ bx hpl (by simpa using hlen);refine ⟨k1,R.put hb rfl hp hgs k3 ⟨_,_,k2,fun i v hi=>?_,fun _=>⟨rfl,hgs⟩,fun h1=>?_,h4.2⟩⟩
 ·rw [pd _ _ _ hl] at hi;rw [YP,pd _ _ _ (by simpa using hlen),Zi];have hlen':pl.sh+off<=cs.toList.length:=ad
  rcases XR i off with hi1 | hi1
  ·rw [Xs,XG (by simp; omega),YN,Xb hi1] at hi;rw [Xs,XG (by rw [Xr]; omega),YN,Xb ad];rw [Yn];exact h2 i v hi
  ·rcases XR i (off+vs.length) with hi2 | hi2
   ·have e1:(c.take off).length=off:=by rw [Xr]; omega
    have e2:(cs.toList.take (pl.sh+off)).length=pl.sh+off:=by rw [Xr]; omega
    rw [Xs,XC ad,e1,XG ad] at hi;rw [Xs,XC ad,e2,XG (by rw [<- hv.length]; omega),show pl.sh+i-(pl.sh+off)=i-off from ad];exact hv.get hi
   ·have e1:(c.take off++vs).length=off+vs.length:=by rw [W8,Xr]; omega
    have e2:(cs.toList.take (pl.sh+off)++vs').length=pl.sh+off+vs.length:=by rw [W8,Xr,<- hv.length]; omega
    rw [XC ad,e1,YC,show off+vs.length+(i-(off+vs.length))=i from ad] at hi;rw [XC ad,e2,YC,<- hv.length,show pl.sh+off+vs.length+(pl.sh+i-(pl.sh+off+vs.length))=pl.sh+i from ad,Yn];exact h2 i v hi
 ·have:=h4.1 h1
  simpa [my] using this
end rel
end Go.Sx.Cr
