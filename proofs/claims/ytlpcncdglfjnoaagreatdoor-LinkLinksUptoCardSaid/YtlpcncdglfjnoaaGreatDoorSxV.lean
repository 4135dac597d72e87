/- Closed runs, part V: values that differ by places alone; a run's store and the heap that it stands for. No condition. -/
import Derived.Test.YtlpcncdglfjnoaaGreatDoorSxK
import Derived.Test.YtlpcncdglfjnoaaGreatDoorSxE
set_option linter.all false
set_option maxHeartbeats 4000000
namespace Go.Sx.Cr
structure Pl where
 cd:Nat
 sh:Nat
 cap:Nat
abbrev fZ:=Nat->Option Pl
def pF:Nat:=1208925819614629174706176
def half:Nat:=604462909807314587353088
def Jm (pl:Pl) (c c':Nat):Prop:=(c<half/\c'=c)\/(half<=c/\c'+pF=pl.cap+c)
mutual
inductive VR (ρ:fZ):YB->YB->Prop
 | bool (b:Bool):VR ρ (.bool b) (.bool b)
 | int (k:IntKind) (n:Int):VR ρ (.int k n) (.int k n)
 | string (s:YA):VR ρ (.string s) (.string s)
 | Pq:VR ρ (.pointer none) (.pointer none)
 | ptr {b:Nat} {pl:Pl} (off:Nat) (h:ρ b=some pl):VR ρ (.pointer (some ⟨b,off,none⟩)) (.pointer (some ⟨pl.cd,pl.sh+off,none⟩))
 | lW {l c:Nat} (hl:l<=c):VR ρ (.slice none l c) (.slice none l c)
 | sl {b:Nat} {pl:Pl} (off l:Nat) {c c':Nat} (h:ρ b=some pl) (hc:Jm pl c c') (hl:l<=c'):VR ρ (.slice (some ⟨b,off,none⟩) l c) (.slice (some ⟨pl.cd,pl.sh+off,none⟩) l c')
 | P7:VR ρ (.map none) (.map none)
 | map {b:Nat} {pl:Pl} (h:ρ b=some pl):VR ρ (.map (some b)) (.map (some pl.cd))
 | func (f:FuncId) {a a' c c':List YB} (h1:dL ρ a a') (h2:dL ρ c c'):VR ρ (.func (.func f) ⟨a⟩ ⟨c⟩) (.func (.func f) ⟨a'⟩ ⟨c'⟩)
 | nilFunc:VR ρ .nilFunc .nilFunc
 | nilIface:VR ρ .nilIface .nilIface
 | iface (t:TypeId) {v v':YB} (h:VR ρ v v'):VR ρ (.iface t v) (.iface t v')
 | agg {l l':List YB} (h:dL ρ l l'):VR ρ (.agg ⟨l⟩) (.agg ⟨l'⟩)
 | tuple {l l':List YB} (h:dL ρ l l'):VR ρ (.tuple ⟨l⟩) (.tuple ⟨l'⟩)
inductive dL (ρ:fZ):List YB->List YB->Prop
 | nil:dL ρ [] []
 | cons {v v':YB} {l l':List YB} (h:VR ρ v v') (t:dL ρ l l'):dL ρ (v::l) (v'::l')
end
def Le (ρ ρ':fZ):Prop:=∀ b pl,ρ b=some pl->ρ' b=some pl
theorem Le.refl (ρ:fZ):Le ρ ρ:=fun _ _ h=>h
theorem Le.trans {a b c:fZ} (h:Le a b) (k:Le b c):Le a c:=fun x pl hx=>k x pl (h x pl hx)
mutual
theorem VR.mono {ρ ρ':fZ} (le:Le ρ ρ'):∀ {v v':YB},VR ρ v v'->VR ρ' v v'
 | _,_,.bool b=>.bool b
 | _,_,.int k n=>.int k n
 | _,_,.string s=>.string s
 | _,_,.Pq=>.Pq
 | _,_,.ptr off h=>.ptr off (le _ _ h)
 | _,_,.lW hl=>.lW hl
 | _,_,.sl off l h hc hl=>.sl off l (le _ _ h) hc hl
 | _,_,.P7=>.P7
 | _,_,.map h=>.map (le _ _ h)
 | _,_,.func f h1 h2=>.func f (dL.mono le h1) (dL.mono le h2)
 | _,_,.nilFunc=>.nilFunc
 | _,_,.nilIface=>.nilIface
 | _,_,.iface t h=>.iface t (VR.mono le h)
 | _,_,.agg h=>.agg (dL.mono le h)
 | _,_,.tuple h=>.tuple (dL.mono le h)
theorem dL.mono {ρ ρ':fZ} (le:Le ρ ρ'):∀ {l l':List YB},dL ρ l l'->dL ρ' l l'
 | _,_,.nil=>.nil
 | _,_,.cons h t=>.cons (VR.mono le h) (dL.mono le t)
end
theorem dL.length {ρ:fZ}:∀ {l l':List YB},dL ρ l l'->l.length=l'.length
 | _,_,.nil=>rfl
 | _,_,.cons h t=>by simp [dL.length t]
theorem dL.append {ρ:fZ}:∀ {l l' k k':List YB},dL ρ l l'->dL ρ k k'->dL ρ (l++k) (l'++k')
 | _,_,_,_,.nil,h=>h
 | _,_,_,_,.cons h t,k=>.cons h (dL.append t k)
theorem dL.get {ρ:fZ}:∀ {l l':List YB} {i:Nat} {v:YB},dL ρ l l'->l[i]?=some v->∃ v',l'[i]?=some v'/\VR ρ v v'
 | _,_,i,v,.nil,h=>by simp at h
 | _,_,0,v,.cons (v':=v') h t,hi=>by
  simp only [List.getElem?_cons_zero,Option.some.injEq] at hi;subst hi; exact ⟨v',aj,h⟩
 | _,_,i+1,v,.cons h t,hi=>by
  simp only [List.getElem?_cons_succ] at hi ⊢;exact dL.get t hi
theorem dL.take {ρ:fZ}:∀ {l l':List YB} (n:Nat),dL ρ l l'->dL ρ (l.take n) (l'.take n)
 | _,_,0,_=>.nil
 | _,_,n+1,.nil=>.nil
 | _,_,n+1,.cons h t=>.cons h (dL.take n t)
theorem dL.drop {ρ:fZ}:∀ {l l':List YB} (n:Nat),dL ρ l l'->dL ρ (l.drop n) (l'.drop n)
 | _,_,0,h=>h
 | _,_,n+1,.nil=>.nil
 | _,_,n+1,.cons h t=>dL.drop n t
theorem dL.set {ρ:fZ}:∀ {l l':List YB} {v v':YB} (i:Nat),dL ρ l l'->VR ρ v v'->dL ρ (l.set i v) (l'.set i v')
 | _,_,_,_,_,.nil,_=>.nil
 | _,_,_,_,0,.cons h t,hv=>.cons hv t
 | _,_,_,_,i+1,.cons h t,hv=>.cons h (dL.set i t hv)
theorem dL.NN {ρ:fZ}:∀ {l l':List YB},l.length=l'.length->(∀ (i:Nat) (v:YB),l[i]?=some v->∃ v',l'[i]?=some v'/\VR ρ v v')->dL ρ l l'
 | [],[],_,_=>.nil
 | [],v::l,hl,_=>by simp at hl
 | v::l,[],hl,_=>by simp at hl
 | v::l,v'::l',hl,h=>by
  obtain ⟨u,h1,h2⟩:=h 0 v aj;simp only [List.getElem?_cons_zero,Option.some.injEq] at h1;subst h1;refine .cons h2 (dL.NN (by simpa using hl) fun i w hw=>?_)
  have:=h (i+1) w (by simpa using hw)
  simpa using this
def fo:Nat->YB->Bool
 | _,.bool _=>true
 | _,.int _ _=>true
 | _,.string _=>true
 | _,.pointer none=>true
 | _,.slice none l c=>Nat.ble l c
 | _,.map none=>true
 | _,.nilFunc=>true
 | _,.nilIface=>true
 | n+1,.iface _ v=>fo n v
 | n+1,.agg ⟨l⟩=>l.all (fo n)
 | n+1,.tuple ⟨l⟩=>l.all (fo n)
 | _,.func (.func _) ⟨[]⟩ ⟨[]⟩=>true
 | _,_=>false
theorem qq {ρ:fZ} {p:YB->Bool} (hp:∀ v,p v=true->VR ρ v v):∀ l:List YB,l.all p=true->dL ρ l l
 | [],_=>.nil
 | v::l,h=>by
  simp only [List.all_cons,Bool.and_eq_true] at h;exact .cons (hp v h.1) (qq hp l h.2)
theorem rP {ρ:fZ}:∀ (n:Nat) (v:YB),fo n v=true->VR ρ v v:=by
 have h0:∀ (n:Nat) (v:YB),(∀ k,n=k+1->∀ v,fo k v=true->VR ρ v v)->fo n v=true->VR ρ v v:=by
  intro n v ih h;cases v with
  | bool b=>exact .bool _
  | int k n=>exact .int _ _
  | string s=>exact .string _
  | pointer p=>cases p with
   | none=>exact .Pq
   | some a=>cases n <;> simp [fo] at h
  | slice p l c=>cases p with
   | none=>cases n <;> exact .lW (WW h)
   | some a=>cases n <;> simp [fo] at h
  | map p=>cases p with
   | none=>exact .P7
   | some a=>cases n <;> simp [fo] at h
  | nilFunc=>exact .nilFunc
  | nilIface=>exact .nilIface
  | iface t v=>cases n with
   | zero=>simp [fo] at h
   | succ n=>exact .iface _ (ih n rfl v h)
  | agg c=>obtain ⟨l⟩:=c; cases n with
   | zero=>simp [fo] at h
   | succ n=>exact .agg (qq (ih n rfl) l h)
  | tuple c=>obtain ⟨l⟩:=c; cases n with
   | zero=>simp [fo] at h
   | succ n=>exact .tuple (qq (ih n rfl) l h)
  | func f a c =>
   obtain ⟨a⟩:=a; obtain ⟨c⟩:=c;cases f <;> cases a <;> cases c <;> cases n <;> first
    | exact .func _ .nil .nil
    | simp [fo] at h
  | float k b=>cases n <;> simp [fo] at h
  | complex k b c=>cases n <;> simp [fo] at h
  | chan r=>cases n <;> simp [fo] at h
 intro n
 induction n with
 | zero=>exact fun v=>h0 0 v fun k hk=>ad
 | succ n ih=>exact fun v=>h0 (n+1) v fun k hk=>by cases hk; exact ih
theorem oo {ρ:fZ}:VR ρ undef undef:=.tuple .nil
inductive AO where
 | row (c:List YB) (e:TypeId) (m:Nat)
 | vL (d:List (YA × YB))
 | xY (d:List ((Nat × YA) × YB))
 | xZ (d:List ((Nat × Nat) × YB))
 | gone
inductive dC (α:Type) where
 | nil
 | node (o:Option α) (l r:dC α)
noncomputable def dC.get {α:Type} (t:dC α):Nat->Option α :=
 dC.rec (fun _=>none) (fun o _ _ l r n=>Nat.rec o (fun m _=>Nat.rec (l (m / 2)) (fun _ _=>r (m / 2)) (m % 2)) n) t
noncomputable def dC.set {α:Type} (fu:Nat):dC α->Nat->α->dC α :=
 Nat.rec (fun t _ _=>t) (fun _ ih t n a=>dC.rec
  (Nat.rec (.node (some a) .nil .nil) (fun m _=>Nat.rec (.node none (ih .nil (m / 2) a) .nil) (fun _ _=>.node none .nil (ih .nil (m / 2) a)) (m % 2)) n)
  (fun o l r _ _=>Nat.rec (.node (some a) l r) (fun m _=>Nat.rec (.node o (ih l (m / 2) a) r) (fun _ _=>.node o l (ih r (m / 2) a)) (m % 2)) n) t) fu
theorem R3 {β:Type} (a b:β) (n:Nat):Nat.rec (motive:=fun _=>β) a (fun _ _=>b) n=match n with
  | 0=>a
  | _+1=>b:=by cases n <;> rfl
theorem dC.vc {α:Type} (o:Option α) (l r:dC α) (n:Nat):(dC.node o l r).get n=match n with
  | 0=>o
  | m+1=>match m % 2 with
   | 0=>l.get (m / 2)
   | _+1=>r.get (m / 2):=by
 cases n with
 | zero=>rfl
 | succ m =>
  exact R3 _ _ _
theorem dC.set_nil {α:Type} (fu:Nat) (n:Nat) (a:α):dC.set (fu+1) (.nil:dC α) n a=match n with
   | 0=>.node (some a) .nil .nil
   | m+1=>match m % 2 with
    | 0=>.node none (dC.set fu .nil (m / 2) a) .nil
    | _+1=>.node none .nil (dC.set fu .nil (m / 2) a):=by
 cases n with
 | zero=>rfl
 | succ m =>
  exact R3 _ _ _
theorem dC.D6 {α:Type} (fu:Nat) (o:Option α) (l r:dC α) (n:Nat) (a:α):dC.set (fu+1) (.node o l r) n a=match n with
   | 0=>.node (some a) l r
   | m+1=>match m % 2 with
    | 0=>.node o (dC.set fu l (m / 2) a) r
    | _+1=>.node o l (dC.set fu r (m / 2) a):=by
 cases n with
 | zero=>rfl
 | succ m =>
  exact R3 _ _ _
theorem dC.get_nil {α:Type} (n:Nat):(dC.nil:dC α).get n=none:=rfl
theorem dC.CT {α:Type}:∀ (fu:Nat) (t:dC α) (n m:Nat) (a:α),n<fu->(dC.set fu t n a).get m=if m=n then some a else t.get m
 | 0,t,n,m,a,h=>ad
 | fu+1,t,n,m,a,h=>by
  have key:∀ (o:Option α) (l r:dC α),(dC.set (fu+1) (.node o l r) n a).get m=if m=n then some a else (dC.node o l r).get m:=by
   intro o l r;rw [dC.D6];cases n with
   | zero =>
    simp only [dC.vc];cases m with
    | zero=>simp
    | succ m=>simp
   | succ n =>
    have e2:n % 2=0\/n % 2=1:=ad
    cases m with
    | zero=>rcases e2 with e | e <;> simp [e,dC.vc]
    | succ m =>
     have e3:m % 2=0\/m % 2=1:=ad
     rcases e2 with e | e <;> rcases e3 with e' | e' <;> simp only [e,e',dC.vc]
     ·rw [dC.CT fu l (n / 2) (m / 2) a ad]
      by_cases hh:m=n
      ·subst hh; simp
      ·rw [Ww ad,Ww ad]
     ·rw [Ww (by intro hh; omega)]
     ·rw [Ww (by intro hh; omega)]
     ·rw [dC.CT fu r (n / 2) (m / 2) a ad]
      by_cases hh:m=n
      ·subst hh; simp
      ·rw [Ww ad,Ww ad]
  cases t with
  | node o l r=>exact key o l r
  | nil =>
   have:=key none .nil .nil
   have e0:(dC.node none .nil .nil:dC α).get m=(dC.nil:dC α).get m:=by
    rw [dC.vc];cases m with
    | zero=>rfl
    | succ m=>rcases Nat.mod_two_eq_zero_or_one m with e | e <;> simp only [e] <;> rfl
   rw [e0] at this;rw [<- this,dC.set_nil,dC.D6]
def P8 (k:Nat × YA):YB:=.agg #[.int .i64 (k.1:Int),.string k.2]
def Oc (k:Nat × Nat):YB:=.agg #[.int .i64 (k.1:Int),.int .i64 (k.2:Int)]
def DR {α:Type} (ρ:fZ) (d d':List (α × YB)):Prop:=d.map (·.1)=d'.map (·.1)/\dL ρ (d.map (·.2)) (d'.map (·.2))
theorem DR.mono {α:Type} {ρ ρ':fZ} (le:Le ρ ρ') {d d':List (α × YB)} (h:DR ρ d d'):DR ρ' d d':=⟨h.1,h.2.mono le⟩
def AO.live:AO->Bool
 | .gone=>false
 | _=>true
def wW (P:Program) (ρ:fZ) (h0 h:Hp) (pl:Pl):AO->Prop
 | .row c e m=>∃ cs f,h[pl.cd]?=some (.cells cs e f)/\(∀ i v,c[i]?=some v->∃ v',cs[pl.sh+i]?=some v'/\VR ρ v v') /\
   (m≠2->f=(0,0)/\h0.size<=pl.cd)/\(m=1->pl.sh+pl.cap*P.cellsOf e=cs.size/\pl.cap<9223372036854775808)/\(m=0->pl.sh=0)
 | .vL d=>h0.size<=pl.cd/\∃ d',eA h pl.cd d'/\DR ρ d d'
 | .xY d=>h0.size<=pl.cd/\∃ d',oE P8 h pl.cd d'/\DR ρ d d'
 | .xZ d=>h0.size<=pl.cd/\∃ d',oE Oc h pl.cd d'/\DR ρ d d'
 | .gone=>True
structure Cx where
 P:Program
 kt:TypeId
 ku:TypeId
 ki:TypeId
 Ra:FuncId
 seq:FuncId
 idx:FuncId
 ng:Nat
 ro:Nat->Option (List YB)
noncomputable def KG (n:Nat):List YB->Option (List YB) :=
 Nat.rec (fun _=>some []) (fun _ ih l=>List.rec none (fun v l _=>(ih l).bind fun r=>some (v::r)) l) n
noncomputable def Kh (o n:Nat):List YB->Option (List YB) :=
 Nat.rec (KG n) (fun _ ih l=>List.rec none (fun _ l _=>ih l) l) o
theorem yV:∀ (n:Nat) (l r:List YB),KG n l=some r->r.length=n/\∀ (j:Nat) (v:YB),r[j]?=some v->l[j]?=some v
 | 0,_,r,h=>by
  have h:some []=some r:=h;simp only [Option.some.injEq] at h;subst h; exact ⟨rfl,fun j v hv=>by simp at hv⟩
 | n+1,[],r,h=>by cases (show none=some r from h)
 | n+1,v::l,r,h=>by
  have h:(KG n l).bind (fun r=>some (v::r))=some r:=h;obtain ⟨k,ht,h⟩:=Wq.1 h;simp only [Option.some.injEq] at h;subst h;obtain ⟨h1,h2⟩:=yV n l k ht;refine ⟨by simp [h1],fun j u hu=>?_⟩;cases j with
  | zero=>simpa using hu
  | succ j=>simpa using h2 j u (by simpa using hu)
theorem tO:∀ (o n:Nat) (l r:List YB),Kh o n l=some r->r.length=n/\∀ (j:Nat) (v:YB),r[j]?=some v->l[o+j]?=some v
 | 0,n,l,r,h=>by
  have:=yV n l r h
  simpa using this
 | o+1,n,[],r,h=>by cases (show none=some r from h)
 | o+1,n,v::l,r,h=>by
  obtain ⟨h1,h2⟩:=tO o n l r h;refine ⟨h1,fun j u hu=>?_⟩;rw [show o+1+j=(o+j)+1 from ad,Ya];exact h2 j u hu
structure Rel (C:Cx) (h0:Hp) (ρ:fZ) (σ:dC AO) (h:Hp):Prop where
 Qq:∀ g,g<C.ng->ρ g=some ⟨g,0,0⟩
 ro:∀ b c,C.ro b=some c->b<C.ng/\∃ cs e f,h0[b]?=some (.cells cs e f)/\∀ (i:Nat) (v:YB),c[i]?=some v->cs[i]?=some v/\fo 9 v=true
 size:h0.size<=h.size
 base:∀ i,i<h0.size->h[i]?=h0[i]?
 obj:∀ b o,σ.get b=some o->∃ pl,ρ b=some pl/\wW C.P ρ h0 h pl o
 apart:∀ b b' o o' pl pl',σ.get b=some o->σ.get b'=some o'->o.live=true->o'.live=true->ρ b=some pl->ρ b'=some pl'->pl.cd=pl'.cd->b=b'
 N6:∀ b,σ.get b=none->ρ b=none
def jO (ρ:fZ) (n:Nat) (pl:Pl):fZ:=fun b=>if b=n then some pl else ρ b
theorem fg (ρ:fZ) (n:Nat) (pl:Pl):jO ρ n pl n=some pl:=by simp [jO]
theorem G0 {ρ:fZ} {n b:Nat} {pl:Pl} (h:b≠n):jO ρ n pl b=ρ b:=by simp [jO,h]
theorem Le.jO {ρ:fZ} {n:Nat} {pl:Pl} (h:ρ n=none):Le ρ (jO ρ n pl):=fun b p hb=>by
 rw [G0 (fun hh=>by subst hh; rw [h] at hb; cases hb)]; exact hb
theorem wW.ao {P:Program} {ρ ρ':fZ} {h0 h h':Hp} {pl:Pl} {a:AO} (le:Le ρ ρ') (o:wW P ρ h0 h pl a) (hk:a.live=true->h'[pl.cd]?=h[pl.cd]?):wW P ρ' h0 h' pl a:=by
 cases a with
 | gone=>trivial
 | row c e m =>
  obtain ⟨cs,f,h1,h2,h3,h4⟩:=o;refine ⟨cs,f,(hk rfl).trans h1,fun i v hv=>?_,h3,h4⟩;obtain ⟨v',e1,e2⟩:=h2 i v hv;exact ⟨v',e1,e2.mono le⟩
 | vL d =>
  obtain ⟨h1,d',h2,h3⟩:=o;refine ⟨h1,d',?_,h3.mono le⟩;unfold eA at h2 ⊢;rw [hk rfl]; exact h2
 | xY d =>
  obtain ⟨h1,d',h2,h3⟩:=o;refine ⟨h1,d',?_,h3.mono le⟩;unfold oE at h2 ⊢;rw [hk rfl]; exact h2
 | xZ d =>
  obtain ⟨h1,d',h2,h3⟩:=o;refine ⟨h1,d',?_,h3.mono le⟩;unfold oE at h2 ⊢;rw [hk rfl]; exact h2
theorem wW.lt {P:Program} {ρ:fZ} {h0 h:Hp} {pl:Pl} {a:AO} (o:wW P ρ h0 h pl a) (hl:a.live=true):pl.cd<h.size:=by
 cases a with
 | gone=>cases hl
 | row c e m=>obtain ⟨cs,f,h1,_⟩:=o; exact eP h1
 | vL d=>obtain ⟨_,d',h2,_⟩:=o; exact h2.lt
 | xY d=>obtain ⟨_,d',h2,_⟩:=o; exact h2.lt
 | xZ d=>obtain ⟨_,d',h2,_⟩:=o; exact h2.lt
noncomputable def dC.put {α:Type} (t:dC α) (n:Nat) (a:α):dC α:=dC.set (n+1) t n a
theorem dC.uk {α:Type} (t:dC α) (n m:Nat) (a:α):(t.put n a).get m=if m=n then some a else t.get m:=dC.CT _ _ _ _ _ (Nat.lt_succ_self n)
theorem dC.iI {α:Type} (t:dC α) (n:Nat) (a:α):(t.put n a).get n=some a:=by rw [dC.uk,WC rfl]
theorem dC.jV {α:Type} (t:dC α) {n m:Nat} (a:α) (h:m≠n):(t.put n a).get m=t.get m:=by rw [dC.uk,Ww h]
section rel
variable {C:Cx} {h0:Hp} {ρ:fZ} {σ:dC AO} {h:Hp}
theorem Rel.row (R:Rel C h0 ρ σ h) {b:Nat} {o:AO} (hb:σ.get b=some o) {pl:Pl} (hp:ρ b=some pl):wW C.P ρ h0 h pl o:=by
 obtain ⟨pl',h1,h2⟩:=R.obj b _ hb;rw [hp] at h1; cases h1; exact h2
theorem Rel.R8 (R:Rel C h0 ρ σ h) {g b:Nat} {h':Hp} {σ':dC AO} {ρ':fZ} {o:AO} {pl:Pl} (k:Ch [g] h h') (hg:h0.size<=g) (le:Le ρ ρ')
  (hb:σ'.get b=some o) (hp:ρ' b=some pl) (hblk:pl.cd=g) (ho:wW C.P ρ' h0 h' pl o)
  (hold:∀ x a,x≠b->σ'.get x=some a->σ.get x=some a\/a=.gone/\σ.get x≠none)
  (hap:∀ x a p,x≠b->σ'.get x=some a->a.live=true->ρ x=some p->p.cd≠g)
  (hdom:∀ x,σ'.get x=none->ρ' x=none):Rel C h0 ρ' σ' h':=by
 have hlive:∀ x a,x≠b->σ'.get x=some a->a.live=true->σ.get x=some a:=by
  intro x a hx ha hl;rcases hold x a hx ha with h1 | ⟨rfl,_⟩
  ·exact h1
  ·cases hl
 refine ⟨fun i hi=>le _ _ (R.Qq i hi),R.ro,by have:=R.size; have:=k.size; omega,fun i hi=>?_,fun x a hx=>?_,fun x y a a' p p' hx hy hl hl' hpx hpy he=>?_,hdom⟩
 ·have:=R.size
  rw [k.same i ad (by simp; omega)]; exact R.base i hi
 ·by_cases hxb:x=b
  ·subst hxb; rw [hb] at hx; cases hx; exact ⟨pl,hp,ho⟩
  ·rcases hold x a hxb hx with h1 | ⟨rfl,h1⟩
   ·obtain ⟨p,e1,e2⟩:=R.obj x a h1;refine ⟨p,le _ _ e1,e2.ao le fun hl=>?_⟩;exact k.same _ (e2.lt hl) (by simpa using hap x a p hxb hx hl e1)
   ·cases hs:σ.get x with
    | none=>exact (h1 hs).elim
    | some a' =>
     obtain ⟨p,e1,_⟩:=R.obj x a' hs;exact ⟨p,le _ _ e1,trivial⟩
 ·have far:∀ x a p,x≠b->σ'.get x=some a->a.live=true->ρ' x=some p->p.cd≠g:=by
   intro x a p hxb hx hl hpx;have h1:=hlive x a hxb hx hl;obtain ⟨q,e1,_⟩:=R.obj x a h1
   have:=le _ _ e1
   rw [hpx] at this; cases this;exact hap x a _ hxb hx hl e1
  by_cases hxb:x=b
  ·by_cases hyb:y=b
   ·rw [hxb,hyb]
   ·subst hxb; rw [hp] at hpx; cases hpx;exact (far y a' p' hyb hy hl' hpy (by rw [<- he,hblk])).elim
  ·by_cases hyb:y=b
   ·subst hyb; rw [hp] at hpy; cases hpy;exact (far x a p hxb hx hl hpx (by rw [he,hblk])).elim
   ·have h1:=hlive x a hxb hx hl;have h2:=hlive y a' hyb hy hl';obtain ⟨q,e1,_⟩:=R.obj x a h1;obtain ⟨q',e2,_⟩:=R.obj y a' h2;have e3:=le _ _ e1;have e4:=le _ _ e2;rw [hpx] at e3; rw [hpy] at e4; cases e3; cases e4;exact R.apart x y a a' _ _ h1 h2 hl hl' e1 e2 he
theorem Rel.ext (R:Rel C h0 ρ σ h) {h':Hp} (k:Ext h h'):Rel C h0 ρ σ h':=by
 refine ⟨R.Qq,R.ro,Xw R.size k.size,fun i hi=>?_,fun b o hb=>?_,R.apart,R.N6⟩
 ·have:=R.size
  rw [k.same i ad aj]; exact R.base i hi
 ·obtain ⟨p,e1,e2⟩:=R.obj b o hb;exact ⟨p,e1,e2.ao (Le.refl _) fun hl=>k.same _ (e2.lt hl) aj⟩
theorem Rel.new (R:Rel C h0 ρ σ h) {n:Nat} (hn:σ.get n=none) {o:AO} {pl:Pl} {h':Hp} (hb:h.size<=pl.cd) (k:Ext h h') (ho:wW C.P (jO ρ n pl) h0 h' pl o) :
  Rel C h0 (jO ρ n pl) (σ.put n o) h'/\Le ρ (jO ρ n pl):=by
 have hρ:=R.N6 n hn;have le:Le ρ (jO ρ n pl):=Le.jO hρ;refine ⟨R.R8 (k.mono aj) (g:=pl.cd) (b:=n) (Xw R.size hb) le (dC.iI _ _ _) (fg _ _ _) rfl ho (fun x a hx ha=>?_) (fun x a p hx ha hl hp=>?_) (fun x hx=>?_),le⟩
 ·rw [dC.jV _ _ hx] at ha; exact .inl ha
 ·rw [dC.jV _ _ hx] at ha
  have:=(R.row ha hp).lt hl
  omega
 ·by_cases hxn:x=n
  ·subst hxn; rw [dC.iI] at hx; cases hx
  ·rw [dC.jV _ _ hxn] at hx;rw [G0 hxn]; exact R.N6 x hx
theorem Gc {P:Program} {ρ ρ':fZ} {h0 h':Hp} {c c' rest:List YB} {e:TypeId} {m cap g:Nat} (hs:h0.size<=g) (hc:dL ρ c c') (le:Le ρ ρ') (hb:bC h' g e (c'++rest))
  (hm:m=1->cap*P.cellsOf e=c'.length+rest.length/\cap<9223372036854775808):wW P ρ' h0 h' ⟨g,0,cap⟩ (.row c e m):=by
 refine ⟨(c'++rest).toArray,(0,0),hb,fun i v hv=>?_,fun _=>⟨rfl,hs⟩,fun h1=>?_,fun _=>rfl⟩
 ·obtain ⟨v',e1,e2⟩:=hc.get hv;refine ⟨v',?_,e2.mono le⟩
  have:i<c'.length:=by
   rcases Xg i c'.length with h | h
   ·exact h
   ·rw [W2 h] at e1; cases e1
  rw [Xa,X8,WZ this];exact e1
 ·have:=hm h1
  simp [this]
theorem Rel.newRow (R:Rel C h0 ρ σ h) {n:Nat} (hn:σ.get n=none) {c c' rest:List YB} {e:TypeId} {m cap:Nat} {h':Hp} (hc:dL ρ c c') (hb:bC h' h.size e (c'++rest)) (k:Ext h h')
  (hm:m=1->cap*C.P.cellsOf e=c'.length+rest.length/\cap<9223372036854775808) :
  Rel C h0 (jO ρ n ⟨h.size,0,cap⟩) (σ.put n (.row c e m)) h'/\Le ρ (jO ρ n ⟨h.size,0,cap⟩) :=
 R.new hn (WH _) k (Gc R.size hc (Le.jO (R.N6 n hn)) hb hm)
theorem Rel.put (R:Rel C h0 ρ σ h) {b:Nat} {o o':AO} {pl:Pl} {h':Hp} (hb:σ.get b=some o) (hl:o.live=true) (hp:ρ b=some pl) (hg:h0.size<=pl.cd) (k:Ch [pl.cd] h h') (ho:wW C.P ρ h0 h' pl o') :
  Rel C h0 ρ (σ.put b o') h':=by
 refine R.R8 k hg (Le.refl _) (dC.iI _ _ _) hp rfl ho (fun x a hx ha=>?_) (fun x a p hx ha hl' hp' he=>?_) (fun x hx=>?_)
 ·rw [dC.jV _ _ hx] at ha; exact .inl ha
 ·rw [dC.jV _ _ hx] at ha;exact hx (R.apart x b a o p pl ha hb hl' hl hp' hp he)
 ·by_cases hxn:x=b
  ·subst hxn; rw [dC.iI] at hx; cases hx
  ·rw [dC.jV _ _ hxn] at hx; exact R.N6 x hx
theorem Rel.move (R:Rel C h0 ρ σ h) {b n:Nat} {o o':AO} {pl pl':Pl} {h':Hp} (hn:σ.get n=none) (hb:σ.get b=some o) (hl:o.live=true) (hp:ρ b=some pl) (k:Ch [pl'.cd] h h')
  (hblk:pl'.cd=pl.cd\/pl'.cd=h.size) (hg:h0.size<=pl'.cd) (ho:wW C.P (jO ρ n pl') h0 h' pl' o') :
  Rel C h0 (jO ρ n pl') ((σ.put b .gone).put n o') h'/\Le ρ (jO ρ n pl'):=by
 have hρ:=R.N6 n hn;have le:Le ρ (jO ρ n pl'):=Le.jO hρ;have hbn:b≠n:=fun hh=>by subst hh; rw [hn] at hb; cases hb
 refine ⟨R.R8 k hg le (dC.iI _ _ _) (fg _ _ _) rfl ho (fun x a hx ha=>?_) (fun x a p hx ha hl' hp' he=>?_) (fun x hx=>?_),le⟩
 ·rw [dC.jV _ _ hx] at ha
  by_cases hxb:x=b
  ·subst hxb; rw [dC.iI] at ha; cases ha;exact .inr ⟨rfl,by rw [hb]; simp⟩
  ·rw [dC.jV _ _ hxb] at ha; exact .inl ha
 ·rw [dC.jV _ _ hx] at ha
  by_cases hxb:x=b
  ·subst hxb; rw [dC.iI] at ha; cases ha; cases hl'
  ·rw [dC.jV _ _ hxb] at ha;rcases hblk with e | e
   ·exact hxb (R.apart x b a o p pl ha hb hl' hl hp' hp (by rw [he,e]))
   ·have:=(R.row ha hp').lt hl'
    omega
 ·by_cases hxn:x=n
  ·subst hxn; rw [dC.iI] at hx; cases hx
  ·rw [dC.jV _ _ hxn] at hx;rw [G0 hxn]
   by_cases hxb:x=b
   ·subst hxb; rw [dC.iI] at hx; cases hx
   ·rw [dC.jV _ _ hxb] at hx; exact R.N6 x hx
theorem jj {pl:Pl} {cs:Array YB} {e:TypeId} {f:Nat × Nat} (hg:h[pl.cd]?=some (.cells cs e f)) {off:Nat}:∀ (k:List YB) (i:Nat),(∀ j v,k[j]?=some v->∃ v',cs[pl.sh+(off+i+j)]?=some v'/\VR ρ v v') ->
  ∃ k',dL ρ k k'/\aG h ⟨pl.cd,pl.sh+off,none⟩ i k'
 | [],i,_=>⟨[],.nil,trivial⟩
 | v::k,i,hk=>by
  obtain ⟨v',e1,e2⟩:=hk 0 v aj;obtain ⟨k',e3,e4⟩:=jj hg k (i+1) fun j w hw=>by
   have:=hk (j+1) w (by simpa using hw)
   rw [show off+(i+1)+j=off+i+(j+1) from ad]; exact this
  refine ⟨v'::k',.cons e2 e3,?_,e4⟩;rw [aE,qH hg,<- e1]; congr 1; omega
theorem Rel.store (R:Rel C h0 ρ σ h) {b:Nat} {c:List YB} {e:TypeId} {m:Nat} (hb:σ.get b=some (.row c e m)) (hm:m≠2) {pl:Pl} (hp:ρ b=some pl) {off:Nat} {vs vs':List YB}
  (hv:dL ρ vs vs') (hpl:vs'.all cS=true) (h1:1<=vs.length) (hl:off+vs.length<=c.length) :
  xD h ⟨pl.cd,pl.sh+off,none⟩ 0 vs'/\Rel C h0 ρ (σ.put b (.row (lG c off vs) e m)) (ri h ⟨pl.cd,pl.sh+off,none⟩ 0 vs'):=by
 obtain ⟨cs,f,hg,h2,h3,h4⟩:=R.row hb hp;obtain ⟨rfl,hgs⟩:=h3 hm;have bx:bC h pl.cd e cs.toList:=by unfold bC; simpa using hg
 have hlen:pl.sh+off+vs'.length<=cs.toList.length:=by
  rw [<- hv.length];obtain ⟨v',e1,_⟩:=h2 (off+vs.length-1) (c[off+vs.length-1]'ad) (by rw [Wu])
  have:pl.sh+(off+vs.length-1)<cs.size:=by
   rcases Xg (pl.sh+(off+vs.length-1)) cs.size with h | h
   ·exact h
   ·rw [Xm h] at e1; cases e1
  simp; omega
 obtain ⟨k1,k2,k3,k4⟩:=lN (off:=pl.sh+off) vs' h 0 _ bx hpl (by simpa using hlen);refine ⟨k1,R.put hb rfl hp hgs k3 ⟨_,_,k2,fun i v hi=>?_,fun _=>⟨rfl,hgs⟩,fun h1=>?_,h4.2⟩⟩
 ·rw [oO _ _ _ hl] at hi;rw [X8,oO _ _ _ (by simpa using hlen),Yt];have hlen':pl.sh+off<=cs.toList.length:=ad
  rcases Xg i off with hi1 | hi1
  ·rw [WU,WZ (by simp; omega),X7,WC hi1] at hi;rw [WU,WZ (by rw [WO]; omega),X7,WC ad];rw [XF];exact h2 i v hi
  ·rcases Xg i (off+vs.length) with hi2 | hi2
   ·have e1:(c.take off).length=off:=by rw [WO]; omega
    have e2:(cs.toList.take (pl.sh+off)).length=pl.sh+off:=by rw [WO]; omega
    rw [WU,WX ad,e1,WZ ad] at hi;rw [WU,WX ad,e2,WZ (by rw [<- hv.length]; omega),show pl.sh+i-(pl.sh+off)=i-off from ad];exact hv.get hi
   ·have e1:(c.take off++vs).length=off+vs.length:=by rw [Wv,WO]; omega
    have e2:(cs.toList.take (pl.sh+off)++vs').length=pl.sh+off+vs.length:=by rw [Wv,WO,<- hv.length]; omega
    rw [WX ad,e1,XV,show off+vs.length+(i-(off+vs.length))=i from ad] at hi;rw [WX ad,e2,XV,<- hv.length,show pl.sh+off+vs.length+(pl.sh+i-(pl.sh+off+vs.length))=pl.sh+i from ad,XF];exact h2 i v hi
 ·have:=h4.1 h1
  simpa [mu] using this
end rel
end Go.Sx.Cr
