/- Part of the framework. No condition. -/
import Derived.Test.YtmdncdaladplkaaGreatDoorSxK
import Derived.Test.YtmdncdaladplkaaGreatDoorSxE
set_option linter.all false
set_option maxHeartbeats 4000000
namespace Go.Sx.Cr
structure Pl where
 cj:Nat
 sh:Nat
 cap:Nat
abbrev iG:=Nat->Option Pl
def rC:Nat:=1208925819614629174706176
def half:Nat:=604462909807314587353088
def Np (pl:Pl) (c c':Nat):Prop:=(c<half/\c'=c)\/(half<=c/\c'+rC=pl.cap+c)
mutual
inductive VR (ρ:iG):Xab->Xab->Prop
 | bool (b:Bool):VR ρ (.bool b) (.bool b)
 | int (k:IntKind) (n:Int):VR ρ (.int k n) (.int k n)
 | string (s:Xaa):VR ρ (.string s) (.string s)
 | Vb:VR ρ (.pointer none) (.pointer none)
 | ptr {b:Nat} {pl:Pl} (off:Nat) (h:ρ b=some pl):VR ρ (.pointer (some ⟨b,off,none⟩)) (.pointer (some ⟨pl.cj,pl.sh+off,none⟩))
 | mG {l c:Nat} (hl:l<=c):VR ρ (.slice none l c) (.slice none l c)
 | sl {b:Nat} {pl:Pl} (off l:Nat) {c c':Nat} (h:ρ b=some pl) (hc:Np pl c c') (hl:l<=c'):VR ρ (.slice (some ⟨b,off,none⟩) l c) (.slice (some ⟨pl.cj,pl.sh+off,none⟩) l c')
 | UK:VR ρ (.map none) (.map none)
 | map {b:Nat} {pl:Pl} (h:ρ b=some pl):VR ρ (.map (some b)) (.map (some pl.cj))
 | func (f:FuncId) {a a' c c':List Xab} (h1:eA ρ a a') (h2:eA ρ c c'):VR ρ (.func (.func f) ⟨a⟩ ⟨c⟩) (.func (.func f) ⟨a'⟩ ⟨c'⟩)
 | nilFunc:VR ρ .nilFunc .nilFunc
 | nilIface:VR ρ .nilIface .nilIface
 | iface (t:TypeId) {v v':Xab} (h:VR ρ v v'):VR ρ (.iface t v) (.iface t v')
 | agg {l l':List Xab} (h:eA ρ l l'):VR ρ (.agg ⟨l⟩) (.agg ⟨l'⟩)
 | tuple {l l':List Xab} (h:eA ρ l l'):VR ρ (.tuple ⟨l⟩) (.tuple ⟨l'⟩)
inductive eA (ρ:iG):List Xab->List Xab->Prop
 | nil:eA ρ [] []
 | cons {v v':Xab} {l l':List Xab} (h:VR ρ v v') (t:eA ρ l l'):eA ρ (v::l) (v'::l')
end
def Le (ρ ρ':iG):Prop:=∀ b pl,ρ b=some pl->ρ' b=some pl
def Le.refl (ρ:iG):Le ρ ρ:=λ_ _ h=>h
def Le.trans {a b c:iG} (h:Le a b) (k:Le b c):Le a c:=λx pl d=>k x pl (h x pl d)
mutual
theorem VR.mono {ρ ρ':iG} (le:Le ρ ρ'):∀ {v v':Xab},VR ρ v v'->VR ρ' v v'
 | _,_,.bool b=>.bool b
 | _,_,.int k n=>.int k n
 | _,_,.string s=>.string s
 | _,_,.Vb=>.Vb
 | _,_,.ptr off h=>.ptr off (le _ _ h)
 | _,_,.mG hl=>.mG hl
 | _,_,.sl off l h hc hl=>.sl off l (le _ _ h) hc hl
 | _,_,.UK=>.UK
 | _,_,.map h=>.map (le _ _ h)
 | _,_,.func f h1 h2=>.func f (eA.mono le h1) (eA.mono le h2)
 | _,_,.nilFunc=>.nilFunc
 | _,_,.nilIface=>.nilIface
 | _,_,.iface t h=>.iface t (VR.mono le h)
 | _,_,.agg h=>.agg (eA.mono le h)
 | _,_,.tuple h=>.tuple (eA.mono le h)
theorem eA.mono {ρ ρ':iG} (le:Le ρ ρ'):∀ {l l':List Xab},eA ρ l l'->eA ρ' l l'
 | _,_,.nil=>.nil
 | _,_,.cons h t=>.cons (VR.mono le h) (eA.mono le t)
end
theorem eA.length {ρ:iG}:∀ {l l':List Xab},eA ρ l l'->l.length=l'.length
 | _,_,.nil=>rfl
 | _,_,.cons h t=>by simp [eA.length t]
theorem eA.append {ρ:iG}:∀ {l l' k k':List Xab},eA ρ l l'->eA ρ k k'->eA ρ (l++k) (l'++k')
 | _,_,_,_,.nil,h=>h
 | _,_,_,_,.cons h t,k=>.cons h (eA.append t k)
theorem eA.get {ρ:iG}:∀ {l l':List Xab} {i:Nat} {v:Xab},eA ρ l l'->l[i]?=some v->∃ v',l'[i]?=some v'/\VR ρ v v'
 | _,_,i,v,.nil,h=>by simp at h
 | _,_,0,v,.cons (v':=v') h t,hi=>by
  simp only [List.getElem?_cons_zero,Option.some.injEq] at hi;subst hi; exact ⟨v',ai,h⟩
 | _,_,i+1,v,.cons h t,hi=>by
  simp only [List.getElem?_cons_succ] at hi ⊢;exact eA.get t hi
theorem eA.take {ρ:iG}:∀ {l l':List Xab} (n:Nat),eA ρ l l'->eA ρ (l.take n) (l'.take n)
 | _,_,0,_=>.nil
 | _,_,n+1,.nil=>.nil
 | _,_,n+1,.cons h t=>.cons h (eA.take n t)
theorem eA.drop {ρ:iG}:∀ {l l':List Xab} (n:Nat),eA ρ l l'->eA ρ (l.drop n) (l'.drop n)
 | _,_,0,h=>h
 | _,_,n+1,.nil=>.nil
 | _,_,n+1,.cons h t=>eA.drop n t
theorem eA.set {ρ:iG}:∀ {l l':List Xab} {v v':Xab} (i:Nat),eA ρ l l'->VR ρ v v'->eA ρ (l.set i v) (l'.set i v')
 | _,_,_,_,_,.nil,_=>.nil
 | _,_,_,_,0,.cons h t,hv=>.cons hv t
 | _,_,_,_,i+1,.cons h t,hv=>.cons h (eA.set i t hv)
theorem eA.Su {ρ:iG}:∀ {l l':List Xab},l.length=l'.length->(∀ (i:Nat) (v:Xab),l[i]?=some v->∃ v',l'[i]?=some v'/\VR ρ v v')->eA ρ l l'
 | [],[],_,_=>.nil
 | [],v::l,hl,_=>by simp at hl
 | v::l,[],hl,_=>by simp at hl
 | v::l,v'::l',hl,h=>by
  obtain ⟨u,h1,h2⟩:=h 0 v ai;simp only [List.getElem?_cons_zero,Option.some.injEq] at h1;subst h1;refine .cons h2 (eA.Su (by simpa using hl) λi w a=>?_)
  have:=h (i+1) w (by simpa using a)
  simpa using this
def gi:Nat->Xab->Bool
 | _,.bool _=>true
 | _,.int _ _=>true
 | _,.string _=>true
 | _,.pointer none=>true
 | _,.slice none l c=>Nat.ble l c
 | _,.map none=>true
 | _,.nilFunc=>true
 | _,.nilIface=>true
 | n+1,.iface _ v=>gi n v
 | n+1,.agg ⟨l⟩=>l.all (gi n)
 | n+1,.tuple ⟨l⟩=>l.all (gi n)
 | _,.func (.func _) ⟨[]⟩ ⟨[]⟩=>true
 | _,_=>false
theorem sI {ρ:iG} {p:Xab->Bool} (a:∀ v,p v=true->VR ρ v v):∀ l:List Xab,l.all p=true->eA ρ l l
 | [],_=>.nil
 | v::l,h=>by
  simp only [List.all_cons,Bool.and_eq_true] at h;exact .cons (a v h.1) (sI a l h.2)
def uf {ρ:iG}:∀ (n:Nat) (v:Xab),gi n v=true->VR ρ v v:=by
 have h0:∀ (n:Nat) (v:Xab),(∀ k,n=k+1->∀ v,gi k v=true->VR ρ v v)->gi n v=true->VR ρ v v:=by
  intro n v d h;cases v with
  | bool b=>exact .bool _
  | int k n=>exact .int _ _
  | string s=>exact .string _
  | pointer p=>cases p with
   | none=>exact .Vb
   | some a=>cases n <;> simp [gi] at h
  | slice p l c=>cases p with
   | none=>cases n <;> exact .mG (bk9 h)
   | some a=>cases n <;> simp [gi] at h
  | map p=>cases p with
   | none=>exact .UK
   | some a=>cases n <;> simp [gi] at h
  | nilFunc=>exact .nilFunc
  | nilIface=>exact .nilIface
  | iface t v=>cases n with
   | zero=>simp [gi] at h
   | succ n=>exact .iface _ (d n rfl v h)
  | agg c=>obtain ⟨l⟩:=c; cases n with
   | zero=>simp [gi] at h
   | succ n=>exact .agg (sI (d n rfl) l h)
  | tuple c=>obtain ⟨l⟩:=c; cases n with
   | zero=>simp [gi] at h
   | succ n=>exact .tuple (sI (d n rfl) l h)
  | func f a c =>
   obtain ⟨a⟩:=a; obtain ⟨c⟩:=c;cases f <;> cases a <;> cases c <;> cases n <;> first
    | exact .func _ .nil .nil
    | simp [gi] at h
  | float k b=>cases n <;> simp [gi] at h
  | complex k b c=>cases n <;> simp [gi] at h
  | chan r=>cases n <;> simp [gi] at h
 intro n
 induction n with
 | zero=>exact λv=>h0 0 v λk hk=>ad
 | succ n d=>exact λv=>h0 (n+1) v λk hk=>by cases hk; exact d
def pA {ρ:iG}:VR ρ undef undef:=.tuple .nil
inductive AO where
 | row (c:List Xab) (e:TypeId) (m:Nat)
 | yh (d:List (Xaa × Xab))
 | Ac (d:List ((Nat × Xaa) × Xab))
 | Ab (d:List ((Nat × Nat) × Xab))
 | gone
inductive eb (α:Type) where
 | nil
 | node (o:Option α) (l r:eb α)
noncomputable def eb.get {α:Type} (t:eb α):Nat->Option α :=
 eb.rec (λ_=>none) (λo _ _ l r n=>Nat.rec o (λm _=>Nat.rec (l (m / 2)) (λ_ _=>r (m / 2)) (m % 2)) n) t
noncomputable def eb.set {α:Type} (c:Nat):eb α->Nat->α->eb α :=
 Nat.rec (λt _ _=>t) (λ_ b t n a=>eb.rec
  (Nat.rec (.node (some a) .nil .nil) (λm _=>Nat.rec (.node none (b .nil (m / 2) a) .nil) (λ_ _=>.node none .nil (b .nil (m / 2) a)) (m % 2)) n)
  (λo l r _ _=>Nat.rec (.node (some a) l r) (λm _=>Nat.rec (.node o (b l (m / 2) a) r) (λ_ _=>.node o l (b r (m / 2) a)) (m % 2)) n) t) c
def W3 {β:Type} (a b:β) (n:Nat):Nat.rec (motive:=λ_=>β) a (λ_ _=>b) n=match n with
  | 0=>a
  | _+1=>b:=by cases n <;> rfl
def eb.wB {α:Type} (o:Option α) (l r:eb α) (n:Nat):(eb.node o l r).get n=match n with
  | 0=>o
  | m+1=>match m % 2 with
   | 0=>l.get (m / 2)
   | _+1=>r.get (m / 2):=by
 cases n with
 | zero=>rfl
 | succ m =>
  exact W3 _ _ _
def eb.set_nil {α:Type} (b n:Nat) (a:α):eb.set (b+1) (.nil:eb α) n a=match n with
   | 0=>.node (some a) .nil .nil
   | m+1=>match m % 2 with
    | 0=>.node none (eb.set b .nil (m / 2) a) .nil
    | _+1=>.node none .nil (eb.set b .nil (m / 2) a):=by
 cases n with
 | zero=>rfl
 | succ m =>
  exact W3 _ _ _
def eb.G4 {α:Type} (b:Nat) (o:Option α) (l r:eb α) (n:Nat) (a:α):eb.set (b+1) (.node o l r) n a=match n with
   | 0=>.node (some a) l r
   | m+1=>match m % 2 with
    | 0=>.node o (eb.set b l (m / 2) a) r
    | _+1=>.node o l (eb.set b r (m / 2) a):=by
 cases n with
 | zero=>rfl
 | succ m =>
  exact W3 _ _ _
def eb.get_nil {α:Type} (n:Nat):(eb.nil:eb α).get n=none:=rfl
theorem eb.FF {α:Type}:∀ (b:Nat) (t:eb α) (n m:Nat) (a:α),n<b->(eb.set b t n a).get m=if m=n then some a else t.get m
 | 0,t,n,m,a,h=>ad
 | b+1,t,n,m,a,h=>by
  have c:∀ (o:Option α) (l r:eb α),(eb.set (b+1) (.node o l r) n a).get m=if m=n then some a else (eb.node o l r).get m:=by
   intro o l r;rw [eb.G4];cases n with
   | zero =>
    simp only [eb.wB];cases m with
    | zero=>simp
    | succ m=>simp
   | succ n =>
    have f:n % 2=0\/n % 2=1:=ad
    cases m with
    | zero=>rcases f with e | e <;> simp [e,eb.wB]
    | succ m =>
     have i:m % 2=0\/m % 2=1:=ad
     rcases f with e | e <;> rcases i with g | g <;> simp only [e,g,eb.wB]
     ·rw [eb.FF b l (n / 2) (m / 2) a ad]
      by_cases d:m=n
      ·subst d; simp
      ·rw [ac9 ad,ac9 ad]
     ·rw [ac9 (by intro d; omega)]
     ·rw [ac9 (by intro d; omega)]
     ·rw [eb.FF b r (n / 2) (m / 2) a ad]
      by_cases d:m=n
      ·subst d; simp
      ·rw [ac9 ad,ac9 ad]
  cases t with
  | node o l r=>exact c o l r
  | nil =>
   have:=c none .nil .nil
   have e0:(eb.node none .nil .nil:eb α).get m=(eb.nil:eb α).get m:=by
    rw [eb.wB];cases m with
    | zero=>rfl
    | succ m=>rcases Nat.mod_two_eq_zero_or_one m with e | e <;> simp only [e] <;> rfl
   rw [e0] at this;rw [<- this,eb.set_nil,eb.G4]
def Tr (k:Nat × Xaa):Xab:=.agg #[.int .i64 (k.1:Int),.string k.2]
def Hf (k:Nat × Nat):Xab:=.agg #[.int .i64 (k.1:Int),.int .i64 (k.2:Int)]
def DR {α:Type} (ρ:iG) (d a:List (α × Xab)):Prop:=d.map (·.1)=a.map (·.1)/\eA ρ (d.map (·.2)) (a.map (·.2))
def DR.mono {α:Type} {ρ ρ':iG} (le:Le ρ ρ') {d d':List (α × Xab)} (h:DR ρ d d'):DR ρ' d d':=⟨h.1,h.2.mono le⟩
def AO.live:AO->Bool
 | .gone=>false
 | _=>true
def yF (P:Program) (ρ:iG) (h0 h:Hp) (pl:Pl):AO->Prop
 | .row c e m=>∃ cs f,h[pl.cj]?=some (.cells cs e f)/\(∀ i v,c[i]?=some v->∃ v',cs[pl.sh+i]?=some v'/\VR ρ v v') /\
   (m≠2->f=(0,0)/\h0.size<=pl.cj)/\(m=1->pl.sh+pl.cap*P.cellsOf e=cs.size/\pl.cap<9223372036854775808)/\(m=0->pl.sh=0)
 | .yh d=>h0.size<=pl.cj/\∃ a,fq h pl.cj a/\DR ρ d a
 | .Ac d=>h0.size<=pl.cj/\∃ a,qD Tr h pl.cj a/\DR ρ d a
 | .Ab d=>h0.size<=pl.cj/\∃ a,qD Hf h pl.cj a/\DR ρ d a
 | .gone=>True
structure Cx where
 P:Program
 kt:TypeId
 ku:TypeId
 ki:TypeId
 VY:FuncId
 seq:FuncId
 idx:FuncId
 ng:Nat
 ro:Nat->Option (List Xab)
noncomputable def P7 (n:Nat):List Xab->Option (List Xab) :=
 Nat.rec (λ_=>some []) (λ_ a l=>List.rec none (λv l _=>(a l).bind λr=>some (v::r)) l) n
noncomputable def OS (o n:Nat):List Xab->Option (List Xab) :=
 Nat.rec (P7 n) (λ_ a l=>List.rec none (λ_ l _=>a l) l) o
theorem BY:∀ (n:Nat) (l r:List Xab),P7 n l=some r->r.length=n/\∀ (j:Nat) (v:Xab),r[j]?=some v->l[j]?=some v
 | 0,_,r,h=>by
  have h:some []=some r:=h;simp only [Option.some.injEq] at h;subst h; exact ⟨rfl,λj v hv=>by simp at hv⟩
 | n+1,[],r,h=>by cases (show none=some r from h)
 | n+1,v::l,r,h=>by
  have h:(P7 n l).bind (λr=>some (v::r))=some r:=h;obtain ⟨k,ht,h⟩:=aa9.1 h;simp only [Option.some.injEq] at h;subst h;obtain ⟨h1,h2⟩:=BY n l k ht;refine ⟨by simp [h1],λj u a=>?_⟩;cases j with
  | zero=>simpa using a
  | succ j=>simpa using h2 j u (by simpa using a)
theorem wo:∀ (o n:Nat) (l r:List Xab),OS o n l=some r->r.length=n/\∀ (j:Nat) (v:Xab),r[j]?=some v->l[o+j]?=some v
 | 0,n,l,r,h=>by
  have:=BY n l r h
  simpa using this
 | o+1,n,[],r,h=>by cases (show none=some r from h)
 | o+1,n,v::l,r,h=>by
  obtain ⟨h1,h2⟩:=wo o n l r h;refine ⟨h1,λj u a=>?_⟩;rw [show o+1+j=(o+j)+1 from ad,fd9];exact h2 j u a
structure Rel (C:Cx) (h0:Hp) (ρ:iG) (σ:eb AO) (h:Hp):Prop where
 TG:∀ g,g<C.ng->ρ g=some ⟨g,0,0⟩
 ro:∀ b c,C.ro b=some c->b<C.ng/\∃ cs e f,h0[b]?=some (.cells cs e f)/\∀ (i:Nat) (v:Xab),c[i]?=some v->cs[i]?=some v/\gi 9 v=true
 size:h0.size<=h.size
 base:∀ i,i<h0.size->h[i]?=h0[i]?
 obj:∀ b o,σ.get b=some o->∃ pl,ρ b=some pl/\yF C.P ρ h0 h pl o
 apart:∀ b b' o o' pl pl',σ.get b=some o->σ.get b'=some o'->o.live=true->o'.live=true->ρ b=some pl->ρ b'=some pl'->pl.cj=pl'.cj->b=b'
 SX:∀ b,σ.get b=none->ρ b=none
def lG (ρ:iG) (n:Nat) (pl:Pl):iG:=λb=>if b=n then some pl else ρ b
def fW (ρ:iG) (n:Nat) (pl:Pl):lG ρ n pl n=some pl:=by simp [lG]
variable {H:Nat}
def Kr {ρ:iG} {b:Nat} {pl:Pl} (h:b≠H):lG ρ H pl b=ρ b:=by simp [lG,h]
def Le.lG {ρ:iG} {n:Nat} {pl:Pl} (h:ρ n=none):Le ρ (lG ρ n pl):=λb p a=>by
 rw [Kr (λc=>by subst c; rw [h] at a; cases a)]; exact a
def yF.aj {P:Program} {ρ ρ':iG} {h0 h h':Hp} {pl:Pl} {a:AO} (le:Le ρ ρ') (o:yF P ρ h0 h pl a) (hk:a.live=true->h'[pl.cj]?=h[pl.cj]?):yF P ρ' h0 h' pl a:=by
 cases a with
 | gone=>trivial
 | row c e m =>
  obtain ⟨cs,f,h1,h2,b,j⟩:=o;refine ⟨cs,f,(hk rfl).trans h1,λi v hv=>?_,b,j⟩;obtain ⟨v',k,l⟩:=h2 i v hv;exact ⟨v',k,l.mono le⟩
 | yh d =>
  obtain ⟨h1,g,h2,b⟩:=o;refine ⟨h1,g,?_,b.mono le⟩;unfold fq at h2 ⊢;rw [hk rfl]; exact h2
 | Ac d =>
  obtain ⟨h1,g,h2,b⟩:=o;refine ⟨h1,g,?_,b.mono le⟩;unfold qD at h2 ⊢;rw [hk rfl]; exact h2
 | Ab d =>
  obtain ⟨h1,g,h2,b⟩:=o;refine ⟨h1,g,?_,b.mono le⟩;unfold qD at h2 ⊢;rw [hk rfl]; exact h2
def yF.lt {P:Program} {ρ:iG} {h0 h:Hp} {pl:Pl} {a:AO} (o:yF P ρ h0 h pl a) (hl:a.live=true):pl.cj<h.size:=by
 cases a with
 | gone=>cases hl
 | row c e m=>obtain ⟨cs,f,h1,_⟩:=o; exact eY h1
 | yh d=>obtain ⟨_,b,h2,_⟩:=o; exact h2.lt
 | Ac d=>obtain ⟨_,b,h2,_⟩:=o; exact h2.lt
 | Ab d=>obtain ⟨_,b,h2,_⟩:=o; exact h2.lt
noncomputable def eb.put {α:Type} (t:eb α) (n:Nat) (a:α):eb α:=eb.set (n+1) t n a
def eb.xV {α:Type} (t:eb α) (n m:Nat) (a:α):(t.put n a).get m=if m=n then some a else t.get m:=eb.FF _ _ _ _ _ (Nat.lt_succ_self n)
def eb.jJ {α:Type} (t:eb α) (n:Nat) (a:α):(t.put n a).get n=some a:=by rw [eb.xV,ag9 rfl]
def eb.iV {α:Type} (t:eb α) {m:Nat} (a:α) (h:m≠H):(t.put H a).get m=t.get m:=by rw [eb.xV,ac9 h]
section rel
variable {C:Cx} {h0:Hp} {ρ:iG} {σ:eb AO} {h:Hp}
variable {H:Nat}
def Rel.row (R:Rel C h0 ρ σ h) {o:AO} (a:σ.get H=some o) {pl:Pl} (c:ρ H=some pl):yF C.P ρ h0 h pl o:=by
 obtain ⟨pl',h1,h2⟩:=R.obj H _ a;rw [c] at h1; cases h1; exact h2
def Rel.WA (R:Rel C h0 ρ σ h) {g b:Nat} {h':Hp} {σ':eb AO} {ρ':iG} {o:AO} {pl:Pl} (k:Ch [g] h h') (I:h0.size<=g) (le:Le ρ ρ')
  (F:σ'.get b=some o) (A:ρ' b=some pl) (n:pl.cj=g) (G:yF C.P ρ' h0 h' pl o)
  (r:∀ x a,x≠b->σ'.get x=some a->σ.get x=some a\/a=.gone/\σ.get x≠none)
  (t:∀ x a p,x≠b->σ'.get x=some a->a.live=true->ρ x=some p->p.cj≠g)
  (u:∀ x,σ'.get x=none->ρ' x=none):Rel C h0 ρ' σ' h':=by
 have d:∀ x a,x≠b->σ'.get x=some a->a.live=true->σ.get x=some a:=by
  intro x a f H hl;rcases r x a f H with h1 | ⟨rfl,_⟩
  ·exact h1
  ·cases hl
 refine ⟨λi hi=>le _ _ (R.TG i hi),R.ro,by have:=R.size; have:=k.size; omega,λi hi=>?_,λx a f=>?_,λx y a a' p p' f D hl s e m B=>?_,u⟩
 ·have:=R.size
  rw [k.same i ad (by simp; omega)]; exact R.base i hi
 ·by_cases c:x=b
  ·subst c; rw [F] at f; cases f; exact ⟨pl,A,G⟩
  ·rcases r x a c f with h1 | ⟨rfl,h1⟩
   ·obtain ⟨p,l,w⟩:=R.obj x a h1;refine ⟨p,le _ _ l,w.aj le λhl=>?_⟩;exact k.same _ (w.lt hl) (by simpa using t x a p c f hl l)
   ·cases E:σ.get x with
    | none=>exact (h1 E).elim
    | some a' =>
     obtain ⟨p,l,_⟩:=R.obj x a' E;exact ⟨p,le _ _ l,trivial⟩
 ·have z:∀ x a p,x≠b->σ'.get x=some a->a.live=true->ρ' x=some p->p.cj≠g:=by
   intro x a p c f hl e;have h1:=d x a c f hl;obtain ⟨q,l,_⟩:=R.obj x a h1
   have:=le _ _ l
   rw [e] at this; cases this;exact t x a _ c f hl l
  by_cases c:x=b
  ·by_cases j:y=b
   ·rw [c,j]
   ·subst c; rw [A] at e; cases e;exact (z y a' p' j D s m (by rw [<- B,n])).elim
  ·by_cases j:y=b
   ·subst j; rw [A] at m; cases m;exact (z x a p c f hl e (by rw [B,n])).elim
   ·have h1:=d x a c f hl;have h2:=d y a' j D s;obtain ⟨q,l,_⟩:=R.obj x a h1;obtain ⟨J,w,_⟩:=R.obj y a' h2;have e3:=le _ _ l;have e4:=le _ _ w;rw [e] at e3; rw [m] at e4; cases e3; cases e4;exact R.apart x y a a' _ _ h1 h2 hl s l w B
def Rel.ext (R:Rel C h0 ρ σ h) {h':Hp} (k:Ext h h'):Rel C h0 ρ σ h':=by
 refine ⟨R.TG,R.ro,cd9 R.size k.size,λi hi=>?_,λb o c=>?_,R.apart,R.SX⟩
 ·have:=R.size
  rw [k.same i ad ai]; exact R.base i hi
 ·obtain ⟨p,d,a⟩:=R.obj b o c;exact ⟨p,d,a.aj (Le.refl _) λhl=>k.same _ (a.lt hl) ai⟩
def Rel.new (R:Rel C h0 ρ σ h) {n:Nat} (hn:σ.get n=none) {o:AO} {pl:Pl} {h':Hp} (f:h.size<=pl.cj) (k:Ext h h') (i:yF C.P (lG ρ n pl) h0 h' pl o) :
  Rel C h0 (lG ρ n pl) (σ.put n o) h'/\Le ρ (lG ρ n pl):=by
 have hρ:=R.SX n hn;have le:Le ρ (lG ρ n pl):=Le.lG hρ;refine ⟨R.WA (k.mono ai) (g:=pl.cj) (b:=n) (cd9 R.size f) le (eb.jJ _ _ _) (fW _ _ _) rfl i (λx a c e=>?_) (λx a p c e hl j=>?_) (λx c=>?_),le⟩
 ·rw [eb.iV _ _ c] at e; exact .inl e
 ·rw [eb.iV _ _ c] at e
  have:=(R.row e j).lt hl
  omega
 ·by_cases d:x=n
  ·subst d; rw [eb.jJ] at c; cases c
  ·rw [eb.iV _ _ d] at c;rw [Kr d]; exact R.SX x c
variable {O:List Xab}
def Ko {P:Program} {ρ ρ':iG} {h0 h':Hp} {c' rest:List Xab} {e:TypeId} {m cap:Nat} (b:h0.size<=H) (hc:eA ρ O c') (le:Le ρ ρ') (d:br h' H e (c'++rest))
  (f:m=1->cap*P.cellsOf e=c'.length+rest.length/\cap<9223372036854775808):yF P ρ' h0 h' ⟨H,0,cap⟩ (.row O e m):=by
 refine ⟨(c'++rest).toArray,(0,0),d,λi v hv=>?_,λ_=>⟨rfl,b⟩,λh1=>?_,λ_=>rfl⟩
 ·obtain ⟨v',a,j⟩:=hc.get hv;refine ⟨v',?_,j.mono le⟩
  have:i<c'.length:=by
   rcases cj9 i c'.length with h | h
   ·exact h
   ·rw [bv9 h] at a; cases a
  rw [by9,ex9,bw9 this];exact a
 ·have:=f h1
  simp [this]
def Rel.newRow (R:Rel C h0 ρ σ h) (hn:σ.get H=none) {c c' rest:List Xab} {e:TypeId} {m cap:Nat} {h':Hp} (hc:eA ρ c c') (a:br h' h.size e (c'++rest)) (k:Ext h h')
  (b:m=1->cap*C.P.cellsOf e=c'.length+rest.length/\cap<9223372036854775808) :
  Rel C h0 (lG ρ H ⟨h.size,0,cap⟩) (σ.put H (.row c e m)) h'/\Le ρ (lG ρ H ⟨h.size,0,cap⟩) :=
 R.new hn (am9 _) k (Ko R.size hc (Le.lG (R.SX H hn)) a b)
def Rel.put (R:Rel C h0 ρ σ h) {b:Nat} {o o':AO} {pl:Pl} {h':Hp} (j:σ.get b=some o) (hl:o.live=true) (i:ρ b=some pl) (l:h0.size<=pl.cj) (k:Ch [pl.cj] h h') (m:yF C.P ρ h0 h' pl o') :
  Rel C h0 ρ (σ.put b o') h':=by
 refine R.WA k l (Le.refl _) (eb.jJ _ _ _) i rfl m (λx a c d=>?_) (λx a p c d f g n=>?_) (λx c=>?_)
 ·rw [eb.iV _ _ c] at d; exact .inl d
 ·rw [eb.iV _ _ c] at d;exact c (R.apart x b a o p pl d j f hl g i n)
 ·by_cases e:x=b
  ·subst e; rw [eb.jJ] at c; cases c
  ·rw [eb.iV _ _ e] at c; exact R.SX x c
def Rel.move (R:Rel C h0 ρ σ h) {b n:Nat} {o o':AO} {pl pl':Pl} {h':Hp} (hn:σ.get n=none) (m:σ.get b=some o) (hl:o.live=true) (q:ρ b=some pl) (k:Ch [pl'.cj] h h')
  (j:pl'.cj=pl.cj\/pl'.cj=h.size) (r:h0.size<=pl'.cj) (s:yF C.P (lG ρ n pl') h0 h' pl' o') :
  Rel C h0 (lG ρ n pl') ((σ.put b .gone).put n o') h'/\Le ρ (lG ρ n pl'):=by
 have hρ:=R.SX n hn;have le:Le ρ (lG ρ n pl'):=Le.lG hρ;have t:b≠n:=λu=>by subst u; rw [hn] at m; cases m
 refine ⟨R.WA k r le (eb.jJ _ _ _) (fW _ _ _) rfl s (λx a f d=>?_) (λx a p f d g l w=>?_) (λx f=>?_),le⟩
 ·rw [eb.iV _ _ f] at d
  by_cases c:x=b
  ·subst c; rw [eb.jJ] at d; cases d;exact .inr ⟨rfl,by rw [m]; simp⟩
  ·rw [eb.iV _ _ c] at d; exact .inl d
 ·rw [eb.iV _ _ f] at d
  by_cases c:x=b
  ·subst c; rw [eb.jJ] at d; cases d; cases g
  ·rw [eb.iV _ _ c] at d;rcases j with e | e
   ·exact c (R.apart x b a o p pl d m g hl l q (by rw [w,e]))
   ·have:=(R.row d l).lt g
    omega
 ·by_cases i:x=n
  ·subst i; rw [eb.jJ] at f; cases f
  ·rw [eb.iV _ _ i] at f;rw [Kr i]
   by_cases c:x=b
   ·subst c; rw [eb.jJ] at f; cases f
   ·rw [eb.iV _ _ c] at f; exact R.SX x f
theorem ka {pl:Pl} {cs:Array Xab} {e:TypeId} {f:Nat × Nat} (a:h[pl.cj]?=some (.cells cs e f)) {off:Nat}:∀ (k:List Xab) (i:Nat),(∀ j v,k[j]?=some v->∃ v',cs[pl.sh+(off+i+j)]?=some v'/\VR ρ v v') ->
  ∃ k',eA ρ k k'/\aH h ⟨pl.cj,pl.sh+off,none⟩ i k'
 | [],i,_=>⟨[],.nil,trivial⟩
 | v::k,i,hk=>by
  obtain ⟨v',b,c⟩:=hk 0 v ai;obtain ⟨k',d,g⟩:=ka a k (i+1) λj w l=>by
   have:=hk (j+1) w (by simpa using l)
   rw [show off+(i+1)+j=off+i+(j+1) from ad]; exact this
  refine ⟨v'::k',.cons c d,?_,g⟩;rw [aw,sQ a,<- b]; congr 1; omega
def Rel.store (R:Rel C h0 ρ σ h) {e:TypeId} {m:Nat} (q:σ.get H=some (.row O e m)) (t:m≠2) {pl:Pl} (r:ρ H=some pl) {off:Nat} {vs a:List Xab}
  (hv:eA ρ vs a) (l:a.all df=true) (h1:1<=vs.length) (hl:off+vs.length<=O.length) :
  zQ h ⟨pl.cj,pl.sh+off,none⟩ 0 a/\Rel C h0 ρ (σ.put H (.row (iw O off vs) e m)) (tS h ⟨pl.cj,pl.sh+off,none⟩ 0 a):=by
 obtain ⟨cs,f,u,h2,w,s⟩:=R.row q r;obtain ⟨rfl,j⟩:=w t;have bx:br h pl.cj e cs.toList:=by unfold br; simpa using u
 have d:pl.sh+off+a.length<=cs.toList.length:=by
  rw [<- hv.length];obtain ⟨v',g,_⟩:=h2 (off+vs.length-1) (O[off+vs.length-1]'ad) (by rw [ad9])
  have:pl.sh+(off+vs.length-1)<cs.size:=by
   rcases cj9 (pl.sh+(off+vs.length-1)) cs.size with h | h
   ·exact h
   ·rw [cx9 h] at g; cases g
  simp; omega
 obtain ⟨x,y,z,A⟩:=ni (off:=pl.sh+off) a h 0 _ bx l (by simpa using d);refine ⟨x,R.put q rfl r j z ⟨_,_,y,λi v hi=>?_,λ_=>⟨rfl,j⟩,λh1=>?_,s.2⟩⟩
 ·rw [ig _ _ _ hl] at hi;rw [ex9,ig _ _ _ (by simpa using d),eh9];have n:pl.sh+off<=cs.toList.length:=ad
  rcases cj9 i off with k | k
  ·rw [az9,bw9 (by simp; omega),eo9,ag9 k] at hi;rw [az9,bw9 (by rw [au9]; omega),eo9,ag9 ad];rw [dq9];exact h2 i v hi
  ·rcases cj9 i (off+vs.length) with o | o
   ·have g:(O.take off).length=off:=by rw [au9]; omega
    have p:(cs.toList.take (pl.sh+off)).length=pl.sh+off:=by rw [au9]; omega
    rw [az9,bp9 ad,g,bw9 ad] at hi;rw [az9,bp9 ad,p,bw9 (by rw [<- hv.length]; omega),show pl.sh+i-(pl.sh+off)=i-off from ad];exact hv.get hi
   ·have g:(O.take off++vs).length=off+vs.length:=by rw [ae9,au9]; omega
    have p:(cs.toList.take (pl.sh+off)++a).length=pl.sh+off+vs.length:=by rw [ae9,au9,<- hv.length]; omega
    rw [bp9 ad,g,ep9,show off+vs.length+(i-(off+vs.length))=i from ad] at hi;rw [bp9 ad,p,ep9,<- hv.length,show pl.sh+off+vs.length+(pl.sh+i-(pl.sh+off+vs.length))=pl.sh+i from ad,dq9];exact h2 i v hi
 ·have:=s.1 h1
  simpa [jg] using this
end rel
end Go.Sx.Cr
