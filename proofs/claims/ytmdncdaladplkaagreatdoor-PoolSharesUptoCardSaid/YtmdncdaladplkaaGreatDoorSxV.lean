/- Part of the framework. No condition. -/
import Derived.Test.YtmdncdaladplkaaGreatDoorSxK
import Derived.Test.YtmdncdaladplkaaGreatDoorSxE
set_option linter.all false
set_option maxHeartbeats 4000000
namespace Go.Sx.Cr
structure Pl where
 cB:Nat
 sh:Nat
 cap:Nat
abbrev iv:=Nat->Option Pl
def qT:Nat:=1208925819614629174706176
def half:Nat:=604462909807314587353088
def MD (pl:Pl) (c c':Nat):Prop:=(c<half/\c'=c)\/(half<=c/\c'+qT=pl.cap+c)
mutual
inductive VR (ρ:iv):Xab->Xab->Prop
 | bool (b:Bool):VR ρ (.bool b) (.bool b)
 | int (k:IntKind) (n:Int):VR ρ (.int k n) (.int k n)
 | string (s:Xaa):VR ρ (.string s) (.string s)
 | Um:VR ρ (.pointer none) (.pointer none)
 | ptr {b:Nat} {pl:Pl} (off:Nat) (h:ρ b=some pl):VR ρ (.pointer (some ⟨b,off,none⟩)) (.pointer (some ⟨pl.cB,pl.sh+off,none⟩))
 | nu {l c:Nat} (hl:l<=c):VR ρ (.slice none l c) (.slice none l c)
 | sl {b:Nat} {pl:Pl} (off l:Nat) {c c':Nat} (h:ρ b=some pl) (hc:MD pl c c') (hl:l<=c'):VR ρ (.slice (some ⟨b,off,none⟩) l c) (.slice (some ⟨pl.cB,pl.sh+off,none⟩) l c')
 | TX:VR ρ (.map none) (.map none)
 | map {b:Nat} {pl:Pl} (h:ρ b=some pl):VR ρ (.map (some b)) (.map (some pl.cB))
 | func (f:FuncId) {a a' c c':List Xab} (h1:eu ρ a a') (h2:eu ρ c c'):VR ρ (.func (.func f) ⟨a⟩ ⟨c⟩) (.func (.func f) ⟨a'⟩ ⟨c'⟩)
 | nilFunc:VR ρ .nilFunc .nilFunc
 | nilIface:VR ρ .nilIface .nilIface
 | iface (t:TypeId) {v v':Xab} (h:VR ρ v v'):VR ρ (.iface t v) (.iface t v')
 | agg {l l':List Xab} (h:eu ρ l l'):VR ρ (.agg ⟨l⟩) (.agg ⟨l'⟩)
 | tuple {l l':List Xab} (h:eu ρ l l'):VR ρ (.tuple ⟨l⟩) (.tuple ⟨l'⟩)
inductive eu (ρ:iv):List Xab->List Xab->Prop
 | nil:eu ρ [] []
 | cons {v v':Xab} {l l':List Xab} (h:VR ρ v v') (t:eu ρ l l'):eu ρ (v::l) (v'::l')
end
def Le (ρ ρ':iv):Prop:=∀ b pl,ρ b=some pl->ρ' b=some pl
def Le.refl (ρ:iv):Le ρ ρ:=fun _ _ h=>h
def Le.trans {a b c:iv} (h:Le a b) (k:Le b c):Le a c:=fun x pl d=>k x pl (h x pl d)
mutual
theorem VR.mono {ρ ρ':iv} (le:Le ρ ρ'):∀ {v v':Xab},VR ρ v v'->VR ρ' v v'
 | _,_,.bool b=>.bool b
 | _,_,.int k n=>.int k n
 | _,_,.string s=>.string s
 | _,_,.Um=>.Um
 | _,_,.ptr off h=>.ptr off (le _ _ h)
 | _,_,.nu hl=>.nu hl
 | _,_,.sl off l h hc hl=>.sl off l (le _ _ h) hc hl
 | _,_,.TX=>.TX
 | _,_,.map h=>.map (le _ _ h)
 | _,_,.func f h1 h2=>.func f (eu.mono le h1) (eu.mono le h2)
 | _,_,.nilFunc=>.nilFunc
 | _,_,.nilIface=>.nilIface
 | _,_,.iface t h=>.iface t (VR.mono le h)
 | _,_,.agg h=>.agg (eu.mono le h)
 | _,_,.tuple h=>.tuple (eu.mono le h)
theorem eu.mono {ρ ρ':iv} (le:Le ρ ρ'):∀ {l l':List Xab},eu ρ l l'->eu ρ' l l'
 | _,_,.nil=>.nil
 | _,_,.cons h t=>.cons (VR.mono le h) (eu.mono le t)
end
theorem eu.length {ρ:iv}:∀ {l l':List Xab},eu ρ l l'->l.length=l'.length
 | _,_,.nil=>rfl
 | _,_,.cons h t=>by simp [eu.length t]
theorem eu.append {ρ:iv}:∀ {l l' k k':List Xab},eu ρ l l'->eu ρ k k'->eu ρ (l++k) (l'++k')
 | _,_,_,_,.nil,h=>h
 | _,_,_,_,.cons h t,k=>.cons h (eu.append t k)
theorem eu.get {ρ:iv}:∀ {l l':List Xab} {i:Nat} {v:Xab},eu ρ l l'->l[i]?=some v->∃ v',l'[i]?=some v'/\VR ρ v v'
 | _,_,i,v,.nil,h=>by simp at h
 | _,_,0,v,.cons (v':=v') h t,hi=>by
  simp only [List.getElem?_cons_zero,Option.some.injEq] at hi;subst hi; exact ⟨v',aj,h⟩
 | _,_,i+1,v,.cons h t,hi=>by
  simp only [List.getElem?_cons_succ] at hi ⊢;exact eu.get t hi
theorem eu.take {ρ:iv}:∀ {l l':List Xab} (n:Nat),eu ρ l l'->eu ρ (l.take n) (l'.take n)
 | _,_,0,_=>.nil
 | _,_,n+1,.nil=>.nil
 | _,_,n+1,.cons h t=>.cons h (eu.take n t)
theorem eu.drop {ρ:iv}:∀ {l l':List Xab} (n:Nat),eu ρ l l'->eu ρ (l.drop n) (l'.drop n)
 | _,_,0,h=>h
 | _,_,n+1,.nil=>.nil
 | _,_,n+1,.cons h t=>eu.drop n t
theorem eu.set {ρ:iv}:∀ {l l':List Xab} {v v':Xab} (i:Nat),eu ρ l l'->VR ρ v v'->eu ρ (l.set i v) (l'.set i v')
 | _,_,_,_,_,.nil,_=>.nil
 | _,_,_,_,0,.cons h t,hv=>.cons hv t
 | _,_,_,_,i+1,.cons h t,hv=>.cons h (eu.set i t hv)
theorem eu.RC {ρ:iv}:∀ {l l':List Xab},l.length=l'.length->(∀ (i:Nat) (v:Xab),l[i]?=some v->∃ v',l'[i]?=some v'/\VR ρ v v')->eu ρ l l'
 | [],[],_,_=>.nil
 | [],v::l,hl,_=>by simp at hl
 | v::l,[],hl,_=>by simp at hl
 | v::l,v'::l',hl,h=>by
  obtain ⟨u,h1,h2⟩:=h 0 v aj;simp only [List.getElem?_cons_zero,Option.some.injEq] at h1;subst h1;refine .cons h2 (eu.RC (by simpa using hl) fun i w a=>?_)
  have:=h (i+1) w (by simpa using a)
  simpa using this
def fU:Nat->Xab->Bool
 | _,.bool _=>true
 | _,.int _ _=>true
 | _,.string _=>true
 | _,.pointer none=>true
 | _,.slice none l c=>Nat.ble l c
 | _,.map none=>true
 | _,.nilFunc=>true
 | _,.nilIface=>true
 | n+1,.iface _ v=>fU n v
 | n+1,.agg ⟨l⟩=>l.all (fU n)
 | n+1,.tuple ⟨l⟩=>l.all (fU n)
 | _,.func (.func _) ⟨[]⟩ ⟨[]⟩=>true
 | _,_=>false
theorem rS {ρ:iv} {p:Xab->Bool} (a:∀ v,p v=true->VR ρ v v):∀ l:List Xab,l.all p=true->eu ρ l l
 | [],_=>.nil
 | v::l,h=>by
  simp only [List.all_cons,Bool.and_eq_true] at h;exact .cons (a v h.1) (rS a l h.2)
def tB {ρ:iv}:∀ (n:Nat) (v:Xab),fU n v=true->VR ρ v v:=by
 have h0:∀ (n:Nat) (v:Xab),(∀ k,n=k+1->∀ v,fU k v=true->VR ρ v v)->fU n v=true->VR ρ v v:=by
  intro n v d h;cases v with
  | bool b=>exact .bool _
  | int k n=>exact .int _ _
  | string s=>exact .string _
  | pointer p=>cases p with
   | none=>exact .Um
   | some a=>cases n <;> simp [fU] at h
  | slice p l c=>cases p with
   | none=>cases n <;> exact .nu (bk9 h)
   | some a=>cases n <;> simp [fU] at h
  | map p=>cases p with
   | none=>exact .TX
   | some a=>cases n <;> simp [fU] at h
  | nilFunc=>exact .nilFunc
  | nilIface=>exact .nilIface
  | iface t v=>cases n with
   | zero=>simp [fU] at h
   | succ n=>exact .iface _ (d n rfl v h)
  | agg c=>obtain ⟨l⟩:=c; cases n with
   | zero=>simp [fU] at h
   | succ n=>exact .agg (rS (d n rfl) l h)
  | tuple c=>obtain ⟨l⟩:=c; cases n with
   | zero=>simp [fU] at h
   | succ n=>exact .tuple (rS (d n rfl) l h)
  | func f a c =>
   obtain ⟨a⟩:=a; obtain ⟨c⟩:=c;cases f <;> cases a <;> cases c <;> cases n <;> first
    | exact .func _ .nil .nil
    | simp [fU] at h
  | float k b=>cases n <;> simp [fU] at h
  | complex k b c=>cases n <;> simp [fU] at h
  | chan r=>cases n <;> simp [fU] at h
 intro n
 induction n with
 | zero=>exact fun v=>h0 0 v fun k hk=>ad
 | succ n d=>exact fun v=>h0 (n+1) v fun k hk=>by cases hk; exact d
def oM {ρ:iv}:VR ρ undef undef:=.tuple .nil
inductive AO where
 | row (c:List Xab) (e:TypeId) (m:Nat)
 | xK (d:List (Xaa × Xab))
 | zN (d:List ((Nat × Xaa) × Xab))
 | zM (d:List ((Nat × Nat) × Xab))
 | gone
inductive dY (α:Type) where
 | nil
 | node (o:Option α) (l r:dY α)
noncomputable def dY.get {α:Type} (t:dY α):Nat->Option α :=
 dY.rec (fun _=>none) (fun o _ _ l r n=>Nat.rec o (fun m _=>Nat.rec (l (m / 2)) (fun _ _=>r (m / 2)) (m % 2)) n) t
noncomputable def dY.set {α:Type} (c:Nat):dY α->Nat->α->dY α :=
 Nat.rec (fun t _ _=>t) (fun _ b t n a=>dY.rec
  (Nat.rec (.node (some a) .nil .nil) (fun m _=>Nat.rec (.node none (b .nil (m / 2) a) .nil) (fun _ _=>.node none .nil (b .nil (m / 2) a)) (m % 2)) n)
  (fun o l r _ _=>Nat.rec (.node (some a) l r) (fun m _=>Nat.rec (.node o (b l (m / 2) a) r) (fun _ _=>.node o l (b r (m / 2) a)) (m % 2)) n) t) c
def Wc {β:Type} (a b:β) (n:Nat):Nat.rec (motive:=fun _=>β) a (fun _ _=>b) n=match n with
  | 0=>a
  | _+1=>b:=by cases n <;> rfl
def dY.vM {α:Type} (o:Option α) (l r:dY α) (n:Nat):(dY.node o l r).get n=match n with
  | 0=>o
  | m+1=>match m % 2 with
   | 0=>l.get (m / 2)
   | _+1=>r.get (m / 2):=by
 cases n with
 | zero=>rfl
 | succ m =>
  exact Wc _ _ _
def dY.set_nil {α:Type} (b n:Nat) (a:α):dY.set (b+1) (.nil:dY α) n a=match n with
   | 0=>.node (some a) .nil .nil
   | m+1=>match m % 2 with
    | 0=>.node none (dY.set b .nil (m / 2) a) .nil
    | _+1=>.node none .nil (dY.set b .nil (m / 2) a):=by
 cases n with
 | zero=>rfl
 | succ m =>
  exact Wc _ _ _
def dY.Gv {α:Type} (b:Nat) (o:Option α) (l r:dY α) (n:Nat) (a:α):dY.set (b+1) (.node o l r) n a=match n with
   | 0=>.node (some a) l r
   | m+1=>match m % 2 with
    | 0=>.node o (dY.set b l (m / 2) a) r
    | _+1=>.node o l (dY.set b r (m / 2) a):=by
 cases n with
 | zero=>rfl
 | succ m =>
  exact Wc _ _ _
def dY.get_nil {α:Type} (n:Nat):(dY.nil:dY α).get n=none:=rfl
theorem dY.Fb {α:Type}:∀ (b:Nat) (t:dY α) (n m:Nat) (a:α),n<b->(dY.set b t n a).get m=if m=n then some a else t.get m
 | 0,t,n,m,a,h=>ad
 | b+1,t,n,m,a,h=>by
  have c:∀ (o:Option α) (l r:dY α),(dY.set (b+1) (.node o l r) n a).get m=if m=n then some a else (dY.node o l r).get m:=by
   intro o l r;rw [dY.Gv];cases n with
   | zero =>
    simp only [dY.vM];cases m with
    | zero=>simp
    | succ m=>simp
   | succ n =>
    have f:n % 2=0\/n % 2=1:=ad
    cases m with
    | zero=>rcases f with e | e <;> simp [e,dY.vM]
    | succ m =>
     have i:m % 2=0\/m % 2=1:=ad
     rcases f with e | e <;> rcases i with g | g <;> simp only [e,g,dY.vM]
     ·rw [dY.Fb b l (n / 2) (m / 2) a ad]
      by_cases d:m=n
      ·subst d; simp
      ·rw [ac9 ad,ac9 ad]
     ·rw [ac9 (by intro d; omega)]
     ·rw [ac9 (by intro d; omega)]
     ·rw [dY.Fb b r (n / 2) (m / 2) a ad]
      by_cases d:m=n
      ·subst d; simp
      ·rw [ac9 ad,ac9 ad]
  cases t with
  | node o l r=>exact c o l r
  | nil =>
   have:=c none .nil .nil
   have e0:(dY.node none .nil .nil:dY α).get m=(dY.nil:dY α).get m:=by
    rw [dY.vM];cases m with
    | zero=>rfl
    | succ m=>rcases Nat.mod_two_eq_zero_or_one m with e | e <;> simp only [e] <;> rfl
   rw [e0] at this;rw [<- this,dY.set_nil,dY.Gv]
def SA (k:Nat × Xaa):Xab:=.agg #[.int .i64 (k.1:Int),.string k.2]
def GI (k:Nat × Nat):Xab:=.agg #[.int .i64 (k.1:Int),.int .i64 (k.2:Int)]
def DR {α:Type} (ρ:iv) (d a:List (α × Xab)):Prop:=d.map (·.1)=a.map (·.1)/\eu ρ (d.map (·.2)) (a.map (·.2))
def DR.mono {α:Type} {ρ ρ':iv} (le:Le ρ ρ') {d d':List (α × Xab)} (h:DR ρ d d'):DR ρ' d d':=⟨h.1,h.2.mono le⟩
def AO.live:AO->Bool
 | .gone=>false
 | _=>true
def yh (P:Program) (ρ:iv) (h0 h:Hp) (pl:Pl):AO->Prop
 | .row c e m=>∃ cs f,h[pl.cB]?=some (.cells cs e f)/\(∀ i v,c[i]?=some v->∃ v',cs[pl.sh+i]?=some v'/\VR ρ v v') /\
   (m≠2->f=(0,0)/\h0.size<=pl.cB)/\(m=1->pl.sh+pl.cap*P.cellsOf e=cs.size/\pl.cap<9223372036854775808)/\(m=0->pl.sh=0)
 | .xK d=>h0.size<=pl.cB/\∃ a,fl h pl.cB a/\DR ρ d a
 | .zN d=>h0.size<=pl.cB/\∃ a,pX SA h pl.cB a/\DR ρ d a
 | .zM d=>h0.size<=pl.cB/\∃ a,pX GI h pl.cB a/\DR ρ d a
 | .gone=>True
structure Cx where
 P:Program
 kt:TypeId
 ku:TypeId
 ki:TypeId
 U9:FuncId
 seq:FuncId
 idx:FuncId
 ng:Nat
 ro:Nat->Option (List Xab)
noncomputable def Pn (n:Nat):List Xab->Option (List Xab) :=
 Nat.rec (fun _=>some []) (fun _ a l=>List.rec none (fun v l _=>(a l).bind fun r=>some (v::r)) l) n
noncomputable def Oa (o n:Nat):List Xab->Option (List Xab) :=
 Nat.rec (Pn n) (fun _ a l=>List.rec none (fun _ l _=>a l) l) o
theorem BF:∀ (n:Nat) (l r:List Xab),Pn n l=some r->r.length=n/\∀ (j:Nat) (v:Xab),r[j]?=some v->l[j]?=some v
 | 0,_,r,h=>by
  have h:some []=some r:=h;simp only [Option.some.injEq] at h;subst h; exact ⟨rfl,fun j v hv=>by simp at hv⟩
 | n+1,[],r,h=>by cases (show none=some r from h)
 | n+1,v::l,r,h=>by
  have h:(Pn n l).bind (fun r=>some (v::r))=some r:=h;obtain ⟨k,ht,h⟩:=aa9.1 h;simp only [Option.some.injEq] at h;subst h;obtain ⟨h1,h2⟩:=BF n l k ht;refine ⟨by simp [h1],fun j u a=>?_⟩;cases j with
  | zero=>simpa using a
  | succ j=>simpa using h2 j u (by simpa using a)
theorem vC:∀ (o n:Nat) (l r:List Xab),Oa o n l=some r->r.length=n/\∀ (j:Nat) (v:Xab),r[j]?=some v->l[o+j]?=some v
 | 0,n,l,r,h=>by
  have:=BF n l r h
  simpa using this
 | o+1,n,[],r,h=>by cases (show none=some r from h)
 | o+1,n,v::l,r,h=>by
  obtain ⟨h1,h2⟩:=vC o n l r h;refine ⟨h1,fun j u a=>?_⟩;rw [show o+1+j=(o+j)+1 from ad,fa9];exact h2 j u a
structure Rel (C:Cx) (h0:Hp) (ρ:iv) (σ:dY AO) (h:Hp):Prop where
 SO:∀ g,g<C.ng->ρ g=some ⟨g,0,0⟩
 ro:∀ b c,C.ro b=some c->b<C.ng/\∃ cs e f,h0[b]?=some (.cells cs e f)/\∀ (i:Nat) (v:Xab),c[i]?=some v->cs[i]?=some v/\fU 9 v=true
 size:h0.size<=h.size
 base:∀ i,i<h0.size->h[i]?=h0[i]?
 obj:∀ b o,σ.get b=some o->∃ pl,ρ b=some pl/\yh C.P ρ h0 h pl o
 apart:∀ b b' o o' pl pl',σ.get b=some o->σ.get b'=some o'->o.live=true->o'.live=true->ρ b=some pl->ρ b'=some pl'->pl.cB=pl'.cB->b=b'
 R2:∀ b,σ.get b=none->ρ b=none
def kO (ρ:iv) (n:Nat) (pl:Pl):iv:=fun b=>if b=n then some pl else ρ b
def fN (ρ:iv) (n:Nat) (pl:Pl):kO ρ n pl n=some pl:=by simp [kO]
variable {H:Nat}
def JM {ρ:iv} {b:Nat} {pl:Pl} (h:b≠H):kO ρ H pl b=ρ b:=by simp [kO,h]
def Le.kO {ρ:iv} {n:Nat} {pl:Pl} (h:ρ n=none):Le ρ (kO ρ n pl):=fun b p a=>by
 rw [JM (fun c=>by subst c; rw [h] at a; cases a)]; exact a
def yh.an {P:Program} {ρ ρ':iv} {h0 h h':Hp} {pl:Pl} {a:AO} (le:Le ρ ρ') (o:yh P ρ h0 h pl a) (hk:a.live=true->h'[pl.cB]?=h[pl.cB]?):yh P ρ' h0 h' pl a:=by
 cases a with
 | gone=>trivial
 | row c e m =>
  obtain ⟨cs,f,h1,h2,b,j⟩:=o;refine ⟨cs,f,(hk rfl).trans h1,fun i v hv=>?_,b,j⟩;obtain ⟨v',k,l⟩:=h2 i v hv;exact ⟨v',k,l.mono le⟩
 | xK d =>
  obtain ⟨h1,g,h2,b⟩:=o;refine ⟨h1,g,?_,b.mono le⟩;unfold fl at h2 ⊢;rw [hk rfl]; exact h2
 | zN d =>
  obtain ⟨h1,g,h2,b⟩:=o;refine ⟨h1,g,?_,b.mono le⟩;unfold pX at h2 ⊢;rw [hk rfl]; exact h2
 | zM d =>
  obtain ⟨h1,g,h2,b⟩:=o;refine ⟨h1,g,?_,b.mono le⟩;unfold pX at h2 ⊢;rw [hk rfl]; exact h2
def yh.lt {P:Program} {ρ:iv} {h0 h:Hp} {pl:Pl} {a:AO} (o:yh P ρ h0 h pl a) (hl:a.live=true):pl.cB<h.size:=by
 cases a with
 | gone=>cases hl
 | row c e m=>obtain ⟨cs,f,h1,_⟩:=o; exact eV h1
 | xK d=>obtain ⟨_,b,h2,_⟩:=o; exact h2.lt
 | zN d=>obtain ⟨_,b,h2,_⟩:=o; exact h2.lt
 | zM d=>obtain ⟨_,b,h2,_⟩:=o; exact h2.lt
noncomputable def dY.put {α:Type} (t:dY α) (n:Nat) (a:α):dY α:=dY.set (n+1) t n a
def dY.xv {α:Type} (t:dY α) (n m:Nat) (a:α):(t.put n a).get m=if m=n then some a else t.get m:=dY.Fb _ _ _ _ _ (fp9 n)
def dY.jv {α:Type} (t:dY α) (n:Nat) (a:α):(t.put n a).get n=some a:=by rw [dY.xv,ag9 rfl]
def dY.gI {α:Type} (t:dY α) {m:Nat} (a:α) (h:m≠H):(t.put H a).get m=t.get m:=by rw [dY.xv,ac9 h]
section rel
variable {C:Cx} {h0:Hp} {ρ:iv} {σ:dY AO} {h:Hp}
variable {H:Nat}
def Rel.row (R:Rel C h0 ρ σ h) {o:AO} (a:σ.get H=some o) {pl:Pl} (c:ρ H=some pl):yh C.P ρ h0 h pl o:=by
 obtain ⟨pl',h1,h2⟩:=R.obj H _ a;rw [c] at h1; cases h1; exact h2
def Rel.VK (R:Rel C h0 ρ σ h) {g b:Nat} {h':Hp} {σ':dY AO} {ρ':iv} {o:AO} {pl:Pl} (k:Ch [g] h h') (I:h0.size<=g) (le:Le ρ ρ')
  (F:σ'.get b=some o) (A:ρ' b=some pl) (n:pl.cB=g) (G:yh C.P ρ' h0 h' pl o)
  (r:∀ x a,x≠b->σ'.get x=some a->σ.get x=some a\/a=.gone/\σ.get x≠none)
  (t:∀ x a p,x≠b->σ'.get x=some a->a.live=true->ρ x=some p->p.cB≠g)
  (u:∀ x,σ'.get x=none->ρ' x=none):Rel C h0 ρ' σ' h':=by
 have d:∀ x a,x≠b->σ'.get x=some a->a.live=true->σ.get x=some a:=by
  intro x a f H hl;rcases r x a f H with h1 | ⟨rfl,_⟩
  ·exact h1
  ·cases hl
 refine ⟨fun i hi=>le _ _ (R.SO i hi),R.ro,by have:=R.size; have:=k.size; omega,fun i hi=>?_,fun x a f=>?_,fun x y a a' p p' f D hl s e m B=>?_,u⟩
 ·have:=R.size
  rw [k.same i ad (by simp; omega)]; exact R.base i hi
 ·by_cases c:x=b
  ·subst c; rw [F] at f; cases f; exact ⟨pl,A,G⟩
  ·rcases r x a c f with h1 | ⟨rfl,h1⟩
   ·obtain ⟨p,l,w⟩:=R.obj x a h1;refine ⟨p,le _ _ l,w.an le fun hl=>?_⟩;exact k.same _ (w.lt hl) (by simpa using t x a p c f hl l)
   ·cases E:σ.get x with
    | none=>exact (h1 E).elim
    | some a' =>
     obtain ⟨p,l,_⟩:=R.obj x a' E;exact ⟨p,le _ _ l,trivial⟩
 ·have z:∀ x a p,x≠b->σ'.get x=some a->a.live=true->ρ' x=some p->p.cB≠g:=by
   intro x a p c f hl e;have h1:=d x a c f hl;obtain ⟨q,l,_⟩:=R.obj x a h1
   have:=le _ _ l
   rw [e] at this; cases this;exact t x a _ c f hl l
  by_cases c:x=b
  ·by_cases j:y=b
   ·rw [c,j]
   ·subst c; rw [A] at e; cases e;exact (z y a' p' j D s m (by rw [<- B,n])).elim
  ·by_cases j:y=b
   ·subst j; rw [A] at m; cases m;exact (z x a p c f hl e (by rw [B,n])).elim
   ·have h1:=d x a c f hl;have h2:=d y a' j D s;obtain ⟨q,l,_⟩:=R.obj x a h1;obtain ⟨J,w,_⟩:=R.obj y a' h2;have e3:=le _ _ l;have e4:=le _ _ w;rw [e] at e3; rw [m] at e4; cases e3; cases e4;exact R.apart x y a a' _ _ h1 h2 hl s l w B
def Rel.ext (R:Rel C h0 ρ σ h) {h':Hp} (k:Ext h h'):Rel C h0 ρ σ h':=by
 refine ⟨R.SO,R.ro,cq9 R.size k.size,fun i hi=>?_,fun b o c=>?_,R.apart,R.R2⟩
 ·have:=R.size
  rw [k.same i ad aj]; exact R.base i hi
 ·obtain ⟨p,d,a⟩:=R.obj b o c;exact ⟨p,d,a.an (Le.refl _) fun hl=>k.same _ (a.lt hl) aj⟩
def Rel.new (R:Rel C h0 ρ σ h) {n:Nat} (hn:σ.get n=none) {o:AO} {pl:Pl} {h':Hp} (f:h.size<=pl.cB) (k:Ext h h') (i:yh C.P (kO ρ n pl) h0 h' pl o) :
  Rel C h0 (kO ρ n pl) (σ.put n o) h'/\Le ρ (kO ρ n pl):=by
 have hρ:=R.R2 n hn;have le:Le ρ (kO ρ n pl):=Le.kO hρ;refine ⟨R.VK (k.mono aj) (g:=pl.cB) (b:=n) (cq9 R.size f) le (dY.jv _ _ _) (fN _ _ _) rfl i (fun x a c e=>?_) (fun x a p c e hl j=>?_) (fun x c=>?_),le⟩
 ·rw [dY.gI _ _ c] at e; exact .inl e
 ·rw [dY.gI _ _ c] at e
  have:=(R.row e j).lt hl
  omega
 ·by_cases d:x=n
  ·subst d; rw [dY.jv] at c; cases c
  ·rw [dY.gI _ _ d] at c;rw [JM d]; exact R.R2 x c
variable {O:List Xab}
def qO {P:Program} {ρ ρ':iv} {h0 h':Hp} {c' rest:List Xab} {e:TypeId} {m cap:Nat} (b:h0.size<=H) (hc:eu ρ O c') (le:Le ρ ρ') (d:bC h' H e (c'++rest))
  (f:m=1->cap*P.cellsOf e=c'.length+rest.length/\cap<9223372036854775808):yh P ρ' h0 h' ⟨H,0,cap⟩ (.row O e m):=by
 refine ⟨(c'++rest).toArray,(0,0),d,fun i v hv=>?_,fun _=>⟨rfl,b⟩,fun h1=>?_,fun _=>rfl⟩
 ·obtain ⟨v',a,j⟩:=hc.get hv;refine ⟨v',?_,j.mono le⟩
  have:i<c'.length:=by
   rcases cm9 i c'.length with h | h
   ·exact h
   ·rw [bs9 h] at a; cases a
  rw [bu9,eu9,bp9 this];exact a
 ·have:=f h1
  simp [this]
def Rel.newRow (R:Rel C h0 ρ σ h) (hn:σ.get H=none) {c c' rest:List Xab} {e:TypeId} {m cap:Nat} {h':Hp} (hc:eu ρ c c') (a:bC h' h.size e (c'++rest)) (k:Ext h h')
  (b:m=1->cap*C.P.cellsOf e=c'.length+rest.length/\cap<9223372036854775808) :
  Rel C h0 (kO ρ H ⟨h.size,0,cap⟩) (σ.put H (.row c e m)) h'/\Le ρ (kO ρ H ⟨h.size,0,cap⟩) :=
 R.new hn (aq9 _) k (qO R.size hc (Le.kO (R.R2 H hn)) a b)
def Rel.put (R:Rel C h0 ρ σ h) {b:Nat} {o o':AO} {pl:Pl} {h':Hp} (j:σ.get b=some o) (hl:o.live=true) (i:ρ b=some pl) (l:h0.size<=pl.cB) (k:Ch [pl.cB] h h') (m:yh C.P ρ h0 h' pl o') :
  Rel C h0 ρ (σ.put b o') h':=by
 refine R.VK k l (Le.refl _) (dY.jv _ _ _) i rfl m (fun x a c d=>?_) (fun x a p c d f g n=>?_) (fun x c=>?_)
 ·rw [dY.gI _ _ c] at d; exact .inl d
 ·rw [dY.gI _ _ c] at d;exact c (R.apart x b a o p pl d j f hl g i n)
 ·by_cases e:x=b
  ·subst e; rw [dY.jv] at c; cases c
  ·rw [dY.gI _ _ e] at c; exact R.R2 x c
def Rel.move (R:Rel C h0 ρ σ h) {b n:Nat} {o o':AO} {pl pl':Pl} {h':Hp} (hn:σ.get n=none) (m:σ.get b=some o) (hl:o.live=true) (q:ρ b=some pl) (k:Ch [pl'.cB] h h')
  (j:pl'.cB=pl.cB\/pl'.cB=h.size) (r:h0.size<=pl'.cB) (s:yh C.P (kO ρ n pl') h0 h' pl' o') :
  Rel C h0 (kO ρ n pl') ((σ.put b .gone).put n o') h'/\Le ρ (kO ρ n pl'):=by
 have hρ:=R.R2 n hn;have le:Le ρ (kO ρ n pl'):=Le.kO hρ;have t:b≠n:=fun u=>by subst u; rw [hn] at m; cases m
 refine ⟨R.VK k r le (dY.jv _ _ _) (fN _ _ _) rfl s (fun x a f d=>?_) (fun x a p f d g l w=>?_) (fun x f=>?_),le⟩
 ·rw [dY.gI _ _ f] at d
  by_cases c:x=b
  ·subst c; rw [dY.jv] at d; cases d;exact .inr ⟨rfl,by rw [m]; simp⟩
  ·rw [dY.gI _ _ c] at d; exact .inl d
 ·rw [dY.gI _ _ f] at d
  by_cases c:x=b
  ·subst c; rw [dY.jv] at d; cases d; cases g
  ·rw [dY.gI _ _ c] at d;rcases j with e | e
   ·exact c (R.apart x b a o p pl d m g hl l q (by rw [w,e]))
   ·have:=(R.row d l).lt g
    omega
 ·by_cases i:x=n
  ·subst i; rw [dY.jv] at f; cases f
  ·rw [dY.gI _ _ i] at f;rw [JM i]
   by_cases c:x=b
   ·subst c; rw [dY.jv] at f; cases f
   ·rw [dY.gI _ _ c] at f; exact R.R2 x f
theorem jR {pl:Pl} {cs:Array Xab} {e:TypeId} {f:Nat × Nat} (a:h[pl.cB]?=some (.cells cs e f)) {off:Nat}:∀ (k:List Xab) (i:Nat),(∀ j v,k[j]?=some v->∃ v',cs[pl.sh+(off+i+j)]?=some v'/\VR ρ v v') ->
  ∃ k',eu ρ k k'/\aH h ⟨pl.cB,pl.sh+off,none⟩ i k'
 | [],i,_=>⟨[],.nil,trivial⟩
 | v::k,i,hk=>by
  obtain ⟨v',b,c⟩:=hk 0 v aj;obtain ⟨k',d,g⟩:=jR a k (i+1) fun j w l=>by
   have:=hk (j+1) w (by simpa using l)
   rw [show off+(i+1)+j=off+i+(j+1) from ad]; exact this
  refine ⟨v'::k',.cons c d,?_,g⟩;rw [aE,r5 a,<- b]; congr 1; omega
def Rel.store (R:Rel C h0 ρ σ h) {e:TypeId} {m:Nat} (q:σ.get H=some (.row O e m)) (t:m≠2) {pl:Pl} (r:ρ H=some pl) {off:Nat} {vs a:List Xab}
  (hv:eu ρ vs a) (l:a.all dr=true) (h1:1<=vs.length) (hl:off+vs.length<=O.length) :
  zB h ⟨pl.cB,pl.sh+off,none⟩ 0 a/\Rel C h0 ρ (σ.put H (.row (lK O off vs) e m)) (tg h ⟨pl.cB,pl.sh+off,none⟩ 0 a):=by
 obtain ⟨cs,f,u,h2,w,s⟩:=R.row q r;obtain ⟨rfl,j⟩:=w t;have bx:bC h pl.cB e cs.toList:=by unfold bC; simpa using u
 have d:pl.sh+off+a.length<=cs.toList.length:=by
  rw [<- hv.length];obtain ⟨v',g,_⟩:=h2 (off+vs.length-1) (O[off+vs.length-1]'ad) (by rw [ad9])
  have:pl.sh+(off+vs.length-1)<cs.size:=by
   rcases cm9 (pl.sh+(off+vs.length-1)) cs.size with h | h
   ·exact h
   ·rw [cu9 h] at g; cases g
  simp; omega
 obtain ⟨x,y,z,A⟩:=my (off:=pl.sh+off) a h 0 _ bx l (by simpa using d);refine ⟨x,R.put q rfl r j z ⟨_,_,y,fun i v hi=>?_,fun _=>⟨rfl,j⟩,fun h1=>?_,s.2⟩⟩
 ·rw [qE _ _ _ hl] at hi;rw [eu9,qE _ _ _ (by simpa using d),ek9];have n:pl.sh+off<=cs.toList.length:=ad
  rcases cm9 i off with k | k
  ·rw [ay9,bp9 (by simp; omega),ei9,ag9 k] at hi;rw [ay9,bp9 (by rw [az9]; omega),ei9,ag9 ad];rw [dm9];exact h2 i v hi
  ·rcases cm9 i (off+vs.length) with o | o
   ·have g:(O.take off).length=off:=by rw [az9]; omega
    have p:(cs.toList.take (pl.sh+off)).length=pl.sh+off:=by rw [az9]; omega
    rw [ay9,bi9 ad,g,bp9 ad] at hi;rw [ay9,bi9 ad,p,bp9 (by rw [<- hv.length]; omega),show pl.sh+i-(pl.sh+off)=i-off from ad];exact hv.get hi
   ·have g:(O.take off++vs).length=off+vs.length:=by rw [af9,az9]; omega
    have p:(cs.toList.take (pl.sh+off)++a).length=pl.sh+off+vs.length:=by rw [af9,az9,<- hv.length]; omega
    rw [bi9 ad,g,ej9,show off+vs.length+(i-(off+vs.length))=i from ad] at hi;rw [bi9 ad,p,ej9,<- hv.length,show pl.sh+off+vs.length+(pl.sh+i-(pl.sh+off+vs.length))=pl.sh+i from ad,dm9];exact h2 i v hi
 ·have:=s.1 h1
  simpa [nJ] using this
end rel
end Go.Sx.Cr
