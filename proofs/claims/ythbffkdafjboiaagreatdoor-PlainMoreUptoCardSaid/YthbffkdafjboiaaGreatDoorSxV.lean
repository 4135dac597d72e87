/- Part of the framework. No condition. -/
import Derived.Test.YthbffkdafjboiaaGreatDoorSxK
import Derived.Test.YthbffkdafjboiaaGreatDoorSxE
set_option linter.all false
set_option maxHeartbeats 4000000
namespace Go.Sx.Cr
structure Pl where
 cr:Nat
 sh:Nat
 cap:Nat
abbrev gn:=Nat->Option Pl
def pT:Nat:=1208925819614629174706176
def half:Nat:=604462909807314587353088
def Kk (pl:Pl) (c c':Nat):Prop:=(c<half/\c'=c)\/(half<=c/\c'+pT=pl.cap+c)
mutual
inductive VR (ρ:gn):Xab->Xab->Prop
 | bool (b:Bool):VR ρ (.bool b) (.bool b)
 | int (k:IntKind) (n:Int):VR ρ (.int k n) (.int k n)
 | string (s:Xaa):VR ρ (.string s) (.string s)
 | Rt:VR ρ (.pointer none) (.pointer none)
 | ptr {b:Nat} {pl:Pl} (off:Nat) (h:ρ b=some pl):VR ρ (.pointer (some ⟨b,off,none⟩)) (.pointer (some ⟨pl.cr,pl.sh+off,none⟩))
 | mj {l c:Nat} (hl:l<=c):VR ρ (.slice none l c) (.slice none l c)
 | sl {b:Nat} {pl:Pl} (off l:Nat) {c c':Nat} (h:ρ b=some pl) (hc:Kk pl c c') (hl:l<=c'):VR ρ (.slice (some ⟨b,off,none⟩) l c) (.slice (some ⟨pl.cr,pl.sh+off,none⟩) l c')
 | Q1:VR ρ (.map none) (.map none)
 | map {b:Nat} {pl:Pl} (h:ρ b=some pl):VR ρ (.map (some b)) (.map (some pl.cr))
 | func (f:FuncId) {a a' c c':List Xab} (h1:dS ρ a a') (h2:dS ρ c c'):VR ρ (.func (.func f) ⟨a⟩ ⟨c⟩) (.func (.func f) ⟨a'⟩ ⟨c'⟩)
 | nilFunc:VR ρ .nilFunc .nilFunc
 | nilIface:VR ρ .nilIface .nilIface
 | iface (t:TypeId) {v v':Xab} (h:VR ρ v v'):VR ρ (.iface t v) (.iface t v')
 | agg {l l':List Xab} (h:dS ρ l l'):VR ρ (.agg ⟨l⟩) (.agg ⟨l'⟩)
 | tuple {l l':List Xab} (h:dS ρ l l'):VR ρ (.tuple ⟨l⟩) (.tuple ⟨l'⟩)
inductive dS (ρ:gn):List Xab->List Xab->Prop
 | nil:dS ρ [] []
 | cons {v v':Xab} {l l':List Xab} (h:VR ρ v v') (t:dS ρ l l'):dS ρ (v::l) (v'::l')
end
def Le (ρ ρ':gn):Prop:=∀ b pl,ρ b=some pl->ρ' b=some pl
def Le.refl (ρ:gn):Le ρ ρ:=fun _ _ h=>h
def Le.trans {a b c:gn} (h:Le a b) (k:Le b c):Le a c:=fun x pl hx=>k x pl (h x pl hx)
mutual
theorem VR.mono {ρ ρ':gn} (le:Le ρ ρ'):∀ {v v':Xab},VR ρ v v'->VR ρ' v v'
 | _,_,.bool b=>.bool b
 | _,_,.int k n=>.int k n
 | _,_,.string s=>.string s
 | _,_,.Rt=>.Rt
 | _,_,.ptr off h=>.ptr off (le _ _ h)
 | _,_,.mj hl=>.mj hl
 | _,_,.sl off l h hc hl=>.sl off l (le _ _ h) hc hl
 | _,_,.Q1=>.Q1
 | _,_,.map h=>.map (le _ _ h)
 | _,_,.func f h1 h2=>.func f (dS.mono le h1) (dS.mono le h2)
 | _,_,.nilFunc=>.nilFunc
 | _,_,.nilIface=>.nilIface
 | _,_,.iface t h=>.iface t (VR.mono le h)
 | _,_,.agg h=>.agg (dS.mono le h)
 | _,_,.tuple h=>.tuple (dS.mono le h)
theorem dS.mono {ρ ρ':gn} (le:Le ρ ρ'):∀ {l l':List Xab},dS ρ l l'->dS ρ' l l'
 | _,_,.nil=>.nil
 | _,_,.cons h t=>.cons (VR.mono le h) (dS.mono le t)
end
theorem dS.length {ρ:gn}:∀ {l l':List Xab},dS ρ l l'->l.length=l'.length
 | _,_,.nil=>rfl
 | _,_,.cons h t=>by simp [dS.length t]
theorem dS.append {ρ:gn}:∀ {l l' k k':List Xab},dS ρ l l'->dS ρ k k'->dS ρ (l++k) (l'++k')
 | _,_,_,_,.nil,h=>h
 | _,_,_,_,.cons h t,k=>.cons h (dS.append t k)
theorem dS.get {ρ:gn}:∀ {l l':List Xab} {i:Nat} {v:Xab},dS ρ l l'->l[i]?=some v->∃ v',l'[i]?=some v'/\VR ρ v v'
 | _,_,i,v,.nil,h=>by simp at h
 | _,_,0,v,.cons (v':=v') h t,hi=>by
  simp only [List.getElem?_cons_zero,Option.some.injEq] at hi;subst hi; exact ⟨v',aj,h⟩
 | _,_,i+1,v,.cons h t,hi=>by
  simp only [List.getElem?_cons_succ] at hi ⊢;exact dS.get t hi
theorem dS.take {ρ:gn}:∀ {l l':List Xab} (n:Nat),dS ρ l l'->dS ρ (l.take n) (l'.take n)
 | _,_,0,_=>.nil
 | _,_,n+1,.nil=>.nil
 | _,_,n+1,.cons h t=>.cons h (dS.take n t)
theorem dS.drop {ρ:gn}:∀ {l l':List Xab} (n:Nat),dS ρ l l'->dS ρ (l.drop n) (l'.drop n)
 | _,_,0,h=>h
 | _,_,n+1,.nil=>.nil
 | _,_,n+1,.cons h t=>dS.drop n t
theorem dS.set {ρ:gn}:∀ {l l':List Xab} {v v':Xab} (i:Nat),dS ρ l l'->VR ρ v v'->dS ρ (l.set i v) (l'.set i v')
 | _,_,_,_,_,.nil,_=>.nil
 | _,_,_,_,0,.cons h t,hv=>.cons hv t
 | _,_,_,_,i+1,.cons h t,hv=>.cons h (dS.set i t hv)
theorem dS.OR {ρ:gn}:∀ {l l':List Xab},l.length=l'.length->(∀ (i:Nat) (v:Xab),l[i]?=some v->∃ v',l'[i]?=some v'/\VR ρ v v')->dS ρ l l'
 | [],[],_,_=>.nil
 | [],v::l,hl,_=>by simp at hl
 | v::l,[],hl,_=>by simp at hl
 | v::l,v'::l',hl,h=>by
  obtain ⟨u,h1,h2⟩:=h 0 v aj;simp only [List.getElem?_cons_zero,Option.some.injEq] at h1;subst h1;refine .cons h2 (dS.OR (by simpa using hl) fun i w hw=>?_)
  have:=h (i+1) w (by simpa using hw)
  simpa using this
def fE:Nat->Xab->Bool
 | _,.bool _=>true
 | _,.int _ _=>true
 | _,.string _=>true
 | _,.pointer none=>true
 | _,.slice none l c=>Nat.ble l c
 | _,.map none=>true
 | _,.nilFunc=>true
 | _,.nilIface=>true
 | n+1,.iface _ v=>fE n v
 | n+1,.agg ⟨l⟩=>l.all (fE n)
 | n+1,.tuple ⟨l⟩=>l.all (fE n)
 | _,.func (.func _) ⟨[]⟩ ⟨[]⟩=>true
 | _,_=>false
theorem qF {ρ:gn} {p:Xab->Bool} (j:∀ v,p v=true->VR ρ v v):∀ l:List Xab,l.all p=true->dS ρ l l
 | [],_=>.nil
 | v::l,h=>by
  simp only [List.all_cons,Bool.and_eq_true] at h;exact .cons (j v h.1) (qF j l h.2)
def r5 {ρ:gn}:∀ (n:Nat) (v:Xab),fE n v=true->VR ρ v v:=by
 have h0:∀ (n:Nat) (v:Xab),(∀ k,n=k+1->∀ v,fE k v=true->VR ρ v v)->fE n v=true->VR ρ v v:=by
  intro n v j h;cases v with
  | bool b=>exact .bool _
  | int k n=>exact .int _ _
  | string s=>exact .string _
  | pointer p=>cases p with
   | none=>exact .Rt
   | some a=>cases n <;> simp [fE] at h
  | slice p l c=>cases p with
   | none=>cases n <;> exact .mj (Zw h)
   | some a=>cases n <;> simp [fE] at h
  | map p=>cases p with
   | none=>exact .Q1
   | some a=>cases n <;> simp [fE] at h
  | nilFunc=>exact .nilFunc
  | nilIface=>exact .nilIface
  | iface t v=>cases n with
   | zero=>simp [fE] at h
   | succ n=>exact .iface _ (j n rfl v h)
  | agg c=>obtain ⟨l⟩:=c; cases n with
   | zero=>simp [fE] at h
   | succ n=>exact .agg (qF (j n rfl) l h)
  | tuple c=>obtain ⟨l⟩:=c; cases n with
   | zero=>simp [fE] at h
   | succ n=>exact .tuple (qF (j n rfl) l h)
  | func f a c =>
   obtain ⟨a⟩:=a; obtain ⟨c⟩:=c;cases f <;> cases a <;> cases c <;> cases n <;> first
    | exact .func _ .nil .nil
    | simp [fE] at h
  | float k b=>cases n <;> simp [fE] at h
  | complex k b c=>cases n <;> simp [fE] at h
  | chan r=>cases n <;> simp [fE] at h
 intro n
 induction n with
 | zero=>exact fun v=>h0 0 v fun k hk=>ad
 | succ n j=>exact fun v=>h0 (n+1) v fun k hk=>by cases hk; exact j
def nN {ρ:gn}:VR ρ undef undef:=.tuple .nil
inductive AO where
 | row (c:List Xab) (e:TypeId) (m:Nat)
 | wv (d:List (Xaa × Xab))
 | yo (d:List ((Nat × Xaa) × Xab))
 | ym (d:List ((Nat × Nat) × Xab))
 | gone
inductive dK (α:Type) where
 | nil
 | node (o:Option α) (l r:dK α)
noncomputable def dK.get {α:Type} (t:dK α):Nat->Option α :=
 dK.rec (fun _=>none) (fun o _ _ l r n=>Nat.rec o (fun m _=>Nat.rec (l (m / 2)) (fun _ _=>r (m / 2)) (m % 2)) n) t
noncomputable def dK.set {α:Type} (fu:Nat):dK α->Nat->α->dK α :=
 Nat.rec (fun t _ _=>t) (fun _ j t n a=>dK.rec
  (Nat.rec (.node (some a) .nil .nil) (fun m _=>Nat.rec (.node none (j .nil (m / 2) a) .nil) (fun _ _=>.node none .nil (j .nil (m / 2) a)) (m % 2)) n)
  (fun o l r _ _=>Nat.rec (.node (some a) l r) (fun m _=>Nat.rec (.node o (j l (m / 2) a) r) (fun _ _=>.node o l (j r (m / 2) a)) (m % 2)) n) t) fu
def Ty {β:Type} (a b:β) (n:Nat):Nat.rec (motive:=fun _=>β) a (fun _ _=>b) n=match n with
  | 0=>a
  | _+1=>b:=by cases n <;> rfl
def dK.uu {α:Type} (o:Option α) (l r:dK α) (n:Nat):(dK.node o l r).get n=match n with
  | 0=>o
  | m+1=>match m % 2 with
   | 0=>l.get (m / 2)
   | _+1=>r.get (m / 2):=by
 cases n with
 | zero=>rfl
 | succ m =>
  exact Ty _ _ _
def dK.set_nil {α:Type} (fu:Nat) (n:Nat) (a:α):dK.set (fu+1) (.nil:dK α) n a=match n with
   | 0=>.node (some a) .nil .nil
   | m+1=>match m % 2 with
    | 0=>.node none (dK.set fu .nil (m / 2) a) .nil
    | _+1=>.node none .nil (dK.set fu .nil (m / 2) a):=by
 cases n with
 | zero=>rfl
 | succ m =>
  exact Ty _ _ _
def dK.EG {α:Type} (fu:Nat) (o:Option α) (l r:dK α) (n:Nat) (a:α):dK.set (fu+1) (.node o l r) n a=match n with
   | 0=>.node (some a) l r
   | m+1=>match m % 2 with
    | 0=>.node o (dK.set fu l (m / 2) a) r
    | _+1=>.node o l (dK.set fu r (m / 2) a):=by
 cases n with
 | zero=>rfl
 | succ m =>
  exact Ty _ _ _
def dK.get_nil {α:Type} (n:Nat):(dK.nil:dK α).get n=none:=rfl
theorem dK.Dt {α:Type}:∀ (fu:Nat) (t:dK α) (n m:Nat) (a:α),n<fu->(dK.set fu t n a).get m=if m=n then some a else t.get m
 | 0,t,n,m,a,h=>ad
 | fu+1,t,n,m,a,h=>by
  have key:∀ (o:Option α) (l r:dK α),(dK.set (fu+1) (.node o l r) n a).get m=if m=n then some a else (dK.node o l r).get m:=by
   intro o l r;rw [dK.EG];cases n with
   | zero =>
    simp only [dK.uu];cases m with
    | zero=>simp
    | succ m=>simp
   | succ n =>
    have e2:n % 2=0\/n % 2=1:=ad
    cases m with
    | zero=>rcases e2 with e | e <;> simp [e,dK.uu]
    | succ m =>
     have u:m % 2=0\/m % 2=1:=ad
     rcases e2 with e | e <;> rcases u with e' | e' <;> simp only [e,e',dK.uu]
     ·rw [dK.Dt fu l (n / 2) (m / 2) a ad]
      by_cases j:m=n
      ·subst j; simp
      ·rw [Y2 ad,Y2 ad]
     ·rw [Y2 (by intro j; omega)]
     ·rw [Y2 (by intro j; omega)]
     ·rw [dK.Dt fu r (n / 2) (m / 2) a ad]
      by_cases j:m=n
      ·subst j; simp
      ·rw [Y2 ad,Y2 ad]
  cases t with
  | node o l r=>exact key o l r
  | nil =>
   have:=key none .nil .nil
   have e0:(dK.node none .nil .nil:dK α).get m=(dK.nil:dK α).get m:=by
    rw [dK.uu];cases m with
    | zero=>rfl
    | succ m=>rcases Nat.mod_two_eq_zero_or_one m with e | e <;> simp only [e] <;> rfl
   rw [e0] at this;rw [<- this,dK.set_nil,dK.EG]
def PI (k:Nat × Xaa):Xab:=.agg #[.int .i64 (k.1:Int),.string k.2]
def Ql (k:Nat × Nat):Xab:=.agg #[.int .i64 (k.1:Int),.int .i64 (k.2:Int)]
def DR {α:Type} (ρ:gn) (d d':List (α × Xab)):Prop:=d.map (·.1)=d'.map (·.1)/\dS ρ (d.map (·.2)) (d'.map (·.2))
def DR.mono {α:Type} {ρ ρ':gn} (le:Le ρ ρ') {d d':List (α × Xab)} (h:DR ρ d d'):DR ρ' d d':=⟨h.1,h.2.mono le⟩
def AO.live:AO->Bool
 | .gone=>false
 | _=>true
def wW (P:Program) (ρ:gn) (h0 h:Hp) (pl:Pl):AO->Prop
 | .row c e m=>∃ cs f,h[pl.cr]?=some (.cells cs e f)/\(∀ i v,c[i]?=some v->∃ v',cs[pl.sh+i]?=some v'/\VR ρ v v') /\
   (m≠2->f=(0,0)/\h0.size<=pl.cr)/\(m=1->pl.sh+pl.cap*P.cellsOf e=cs.size/\pl.cap<9223372036854775808)/\(m=0->pl.sh=0)
 | .wv d=>h0.size<=pl.cr/\∃ d',dW h pl.cr d'/\DR ρ d d'
 | .yo d=>h0.size<=pl.cr/\∃ d',oR PI h pl.cr d'/\DR ρ d d'
 | .ym d=>h0.size<=pl.cr/\∃ d',oR Ql h pl.cr d'/\DR ρ d d'
 | .gone=>True
structure Cx where
 P:Program
 kt:TypeId
 ku:TypeId
 ki:TypeId
 Sl:FuncId
 seq:FuncId
 idx:FuncId
 ng:Nat
 ro:Nat->Option (List Xab)
noncomputable def ML (n:Nat):List Xab->Option (List Xab) :=
 Nat.rec (fun _=>some []) (fun _ j l=>List.rec none (fun v l _=>(j l).bind fun r=>some (v::r)) l) n
noncomputable def Eh (o n:Nat):List Xab->Option (List Xab) :=
 Nat.rec (ML n) (fun _ j l=>List.rec none (fun _ l _=>j l) l) o
theorem Ah:∀ (n:Nat) (l r:List Xab),ML n l=some r->r.length=n/\∀ (j:Nat) (v:Xab),r[j]?=some v->l[j]?=some v
 | 0,_,r,h=>by
  have h:some []=some r:=h;simp only [Option.some.injEq] at h;subst h; exact ⟨rfl,fun j v hv=>by simp at hv⟩
 | n+1,[],r,h=>by cases (show none=some r from h)
 | n+1,v::l,r,h=>by
  have h:(ML n l).bind (fun r=>some (v::r))=some r:=h;obtain ⟨k,G,h⟩:=YZ.1 h;simp only [Option.some.injEq] at h;subst h;obtain ⟨h1,h2⟩:=Ah n l k G;refine ⟨by simp [h1],fun j u hu=>?_⟩;cases j with
  | zero=>simpa using hu
  | succ j=>simpa using h2 j u (by simpa using hu)
theorem pO:∀ (o n:Nat) (l r:List Xab),Eh o n l=some r->r.length=n/\∀ (j:Nat) (v:Xab),r[j]?=some v->l[o+j]?=some v
 | 0,n,l,r,h=>by
  have:=Ah n l r h
  simpa using this
 | o+1,n,[],r,h=>by cases (show none=some r from h)
 | o+1,n,v::l,r,h=>by
  obtain ⟨h1,h2⟩:=pO o n l r h;refine ⟨h1,fun j u hu=>?_⟩;rw [show o+1+j=(o+j)+1 from ad,bv9];exact h2 j u hu
structure Rel (C:Cx) (h0:Hp) (ρ:gn) (σ:dK AO) (h:Hp):Prop where
 PT:∀ g,g<C.ng->ρ g=some ⟨g,0,0⟩
 ro:∀ b c,C.ro b=some c->b<C.ng/\∃ cs e f,h0[b]?=some (.cells cs e f)/\∀ (i:Nat) (v:Xab),c[i]?=some v->cs[i]?=some v/\fE 9 v=true
 size:h0.size<=h.size
 base:∀ i,i<h0.size->h[i]?=h0[i]?
 obj:∀ b o,σ.get b=some o->∃ pl,ρ b=some pl/\wW C.P ρ h0 h pl o
 apart:∀ b b' o o' pl pl',σ.get b=some o->σ.get b'=some o'->o.live=true->o'.live=true->ρ b=some pl->ρ b'=some pl'->pl.cr=pl'.cr->b=b'
 Pb:∀ b,σ.get b=none->ρ b=none
def jn (ρ:gn) (n:Nat) (pl:Pl):gn:=fun b=>if b=n then some pl else ρ b
def fy (ρ:gn) (n:Nat) (pl:Pl):jn ρ n pl n=some pl:=by simp [jn]
def HK {ρ:gn} {n b:Nat} {pl:Pl} (h:b≠n):jn ρ n pl b=ρ b:=by simp [jn,h]
def Le.jn {ρ:gn} {n:Nat} {pl:Pl} (h:ρ n=none):Le ρ (jn ρ n pl):=fun b p hb=>by
 rw [HK (fun j=>by subst j; rw [h] at hb; cases hb)]; exact hb
def wW.ak {P:Program} {ρ ρ':gn} {h0 h h':Hp} {pl:Pl} {a:AO} (le:Le ρ ρ') (o:wW P ρ h0 h pl a) (hk:a.live=true->h'[pl.cr]?=h[pl.cr]?):wW P ρ' h0 h' pl a:=by
 cases a with
 | gone=>trivial
 | row c e m =>
  obtain ⟨cs,f,h1,h2,h3,h4⟩:=o;refine ⟨cs,f,(hk rfl).trans h1,fun i v hv=>?_,h3,h4⟩;obtain ⟨v',e1,e2⟩:=h2 i v hv;exact ⟨v',e1,e2.mono le⟩
 | wv d =>
  obtain ⟨h1,d',h2,h3⟩:=o;refine ⟨h1,d',?_,h3.mono le⟩;unfold dW at h2 ⊢;rw [hk rfl]; exact h2
 | yo d =>
  obtain ⟨h1,d',h2,h3⟩:=o;refine ⟨h1,d',?_,h3.mono le⟩;unfold oR at h2 ⊢;rw [hk rfl]; exact h2
 | ym d =>
  obtain ⟨h1,d',h2,h3⟩:=o;refine ⟨h1,d',?_,h3.mono le⟩;unfold oR at h2 ⊢;rw [hk rfl]; exact h2
def wW.lt {P:Program} {ρ:gn} {h0 h:Hp} {pl:Pl} {a:AO} (o:wW P ρ h0 h pl a) (hl:a.live=true):pl.cr<h.size:=by
 cases a with
 | gone=>cases hl
 | row c e m=>obtain ⟨cs,f,h1,_⟩:=o; exact fj h1
 | wv d=>obtain ⟨_,d',h2,_⟩:=o; exact h2.lt
 | yo d=>obtain ⟨_,d',h2,_⟩:=o; exact h2.lt
 | ym d=>obtain ⟨_,d',h2,_⟩:=o; exact h2.lt
noncomputable def dK.put {α:Type} (t:dK α) (n:Nat) (a:α):dK α:=dK.set (n+1) t n a
def dK.vW {α:Type} (t:dK α) (n m:Nat) (a:α):(t.put n a).get m=if m=n then some a else t.get m:=dK.Dt _ _ _ _ _ (Nat.lt_succ_self n)
def dK.iW {α:Type} (t:dK α) (n:Nat) (a:α):(t.put n a).get n=some a:=by rw [dK.vW,Y8 rfl]
def dK.kw {α:Type} (t:dK α) {n m:Nat} (a:α) (h:m≠n):(t.put n a).get m=t.get m:=by rw [dK.vW,Y2 h]
section rel
variable {C:Cx} {h0:Hp} {ρ:gn} {σ:dK AO} {h:Hp}
def Rel.row (R:Rel C h0 ρ σ h) {b:Nat} {o:AO} (hb:σ.get b=some o) {pl:Pl} (j:ρ b=some pl):wW C.P ρ h0 h pl o:=by
 obtain ⟨pl',h1,h2⟩:=R.obj b _ hb;rw [j] at h1; cases h1; exact h2
def Rel.Ta (R:Rel C h0 ρ σ h) {g b:Nat} {h':Hp} {σ':dK AO} {ρ':gn} {o:AO} {pl:Pl} (k:Ch [g] h h') (hg:h0.size<=g) (le:Le ρ ρ')
  (hb:σ'.get b=some o) (hp:ρ' b=some pl) (U:pl.cr=g) (ho:wW C.P ρ' h0 h' pl o)
  (V:∀ x a,x≠b->σ'.get x=some a->σ.get x=some a\/a=.gone/\σ.get x≠none)
  (Y:∀ x a p,x≠b->σ'.get x=some a->a.live=true->ρ x=some p->p.cr≠g)
  (Z:∀ x,σ'.get x=none->ρ' x=none):Rel C h0 ρ' σ' h':=by
 have u:∀ x a,x≠b->σ'.get x=some a->a.live=true->σ.get x=some a:=by
  intro x a hx ha hl;rcases V x a hx ha with h1 | ⟨rfl,_⟩
  ·exact h1
  ·cases hl
 refine ⟨fun i hi=>le _ _ (R.PT i hi),R.ro,by have:=R.size; have:=k.size; omega,fun i hi=>?_,fun x a hx=>?_,fun x y a a' p p' hx hy hl X G O he=>?_,Z⟩
 ·have:=R.size
  rw [k.same i ad (by simp; omega)]; exact R.base i hi
 ·by_cases j:x=b
  ·subst j; rw [hb] at hx; cases hx; exact ⟨pl,hp,ho⟩
  ·rcases V x a j hx with h1 | ⟨rfl,h1⟩
   ·obtain ⟨p,e1,e2⟩:=R.obj x a h1;refine ⟨p,le _ _ e1,e2.ak le fun hl=>?_⟩;exact k.same _ (e2.lt hl) (by simpa using Y x a p j hx hl e1)
   ·cases hs:σ.get x with
    | none=>exact (h1 hs).elim
    | some a' =>
     obtain ⟨p,e1,_⟩:=R.obj x a' hs;exact ⟨p,le _ _ e1,trivial⟩
 ·have far:∀ x a p,x≠b->σ'.get x=some a->a.live=true->ρ' x=some p->p.cr≠g:=by
   intro x a p j hx hl G;have h1:=u x a j hx hl;obtain ⟨q,e1,_⟩:=R.obj x a h1
   have:=le _ _ e1
   rw [G] at this; cases this;exact Y x a _ j hx hl e1
  by_cases j:x=b
  ·by_cases J:y=b
   ·rw [j,J]
   ·subst j; rw [hp] at G; cases G;exact (far y a' p' J hy X O (by rw [<- he,U])).elim
  ·by_cases J:y=b
   ·subst J; rw [hp] at O; cases O;exact (far x a p j hx hl G (by rw [he,U])).elim
   ·have h1:=u x a j hx hl;have h2:=u y a' J hy X;obtain ⟨q,e1,_⟩:=R.obj x a h1;obtain ⟨q',e2,_⟩:=R.obj y a' h2;have e3:=le _ _ e1;have e4:=le _ _ e2;rw [G] at e3; rw [O] at e4; cases e3; cases e4;exact R.apart x y a a' _ _ h1 h2 hl X e1 e2 he
def Rel.ext (R:Rel C h0 ρ σ h) {h':Hp} (k:Ext h h'):Rel C h0 ρ σ h':=by
 refine ⟨R.PT,R.ro,ZW R.size k.size,fun i hi=>?_,fun b o hb=>?_,R.apart,R.Pb⟩
 ·have:=R.size
  rw [k.same i ad aj]; exact R.base i hi
 ·obtain ⟨p,e1,e2⟩:=R.obj b o hb;exact ⟨p,e1,e2.ak (Le.refl _) fun hl=>k.same _ (e2.lt hl) aj⟩
def Rel.new (R:Rel C h0 ρ σ h) {n:Nat} (hn:σ.get n=none) {o:AO} {pl:Pl} {h':Hp} (hb:h.size<=pl.cr) (k:Ext h h') (G:wW C.P (jn ρ n pl) h0 h' pl o) :
  Rel C h0 (jn ρ n pl) (σ.put n o) h'/\Le ρ (jn ρ n pl):=by
 have J:=R.Pb n hn;have le:Le ρ (jn ρ n pl):=Le.jn J;refine ⟨R.Ta (k.mono aj) (g:=pl.cr) (b:=n) (ZW R.size hb) le (dK.iW _ _ _) (fy _ _ _) rfl G (fun x a hx u=>?_) (fun x a p hx u hl O=>?_) (fun x hx=>?_),le⟩
 ·rw [dK.kw _ _ hx] at u; exact .inl u
 ·rw [dK.kw _ _ hx] at u
  have:=(R.row u O).lt hl
  omega
 ·by_cases j:x=n
  ·subst j; rw [dK.iW] at hx; cases hx
  ·rw [dK.kw _ _ j] at hx;rw [HK j]; exact R.Pb x hx
def HH {P:Program} {ρ ρ':gn} {h0 h':Hp} {c c' rest:List Xab} {e:TypeId} {m cap g:Nat} (hs:h0.size<=g) (hc:dS ρ c c') (le:Le ρ ρ') (hb:bF h' g e (c'++rest))
  (hm:m=1->cap*P.cellsOf e=c'.length+rest.length/\cap<9223372036854775808):wW P ρ' h0 h' ⟨g,0,cap⟩ (.row c e m):=by
 refine ⟨(c'++rest).toArray,(0,0),hb,fun i v hv=>?_,fun _=>⟨rfl,hs⟩,fun h1=>?_,fun _=>rfl⟩
 ·obtain ⟨v',e1,e2⟩:=hc.get hv;refine ⟨v',?_,e2.mono le⟩
  have:i<c'.length:=by
   rcases ZS i c'.length with h | h
   ·exact h
   ·rw [ZI h] at e1; cases e1
  rw [ZJ,br9,ZD this];exact e1
 ·have:=hm h1
  simp [this]
def Rel.newRow (R:Rel C h0 ρ σ h) {n:Nat} (hn:σ.get n=none) {c c' rest:List Xab} {e:TypeId} {m cap:Nat} {h':Hp} (hc:dS ρ c c') (hb:bF h' h.size e (c'++rest)) (k:Ext h h')
  (hm:m=1->cap*C.P.cellsOf e=c'.length+rest.length/\cap<9223372036854775808) :
  Rel C h0 (jn ρ n ⟨h.size,0,cap⟩) (σ.put n (.row c e m)) h'/\Le ρ (jn ρ n ⟨h.size,0,cap⟩) :=
 R.new hn (Zh _) k (HH R.size hc (Le.jn (R.Pb n hn)) hb hm)
def Rel.put (R:Rel C h0 ρ σ h) {b:Nat} {o o':AO} {pl:Pl} {h':Hp} (hb:σ.get b=some o) (hl:o.live=true) (O:ρ b=some pl) (U:h0.size<=pl.cr) (k:Ch [pl.cr] h h') (V:wW C.P ρ h0 h' pl o') :
  Rel C h0 ρ (σ.put b o') h':=by
 refine R.Ta k U (Le.refl _) (dK.iW _ _ _) O rfl V (fun x a hx j=>?_) (fun x a p hx j G J X=>?_) (fun x hx=>?_)
 ·rw [dK.kw _ _ hx] at j; exact .inl j
 ·rw [dK.kw _ _ hx] at j;exact hx (R.apart x b a o p pl j hb G hl J O X)
 ·by_cases u:x=b
  ·subst u; rw [dK.iW] at hx; cases hx
  ·rw [dK.kw _ _ u] at hx; exact R.Pb x hx
def Rel.move (R:Rel C h0 ρ σ h) {b n:Nat} {o o':AO} {pl pl':Pl} {h':Hp} (hn:σ.get n=none) (hb:σ.get b=some o) (hl:o.live=true) (V:ρ b=some pl) (k:Ch [pl'.cr] h h')
  (O:pl'.cr=pl.cr\/pl'.cr=h.size) (X:h0.size<=pl'.cr) (Y:wW C.P (jn ρ n pl') h0 h' pl' o') :
  Rel C h0 (jn ρ n pl') ((σ.put b .gone).put n o') h'/\Le ρ (jn ρ n pl'):=by
 have Z:=R.Pb n hn;have le:Le ρ (jn ρ n pl'):=Le.jn Z;have hbn:b≠n:=fun hh=>by subst hh; rw [hn] at hb; cases hb
 refine ⟨R.Ta k X le (dK.iW _ _ _) (fy _ _ _) rfl Y (fun x a hx u=>?_) (fun x a p hx u G U he=>?_) (fun x hx=>?_),le⟩
 ·rw [dK.kw _ _ hx] at u
  by_cases j:x=b
  ·subst j; rw [dK.iW] at u; cases u;exact .inr ⟨rfl,by rw [hb]; simp⟩
  ·rw [dK.kw _ _ j] at u; exact .inl u
 ·rw [dK.kw _ _ hx] at u
  by_cases j:x=b
  ·subst j; rw [dK.iW] at u; cases u; cases G
  ·rw [dK.kw _ _ j] at u;rcases O with e | e
   ·exact j (R.apart x b a o p pl u hb G hl U V (by rw [he,e]))
   ·have:=(R.row u U).lt G
    omega
 ·by_cases J:x=n
  ·subst J; rw [dK.iW] at hx; cases hx
  ·rw [dK.kw _ _ J] at hx;rw [HK J]
   by_cases j:x=b
   ·subst j; rw [dK.iW] at hx; cases hx
   ·rw [dK.kw _ _ j] at hx; exact R.Pb x hx
theorem jx {pl:Pl} {cs:Array Xab} {e:TypeId} {f:Nat × Nat} (u:h[pl.cr]?=some (.cells cs e f)) {off:Nat}:∀ (k:List Xab) (i:Nat),(∀ j v,k[j]?=some v->∃ v',cs[pl.sh+(off+i+j)]?=some v'/\VR ρ v v') ->
  ∃ k',dS ρ k k'/\aI h ⟨pl.cr,pl.sh+off,none⟩ i k'
 | [],i,_=>⟨[],.nil,trivial⟩
 | v::k,i,hk=>by
  obtain ⟨v',e1,e2⟩:=hk 0 v aj;obtain ⟨k',G,J⟩:=jx u k (i+1) fun j w hw=>by
   have:=hk (j+1) w (by simpa using hw)
   rw [show off+(i+1)+j=off+i+(j+1) from ad]; exact this
  refine ⟨v'::k',.cons e2 G,?_,J⟩;rw [aE,iN u,<- e1]; congr 1; omega
def Rel.store (R:Rel C h0 ρ σ h) {b:Nat} {c:List Xab} {e:TypeId} {m:Nat} (hb:σ.get b=some (.row c e m)) (hm:m≠2) {pl:Pl} (V:ρ b=some pl) {off:Nat} {vs vs':List Xab}
  (hv:dS ρ vs vs') (J:vs'.all cO=true) (h1:1<=vs.length) (hl:off+vs.length<=c.length) :
  yb h ⟨pl.cr,pl.sh+off,none⟩ 0 vs'/\Rel C h0 ρ (σ.put b (.row (lz c off vs) e m)) (rN h ⟨pl.cr,pl.sh+off,none⟩ 0 vs'):=by
 obtain ⟨cs,f,X,h2,h3,h4⟩:=R.row hb V;obtain ⟨rfl,u⟩:=h3 hm;have bx:bF h pl.cr e cs.toList:=by unfold bF; simpa using X
 have j:pl.sh+off+vs'.length<=cs.toList.length:=by
  rw [<- hv.length];obtain ⟨v',e1,_⟩:=h2 (off+vs.length-1) (c[off+vs.length-1]'ad) (by rw [Y1])
  have:pl.sh+(off+vs.length-1)<cs.size:=by
   rcases ZS (pl.sh+(off+vs.length-1)) cs.size with h | h
   ·exact h
   ·rw [ZT h] at e1; cases e1
  simp; omega
 obtain ⟨Y,Z,k3,k4⟩:=lB (off:=pl.sh+off) vs' h 0 _ bx J (by simpa using j);refine ⟨Y,R.put hb rfl V u k3 ⟨_,_,Z,fun i v hi=>?_,fun _=>⟨rfl,u⟩,fun h1=>?_,h4.2⟩⟩
 ·rw [pH _ _ _ hl] at hi;rw [br9,pH _ _ _ (by simpa using j),cv9];have O:pl.sh+off<=cs.toList.length:=ad
  rcases ZS i off with G | G
  ·rw [Zr,ZD (by simp; omega),bp9,Y8 G] at hi;rw [Zr,ZD (by rw [Zp]; omega),bp9,Y8 ad];rw [an9];exact h2 i v hi
  ·rcases ZS i (off+vs.length) with U | U
   ·have e1:(c.take off).length=off:=by rw [Zp]; omega
    have e2:(cs.toList.take (pl.sh+off)).length=pl.sh+off:=by rw [Zp]; omega
    rw [Zr,ZC ad,e1,ZD ad] at hi;rw [Zr,ZC ad,e2,ZD (by rw [<- hv.length]; omega),show pl.sh+i-(pl.sh+off)=i-off from ad];exact hv.get hi
   ·have e1:(c.take off++vs).length=off+vs.length:=by rw [Y4,Zp]; omega
    have e2:(cs.toList.take (pl.sh+off)++vs').length=pl.sh+off+vs.length:=by rw [Y4,Zp,<- hv.length]; omega
    rw [ZC ad,e1,bc9,show off+vs.length+(i-(off+vs.length))=i from ad] at hi;rw [ZC ad,e2,bc9,<- hv.length,show pl.sh+off+vs.length+(pl.sh+i-(pl.sh+off+vs.length))=pl.sh+i from ad,an9];exact h2 i v hi
 ·have:=h4.1 h1
  simpa [mK] using this
end rel
end Go.Sx.Cr
