/- Closed runs, part V: values that differ by places alone; a run's store and the heap that it stands for. No condition. -/
import Derived.Test.YtlpcncdglfjnoaaGreatDoorSxK
import Derived.Test.YtlpcncdglfjnoaaGreatDoorSxE
set_option linter.all false
set_option maxHeartbeats 4000000
namespace Go.Sx.Cr
structure Pl where
 bY:Nat
 sh:Nat
 cap:Nat
abbrev fR:=Nat->Option Pl
def pH:Nat:=1208925819614629174706176
def half:Nat:=604462909807314587353088
def Jt (pl:Pl) (c c':Nat):Prop:=(c<half/\c'=c)\/(half<=c/\c'+pH=pl.cap+c)
mutual
inductive VR (ρ:fR):ZB->ZB->Prop
 | bool (b:Bool):VR ρ (.bool b) (.bool b)
 | int (k:IntKind) (n:Int):VR ρ (.int k n) (.int k n)
 | string (s:ZA):VR ρ (.string s) (.string s)
 | Qc:VR ρ (.pointer none) (.pointer none)
 | ptr {b:Nat} {pl:Pl} (off:Nat) (h:ρ b=some pl):VR ρ (.pointer (some ⟨b,off,none⟩)) (.pointer (some ⟨pl.bY,pl.sh+off,none⟩))
 | lO {l c:Nat} (hl:l<=c):VR ρ (.slice none l c) (.slice none l c)
 | sl {b:Nat} {pl:Pl} (off l:Nat) {c c':Nat} (h:ρ b=some pl) (hc:Jt pl c c') (hl:l<=c'):VR ρ (.slice (some ⟨b,off,none⟩) l c) (.slice (some ⟨pl.bY,pl.sh+off,none⟩) l c')
 | OX:VR ρ (.map none) (.map none)
 | map {b:Nat} {pl:Pl} (h:ρ b=some pl):VR ρ (.map (some b)) (.map (some pl.bY))
 | func (f:FuncId) {a a' c c':List ZB} (h1:dG ρ a a') (h2:dG ρ c c'):VR ρ (.func (.func f) ⟨a⟩ ⟨c⟩) (.func (.func f) ⟨a'⟩ ⟨c'⟩)
 | nilFunc:VR ρ .nilFunc .nilFunc
 | nilIface:VR ρ .nilIface .nilIface
 | iface (t:TypeId) {v v':ZB} (h:VR ρ v v'):VR ρ (.iface t v) (.iface t v')
 | agg {l l':List ZB} (h:dG ρ l l'):VR ρ (.agg ⟨l⟩) (.agg ⟨l'⟩)
 | tuple {l l':List ZB} (h:dG ρ l l'):VR ρ (.tuple ⟨l⟩) (.tuple ⟨l'⟩)
inductive dG (ρ:fR):List ZB->List ZB->Prop
 | nil:dG ρ [] []
 | cons {v v':ZB} {l l':List ZB} (h:VR ρ v v') (t:dG ρ l l'):dG ρ (v::l) (v'::l')
end
def Le (ρ ρ':fR):Prop:=∀ b pl,ρ b=some pl->ρ' b=some pl
theorem Le.refl (ρ:fR):Le ρ ρ:=fun _ _ h=>h
theorem Le.trans {a b c:fR} (h:Le a b) (k:Le b c):Le a c:=fun x pl hx=>k x pl (h x pl hx)
mutual
theorem VR.mono {ρ ρ':fR} (le:Le ρ ρ'):∀ {v v':ZB},VR ρ v v'->VR ρ' v v'
 | _,_,.bool b=>.bool b
 | _,_,.int k n=>.int k n
 | _,_,.string s=>.string s
 | _,_,.Qc=>.Qc
 | _,_,.ptr off h=>.ptr off (le _ _ h)
 | _,_,.lO hl=>.lO hl
 | _,_,.sl off l h hc hl=>.sl off l (le _ _ h) hc hl
 | _,_,.OX=>.OX
 | _,_,.map h=>.map (le _ _ h)
 | _,_,.func f h1 h2=>.func f (dG.mono le h1) (dG.mono le h2)
 | _,_,.nilFunc=>.nilFunc
 | _,_,.nilIface=>.nilIface
 | _,_,.iface t h=>.iface t (VR.mono le h)
 | _,_,.agg h=>.agg (dG.mono le h)
 | _,_,.tuple h=>.tuple (dG.mono le h)
theorem dG.mono {ρ ρ':fR} (le:Le ρ ρ'):∀ {l l':List ZB},dG ρ l l'->dG ρ' l l'
 | _,_,.nil=>.nil
 | _,_,.cons h t=>.cons (VR.mono le h) (dG.mono le t)
end
theorem dG.length {ρ:fR}:∀ {l l':List ZB},dG ρ l l'->l.length=l'.length
 | _,_,.nil=>rfl
 | _,_,.cons h t=>by simp [dG.length t]
theorem dG.append {ρ:fR}:∀ {l l' k k':List ZB},dG ρ l l'->dG ρ k k'->dG ρ (l++k) (l'++k')
 | _,_,_,_,.nil,h=>h
 | _,_,_,_,.cons h t,k=>.cons h (dG.append t k)
theorem dG.get {ρ:fR}:∀ {l l':List ZB} {i:Nat} {v:ZB},dG ρ l l'->l[i]?=some v->∃ v',l'[i]?=some v'/\VR ρ v v'
 | _,_,i,v,.nil,h=>by simp at h
 | _,_,0,v,.cons (v':=v') h t,hi=>by
  simp only [List.getElem?_cons_zero,Option.some.injEq] at hi;subst hi; exact ⟨v',aj,h⟩
 | _,_,i+1,v,.cons h t,hi=>by
  simp only [List.getElem?_cons_succ] at hi ⊢;exact dG.get t hi
theorem dG.take {ρ:fR}:∀ {l l':List ZB} (n:Nat),dG ρ l l'->dG ρ (l.take n) (l'.take n)
 | _,_,0,_=>.nil
 | _,_,n+1,.nil=>.nil
 | _,_,n+1,.cons h t=>.cons h (dG.take n t)
theorem dG.drop {ρ:fR}:∀ {l l':List ZB} (n:Nat),dG ρ l l'->dG ρ (l.drop n) (l'.drop n)
 | _,_,0,h=>h
 | _,_,n+1,.nil=>.nil
 | _,_,n+1,.cons h t=>dG.drop n t
theorem dG.set {ρ:fR}:∀ {l l':List ZB} {v v':ZB} (i:Nat),dG ρ l l'->VR ρ v v'->dG ρ (l.set i v) (l'.set i v')
 | _,_,_,_,_,.nil,_=>.nil
 | _,_,_,_,0,.cons h t,hv=>.cons hv t
 | _,_,_,_,i+1,.cons h t,hv=>.cons h (dG.set i t hv)
theorem dG.Oa {ρ:fR}:∀ {l l':List ZB},l.length=l'.length->(∀ (i:Nat) (v:ZB),l[i]?=some v->∃ v',l'[i]?=some v'/\VR ρ v v')->dG ρ l l'
 | [],[],_,_=>.nil
 | [],v::l,hl,_=>by simp at hl
 | v::l,[],hl,_=>by simp at hl
 | v::l,v'::l',hl,h=>by
  obtain ⟨u,h1,h2⟩:=h 0 v aj;simp only [List.getElem?_cons_zero,Option.some.injEq] at h1;subst h1;refine .cons h2 (dG.Oa (by simpa using hl) fun i w hw=>?_)
  have:=h (i+1) w (by simpa using hw)
  simpa using this
def fk:Nat->ZB->Bool
 | _,.bool _=>true
 | _,.int _ _=>true
 | _,.string _=>true
 | _,.pointer none=>true
 | _,.slice none l c=>Nat.ble l c
 | _,.map none=>true
 | _,.nilFunc=>true
 | _,.nilIface=>true
 | n+1,.iface _ v=>fk n v
 | n+1,.agg ⟨l⟩=>l.all (fk n)
 | n+1,.tuple ⟨l⟩=>l.all (fk n)
 | _,.func (.func _) ⟨[]⟩ ⟨[]⟩=>true
 | _,_=>false
theorem rc {ρ:fR} {p:ZB->Bool} (hp:∀ v,p v=true->VR ρ v v):∀ l:List ZB,l.all p=true->dG ρ l l
 | [],_=>.nil
 | v::l,h=>by
  simp only [List.all_cons,Bool.and_eq_true] at h;exact .cons (hp v h.1) (rc hp l h.2)
theorem rF {ρ:fR}:∀ (n:Nat) (v:ZB),fk n v=true->VR ρ v v:=by
 have h0:∀ (n:Nat) (v:ZB),(∀ k,n=k+1->∀ v,fk k v=true->VR ρ v v)->fk n v=true->VR ρ v v:=by
  intro n v ih h;cases v with
  | bool b=>exact .bool _
  | int k n=>exact .int _ _
  | string s=>exact .string _
  | pointer p=>cases p with
   | none=>exact .Qc
   | some a=>cases n <;> simp [fk] at h
  | slice p l c=>cases p with
   | none=>cases n <;> exact .lO (Xi h)
   | some a=>cases n <;> simp [fk] at h
  | map p=>cases p with
   | none=>exact .OX
   | some a=>cases n <;> simp [fk] at h
  | nilFunc=>exact .nilFunc
  | nilIface=>exact .nilIface
  | iface t v=>cases n with
   | zero=>simp [fk] at h
   | succ n=>exact .iface _ (ih n rfl v h)
  | agg c=>obtain ⟨l⟩:=c; cases n with
   | zero=>simp [fk] at h
   | succ n=>exact .agg (rc (ih n rfl) l h)
  | tuple c=>obtain ⟨l⟩:=c; cases n with
   | zero=>simp [fk] at h
   | succ n=>exact .tuple (rc (ih n rfl) l h)
  | func f a c =>
   obtain ⟨a⟩:=a; obtain ⟨c⟩:=c;cases f <;> cases a <;> cases c <;> cases n <;> first
    | exact .func _ .nil .nil
    | simp [fk] at h
  | float k b=>cases n <;> simp [fk] at h
  | complex k b c=>cases n <;> simp [fk] at h
  | chan r=>cases n <;> simp [fk] at h
 intro n
 induction n with
 | zero=>exact fun v=>h0 0 v fun k hk=>ad
 | succ n ih=>exact fun v=>h0 (n+1) v fun k hk=>by cases hk; exact ih
theorem ob {ρ:fR}:VR ρ undef undef:=.tuple .nil
inductive AO where
 | row (c:List ZB) (e:TypeId) (m:Nat)
 | wo (d:List (ZA × ZB))
 | xW (d:List ((Nat × ZA) × ZB))
 | yd (d:List ((Nat × Nat) × ZB))
 | gone
inductive dB (α:Type) where
 | nil
 | node (o:Option α) (l r:dB α)
noncomputable def dB.get {α:Type} (t:dB α):Nat->Option α :=
 dB.rec (fun _=>none) (fun o _ _ l r n=>Nat.rec o (fun m _=>Nat.rec (l (m / 2)) (fun _ _=>r (m / 2)) (m % 2)) n) t
noncomputable def dB.set {α:Type} (fu:Nat):dB α->Nat->α->dB α :=
 Nat.rec (fun t _ _=>t) (fun _ ih t n a=>dB.rec
  (Nat.rec (.node (some a) .nil .nil) (fun m _=>Nat.rec (.node none (ih .nil (m / 2) a) .nil) (fun _ _=>.node none .nil (ih .nil (m / 2) a)) (m % 2)) n)
  (fun o l r _ _=>Nat.rec (.node (some a) l r) (fun m _=>Nat.rec (.node o (ih l (m / 2) a) r) (fun _ _=>.node o l (ih r (m / 2) a)) (m % 2)) n) t) fu
theorem SC {β:Type} (a b:β) (n:Nat):Nat.rec (motive:=fun _=>β) a (fun _ _=>b) n=match n with
  | 0=>a
  | _+1=>b:=by cases n <;> rfl
theorem dB.vH {α:Type} (o:Option α) (l r:dB α) (n:Nat):(dB.node o l r).get n=match n with
  | 0=>o
  | m+1=>match m % 2 with
   | 0=>l.get (m / 2)
   | _+1=>r.get (m / 2):=by
 cases n with
 | zero=>rfl
 | succ m =>
  exact SC _ _ _
theorem dB.set_nil {α:Type} (fu:Nat) (n:Nat) (a:α):dB.set (fu+1) (.nil:dB α) n a=match n with
   | 0=>.node (some a) .nil .nil
   | m+1=>match m % 2 with
    | 0=>.node none (dB.set fu .nil (m / 2) a) .nil
    | _+1=>.node none .nil (dB.set fu .nil (m / 2) a):=by
 cases n with
 | zero=>rfl
 | succ m =>
  exact SC _ _ _
theorem dB.Et {α:Type} (fu:Nat) (o:Option α) (l r:dB α) (n:Nat) (a:α):dB.set (fu+1) (.node o l r) n a=match n with
   | 0=>.node (some a) l r
   | m+1=>match m % 2 with
    | 0=>.node o (dB.set fu l (m / 2) a) r
    | _+1=>.node o l (dB.set fu r (m / 2) a):=by
 cases n with
 | zero=>rfl
 | succ m =>
  exact SC _ _ _
theorem dB.get_nil {α:Type} (n:Nat):(dB.nil:dB α).get n=none:=rfl
theorem dB.B0 {α:Type}:∀ (fu:Nat) (t:dB α) (n m:Nat) (a:α),n<fu->(dB.set fu t n a).get m=if m=n then some a else t.get m
 | 0,t,n,m,a,h=>ad
 | fu+1,t,n,m,a,h=>by
  have key:∀ (o:Option α) (l r:dB α),(dB.set (fu+1) (.node o l r) n a).get m=if m=n then some a else (dB.node o l r).get m:=by
   intro o l r;rw [dB.Et];cases n with
   | zero =>
    simp only [dB.vH];cases m with
    | zero=>simp
    | succ m=>simp
   | succ n =>
    have e2:n % 2=0\/n % 2=1:=ad
    cases m with
    | zero=>rcases e2 with e | e <;> simp [e,dB.vH]
    | succ m =>
     have e3:m % 2=0\/m % 2=1:=ad
     rcases e2 with e | e <;> rcases e3 with e' | e' <;> simp only [e,e',dB.vH]
     ·rw [dB.B0 fu l (n / 2) (m / 2) a ad]
      by_cases hh:m=n
      ·subst hh; simp
      ·rw [WV ad,WV ad]
     ·rw [WV (by intro hh; omega)]
     ·rw [WV (by intro hh; omega)]
     ·rw [dB.B0 fu r (n / 2) (m / 2) a ad]
      by_cases hh:m=n
      ·subst hh; simp
      ·rw [WV ad,WV ad]
  cases t with
  | node o l r=>exact key o l r
  | nil =>
   have:=key none .nil .nil
   have e0:(dB.node none .nil .nil:dB α).get m=(dB.nil:dB α).get m:=by
    rw [dB.vH];cases m with
    | zero=>rfl
    | succ m=>rcases Nat.mod_two_eq_zero_or_one m with e | e <;> simp only [e] <;> rfl
   rw [e0] at this;rw [<- this,dB.set_nil,dB.Et]
def PC (k:Nat × ZA):ZB:=.agg #[.int .i64 (k.1:Int),.string k.2]
def P7 (k:Nat × Nat):ZB:=.agg #[.int .i64 (k.1:Int),.int .i64 (k.2:Int)]
def DR {α:Type} (ρ:fR) (d d':List (α × ZB)):Prop:=d.map (·.1)=d'.map (·.1)/\dG ρ (d.map (·.2)) (d'.map (·.2))
theorem DR.mono {α:Type} {ρ ρ':fR} (le:Le ρ ρ') {d d':List (α × ZB)} (h:DR ρ d d'):DR ρ' d d':=⟨h.1,h.2.mono le⟩
def AO.live:AO->Bool
 | .gone=>false
 | _=>true
def vT (P:Program) (ρ:fR) (h0 h:Hp) (pl:Pl):AO->Prop
 | .row c e m=>∃ cs f,h[pl.bY]?=some (.cells cs e f)/\(∀ i v,c[i]?=some v->∃ v',cs[pl.sh+i]?=some v'/\VR ρ v v') /\
   (m≠2->f=(0,0)/\h0.size<=pl.bY)/\(m=1->pl.sh+pl.cap*P.cellsOf e=cs.size/\pl.cap<9223372036854775808)/\(m=0->pl.sh=0)
 | .wo d=>h0.size<=pl.bY/\∃ d',eD h pl.bY d'/\DR ρ d d'
 | .xW d=>h0.size<=pl.bY/\∃ d',pC PC h pl.bY d'/\DR ρ d d'
 | .yd d=>h0.size<=pl.bY/\∃ d',pC P7 h pl.bY d'/\DR ρ d d'
 | .gone=>True
structure Cx where
 P:Program
 kt:TypeId
 ku:TypeId
 ki:TypeId
 RB:FuncId
 seq:FuncId
 idx:FuncId
 ng:Nat
 ro:Nat->Option (List ZB)
noncomputable def MZ (n:Nat):List ZB->Option (List ZB) :=
 Nat.rec (fun _=>some []) (fun _ ih l=>List.rec none (fun v l _=>(ih l).bind fun r=>some (v::r)) l) n
noncomputable def zJ (o n:Nat):List ZB->Option (List ZB) :=
 Nat.rec (MZ n) (fun _ ih l=>List.rec none (fun _ l _=>ih l) l) o
theorem yF:∀ (n:Nat) (l r:List ZB),MZ n l=some r->r.length=n/\∀ (j:Nat) (v:ZB),r[j]?=some v->l[j]?=some v
 | 0,_,r,h=>by
  have h:some []=some r:=h;simp only [Option.some.injEq] at h;subst h; exact ⟨rfl,fun j v hv=>by simp at hv⟩
 | n+1,[],r,h=>by cases (show none=some r from h)
 | n+1,v::l,r,h=>by
  have h:(MZ n l).bind (fun r=>some (v::r))=some r:=h;obtain ⟨k,ht,h⟩:=WO.1 h;simp only [Option.some.injEq] at h;subst h;obtain ⟨h1,h2⟩:=yF n l k ht;refine ⟨by simp [h1],fun j u hu=>?_⟩;cases j with
  | zero=>simpa using hu
  | succ j=>simpa using h2 j u (by simpa using hu)
theorem oA:∀ (o n:Nat) (l r:List ZB),zJ o n l=some r->r.length=n/\∀ (j:Nat) (v:ZB),r[j]?=some v->l[o+j]?=some v
 | 0,n,l,r,h=>by
  have:=yF n l r h
  simpa using this
 | o+1,n,[],r,h=>by cases (show none=some r from h)
 | o+1,n,v::l,r,h=>by
  obtain ⟨h1,h2⟩:=oA o n l r h;refine ⟨h1,fun j u hu=>?_⟩;rw [show o+1+j=(o+j)+1 from ad,YA];exact h2 j u hu
structure Rel (C:Cx) (h0:Hp) (ρ:fR) (σ:dB AO) (h:Hp):Prop where
 P2:∀ g,g<C.ng->ρ g=some ⟨g,0,0⟩
 ro:∀ b c,C.ro b=some c->b<C.ng/\∃ cs e f,h0[b]?=some (.cells cs e f)/\∀ (i:Nat) (v:ZB),c[i]?=some v->cs[i]?=some v/\fk 9 v=true
 size:h0.size<=h.size
 base:∀ i,i<h0.size->h[i]?=h0[i]?
 obj:∀ b o,σ.get b=some o->∃ pl,ρ b=some pl/\vT C.P ρ h0 h pl o
 apart:∀ b b' o o' pl pl',σ.get b=some o->σ.get b'=some o'->o.live=true->o'.live=true->ρ b=some pl->ρ b'=some pl'->pl.bY=pl'.bY->b=b'
 On:∀ b,σ.get b=none->ρ b=none
def jN (ρ:fR) (n:Nat) (pl:Pl):fR:=fun b=>if b=n then some pl else ρ b
theorem fj (ρ:fR) (n:Nat) (pl:Pl):jN ρ n pl n=some pl:=by simp [jN]
theorem F3 {ρ:fR} {n b:Nat} {pl:Pl} (h:b≠n):jN ρ n pl b=ρ b:=by simp [jN,h]
theorem Le.jN {ρ:fR} {n:Nat} {pl:Pl} (h:ρ n=none):Le ρ (jN ρ n pl):=fun b p hb=>by
 rw [F3 (fun hh=>by subst hh; rw [h] at hb; cases hb)]; exact hb
theorem vT.ao {P:Program} {ρ ρ':fR} {h0 h h':Hp} {pl:Pl} {a:AO} (le:Le ρ ρ') (o:vT P ρ h0 h pl a) (hk:a.live=true->h'[pl.bY]?=h[pl.bY]?):vT P ρ' h0 h' pl a:=by
 cases a with
 | gone=>trivial
 | row c e m =>
  obtain ⟨cs,f,h1,h2,h3,h4⟩:=o;refine ⟨cs,f,(hk rfl).trans h1,fun i v hv=>?_,h3,h4⟩;obtain ⟨v',e1,e2⟩:=h2 i v hv;exact ⟨v',e1,e2.mono le⟩
 | wo d =>
  obtain ⟨h1,d',h2,h3⟩:=o;refine ⟨h1,d',?_,h3.mono le⟩;unfold eD at h2 ⊢;rw [hk rfl]; exact h2
 | xW d =>
  obtain ⟨h1,d',h2,h3⟩:=o;refine ⟨h1,d',?_,h3.mono le⟩;unfold pC at h2 ⊢;rw [hk rfl]; exact h2
 | yd d =>
  obtain ⟨h1,d',h2,h3⟩:=o;refine ⟨h1,d',?_,h3.mono le⟩;unfold pC at h2 ⊢;rw [hk rfl]; exact h2
theorem vT.lt {P:Program} {ρ:fR} {h0 h:Hp} {pl:Pl} {a:AO} (o:vT P ρ h0 h pl a) (hl:a.live=true):pl.bY<h.size:=by
 cases a with
 | gone=>cases hl
 | row c e m=>obtain ⟨cs,f,h1,_⟩:=o; exact eP h1
 | wo d=>obtain ⟨_,d',h2,_⟩:=o; exact h2.lt
 | xW d=>obtain ⟨_,d',h2,_⟩:=o; exact h2.lt
 | yd d=>obtain ⟨_,d',h2,_⟩:=o; exact h2.lt
noncomputable def dB.put {α:Type} (t:dB α) (n:Nat) (a:α):dB α:=dB.set (n+1) t n a
theorem dB.uF {α:Type} (t:dB α) (n m:Nat) (a:α):(t.put n a).get m=if m=n then some a else t.get m:=dB.B0 _ _ _ _ _ (Nat.lt_succ_self n)
theorem dB.iv {α:Type} (t:dB α) (n:Nat) (a:α):(t.put n a).get n=some a:=by rw [dB.uF,W2 rfl]
theorem dB.jS {α:Type} (t:dB α) {n m:Nat} (a:α) (h:m≠n):(t.put n a).get m=t.get m:=by rw [dB.uF,WV h]
section rel
variable {C:Cx} {h0:Hp} {ρ:fR} {σ:dB AO} {h:Hp}
theorem Rel.row (R:Rel C h0 ρ σ h) {b:Nat} {o:AO} (hb:σ.get b=some o) {pl:Pl} (hp:ρ b=some pl):vT C.P ρ h0 h pl o:=by
 obtain ⟨pl',h1,h2⟩:=R.obj b _ hb;rw [hp] at h1; cases h1; exact h2
theorem Rel.TG (R:Rel C h0 ρ σ h) {g b:Nat} {h':Hp} {σ':dB AO} {ρ':fR} {o:AO} {pl:Pl} (k:Ch [g] h h') (hg:h0.size<=g) (le:Le ρ ρ')
  (hb:σ'.get b=some o) (hp:ρ' b=some pl) (hblk:pl.bY=g) (ho:vT C.P ρ' h0 h' pl o)
  (hold:∀ x a,x≠b->σ'.get x=some a->σ.get x=some a\/a=.gone/\σ.get x≠none)
  (hap:∀ x a p,x≠b->σ'.get x=some a->a.live=true->ρ x=some p->p.bY≠g)
  (hdom:∀ x,σ'.get x=none->ρ' x=none):Rel C h0 ρ' σ' h':=by
 have hlive:∀ x a,x≠b->σ'.get x=some a->a.live=true->σ.get x=some a:=by
  intro x a hx ha hl;rcases hold x a hx ha with h1 | ⟨rfl,_⟩
  ·exact h1
  ·cases hl
 refine ⟨fun i hi=>le _ _ (R.P2 i hi),R.ro,by have:=R.size; have:=k.size; omega,fun i hi=>?_,fun x a hx=>?_,fun x y a a' p p' hx hy hl hl' hpx hpy he=>?_,hdom⟩
 ·have:=R.size
  rw [k.same i ad (by simp; omega)]; exact R.base i hi
 ·by_cases hxb:x=b
  ·subst hxb; rw [hb] at hx; cases hx; exact ⟨pl,hp,ho⟩
  ·rcases hold x a hxb hx with h1 | ⟨rfl,h1⟩
   ·obtain ⟨p,e1,e2⟩:=R.obj x a h1;refine ⟨p,le _ _ e1,e2.ao le fun hl=>?_⟩;exact k.same _ (e2.lt hl) (by simpa using hap x a p hxb hx hl e1)
   ·cases hs:σ.get x with
    | none=>exact (h1 hs).elim
    | some a' =>
     obtain ⟨p,e1,_⟩:=R.obj x a' hs;exact ⟨p,le _ _ e1,trivial⟩
 ·have far:∀ x a p,x≠b->σ'.get x=some a->a.live=true->ρ' x=some p->p.bY≠g:=by
   intro x a p hxb hx hl hpx;have h1:=hlive x a hxb hx hl;obtain ⟨q,e1,_⟩:=R.obj x a h1
   have:=le _ _ e1
   rw [hpx] at this; cases this;exact hap x a _ hxb hx hl e1
  by_cases hxb:x=b
  ·by_cases hyb:y=b
   ·rw [hxb,hyb]
   ·subst hxb; rw [hp] at hpx; cases hpx;exact (far y a' p' hyb hy hl' hpy (by rw [<- he,hblk])).elim
  ·by_cases hyb:y=b
   ·subst hyb; rw [hp] at hpy; cases hpy;exact (far x a p hxb hx hl hpx (by rw [he,hblk])).elim
   ·have h1:=hlive x a hxb hx hl;have h2:=hlive y a' hyb hy hl';obtain ⟨q,e1,_⟩:=R.obj x a h1;obtain ⟨q',e2,_⟩:=R.obj y a' h2;have e3:=le _ _ e1;have e4:=le _ _ e2;rw [hpx] at e3; rw [hpy] at e4; cases e3; cases e4;exact R.apart x y a a' _ _ h1 h2 hl hl' e1 e2 he
theorem Rel.ext (R:Rel C h0 ρ σ h) {h':Hp} (k:Ext h h'):Rel C h0 ρ σ h':=by
 refine ⟨R.P2,R.ro,XU R.size k.size,fun i hi=>?_,fun b o hb=>?_,R.apart,R.On⟩
 ·have:=R.size
  rw [k.same i ad aj]; exact R.base i hi
 ·obtain ⟨p,e1,e2⟩:=R.obj b o hb;exact ⟨p,e1,e2.ao (Le.refl _) fun hl=>k.same _ (e2.lt hl) aj⟩
theorem Rel.new (R:Rel C h0 ρ σ h) {n:Nat} (hn:σ.get n=none) {o:AO} {pl:Pl} {h':Hp} (hb:h.size<=pl.bY) (k:Ext h h') (ho:vT C.P (jN ρ n pl) h0 h' pl o) :
  Rel C h0 (jN ρ n pl) (σ.put n o) h'/\Le ρ (jN ρ n pl):=by
 have hρ:=R.On n hn;have le:Le ρ (jN ρ n pl):=Le.jN hρ;refine ⟨R.TG (k.mono aj) (g:=pl.bY) (b:=n) (XU R.size hb) le (dB.iv _ _ _) (fj _ _ _) rfl ho (fun x a hx ha=>?_) (fun x a p hx ha hl hp=>?_) (fun x hx=>?_),le⟩
 ·rw [dB.jS _ _ hx] at ha; exact .inl ha
 ·rw [dB.jS _ _ hx] at ha
  have:=(R.row ha hp).lt hl
  omega
 ·by_cases hxn:x=n
  ·subst hxn; rw [dB.iv] at hx; cases hx
  ·rw [dB.jS _ _ hxn] at hx;rw [F3 hxn]; exact R.On x hx
theorem GR {P:Program} {ρ ρ':fR} {h0 h':Hp} {c c' rest:List ZB} {e:TypeId} {m cap g:Nat} (hs:h0.size<=g) (hc:dG ρ c c') (le:Le ρ ρ') (hb:bz h' g e (c'++rest))
  (hm:m=1->cap*P.cellsOf e=c'.length+rest.length/\cap<9223372036854775808):vT P ρ' h0 h' ⟨g,0,cap⟩ (.row c e m):=by
 refine ⟨(c'++rest).toArray,(0,0),hb,fun i v hv=>?_,fun _=>⟨rfl,hs⟩,fun h1=>?_,fun _=>rfl⟩
 ·obtain ⟨v',e1,e2⟩:=hc.get hv;refine ⟨v',?_,e2.mono le⟩
  have:i<c'.length:=by
   rcases XE i c'.length with h | h
   ·exact h
   ·rw [Xs h] at e1; cases e1
  rw [Xq,Yw,Xm this];exact e1
 ·have:=hm h1
  simp [this]
theorem Rel.newRow (R:Rel C h0 ρ σ h) {n:Nat} (hn:σ.get n=none) {c c' rest:List ZB} {e:TypeId} {m cap:Nat} {h':Hp} (hc:dG ρ c c') (hb:bz h' h.size e (c'++rest)) (k:Ext h h')
  (hm:m=1->cap*C.P.cellsOf e=c'.length+rest.length/\cap<9223372036854775808) :
  Rel C h0 (jN ρ n ⟨h.size,0,cap⟩) (σ.put n (.row c e m)) h'/\Le ρ (jN ρ n ⟨h.size,0,cap⟩) :=
 R.new hn (W9 _) k (GR R.size hc (Le.jN (R.On n hn)) hb hm)
theorem Rel.put (R:Rel C h0 ρ σ h) {b:Nat} {o o':AO} {pl:Pl} {h':Hp} (hb:σ.get b=some o) (hl:o.live=true) (hp:ρ b=some pl) (hg:h0.size<=pl.bY) (k:Ch [pl.bY] h h') (ho:vT C.P ρ h0 h' pl o') :
  Rel C h0 ρ (σ.put b o') h':=by
 refine R.TG k hg (Le.refl _) (dB.iv _ _ _) hp rfl ho (fun x a hx ha=>?_) (fun x a p hx ha hl' hp' he=>?_) (fun x hx=>?_)
 ·rw [dB.jS _ _ hx] at ha; exact .inl ha
 ·rw [dB.jS _ _ hx] at ha;exact hx (R.apart x b a o p pl ha hb hl' hl hp' hp he)
 ·by_cases hxn:x=b
  ·subst hxn; rw [dB.iv] at hx; cases hx
  ·rw [dB.jS _ _ hxn] at hx; exact R.On x hx
theorem Rel.move (R:Rel C h0 ρ σ h) {b n:Nat} {o o':AO} {pl pl':Pl} {h':Hp} (hn:σ.get n=none) (hb:σ.get b=some o) (hl:o.live=true) (hp:ρ b=some pl) (k:Ch [pl'.bY] h h')
  (hblk:pl'.bY=pl.bY\/pl'.bY=h.size) (hg:h0.size<=pl'.bY) (ho:vT C.P (jN ρ n pl') h0 h' pl' o') :
  Rel C h0 (jN ρ n pl') ((σ.put b .gone).put n o') h'/\Le ρ (jN ρ n pl'):=by
 have hρ:=R.On n hn;have le:Le ρ (jN ρ n pl'):=Le.jN hρ;have hbn:b≠n:=fun hh=>by subst hh; rw [hn] at hb; cases hb
 refine ⟨R.TG k hg le (dB.iv _ _ _) (fj _ _ _) rfl ho (fun x a hx ha=>?_) (fun x a p hx ha hl' hp' he=>?_) (fun x hx=>?_),le⟩
 ·rw [dB.jS _ _ hx] at ha
  by_cases hxb:x=b
  ·subst hxb; rw [dB.iv] at ha; cases ha;exact .inr ⟨rfl,by rw [hb]; simp⟩
  ·rw [dB.jS _ _ hxb] at ha; exact .inl ha
 ·rw [dB.jS _ _ hx] at ha
  by_cases hxb:x=b
  ·subst hxb; rw [dB.iv] at ha; cases ha; cases hl'
  ·rw [dB.jS _ _ hxb] at ha;rcases hblk with e | e
   ·exact hxb (R.apart x b a o p pl ha hb hl' hl hp' hp (by rw [he,e]))
   ·have:=(R.row ha hp').lt hl'
    omega
 ·by_cases hxn:x=n
  ·subst hxn; rw [dB.iv] at hx; cases hx
  ·rw [dB.jS _ _ hxn] at hx;rw [F3 hxn]
   by_cases hxb:x=b
   ·subst hxb; rw [dB.iv] at hx; cases hx
   ·rw [dB.jS _ _ hxb] at hx; exact R.On x hx
theorem iZ {pl:Pl} {cs:Array ZB} {e:TypeId} {f:Nat × Nat} (hg:h[pl.bY]?=some (.cells cs e f)) {off:Nat}:∀ (k:List ZB) (i:Nat),(∀ j v,k[j]?=some v->∃ v',cs[pl.sh+(off+i+j)]?=some v'/\VR ρ v v') ->
  ∃ k',dG ρ k k'/\aG h ⟨pl.bY,pl.sh+off,none⟩ i k'
 | [],i,_=>⟨[],.nil,trivial⟩
 | v::k,i,hk=>by
  obtain ⟨v',e1,e2⟩:=hk 0 v aj;obtain ⟨k',e3,e4⟩:=iZ hg k (i+1) fun j w hw=>by
   have:=hk (j+1) w (by simpa using hw)
   rw [show off+(i+1)+j=off+i+(j+1) from ad]; exact this
  refine ⟨v'::k',.cons e2 e3,?_,e4⟩;rw [aE,np hg,<- e1]; congr 1; omega
theorem Rel.store (R:Rel C h0 ρ σ h) {b:Nat} {c:List ZB} {e:TypeId} {m:Nat} (hb:σ.get b=some (.row c e m)) (hm:m≠2) {pl:Pl} (hp:ρ b=some pl) {off:Nat} {vs vs':List ZB}
  (hv:dG ρ vs vs') (hpl:vs'.all cP=true) (h1:1<=vs.length) (hl:off+vs.length<=c.length) :
  xI h ⟨pl.bY,pl.sh+off,none⟩ 0 vs'/\Rel C h0 ρ (σ.put b (.row (kM c off vs) e m)) (qz h ⟨pl.bY,pl.sh+off,none⟩ 0 vs'):=by
 obtain ⟨cs,f,hg,h2,h3,h4⟩:=R.row hb hp;obtain ⟨rfl,hgs⟩:=h3 hm;have bx:bz h pl.bY e cs.toList:=by unfold bz; simpa using hg
 have hlen:pl.sh+off+vs'.length<=cs.toList.length:=by
  rw [<- hv.length];obtain ⟨v',e1,_⟩:=h2 (off+vs.length-1) (c[off+vs.length-1]'ad) (by rw [WT])
  have:pl.sh+(off+vs.length-1)<cs.size:=by
   rcases XE (pl.sh+(off+vs.length-1)) cs.size with h | h
   ·exact h
   ·rw [XF h] at e1; cases e1
  simp; omega
 obtain ⟨k1,k2,k3,k4⟩:=kX (off:=pl.sh+off) vs' h 0 _ bx hpl (by simpa using hlen);refine ⟨k1,R.put hb rfl hp hgs k3 ⟨_,_,k2,fun i v hi=>?_,fun _=>⟨rfl,hgs⟩,fun h1=>?_,h4.2⟩⟩
 ·rw [ow _ _ _ hl] at hi;rw [Yw,ow _ _ _ (by simpa using hlen),YT];have hlen':pl.sh+off<=cs.toList.length:=ad
  rcases XE i off with hi1 | hi1
  ·rw [Xh,Xm (by simp; omega),Yv,W2 hi1] at hi;rw [Xh,Xm (by rw [Xe]; omega),Yv,W2 ad];rw [X5];exact h2 i v hi
  ·rcases XE i (off+vs.length) with hi2 | hi2
   ·have e1:(c.take off).length=off:=by rw [Xe]; omega
    have e2:(cs.toList.take (pl.sh+off)).length=pl.sh+off:=by rw [Xe]; omega
    rw [Xh,Xl ad,e1,Xm ad] at hi;rw [Xh,Xl ad,e2,Xm (by rw [<- hv.length]; omega),show pl.sh+i-(pl.sh+off)=i-off from ad];exact hv.get hi
   ·have e1:(c.take off++vs).length=off+vs.length:=by rw [WU,Xe]; omega
    have e2:(cs.toList.take (pl.sh+off)++vs').length=pl.sh+off+vs.length:=by rw [WU,Xe,<- hv.length]; omega
    rw [Xl ad,e1,Ym,show off+vs.length+(i-(off+vs.length))=i from ad] at hi;rw [Xl ad,e2,Ym,<- hv.length,show pl.sh+off+vs.length+(pl.sh+i-(pl.sh+off+vs.length))=pl.sh+i from ad,X5];exact h2 i v hi
 ·have:=h4.1 h1
  simpa [ma] using this
end rel
end Go.Sx.Cr
