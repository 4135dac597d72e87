/- Part of the framework. No condition. -/
import Derived.Test.YtmdncdaladplkaaGreatDoorSxL
set_option linter.all false
set_option maxHeartbeats 4000000
namespace Go.Sx
structure Ch (ws:List Nat) (h h':Hp):Prop where
 size:h.size<=h'.size
 same:∀ i,i<h.size->i∉ws->h'[i]?=h[i]?
abbrev Ext (h h':Hp):Prop:=Ch [] h h'
def Ch.refl (ws:List Nat) (h:Hp):Ch ws h h:=⟨am9 _,λ_ _ _=>rfl⟩
def Ch.trans {ws d:List Nat} {a b c:Hp} (h:Ch ws a b) (k:Ch d b c) (hv:∀ i,i∈d->i<a.size->i∈ws):Ch ws a c :=
 ⟨cd9 h.size k.size,λi hi e=>(k.same i (ea9 hi h.size) λf=>e (hv i f hi)).trans (h.same i hi e)⟩
variable {a:List Nat} {H:Hp}
def Ch.mono {ws:List Nat} {b:Hp} (h:Ch ws H b) (hv:∀ i,i∈ws->i<H.size->i∈a):Ch a H b:=⟨h.size,λi hi c=>h.same i hi λd=>c (hv i d hi)⟩
def Ext.trans {a b c:Hp} (h:Ext a b) (k:Ext b c):Ext a c:=Ch.trans h k ai
def bS {ws:List Nat} {b c:Hp} (h:Ch ws H b) (k:Ch a b c) (hv:∀ i,i∈a->i<H.size->i∈ws:=by intro i hi hl; simp at hi; omega):Ch ws H c:=Ch.trans h k hv
def Ext.push (h:Hp) (o:Obj):Ext h (h.push o):=⟨ai,λi hi _=>by rw [Array.getElem?_push,ac9 ad]⟩
variable {O Y Z:Nat}
def eY {o:Obj} (a:H[O]?=some o):O<H.size:=by
 rcases cj9 O H.size with hl | hl
 ·exact hl
 ·rw [cx9 hl] at a; cases a
def Ch.get {ws:List Nat} {h':Hp} (k:Ch ws H h') {o:Obj} (a:H[O]?=some o) (b:O∉ws):h'[O]?=some o:=(k.same O (eY a) b).trans a
def br (h:Hp) (g:Nat) (e:TypeId) (xs:List Xab):Prop:=h[g]?=some (.cells xs.toArray e (0,0))
variable {U:TypeId}
def br.lt {xs:List Xab} (b:br H O U xs):O<H.size:=eY b
def br.aj {ws:List Nat} {h':Hp} {xs:List Xab} (b:br H O U xs) (k:Ch ws H h') (a:O∉ws):br h' O U xs:=k.get b a
def br.new (h:Hp) (e:TypeId) (xs:List Xab):br (h.push (.cells xs.toArray e (0,0))) h.size e xs:=by
 unfold br; rw [Array.getElem?_push_size]
def sQ {off:Nat} {c:Array Xab} {f:Nat × Nat} (a:H[O]?=some (.cells c U f)):iB H ⟨O,off,none⟩=c[off]?:=by
 unfold iB; simp only [a]; rfl
def br.cell {off:Nat} {xs:List Xab} (b:br H O U xs):iB H ⟨O,off,none⟩=xs[off]?:=by
 rw [sQ b]; simp
def br.frozen {off:Nat} {xs:List Xab} (b:br H O U xs):xt H ⟨O,off,none⟩=false:=by
 unfold xt; unfold br at b; simp only [b]; simp
def aw (g off i:Nat):(⟨g,off,none⟩:Xax).add i=⟨g,off+i,none⟩:=by
 unfold Addr.add;split
 ·subst_vars; rfl
 ·rfl
def fw (a:Xax) (i:Nat):(a.add i).block=a.block:=by
 unfold Addr.add;split <;> rfl
variable {c:Xax}
def Jq {ws:List Nat} {h':Hp} {v:Xab} (hc:iB H c=some v) (k:Ch ws H h') (d:c.block∉ws):iB h' c=some v:=by
 unfold iB at hc ⊢;split at hc
 ·rename_i b e f g;rw [k.get g d]; exact hc
 ·cases hc
theorem aP {ws:List Nat} {h h':Hp} {a:Xax} (k:Ch ws h h') (c:a.block∉ws):∀ (b:List Xab) (i:Nat),aH h a i b->aH h' a i b
 | [],_,_=>trivial
 | v::b,i,hc=>⟨Jq hc.1 k (by rw [fw]; exact c),aP k c b (i+1) hc.2⟩
theorem br.cells_from {h:Hp} {g off:Nat} {e:TypeId} {xs:List Xab} (b:br h g e xs):∀ (a:List Xab) (i:Nat),(∀ j,j<a.length->xs[off+(i+j)]?=a[j]?)->aH h ⟨g,off,none⟩ i a
 | [],_,_=>trivial
 | v::a,i,hv=>by
  refine ⟨?_,b.cells_from a (i+1) λj c=>?_⟩
  ·rw [aw,b.cell];exact hv 0 ai
  ·have:=hv (j+1) (by simpa using c)
   rw [fd9] at this;rw [<- this]; congr 1; omega
def br.cells {off:Nat} {xs:List Xab} (b:br H O U xs) (vs:List Xab) (hv:(xs.drop off).take vs.length=vs):aH H ⟨O,off,none⟩ 0 vs:=by
 refine b.cells_from vs 0 λj a=>?_
 have:((xs.drop off).take vs.length)[j]?=vs[j]?:=by rw [hv]
 rw [eo9,ag9 a,ep9] at this;rw [<- this]; congr 1; omega
def iw (xs:List Xab):Nat->List Xab->List Xab
 | _,[]=>xs
 | i,v::a=>iw (xs.set i v) (i+1) a
theorem jg:∀ (a xs:List Xab) (i:Nat),(iw xs i a).length=xs.length
 | [],_,_=>rfl
 | v::a,xs,i=>by simp [iw,jg a]
theorem ig:∀ (a xs:List Xab) (i:Nat),i+a.length<=xs.length->iw xs i a=xs.take i++a++xs.drop (i+a.length)
 | [],xs,i,_=>by simp [iw]
 | v::a,xs,i,h=>by
  simp only [List.length_cons] at h;rw [iw,ig a (xs.set i v) (i+1) (by rw [cv9]; omega)];rw [List.take_set,List.drop_set_of_lt (show i<i+1+a.length from ad)];have b:(xs.take (i+1)).set i v=xs.take i++[v]:=by
   rw [af9 ad,List.set_append_right _ _ (by simp; omega)];simp [Nat.min_eq_left (by omega:i<=xs.length)]
  rw [b];simp only [List.append_assoc,List.cons_append,List.nil_append,List.length_cons];rw [show i+1+a.length=i+(a.length+1) from ad]
def SH {off:Nat} {xs:List Xab} (b:br H O U xs) (v:Xab):br (ml H ⟨O,off,none⟩ v) O U (xs.set off v)/\Ch [O] H (ml H ⟨O,off,none⟩ v)/\(ml H ⟨O,off,none⟩ v).size=H.size:=by
 unfold ml;refine ⟨?_,⟨ai,λi hi a=>?_⟩,ai⟩
 ·unfold br at b ⊢;rw [Array.getElem?_modify,ag9 rfl,b]
  simp
 ·rw [Array.getElem?_modify,ac9 (by simp at a; exact λU=>a U.symm)]
theorem ni {g off:Nat} {e:TypeId}:∀ (a:List Xab) (h:Hp) (i:Nat) (xs:List Xab),br h g e xs->a.all df=true->off+i+a.length<=xs.length ->
  zQ h ⟨g,off,none⟩ i a/\br (tS h ⟨g,off,none⟩ i a) g e (iw xs (off+i) a)/\Ch [g] h (tS h ⟨g,off,none⟩ i a)/\(tS h ⟨g,off,none⟩ i a).size=h.size
 | [],h,i,xs,b,_,_=>⟨trivial,b,Ch.refl _ _,rfl⟩
 | v::a,h,i,xs,b,c,hl=>by
  simp only [List.all_cons,Bool.and_eq_true,List.length_cons] at c hl;obtain ⟨d,f,z1⟩:=SH (off:=off+i) b v;obtain ⟨j,k,l,m⟩:=ni (off:=off) a (ml h ⟨g,off+i,none⟩ v) (i+1) (xs.set (off+i) v) d c.2 (by rw [cv9]; omega);unfold zQ tS;rw [aw];refine ⟨⟨c.1,⟨xs[off+i]'ad,?_⟩,b.frozen,j⟩,k,f.trans l ai,m.trans z1⟩;rw [b.cell,ad9]
section rules
variable {P:Program} {L:Lp} {K:Xab->Hp->Prop} {h:Hp}
variable {H:Nat} {O:TypeId} {U:T}
def cG {off:Nat} {xs a:List Xab} (b:br h H O xs) (c:a.all df=true) (hl:off+a.length<=xs.length)
  (hk:∀ h',br h' H O (iw xs off a)->Ch [H] h h'->h'.size=h.size->U L K h'):T.aD ⟨H,off,none⟩ a U L K h:=by
 obtain ⟨d,f,i,j⟩:=ni (off:=off) a h 0 xs b c hl;exact ⟨d,hk _ f i j⟩
variable {V:List TypeDesc}
def aZ {off:Nat} {xs:List Xab} {k:Av V T} (b:br h H O xs) (x:qu V) (hv:(xs.drop off).take (et V x).length=et V x) (hk:E4 _ k x L K h) :
  T.ah ⟨H,off,none⟩ V k L K h:=ar x (b.cells _ hv) hk
def ay {off:Nat} {xs:List Xab} {k:Av V T} (b:br h H O xs) (x:qu V) (hk:E4 _ k x L K h) (hv:(xs.drop off).take (et V x).length=et V x:=by first | rfl):T.ah ⟨H,off,none⟩ V k L K h:=aZ b x hv hk
def bJ {off:Nat} {xs a:List Xab} (b:br h H O xs) (hk:∀ h',br h' H O (iw xs off a)->Ch [H] h h'->h'.size=h.size->U L K h') (c:a.all df=true:=by first | rfl) (hl:off+a.length<=xs.length:=by first | simp):T.aD ⟨H,off,none⟩ a U L K h:=cG b c hl hk
def fO {cs:List ez} {first:T} {after:Av (flat cs) T} (J:qu (flat cs)->Hp->Prop) (a:first (L++[λb h'=>∃ y,b=parts cs (et _ y)/\J y h']) K h) (c:∀ y h',J y h'->E4 _ after y L K h'):T.join cs first after L K h:=⟨J,a,c⟩
def dE {a:List Xab} {cs:List ez} {J:qu (flat cs)->Hp->Prop} (y:qu (flat cs)) (b:L[H]?=some (λa h'=>∃ y,a=parts cs (et _ y)/\J y h')) (c:a=parts cs (et _ y)) (d:J y h):T.again H a L K h:=by
 unfold T.again;rw [b];exact ⟨y,c,d⟩
def bn {cells:List Xab} {k:Xax->T} (hk:∀ h',br h' h.size O cells->Ext h h'->h'.size=h.size+1->k ⟨h.size,0,none⟩ L K h'):T.new cells O k L K h :=
 hk _ (br.new h O cells) (Ext.push h _) ai
def dt {s:Sem Xab} {k:Xac->Nat->Nat->T} (a:aQ P s h λv h'=>∃ p l c,v=.slice p l c/\k p l c L K h'):T.dP P s false [(false,[.slice 0])] k L K h :=
 ec s _ _ _ (λv h' ⟨p,l,c,hv,hk⟩=>⟨((p,l,c),()),hv,hk⟩) a
def pL {s:Sem Xab} {b:Bool} {k:Bool->T} (c:∀ a:Xab->Hp->Prop,a (.bool b) h->aQ P s h a) (hk:k b L K h):T.dP P s false [(false,[.bool])] k L K h :=
 c _ ⟨(b,()),rfl,hk⟩
end rules
def oz {P:Program} {t:TypeId} {z:Xab} {s b:Nat} (h:(P.info? t).map (λi=>(i.zero,i.size,i.bytes))=some (some z,s,b)):∃ i,P.info? t=some i/\i.zero=some z/\i.size=s/\i.bytes=b:=by
 cases hi:P.info? t with
 | none=>rw [hi] at h; cases h
 | some i =>
  rw [hi] at h;simp only [Option.map_some,Option.some.injEq,Prod.mk.injEq] at h;exact ⟨i,rfl,h.1,h.2.1,h.2.2⟩
variable {b:Program} {d:T}
def aX {f:FuncId} {fn:Func} {args:List Xab} {R:Xab->Hp->Prop} (c:b.follows .mixedOrders=true) (e:b.funcs[f]?=some fn) (hl:Nat.ble args.length fn.ntmps=true)
  (g:bP b a fn args=d) (ht:d [] R H):HC b f args.toArray H R:=Wk c e hl (by rw [g]; exact ht)
def SL (h:Hp) (b:Nat) (e:TypeId) (sz:Nat) (p:Xac) (l c:Nat) (xs:List (List Xab)):Prop :=
 l=xs.length/\(∀ x,x∈xs->x.length=sz) /\
 match p with
 | none=>c=0/\xs=[]
 | some a=>∃ g d rest,a=⟨g,d.length,none⟩/\b<=g/\(l<=c/\c<9223372036854775808)/\br h g e (d++(xs.flatten++rest))/\rest.length=(c-l)*sz
def ax (p:Xac):List Nat :=
 match p with
 | none=>[]
 | some a=>[a.block]
def SL.nil (h:Hp) (b:Nat) (e:TypeId) (sz:Nat):SL h b e sz none 0 0 []:=⟨rfl,ai,rfl,rfl⟩
def SL.aj {ws:List Nat} {h h':Hp} {b:Nat} {e:TypeId} {sz:Nat} {p:Xac} {l c:Nat} {xs:List (List Xab)} (s:SL h b e sz p l c xs) (k:Ch ws h h') (m:∀ a,p=some a->a.block∉ws):SL h' b e sz p l c xs:=by
 refine ⟨s.1,s.2.1,?_⟩;cases p with
 | none=>exact s.2.2
 | some a =>
  obtain ⟨g,f,rest,j,n,i,d,o⟩:=s.2.2;exact ⟨g,f,rest,j,n,i,d.aj k (by have:=m a rfl; rw [j] at this; exact this),o⟩
variable {V:Xac}
def SL.mono {b' sz:Nat} {xs:List (List Xab)} (s:SL H O U sz V Y Z xs) (f:b'<=O):SL H b' U sz V Y Z xs:=by
 refine ⟨s.1,s.2.1,?_⟩;cases V with
 | none=>exact s.2.2
 | some a =>
  obtain ⟨g,i,rest,k,m,j,d,n⟩:=s.2.2;exact ⟨g,i,rest,k,cd9 f m,j,d,n⟩
theorem dy {sz:Nat}:∀ (xs:List (List Xab)),(∀ x,x∈xs->x.length=sz)->xs.flatten.length=xs.length*sz
 | [],_=>ai
 | x::xs,h=>by
  rw [er9,ae9,h x ai,dy xs (λy a=>h y (by simp [a])),cn9,dd9];omega
theorem oI {sz:Nat}:∀ (xs:List (List Xab)) (i:Nat) (rest:List Xab),(∀ x,x∈xs->x.length=sz)->(hi:i<xs.length)->((xs.flatten++rest).drop (i*sz)).take sz=xs[i]
 | [],i,_,_,hi=>by simp at hi
 | x::xs,0,rest,h,_=>by
  have a:x.length=sz:=h x ai;simp [<- a]
 | x::xs,i+1,rest,h,hi=>by
  have a:x.length=sz:=h x ai
  have:(i+1)*sz=x.length+i*sz:=by rw [dd9,a]; omega
  rw [this,er9,az9,<- fo9,dy9];simpa using oI xs i rest (λy b=>h y (by simp [b])) (by simpa using hi)
def SL.cj {sz:Nat} {xs:List (List Xab)} (s:SL H O U sz V Y Z xs) {i:Nat} (hi:i∈ax V):O<=i/\i<H.size:=by
 cases V with
 | none=>simp [ax] at hi
 | some a =>
  obtain ⟨g,j,rest,rfl,f,k,d,m⟩:=s.2.2;simp [ax] at hi;subst hi;exact ⟨f,d.lt⟩
def SL.bf {ws:List Nat} {h':Hp} {sz:Nat} {xs:List (List Xab)} (s:SL H O U sz V Y Z xs) (k:Ch ws H h') (d:∀ i,i∈ax V->i∉ws):SL h' O U sz V Y Z xs :=
 s.aj k λa f=>d _ (by rw [f]; simp [ax])
def SL.cells {h:Hp} {b:Nat} {e:TypeId} {sz:Nat} {p:Xac} {l c:Nat} {xs:List (List Xab)} (s:SL h b e sz p l c xs) {i:Nat} (hi:i<xs.length) :
  ∃ a,p=some a/\aH h (a.add (i*sz)) 0 xs[i]:=by
 cases p with
 | none=>have:=s.2.2.2; subst this; simp at hi
 | some a =>
  obtain ⟨g,f,rest,rfl,k,j,d,m⟩:=s.2.2;refine ⟨_,rfl,?_⟩;rw [aw];refine d.cells _ ?_;rw [s.2.1 _ (ah9 hi),<- fo9,dy9];exact oI xs i rest s.2.1 hi
def SL.drop {h:Hp} {b:Nat} {e:TypeId} {sz:Nat} {p:Xac} {l c:Nat} {xs:List (List Xab)} (s:SL h b e sz p l c xs) {k:Nat} (hk:k<=l) :
  SL h b e sz (p.map λa=>a.add (k*sz)) (l-k) (c-k) (xs.drop k):=by
 refine ⟨by rw [bs9,<- s.1],λx m=>s.2.1 x (fp9 m),?_⟩;cases p with
 | none =>
  obtain ⟨h1,h2⟩:=s.2.2;subst h1 h2;exact ⟨ad,ai⟩
 | some a =>
  obtain ⟨g,i,rest,rfl,n,o,f,q⟩:=s.2.2;have d:xs.flatten=(xs.take k).flatten++(xs.drop k).flatten:=by rw [<- fb9,cc9]
  have j:(xs.take k).flatten.length=k*sz:=by
   rw [dy _ (λx m=>s.2.1 x (cy9 m)),au9,cp9 (by have:=s.1; omega)]
  refine ⟨g,i++(xs.take k).flatten,rest,?_,n,ad,?_,by rw [q]; congr 1; omega⟩
  ·show Addr.add ⟨g,i.length,none⟩ (k*sz)=_;rw [aw,ae9,j]
  ·rw [d] at f;simpa [List.append_assoc] using f
def AN {A X B a:List Xab} (h:X.length=a.length):iw (A++(X++B)) A.length a=A++(a++B):=by
 rw [ig _ _ _ (by simp; omega),eg9,az9,<- fo9,dy9,<- h,dy9]
def SL.store {P:Program} {L:Lp} {K:Xab->Hp->Prop} {h:Hp} {sz:Nat} {xs:List (List Xab)} (s:SL h O U sz V Y Z xs) {i:Nat} (hi:i<xs.length) {vs:List Xab} (hv:vs.length=sz)
  (u:vs.all df=true) (w:V=some c) (hk:∀ h',SL h' O U sz V Y Z (xs.set i vs)->Ch (ax V) h h'->h'.size=h.size->d L K h'):T.aD (c.add (i*sz)) vs d L K h:=by
 subst w;obtain ⟨g,f,rest,rfl,q,r,j,y⟩:=s.2.2;have m:(xs.take i).flatten.length=i*sz:=by
  rw [dy _ (λx m=>s.2.1 x (cy9 m)),au9,cp9 ad]
 have z:f++(xs.flatten++rest)=(f++(xs.take i).flatten)++(xs[i]++((xs.drop (i+1)).flatten++rest)):=by
  have e0:xs.flatten=(xs.take i).flatten++(xs[i]++(xs.drop (i+1)).flatten):=by
   conv=>lhs; rw [<- cc9 i xs,ax9 hi]
   rw [fb9,er9]
  rw [e0];simp only [List.append_assoc]
 have A:(xs.set i vs).flatten=(xs.take i).flatten++(vs++(xs.drop (i+1)).flatten):=by
  rw [List.set_eq_take_append_cons_drop,ag9 hi]
  simp
 have t:xs[i].length=vs.length:=by rw [hv]; exact s.2.1 _ (ah9 hi)
 rw [z] at j;rw [aw];have n:(f++(xs.take i).flatten).length=f.length+i*sz:=by rw [ae9,m]
 rw [<- n];refine cG j u (by simp; omega) ?_;intro h' o k' B;rw [AN t] at o;refine hk h' ⟨by rw [cv9]; exact s.1,λx m=>?_,g,f,rest,rfl,q,r,?_,y⟩ (by simpa [ax] using k') B
 ·rcases dk9 m with m | rfl
  ·exact s.2.1 x m
  ·exact hv
 ·rw [A];simpa [List.append_assoc] using o
def pG {α β:Type} (f:α->β) (s:Sem α) (h:Hp) (K:β->Hp->Prop):aQ b (f <$> s) h K=aQ b s h λa h'=>K (f a) h':=by
 have:f <$> s=s >>= λa=>pure (f a):=by rw [<- bind_pure_comp]
 rw [this,an]; rfl
section append
variable {P:Program} {h:Hp} {K:Xab->Hp->Prop}
variable {H O:TypeId} {U V b:Nat} {c:TypeInfo}
def kG {parts:Array (Nat × Xab)} {z:Xab} {cells:Array Xab} (ht:P.underlying H=some (.slice O)) (hi:P.info? O=some c) (b:c.zero=some z)
  (hn:U*c.size≠0) (g:U*c.size<=2^24)
  (f:Instr.fill (λj=>some (j*c.size,c.size)) ((Array.range (U*c.size)).map (z.cells[· % z.cells.size]!)) parts.toList=some cells)
  (hk:∀ h',br h' h.size O cells.toList->Ext h h'->h'.size=h.size+1->K (.slice (some ⟨h.size,0,none⟩) U U) h'):aQ P (Instr.buildSlice H U parts) h K:=by
 unfold Instr.buildSlice;rw [an,az ht];simp only;rw [an,bT hi,cJ hi];rw [ac9 ad,ac9 hn];rw [an,dI (z:=z) (by rw [hi]; exact b)];show aQ P (match Instr.fill (λj=>some (j*c.size,c.size)) ((Array.range (U*c.size)).map (z.cells[· % z.cells.size]!)) parts.toList with
  | some cells=>do
   let d <- newRow O cells
   pure (Value.slice (some d) U U)
  | _ => stuck "buildSlice: a part of the wrong size") h K
 rw [f];refine hk _ ?_ (Ext.push h _) ai;exact br.new h O cells.toList
def MS (need:Nat):∀ (n c:Nat),c<=2*need+1024->0<n->Builtin.growBy need n c<=2*need+1024:=by
 intro n
 induction n with
 | zero=>intro c h h0; omega
 | succ n a =>
  intro c h _;unfold Builtin.growBy;split
  ·exact h
  ·rename_i b;cases n with
   | zero=>unfold Builtin.growBy; omega
   | succ n=>exact a _ ad ad
def CG {need old:Nat} (h:old<need):Builtin.nextslicecap need old<=2*need+1024:=by
 unfold Builtin.nextslicecap;split
 ·omega
 ·split
  ·omega
  ·exact MS need 4 old ad ad
def sE (z:Array Xab) (n:Nat):(Builtin.zeroCells z n).size=n*z.size:=by
 unfold Builtin.zeroCells; simp
def Lv (need old:Nat) (e:TypeId) (t:Nat):need<=(Question.appendCap need old e).cut t/\(need<9223372036854775808->(Question.appendCap need old e).cut t<9223372036854775808):=by
 show need<=need+t % (2^63-need)/\(need<9223372036854775808->need+t % (2^63-need)<9223372036854775808);refine ⟨ad,λh=>?_⟩
 have:=fz9 t (show 0<2^63-need from ad)
 omega
variable {Y:Xac}
def mI {ty:TypeId} {z:Xab} (ht:P.underlying H=some (.slice O)) (hi:P.info? O=some c) (S:c.zero=some z) (J:z.cells.size=c.size)
  {xs ys:List (List Xab)} (s:SL h U O c.size Y V b xs) {a:Xax} {m cc:Nat} (Q:m=ys.length) (A:∀ y,y∈ys->y.length=c.size)
  (hc:aH h a 0 ys.flatten) (W:ys.flatten.all df=true) (X:(2*(V+m)+1024)*c.bytes<=2^48) (hl:V+m<=2^48) (Z:U<=h.size)
  (hk:∀ p' c' h',SL h' U O c.size p' (V+m) c' (xs++ys)->Ch (ax Y) h h'->(p'=Y\/∃ a,p'=some a/\h.size<=a.block)->K (.slice p' (V+m) c') h') :
  aQ P (Builtin.append_ #[H,H] ty #[.slice Y V b,.slice (some a) m cc]) h K:=by
 have f:ys.flatten.length=m*c.size:=by rw [dy ys A,Q]
 have o:xs.flatten.length=V*c.size:=by rw [dy xs s.2.1,s.1]
 have r:∀ x,x∈xs++ys->x.length=c.size:=λx hx=>(ar9.1 hx).elim (s.2.1 x) (A x)
 have u:V+m=(xs++ys).length:=by rw [ae9,<- s.1,Q]
 have L:(P.info? O).bind (·.zero)=some z:=by rw [hi]; exact S
 by_cases d:V+m<=b
 ·simp [Builtin.append_,an,az ht,bT hi,cJ hi,Builtin.lenOf,Builtin.firstCells,d];refine dK f hc _ ?_;cases Y with
  | none =>
   have h1:b=0:=s.2.2.1;have h2:ys=[]:=bu9 ad;subst h2;rw [cb9] at hk;have M:m=0:=ad
   subst M;exact hk none b h s (Ch.refl _ _) (.inl rfl)
  | some a1 =>
   obtain ⟨g,j,rest,rfl,B,C,k,N⟩:=s.2.2;have D:(xs.flatten++rest).length=b*c.size:=by
    rw [ae9,o,N,<- dd9]; congr 1; omega
   have hle:V*c.size+m*c.size<=b*c.size:=by rw [<- dd9]; exact cz9 _ d
   simp only;rw [aw,pG];obtain ⟨k1,E,k3,k4⟩:=ni (off:=j.length+V*c.size) ys.flatten h 0 _ k W (by rw [ae9,D,f]; omega);refine gh _ _ _ _ _ k1 ?_;refine hk _ b _ ⟨u,r,g,j,rest.drop (m*c.size),rfl,B,⟨d,C.2⟩,?_,?_⟩ k3 (.inl rfl)
   ·rw [ig _ _ _ (by rw [ae9,D,f]; omega),eh9,<- o,<- az9,<- ae9,eg9,List.drop_append,f] at E;rw [dl9 ad,cw9,show (j++xs.flatten).length+m*c.size-(j++xs.flatten).length=m*c.size from ad] at E;rw [fb9];rw [ae9,o] at E;simp only [List.append_assoc] at E ⊢;exact E
   ·rw [bs9,N,<- Nat.sub_mul]; congr 1; omega
 ·have F:¬ 281474976710656<Builtin.nextslicecap (V+m) b*c.bytes:=by
   have h1:=CG (need:=V+m) (old:=b) ad;have h2:=cz9 c.bytes h1;have M:(2:Nat)^48=281474976710656:=rfl;omega
  have G:¬ (9223372036854775807<(V:Int)+(m:Int)/\c.bytes=0):=by
   have M:(2:Nat)^48=281474976710656:=rfl;omega
  simp [Builtin.append_,an,az ht,bT hi,cJ hi,Builtin.lenOf,Builtin.firstCells,d,iJ hi,dI L,askRoom,G,F];intro R;have hge:=Lv (V+m) b O R;generalize (Question.appendCap (V+m) b O).cut R=w at hge;show aQ P (if roomBytes<w*c.bytes then mark Mark.noRoom else pure ()) h _;have q:∀ K':Unit->Hp->Prop,K' () h->aQ P (if roomBytes<w*c.bytes then mark Mark.noRoom else pure ()) h K':=by
   intro K' n;split
   ·exact n
   ·exact n
  refine q _ ?_
  have I:∀ K':Array Xab->Hp->Prop,K' xs.flatten.toArray h->aQ P (match Value.slice Y V b with
    | Value.slice (some a) len cap=>loadCells a (V*c.size)
    | Value.slice none len cap=>pure #[]
    | Value.string s=>pure ((Array.map (λU=>Value.int IntKind.u8 ↑U.toNat) s.data).extract 0 V)
    | x => stuck "slice or string expected") h K' := by
   intro K' n;cases Y with
   | none =>
    have:xs=[]:=s.2.2.2
    subst this;exact n
   | some a1 =>
    obtain ⟨g,j,rest,rfl,B,C,k,N⟩:=s.2.2;refine dK o (k.cells _ ?_) _ n;rw [dy9,eg9]
  refine I _ ?_;refine dK f hc _ ?_;rw [pG];refine hk (some ⟨h.size,0,none⟩) w _ ⟨u,r,h.size,[],(Builtin.zeroCells z.cells (w-(V+m))).toList,rfl,Z,⟨hge.1,hge.2 ad⟩,?_,?_⟩ ((Ext.push h _).mono ai) (.inr ⟨_,rfl,am9 _⟩)
  ·have e1:xs.flatten.toArray++(ys.flatten.toArray++Builtin.zeroCells z.cells (w-(V+m)))=((xs++ys).flatten++(Builtin.zeroCells z.cells (w-(V+m))).toList).toArray:=by
    apply ca9.1; simp
   rw [e1];exact br.new h O _
  ·rw [de9,sE,J]
variable {Z:Lp} {a:Xac->Nat->Nat->T}
def gz {K:Xab->Hp->Prop} {e:TypeId} {z:Xab} {sz by':Nat} {st:List (Xax × List Xab)} (ht:P.underlying H=some (.slice e)) (g:(P.info? e).map (λi=>(i.zero,i.size,i.bytes))=some (some z,sz,by'))
  (n:z.cells.size=sz) (A:sz≠0) (B:sz<=4096) {v:Xab} {vs:List Xab} (C:Instr.fill (λj=>some (j*sz,sz)) ((Array.range (1*sz)).map (z.cells[· % z.cells.size]!)) [(0,v)]=some vs.toArray) (o:vs.length=sz) (r:vs.all df=true)
  {xs:List (List Xab)} (s:SL h U e sz Y V b xs) (N:U<=h.size) (u:(2*(V+1)+1024)*by'<=2^48) (hl:V+1<=2^48) (w:∀ h',Ext h h'->T.Cv h' st)
  (hk:∀ p' c' h',SL h' U e sz p' (V+1) c' (xs++[vs])->Ch (ax Y) h h'->(p'=Y\/∃ d,p'=some d/\h.size<=d.block)->a p' (V+1) c' Z K h') :
  T.dP P (Instr.buildSlice H 1 #[(0,v)]) false [(false,[.slice 0])] (λq m D=>T.bG st (T.dP P (Builtin.append_ #[H,H] O #[.slice Y V b,.slice q m D]) false [(false,[.slice 0])] a)) Z K h:=by
 obtain ⟨i,hi,y,rfl,rfl⟩:=oz g;refine dt (kG ht hi y ad ad C ?_);intro h1 E x z1;refine ⟨_,_,_,rfl,w _ x,dt ?_⟩;have F:SL h1 U e i.size Y V b xs:=s.aj x ai;refine mI (ys:=[vs]) ht hi y n F rfl (by simpa using o) (E.cells _ ai) (by simpa using r) (by simpa using u) (by simpa using hl) (by rw [z1]; omega) ?_;intro p' c' h2 G I f;refine ⟨p',V+1,c',rfl,hk p' c' h2 G (Ch.trans (x.mono ai) I (λi hi _=>hi)) ?_⟩;rcases f with f | ⟨d,J,M⟩
 ·exact .inl f
 ·exact .inr ⟨d,J,ad⟩
def Vm {K:Xab->Hp->Prop} {e:TypeId} {z:Xab} {sz by':Nat} (ht:P.underlying H=some (.slice e)) (f:(P.info? e).map (λi=>(i.zero,i.size,i.bytes))=some (some z,sz,by'))
  (m:z.cells.size=sz) {b':Nat} {xs:List (List Xab)} (s:SL h U e sz Y V b xs) (n:xs.flatten.all df=true) (w:b'<=h.size) (o:(2*V+1024)*by'<=2^48) (hl:V<=2^48)
  (hk:∀ p' c' h',SL h' b' e sz p' V c' xs->Ext h h'->(p'=none\/∃ d,p'=some d/\h.size<=d.block)->a p' V c' Z K h') :
  T.dP P (Builtin.append_ #[H,H] O #[.slice none 0 0,.slice Y V b]) false [(false,[.slice 0])] a Z K h:=by
 obtain ⟨i,hi,x,rfl,rfl⟩:=oz f;refine dt ?_;have E:xs.flatten.length=V*i.size:=by rw [dy _ s.2.1,<- s.1]
 cases Y with
 | none =>
  have h1:xs=[]:=s.2.2.2;have h2:V=0:=by rw [s.1,h1]; rfl
  have y:b=0:=s.2.2.1;subst h1 h2 y;simp [Builtin.append_,an,az ht,bT hi,cJ hi,Builtin.lenOf,Builtin.firstCells];exact ⟨_,_,_,rfl,hk none 0 h (SL.nil _ _ _ _) (Ch.refl _ _) (.inl rfl)⟩
 | some d =>
  have q:aH h d 0 xs.flatten:=by
   obtain ⟨g,A,rest,rfl,B,C,j,F⟩:=s.2.2;refine j.cells _ ?_;rw [dy9,eg9]
  have:=mI (P:=P) (h:=h) (K:=λv h'=>∃ Y V b,v=.slice Y V b/\a Y V b Z K h') (ty:=O) (ys:=xs) ht hi x m (SL.nil h b' e i.size) s.1 s.2.1 q n (by simpa using o) (by simpa using hl) w (cc:=b) ?_
  ·exact this
  ·intro p' c' h2 u D r;rw [by9] at u ⊢;exact ⟨p',V,c',rfl,hk p' c' h2 u D r⟩
def oB {K:Xab->Hp->Prop} {parts:Array (Nat × Xab)} {z:Xab} {sz:Nat} (ht:P.underlying H=some (.slice O)) (c:(P.info? O).map (λi=>(i.zero,i.size,i.bytes))=some (some z,sz,V))
  (hn:U*sz≠0) (d:U*sz<=2^24) {cells:List Xab} (f:Instr.fill (λj=>some (j*sz,sz)) ((Array.range (U*sz)).map (z.cells[· % z.cells.size]!)) parts.toList=some cells.toArray)
  (hk:∀ h',br h' h.size O cells->Ext h h'->h'.size=h.size+1->a (some ⟨h.size,0,none⟩) U U Z K h'):T.dP P (Instr.buildSlice H U parts) false [(false,[.slice 0])] a Z K h:=by
 obtain ⟨i,hi,g,rfl,rfl⟩:=oz c;exact dt (kG ht hi g hn d f λh' b O z=>⟨_,_,_,rfl,hk h' b O z⟩)
def eZ {K:Xab->Hp->Prop} {e:TypeId} {z:Xab} {sz by':Nat} (ht:P.underlying H=some (.slice e)) (n:(P.info? e).map (λi=>(i.zero,i.size,i.bytes))=some (some z,sz,by'))
  (r:z.cells.size=sz) (C:sz≠0) (D:sz<=4096) {v:Xab} {vs:List Xab} (E:Instr.fill (λj=>some (j*sz,sz)) ((Array.range (1*sz)).map (z.cells[· % z.cells.size]!)) [(0,v)]=some vs.toArray) (u:vs.length=sz) (w:vs.all df=true)
  {b:Nat} {xs:List (List Xab)} (s:SL h b e sz Y U V xs) (X:b<=h.size) (x:(2*(U+1)+1024)*by'<=2^48) (hl:U+1<=2^48)
  (hk:∀ p' c' h',SL h' b e sz p' (U+1) c' (xs++[vs])->Ch (ax Y) h h'->(p'=Y\/∃ d,p'=some d/\h.size<=d.block)->a p' (U+1) c' Z K h') :
  T.dP P (Instr.buildSlice H 1 #[(0,v)]) false [(false,[.slice 0])] (λq m F=>T.dP P (Builtin.append_ #[H,H] O #[.slice Y U V,.slice q m F]) false [(false,[.slice 0])] a) Z K h:=by
 obtain ⟨i,hi,A,rfl,rfl⟩:=oz n;refine dt (kG ht hi A ad ad E ?_);intro h1 G B z1;refine ⟨_,_,_,rfl,dt ?_⟩;have I:SL h1 b e i.size Y U V xs:=s.aj B ai;have J:∀ d,Y=some d->d.block<h.size:=by
  intro d y;subst y;obtain ⟨g,M,rest,rfl,N,Q,o,hr⟩:=s.2.2;exact o.lt
 refine mI (ys:=[vs]) ht hi A r I rfl (by simpa using u) (G.cells _ ai) (by simpa using w) (by simpa using x) (by simpa using hl) (by rw [z1]; omega) ?_;intro p' c' h2 R S f;refine ⟨p',U+1,c',rfl,hk p' c' h2 R (Ch.trans (B.mono ai) S (λi hi _=>hi)) ?_⟩;rcases f with f | ⟨d,y,W⟩
 ·exact .inl f
 ·exact .inr ⟨d,y,ad⟩
end append
end Go.Sx
