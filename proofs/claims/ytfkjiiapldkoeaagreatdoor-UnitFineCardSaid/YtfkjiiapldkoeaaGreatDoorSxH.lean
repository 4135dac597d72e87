/- A framework of our own, part H: what is known of heaps: new memory, rows of cells that are one's own, append. No condition. -/
import Derived.Test.YtfkjiiapldkoeaaGreatDoorSxL
set_option linter.unusedVariables false
set_option linter.unusedSimpArgs false
set_option linter.deprecated false
namespace Go.Sx
structure Ch (ws:List Nat) (h h':Hp):Prop where
 size:h.size≤h'.size
 same:∀ i,i<h.size→i∉ws→h'[i]?=h[i]?
abbrev Ext (h h':Hp):Prop:=Ch [] h h'
theorem Ch.refl (ws:List Nat) (h:Hp):Ch ws h h:=⟨Nat.le_refl _,fun _ _ _=>rfl⟩
theorem Ch.trans {ws vs:List Nat} {a b c:Hp} (h:Ch ws a b) (k:Ch vs b c) (hv:∀ i,i∈vs→i<a.size→i∈ws):Ch ws a c :=
 ⟨Nat.le_trans h.size k.size,fun i hi hw=>(k.same i (Nat.lt_of_lt_of_le hi h.size) fun hm=>hw (hv i hm hi)).trans (h.same i hi hw)⟩
theorem Ch.mono {ws vs:List Nat} {a b:Hp} (h:Ch ws a b) (hv:∀ i,i∈ws→i<a.size→i∈vs):Ch vs a b:=⟨h.size,fun i hi hw=>h.same i hi fun hm=>hw (hv i hm hi)⟩
theorem Ext.trans {a b c:Hp} (h:Ext a b) (k:Ext b c):Ext a c:=Ch.trans h k (by simp)
theorem Ext.push (h:Hp) (o:Obj):Ext h (h.push o):=⟨by simp,fun i hi _=>by rw [Array.getElem?_push,if_neg (by omega)]⟩
theorem om {h:Hp} {g:Nat} {o:Obj} (hg:h[g]?=some o):g<h.size:=by
 rcases Nat.lt_or_ge g h.size with hl | hl
 ·exact hl
 ·rw [Array.getElem?_eq_none hl] at hg; cases hg
theorem Ch.get {ws:List Nat} {h h':Hp} (k:Ch ws h h') {g:Nat} {o:Obj} (hg:h[g]?=some o) (hw:g∉ws):h'[g]?=some o:=(k.same g (om hg) hw).trans hg
def aO (h:Hp) (g:Nat) (e:TypeId) (xs:List Value):Prop:=h[g]?=some (.cells xs.toArray e (0,0))
theorem aO.lt {h:Hp} {g:Nat} {e:TypeId} {xs:List Value} (b:aO h g e xs):g<h.size:=om b
theorem aO.ah {ws:List Nat} {h h':Hp} {g:Nat} {e:TypeId} {xs:List Value} (b:aO h g e xs) (k:Ch ws h h') (hw:g∉ws):aO h' g e xs:=k.get b hw
theorem aO.new (h:Hp) (e:TypeId) (xs:List Value):aO (h.push (.cells xs.toArray e (0,0))) h.size e xs:=by
 unfold aO; rw [Array.getElem?_push_size]
theorem kv {h:Hp} {g off:Nat} {c:Array Value} {e:TypeId} {f:Nat × Nat} (hg:h[g]?=some (.cells c e f)):ew h ⟨g,off,none⟩=c[off]?:=by
 unfold ew; simp only [hg]; rfl
theorem aO.cell {h:Hp} {g off:Nat} {e:TypeId} {xs:List Value} (b:aO h g e xs):ew h ⟨g,off,none⟩=xs[off]?:=by
 rw [kv b]; simp
theorem aO.frozen {h:Hp} {g off:Nat} {e:TypeId} {xs:List Value} (b:aO h g e xs):nX h ⟨g,off,none⟩=false:=by
 unfold nX; unfold aO at b; simp only [b]; simp
theorem ao (g off i:Nat):(⟨g,off,none⟩:Addr).add i=⟨g,off+i,none⟩:=by
 unfold Addr.add;split
 ·subst_vars; rfl
 ·rfl
theorem gN (a:Addr) (i:Nat):(a.add i).block=a.block:=by
 unfold Addr.add;split <;> rfl
theorem dc {ws:List Nat} {h h':Hp} {a:Addr} {v:Value} (hc:ew h a=some v) (k:Ch ws h h') (hw:a.block∉ws):ew h' a=some v:=by
 unfold ew at hc ⊢;split at hc
 ·rename_i c e f hg;rw [k.get hg hw]; exact hc
 ·cases hc
theorem bt {ws:List Nat} {h h':Hp} {a:Addr} (k:Ch ws h h') (hw:a.block∉ws):∀ (vs:List Value) (i:Nat),aH h a i vs→aH h' a i vs
 | [],_,_=>trivial
 | v::vs,i,hc=>⟨dc hc.1 k (by rw [gN]; exact hw),bt k hw vs (i+1) hc.2⟩
theorem aO.cells_from {h:Hp} {g off:Nat} {e:TypeId} {xs:List Value} (b:aO h g e xs):∀ (vs:List Value) (i:Nat),(∀ j,j<vs.length→xs[off+(i+j)]?=vs[j]?)→aH h ⟨g,off,none⟩ i vs
 | [],_,_=>trivial
 | v::vs,i,hv=>by
  refine ⟨?_,b.cells_from vs (i+1) fun j hj=>?_⟩
  ·rw [ao,b.cell];exact hv 0 (by simp)
  ·have:=hv (j+1) (by simpa using hj)
   rw [List.getElem?_cons_succ] at this;rw [← this]; congr 1; omega
theorem aO.cells {h:Hp} {g off:Nat} {e:TypeId} {xs:List Value} (b:aO h g e xs) (vs:List Value) (hv:(xs.drop off).take vs.length=vs):aH h ⟨g,off,none⟩ 0 vs:=by
 refine b.cells_from vs 0 fun j hj=>?_
 have:((xs.drop off).take vs.length)[j]?=vs[j]?:=by rw [hv]
 rw [List.getElem?_take,if_pos hj,List.getElem?_drop] at this;rw [← this]; congr 1; omega
def iK (xs:List Value):Nat→List Value→List Value
 | _,[]=>xs
 | i,v::vs=>iK (xs.set i v) (i+1) vs
theorem jY:∀ (vs xs:List Value) (i:Nat),(iK xs i vs).length=xs.length
 | [],_,_=>rfl
 | v::vs,xs,i=>by simp [iK,jY vs]
theorem ol:∀ (vs xs:List Value) (i:Nat),i+vs.length≤xs.length→iK xs i vs=xs.take i++vs++xs.drop (i+vs.length)
 | [],xs,i,_=>by simp [iK]
 | v::vs,xs,i,h=>by
  simp only [List.length_cons] at h;rw [iK,ol vs (xs.set i v) (i+1) (by rw [List.length_set]; omega)];rw [List.take_set,List.drop_set_of_lt (show i<i+1+vs.length by omega)];have e1:(xs.take (i+1)).set i v=xs.take i++[v]:=by
   rw [List.take_succ_eq_append_getElem (by omega),List.set_append_right _ _ (by simp; omega)];simp [Nat.min_eq_left (by omega:i≤xs.length)]
  rw [e1];simp only [List.append_assoc,List.cons_append,List.nil_append,List.length_cons];rw [show i+1+vs.length=i+(vs.length+1) by omega]
theorem wj {h:Hp} {g off:Nat} {e:TypeId} {xs:List Value} (b:aO h g e xs) (v:Value):aO (iI h ⟨g,off,none⟩ v) g e (xs.set off v)∧Ch [g] h (iI h ⟨g,off,none⟩ v)∧(iI h ⟨g,off,none⟩ v).size=h.size:=by
 unfold iI;refine ⟨?_,⟨by simp,fun i hi hw=>?_⟩,by simp⟩
 ·unfold aO at b ⊢;rw [Array.getElem?_modify,if_pos rfl,b]
  simp
 ·rw [Array.getElem?_modify,if_neg (by simp at hw; exact fun e=>hw e.symm)]
theorem lC {g off:Nat} {e:TypeId}:∀ (vs:List Value) (h:Hp) (i:Nat) (xs:List Value),aO h g e xs→vs.all dY=true→off+i+vs.length≤xs.length →
  AB h ⟨g,off,none⟩ i vs∧aO (vZ h ⟨g,off,none⟩ i vs) g e (iK xs (off+i) vs)∧Ch [g] h (vZ h ⟨g,off,none⟩ i vs)∧(vZ h ⟨g,off,none⟩ i vs).size=h.size
 | [],h,i,xs,b,_,_=>⟨trivial,b,Ch.refl _ _,rfl⟩
 | v::vs,h,i,xs,b,hp,hl=>by
  simp only [List.all_cons,Bool.and_eq_true,List.length_cons] at hp hl;obtain ⟨b1,c1,z1⟩:=wj (off:=off+i) b v;obtain ⟨k1,k2,k3,k4⟩:=lC (off:=off) vs (iI h ⟨g,off+i,none⟩ v) (i+1) (xs.set (off+i) v) b1 hp.2 (by rw [List.length_set]; omega);unfold AB vZ;rw [ao];refine ⟨⟨hp.1,⟨xs[off+i]'(by omega),?_⟩,b.frozen,k1⟩,k2,c1.trans k3 (by simp),k4.trans z1⟩;rw [b.cell,List.getElem?_eq_getElem]
section rules
variable {P:Program} {L:Lp} {K:Value→Hp→Prop} {h:Hp}
theorem ak {g off:Nat} {e:TypeId} {xs vs:List Value} {k:T} (b:aO h g e xs) (hp:vs.all dY=true) (hl:off+vs.length≤xs.length)
  (hk:∀ h',aO h' g e (iK xs off vs)→Ch [g] h h'→h'.size=h.size→k L K h'):T.ap ⟨g,off,none⟩ vs k L K h:=by
 obtain ⟨k1,k2,k3,k4⟩:=lC (off:=off) vs h 0 xs b hp hl;exact ⟨k1,hk _ k2 k3 k4⟩
theorem ad {g off:Nat} {e:TypeId} {xs:List Value} {ds:List TypeDesc} {k:zJ ds T} (b:aO h g e xs) (x:rQ ds) (hv:(xs.drop off).take (fw ds x).length=fw ds x) (hk:aB _ k x L K h) :
  T.ae ⟨g,off,none⟩ ds k L K h:=aG x (b.cells _ hv) hk
theorem dL {cs:List gH} {first:T} {after:zJ (flat cs) T} (J:rQ (flat cs)→Hp→Prop) (hf:first (L++[fun vs h'=>∃ y,vs=parts cs (fw _ y)∧J y h']) K h) (ha:∀ y h',J y h'→aB _ after y L K h'):T.join cs first after L K h:=⟨J,hf,ha⟩
theorem bi {lv:Nat} {vs:List Value} {cs:List gH} {J:rQ (flat cs)→Hp→Prop} (y:rQ (flat cs)) (hL:L[lv]?=some (fun vs h'=>∃ y,vs=parts cs (fw _ y)∧J y h')) (hy:vs=parts cs (fw _ y)) (hJ:J y h):T.again lv vs L K h:=by
 unfold T.again;rw [hL];exact ⟨y,hy,hJ⟩
theorem aW {cells:List Value} {e:TypeId} {k:Addr→T} (hk:∀ h',aO h' h.size e cells→Ext h h'→h'.size=h.size+1→k ⟨h.size,0,none⟩ L K h'):T.new cells e k L K h :=
 hk _ (aO.new h e cells) (Ext.push h _) (by simp)
theorem cV {s:Sem Value} {k:Option Addr→Nat→Nat→T} (hs:aD P s h fun v h'=>∃ p l c,v=.slice p l c∧k p l c L K h'):T.aY P s false [(false,[.slice 0])] k L K h :=
 cI s _ _ _ (fun v h' ⟨p,l,c,hv,hk⟩=>⟨((p,l,c),()),hv,hk⟩) hs
theorem bw {s:Sem Value} {b:Bool} {k:Bool→T} (hs:∀ K':Value→Hp→Prop,K' (.bool b) h→aD P s h K') (hk:k b L K h):T.aY P s false [(false,[.bool])] k L K h :=
 hs _ ⟨(b,()),rfl,hk⟩
end rules
theorem nI {P:Program} {t:TypeId} {z:Value} {s b:Nat} (h:(P.info? t).map (fun i=>(i.zero,i.size,i.bytes))=some (some z,s,b)):∃ i,P.info? t=some i∧i.zero=some z∧i.size=s∧i.bytes=b:=by
 cases hi:P.info? t with
 | none=>rw [hi] at h; cases h
 | some i =>
  rw [hi] at h;simp only [Option.map_some,Option.some.injEq,Prod.mk.injEq] at h;exact ⟨i,rfl,h.1,h.2.1,h.2.2⟩
theorem aL {P:Program} {f:FuncId} {fn:Func} {cuts:List Nat} {args:List Value} {h:Hp} {R:Value→Hp→Prop} {t:T} (hm:P.follows .mixedOrders=true) (hf:P.funcs[f]?=some fn) (hl:Nat.ble args.length fn.ntmps=true)
  (he:aX P cuts fn args=t) (ht:t [] R h):HC P f args.toArray h R:=Jh hm hf hl (by rw [he]; exact ht)
def SL (h:Hp) (b:Nat) (e:TypeId) (sz:Nat) (p:Option Addr) (l c:Nat) (xs:List (List Value)):Prop :=
 l=xs.length∧(∀ x,x∈xs→x.length=sz) ∧
 match p with
 | none=>c=0∧xs=[]
 | some a=>∃ g pre rest,a=⟨g,pre.length,none⟩∧b≤g∧(l≤c∧c<9223372036854775808)∧aO h g e (pre++(xs.flatten++rest))∧rest.length=(c-l)*sz
def az (p:Option Addr):List Nat :=
 match p with
 | none=>[]
 | some a=>[a.block]
theorem SL.nil (h:Hp) (b:Nat) (e:TypeId) (sz:Nat):SL h b e sz none 0 0 []:=⟨rfl,by simp,rfl,rfl⟩
theorem SL.ah {ws:List Nat} {h h':Hp} {b:Nat} {e:TypeId} {sz:Nat} {p:Option Addr} {l c:Nat} {xs:List (List Value)} (s:SL h b e sz p l c xs) (k:Ch ws h h') (hw:∀ a,p=some a→a.block∉ws):SL h' b e sz p l c xs:=by
 refine ⟨s.1,s.2.1,?_⟩;cases p with
 | none=>exact s.2.2
 | some a =>
  obtain ⟨g,pre,rest,ha,hb,hlc,hbox,hr⟩:=s.2.2;exact ⟨g,pre,rest,ha,hb,hlc,hbox.ah k (by have:=hw a rfl; rw [ha] at this; exact this),hr⟩
theorem SL.mono {h:Hp} {b b':Nat} {e:TypeId} {sz:Nat} {p:Option Addr} {l c:Nat} {xs:List (List Value)} (s:SL h b e sz p l c xs) (hb':b'≤b):SL h b' e sz p l c xs:=by
 refine ⟨s.1,s.2.1,?_⟩;cases p with
 | none=>exact s.2.2
 | some a =>
  obtain ⟨g,pre,rest,ha,hb,hlc,hbox,hr⟩:=s.2.2;exact ⟨g,pre,rest,ha,Nat.le_trans hb' hb,hlc,hbox,hr⟩
theorem eH {sz:Nat}:∀ (xs:List (List Value)),(∀ x,x∈xs→x.length=sz)→xs.flatten.length=xs.length*sz
 | [],_=>by simp
 | x::xs,h=>by
  rw [List.flatten_cons,List.length_append,h x (by simp),eH xs (fun y hy=>h y (by simp [hy])),List.length_cons,Nat.add_mul];omega
theorem oZ {sz:Nat}:∀ (xs:List (List Value)) (i:Nat) (rest:List Value),(∀ x,x∈xs→x.length=sz)→(hi:i<xs.length)→((xs.flatten++rest).drop (i*sz)).take sz=xs[i]
 | [],i,_,_,hi=>by simp at hi
 | x::xs,0,rest,h,_=>by
  have hx:x.length=sz:=h x (by simp);simp [← hx]
 | x::xs,i+1,rest,h,hi=>by
  have hx:x.length=sz:=h x (by simp)
  have:(i+1)*sz=x.length+i*sz:=by rw [Nat.add_mul,hx]; omega
  rw [this,List.flatten_cons,List.append_assoc,← List.drop_drop,List.drop_left];simpa using oZ xs i rest (fun y hy=>h y (by simp [hy])) (by simpa using hi)
theorem SL.bO {h:Hp} {b:Nat} {e:TypeId} {sz:Nat} {p:Option Addr} {l c:Nat} {xs:List (List Value)} (s:SL h b e sz p l c xs) {i:Nat} (hi:i∈az p):b≤i∧i<h.size:=by
 cases p with
 | none=>simp [az] at hi
 | some a =>
  obtain ⟨g,pre,rest,rfl,hbg,hlc,hbox,hr⟩:=s.2.2;simp [az] at hi;subst hi;exact ⟨hbg,hbox.lt⟩
theorem SL.aT {ws:List Nat} {h h':Hp} {b:Nat} {e:TypeId} {sz:Nat} {p:Option Addr} {l c:Nat} {xs:List (List Value)} (s:SL h b e sz p l c xs) (k:Ch ws h h') (hw:∀ i,i∈az p→i∉ws):SL h' b e sz p l c xs :=
 s.ah k fun a ha=>hw _ (by rw [ha]; simp [az])
theorem SL.cells {h:Hp} {b:Nat} {e:TypeId} {sz:Nat} {p:Option Addr} {l c:Nat} {xs:List (List Value)} (s:SL h b e sz p l c xs) {i:Nat} (hi:i<xs.length) :
  ∃ a,p=some a∧aH h (a.add (i*sz)) 0 xs[i]:=by
 cases p with
 | none=>have:=s.2.2.2; subst this; simp at hi
 | some a =>
  obtain ⟨g,pre,rest,rfl,hb,hlc,hbox,hr⟩:=s.2.2;refine ⟨_,rfl,?_⟩;rw [ao];refine hbox.cells _ ?_;rw [s.2.1 _ (List.getElem_mem hi),← List.drop_drop,List.drop_left];exact oZ xs i rest s.2.1 hi
theorem SL.drop {h:Hp} {b:Nat} {e:TypeId} {sz:Nat} {p:Option Addr} {l c:Nat} {xs:List (List Value)} (s:SL h b e sz p l c xs) {k:Nat} (hk:k≤l) :
  SL h b e sz (p.map fun a=>a.add (k*sz)) (l-k) (c-k) (xs.drop k):=by
 refine ⟨by rw [List.length_drop,← s.1],fun x hx=>s.2.1 x (List.mem_of_mem_drop hx),?_⟩;cases p with
 | none =>
  obtain ⟨h1,h2⟩:=s.2.2;subst h1 h2;exact ⟨by omega,by simp⟩
 | some a =>
  obtain ⟨g,pre,rest,rfl,hb,hlc,hbox,hr⟩:=s.2.2;have hsplit:xs.flatten=(xs.take k).flatten++(xs.drop k).flatten:=by rw [← List.flatten_append,List.take_append_drop]
  have hlen:(xs.take k).flatten.length=k*sz:=by
   rw [eH _ (fun x hx=>s.2.1 x (List.mem_of_mem_take hx)),List.length_take,Nat.min_eq_left (by have:=s.1; omega)]
  refine ⟨g,pre++(xs.take k).flatten,rest,?_,hb,by omega,?_,by rw [hr]; congr 1; omega⟩
  ·show Addr.add ⟨g,pre.length,none⟩ (k*sz)=_;rw [ao,List.length_append,hlen]
  ·rw [hsplit] at hbox;simpa [List.append_assoc] using hbox
theorem Hf {A X B vs:List Value} (h:X.length=vs.length):iK (A++(X++B)) A.length vs=A++(vs++B):=by
 rw [ol _ _ _ (by simp; omega),List.take_left,List.append_assoc,← List.drop_drop,List.drop_left,← h,List.drop_left]
theorem SL.store {P:Program} {L:Lp} {K:Value→Hp→Prop} {k:T} {h:Hp} {b:Nat} {e:TypeId} {sz:Nat} {p:Option Addr} {l c:Nat} {xs:List (List Value)} (s:SL h b e sz p l c xs) {i:Nat} (hi:i<xs.length) {vs:List Value} (hv:vs.length=sz)
  (hp:vs.all dY=true) {a:Addr} (ha:p=some a) (hk:∀ h',SL h' b e sz p l c (xs.set i vs)→Ch (az p) h h'→h'.size=h.size→k L K h'):T.ap (a.add (i*sz)) vs k L K h:=by
 subst ha;obtain ⟨g,pre,rest,rfl,hbg,hlc,hbox,hr⟩:=s.2.2;have hx:(xs.take i).flatten.length=i*sz:=by
  rw [eH _ (fun x hx=>s.2.1 x (List.mem_of_mem_take hx)),List.length_take,Nat.min_eq_left (by omega)]
 have e1:pre++(xs.flatten++rest)=(pre++(xs.take i).flatten)++(xs[i]++((xs.drop (i+1)).flatten++rest)):=by
  have e0:xs.flatten=(xs.take i).flatten++(xs[i]++(xs.drop (i+1)).flatten):=by
   conv=>lhs; rw [← List.take_append_drop i xs,List.drop_eq_getElem_cons hi]
   rw [List.flatten_append,List.flatten_cons]
  rw [e0];simp only [List.append_assoc]
 have e2:(xs.set i vs).flatten=(xs.take i).flatten++(vs++(xs.drop (i+1)).flatten):=by
  rw [List.set_eq_take_append_cons_drop,if_pos hi]
  simp
 have hxi:xs[i].length=vs.length:=by rw [hv]; exact s.2.1 _ (List.getElem_mem hi)
 rw [e1] at hbox;rw [ao];have hlen:(pre++(xs.take i).flatten).length=pre.length+i*sz:=by rw [List.length_append,hx]
 rw [← hlen];refine ak hbox hp (by simp; omega) ?_;intro h' hb' k' z';rw [Hf hxi] at hb';refine hk h' ⟨by rw [List.length_set]; exact s.1,fun x hx=>?_,g,pre,rest,rfl,hbg,hlc,?_,hr⟩ (by simpa [az] using k') z'
 ·rcases List.mem_or_eq_of_mem_set hx with hx | rfl
  ·exact s.2.1 x hx
  ·exact hv
 ·rw [e2];simpa [List.append_assoc] using hb'
theorem jm {P:Program} {α β:Type} (f:α→β) (s:Sem α) (h:Hp) (K:β→Hp→Prop):aD P (f <$> s) h K=aD P s h fun a h'=>K (f a) h':=by
 have:f <$> s=s >>= fun a=>pure (f a):=by rw [← bind_pure_comp]
 rw [this,aj]; rfl
section append
variable {P:Program} {h:Hp} {K:Value→Hp→Prop}
theorem j3 {t e:TypeId} {n:Nat} {parts:Array (Nat × Value)} {i:TypeInfo} {z:Value} {cells:Array Value} (ht:P.underlying t=some (.slice e)) (hi:P.info? e=some i) (hz:i.zero=some z)
  (hn:n*i.size≠0) (hb:n*i.size≤2^24)
  (hf:Instr.fill (fun j=>some (j*i.size,i.size)) ((Array.range (n*i.size)).map (z.cells[· % z.cells.size]!)) parts.toList=some cells)
  (hk:∀ h',aO h' h.size e cells.toList→Ext h h'→h'.size=h.size+1→K (.slice (some ⟨h.size,0,none⟩) n n) h'):aD P (Instr.buildSlice t n parts) h K:=by
 unfold Instr.buildSlice;rw [aj,ay ht];simp only;rw [aj,bk hi,cQ hi];rw [if_neg (by omega),if_neg hn];rw [aj,dz (z:=z) (by rw [hi]; exact hz)];show aD P (match Instr.fill (fun j=>some (j*i.size,i.size)) ((Array.range (n*i.size)).map (z.cells[· % z.cells.size]!)) parts.toList with
  | some cells=>do
   let d ← newRow e cells
   pure (Value.slice (some d) n n)
  | _ => stuck "buildSlice: a part of the wrong size") h K
 rw [hf];refine hk _ ?_ (Ext.push h _) (by simp);exact aO.new h e cells.toList
theorem EL (need:Nat):∀ (n c:Nat),c≤2*need+1024→0<n→Builtin.growBy need n c≤2*need+1024:=by
 intro n
 induction n with
 | zero=>intro c h h0; omega
 | succ n ih =>
  intro c h _;unfold Builtin.growBy;split
  ·exact h
  ·rename_i hh;cases n with
   | zero=>unfold Builtin.growBy; omega
   | succ n=>exact ih _ (by omega) (by omega)
theorem Cw {need old:Nat} (h:old<need):Builtin.nextslicecap need old≤2*need+1024:=by
 unfold Builtin.nextslicecap;split
 ·omega
 ·split
  ·omega
  ·exact EL need 4 old (by omega) (by omega)
theorem wA (z:Array Value) (n:Nat):(Builtin.zeroCells z n).size=n*z.size:=by
 unfold Builtin.zeroCells; simp
theorem Da (need old:Nat) (e:TypeId) (t:Nat):need≤(Question.appendCap need old e).cut t∧(need<9223372036854775808→(Question.appendCap need old e).cut t<9223372036854775808):=by
 show need≤need+t % (2^63-need)∧(need<9223372036854775808→need+t % (2^63-need)<9223372036854775808);refine ⟨by omega,fun h=>?_⟩
 have:=Nat.mod_lt t (show 0<2^63-need by omega)
 omega
theorem kR {t ty e:TypeId} {i:TypeInfo} {z:Value} (ht:P.underlying t=some (.slice e)) (hi:P.info? e=some i) (hz:i.zero=some z) (hzs:z.cells.size=i.size)
  {b:Nat} {p:Option Addr} {l c:Nat} {xs ys:List (List Value)} (s:SL h b e i.size p l c xs) {a:Addr} {m cc:Nat} (hm:m=ys.length) (hys:∀ y,y∈ys→y.length=i.size)
  (hc:aH h a 0 ys.flatten) (hp:ys.flatten.all dY=true) (hby:(2*(l+m)+1024)*i.bytes≤2^48) (hl:l+m≤2^48) (hb:b≤h.size)
  (hk:∀ p' c' h',SL h' b e i.size p' (l+m) c' (xs++ys)→Ch (az p) h h'→(p'=p∨∃ a,p'=some a∧h.size≤a.block)→K (.slice p' (l+m) c') h') :
  aD P (Builtin.append_ #[t,t] ty #[.slice p l c,.slice (some a) m cc]) h K:=by
 have hyl:ys.flatten.length=m*i.size:=by rw [eH ys hys,hm]
 have hxl:xs.flatten.length=l*i.size:=by rw [eH xs s.2.1,s.1]
 have hall:∀ x,x∈xs++ys→x.length=i.size:=fun x hx=>(List.mem_append.1 hx).elim (s.2.1 x) (hys x)
 have hlen:l+m=(xs++ys).length:=by rw [List.length_append,← s.1,hm]
 have hz':(P.info? e).bind (·.zero)=some z:=by rw [hi]; exact hz
 by_cases hroom:l+m≤c
 ·simp [Builtin.append_,aj,ay ht,bk hi,cQ hi,Builtin.lenOf,Builtin.firstCells,hroom];refine eG hyl hc _ ?_;cases p with
  | none =>
   have h1:c=0:=s.2.2.1;have h2:ys=[]:=List.eq_nil_of_length_eq_zero (by omega);subst h2;rw [List.append_nil] at hk;have h3:m=0:=by omega
   subst h3;exact hk none c h s (Ch.refl _ _) (.inl rfl)
  | some a1 =>
   obtain ⟨g,pre,rest,rfl,hbg,hlc,hbox,hr⟩:=s.2.2;have hfl:(xs.flatten++rest).length=c*i.size:=by
    rw [List.length_append,hxl,hr,← Nat.add_mul]; congr 1; omega
   have hle:l*i.size+m*i.size≤c*i.size:=by rw [← Nat.add_mul]; exact Nat.mul_le_mul_right _ hroom
   simp only;rw [ao,jm];obtain ⟨k1,k2,k3,k4⟩:=lC (off:=pre.length+l*i.size) ys.flatten h 0 _ hbox hp (by rw [List.length_append,hfl,hyl]; omega);refine dR _ _ _ _ _ k1 ?_;refine hk _ c _ ⟨hlen,hall,g,pre,rest.drop (m*i.size),rfl,hbg,⟨hroom,hlc.2⟩,?_,?_⟩ k3 (.inl rfl)
   ·rw [ol _ _ _ (by rw [List.length_append,hfl,hyl]; omega),Nat.add_zero,← hxl,← List.append_assoc,← List.length_append,List.take_left,List.drop_append,hyl] at k2;rw [List.drop_of_length_le (by omega),List.nil_append,show (pre++xs.flatten).length+m*i.size-(pre++xs.flatten).length=m*i.size by omega] at k2;rw [List.flatten_append];rw [List.length_append,hxl] at k2;simp only [List.append_assoc] at k2 ⊢;exact k2
   ·rw [List.length_drop,hr,← Nat.sub_mul]; congr 1; omega
 ·have hcap:¬ 281474976710656<Builtin.nextslicecap (l+m) c*i.bytes:=by
   have h1:=Cw (need:=l+m) (old:=c) (by omega);have h2:=Nat.mul_le_mul_right i.bytes h1;have h3:(2:Nat)^48=281474976710656:=rfl;omega
  have hbig:¬ (9223372036854775807<(l:Int)+(m:Int)∧i.bytes=0):=by
   have h3:(2:Nat)^48=281474976710656:=rfl;omega
  simp [Builtin.append_,aj,ay ht,bk hi,cQ hi,Builtin.lenOf,Builtin.firstCells,hroom,gQ hi,dz hz',askRoom,hbig,hcap];intro tt;have hge:=Da (l+m) c e tt;generalize (Question.appendCap (l+m) c e).cut tt=nc at hge;show aD P (if roomBytes<nc*i.bytes then mark Mark.noRoom else pure ()) h _;have hroomy:∀ K':Unit→Hp→Prop,K' () h→aD P (if roomBytes<nc*i.bytes then mark Mark.noRoom else pure ()) h K':=by
   intro K' hk';split
   ·exact hk'
   ·exact hk'
  refine hroomy _ ?_
  have hold:∀ K':Array Value→Hp→Prop,K' xs.flatten.toArray h→aD P (match Value.slice p l c with
    | Value.slice (some a) len cap=>loadCells a (l*i.size)
    | Value.slice none len cap=>pure #[]
    | Value.string s=>pure ((Array.map (fun b=>Value.int IntKind.u8 ↑b.toNat) s.data).extract 0 l)
    | x => stuck "slice or string expected") h K' := by
   intro K' hk';cases p with
   | none =>
    have:xs=[]:=s.2.2.2
    subst this;exact hk'
   | some a1 =>
    obtain ⟨g,pre,rest,rfl,hbg,hlc,hbox,hr⟩:=s.2.2;refine eG hxl (hbox.cells _ ?_) _ hk';rw [List.drop_left,List.take_left]
  refine hold _ ?_;refine eG hyl hc _ ?_;rw [jm];refine hk (some ⟨h.size,0,none⟩) nc _ ⟨hlen,hall,h.size,[],(Builtin.zeroCells z.cells (nc-(l+m))).toList,rfl,hb,⟨hge.1,hge.2 (by omega)⟩,?_,?_⟩ ((Ext.push h _).mono (by simp)) (.inr ⟨_,rfl,Nat.le_refl _⟩)
  ·have e1:xs.flatten.toArray++(ys.flatten.toArray++Builtin.zeroCells z.cells (nc-(l+m)))=((xs++ys).flatten++(Builtin.zeroCells z.cells (nc-(l+m))).toList).toArray:=by
    apply Array.toList_inj.1; simp
   rw [e1];exact aO.new h e _
  ·rw [Array.length_toList,wA,hzs]
theorem yN {L:Lp} {K:Value→Hp→Prop} {k:Option Addr→Nat→Nat→T} {t ty e:TypeId} {z:Value} {sz by':Nat} {st:List (Addr × List Value)} (ht:P.underlying t=some (.slice e)) (hinf:(P.info? e).map (fun i=>(i.zero,i.size,i.bytes))=some (some z,sz,by'))
  (hzs:z.cells.size=sz) (hs0:sz≠0) (hsm:sz≤4096) {v:Value} {vs:List Value} (hf:Instr.fill (fun j=>some (j*sz,sz)) ((Array.range (1*sz)).map (z.cells[· % z.cells.size]!)) [(0,v)]=some vs.toArray) (hvl:vs.length=sz) (hpl:vs.all dY=true)
  {b:Nat} {p:Option Addr} {l c:Nat} {xs:List (List Value)} (s:SL h b e sz p l c xs) (hb:b≤h.size) (hby:(2*(l+1)+1024)*by'≤2^48) (hl:l+1≤2^48) (hst:∀ h',Ext h h'→T.FX h' st)
  (hk:∀ p' c' h',SL h' b e sz p' (l+1) c' (xs++[vs])→Ch (az p) h h'→(p'=p∨∃ a,p'=some a∧h.size≤a.block)→k p' (l+1) c' L K h') :
  T.aY P (Instr.buildSlice t 1 #[(0,v)]) false [(false,[.slice 0])] (fun q m cc=>T.aR st (T.aY P (Builtin.append_ #[t,t] ty #[.slice p l c,.slice q m cc]) false [(false,[.slice 0])] k)) L K h:=by
 obtain ⟨i,hi,hz,rfl,rfl⟩:=nI hinf;refine cV (j3 ht hi hz (by omega) (by omega) hf ?_);intro h1 b1 e1 z1;refine ⟨_,_,_,rfl,hst _ e1,cV ?_⟩;have s1:SL h1 b e i.size p l c xs:=s.ah e1 (by simp);refine kR (ys:=[vs]) ht hi hz hzs s1 rfl (by simpa using hvl) (b1.cells _ (by simp)) (by simpa using hpl) (by simpa using hby) (by simpa using hl) (by rw [z1]; omega) ?_;intro p' c' h2 s2 c2 hp';refine ⟨p',l+1,c',rfl,hk p' c' h2 s2 (Ch.trans (e1.mono (by simp)) c2 (fun i hi _=>hi)) ?_⟩;rcases hp' with hp' | ⟨a,ha,hge⟩
 ·exact .inl hp'
 ·exact .inr ⟨a,ha,by omega⟩
theorem eA {L:Lp} {K:Value→Hp→Prop} {k:Option Addr→Nat→Nat→T} {t e:TypeId} {n:Nat} {parts:Array (Nat × Value)} {z:Value} {sz by':Nat} (ht:P.underlying t=some (.slice e)) (hinf:(P.info? e).map (fun i=>(i.zero,i.size,i.bytes))=some (some z,sz,by'))
  (hn:n*sz≠0) (hb:n*sz≤2^24) {cells:List Value} (hf:Instr.fill (fun j=>some (j*sz,sz)) ((Array.range (n*sz)).map (z.cells[· % z.cells.size]!)) parts.toList=some cells.toArray)
  (hk:∀ h',aO h' h.size e cells→Ext h h'→h'.size=h.size+1→k (some ⟨h.size,0,none⟩) n n L K h'):T.aY P (Instr.buildSlice t n parts) false [(false,[.slice 0])] k L K h:=by
 obtain ⟨i,hi,hz,rfl,rfl⟩:=nI hinf;exact cV (j3 ht hi hz hn hb hf fun h' b e z=>⟨_,_,_,rfl,hk h' b e z⟩)
theorem nS {L:Lp} {K:Value→Hp→Prop} {k:Option Addr→Nat→Nat→T} {t ty e:TypeId} {z:Value} {sz by':Nat} (ht:P.underlying t=some (.slice e)) (hinf:(P.info? e).map (fun i=>(i.zero,i.size,i.bytes))=some (some z,sz,by'))
  (hzs:z.cells.size=sz) (hs0:sz≠0) (hsm:sz≤4096) {v:Value} {vs:List Value} (hf:Instr.fill (fun j=>some (j*sz,sz)) ((Array.range (1*sz)).map (z.cells[· % z.cells.size]!)) [(0,v)]=some vs.toArray) (hvl:vs.length=sz) (hpl:vs.all dY=true)
  {b:Nat} {p:Option Addr} {l c:Nat} {xs:List (List Value)} (s:SL h b e sz p l c xs) (hb:b≤h.size) (hby:(2*(l+1)+1024)*by'≤2^48) (hl:l+1≤2^48)
  (hk:∀ p' c' h',SL h' b e sz p' (l+1) c' (xs++[vs])→Ch (az p) h h'→(p'=p∨∃ a,p'=some a∧h.size≤a.block)→k p' (l+1) c' L K h') :
  T.aY P (Instr.buildSlice t 1 #[(0,v)]) false [(false,[.slice 0])] (fun q m cc=>T.aY P (Builtin.append_ #[t,t] ty #[.slice p l c,.slice q m cc]) false [(false,[.slice 0])] k) L K h:=by
 obtain ⟨i,hi,hz,rfl,rfl⟩:=nI hinf;refine cV (j3 ht hi hz (by omega) (by omega) hf ?_);intro h1 b1 e1 z1;refine ⟨_,_,_,rfl,cV ?_⟩;have s1:SL h1 b e i.size p l c xs:=s.ah e1 (by simp);have hpb:∀ a,p=some a→a.block<h.size:=by
  intro a ha;subst ha;obtain ⟨g,pre,rest,rfl,hbg,hlc,hbox,hr⟩:=s.2.2;exact hbox.lt
 refine kR (ys:=[vs]) ht hi hz hzs s1 rfl (by simpa using hvl) (b1.cells _ (by simp)) (by simpa using hpl) (by simpa using hby) (by simpa using hl) (by rw [z1]; omega) ?_;intro p' c' h2 s2 c2 hp';refine ⟨p',l+1,c',rfl,hk p' c' h2 s2 (Ch.trans (e1.mono (by simp)) c2 (fun i hi _=>hi)) ?_⟩;rcases hp' with hp' | ⟨a,ha,hge⟩
 ·exact .inl hp'
 ·exact .inr ⟨a,ha,by omega⟩
end append
end Go.Sx
