/- A framework of our own, part H: what is known of heaps: new memory, rows of cells that are one's own, append. No condition. -/
import Derived.Test.YtlpcncdglfjnoaaGreatDoorSxL
set_option linter.unusedVariables false
set_option linter.unusedSimpArgs false
set_option linter.deprecated false
namespace Go.Sx
structure Ch (ws:List Nat) (h h':Hp):Prop where
 size:h.size≤h'.size
 same:∀ i,i<h.size→i∉ws→h'[i]?=h[i]?
abbrev Ext (h h':Hp):Prop:=Ch [] h h'
theorem Ch.refl (ws:List Nat) (h:Hp):Ch ws h h:=⟨Nat.le_refl _,fun _ _ _=>rfl⟩
theorem Ch.trans {ws vs:List Nat} {a b c:Hp} (h:Ch ws a b) (k:Ch vs b c) (hv:∀ i,i∈vs→i<a.size→i∈ws):Ch ws a c :=
 ⟨Nat.le_trans h.size k.size,fun i hi hw=>(k.same i (Nat.lt_of_lt_of_le hi h.size) fun hm=>hw (hv i hm hi)).trans (h.same i hi hw)⟩
theorem Ch.mono {ws vs:List Nat} {a b:Hp} (h:Ch ws a b) (hv:∀ i,i∈ws→i<a.size→i∈vs):Ch vs a b:=⟨h.size,fun i hi hw=>h.same i hi fun hm=>hw (hv i hm hi)⟩
theorem Ext.push (h:Hp) (o:Obj):Ext h (h.push o):=⟨by simp,fun i hi _=>by rw [Array.getElem?_push,if_neg (by omega)]⟩
theorem lt_of_get {h:Hp} {g:Nat} {o:Obj} (hg:h[g]?=some o):g<h.size:=by
 rcases Nat.lt_or_ge g h.size with hl | hl
 ·exact hl
 ·rw [Array.getElem?_eq_none hl] at hg; cases hg
def Box (h:Hp) (g:Nat) (e:TypeId) (xs:List Value):Prop:=h[g]?=some (.cells xs.toArray e (0,0))
theorem Box.new (h:Hp) (e:TypeId) (xs:List Value):Box (h.push (.cells xs.toArray e (0,0))) h.size e xs:=by
 unfold Box; rw [Array.getElem?_push_size]
theorem hcell_of {h:Hp} {g off:Nat} {c:Array Value} {e:TypeId} {f:Nat × Nat} (hg:h[g]?=some (.cells c e f)):hcell h ⟨g,off,none⟩=c[off]?:=by
 unfold hcell; simp only [hg]; rfl
theorem Box.cell {h:Hp} {g off:Nat} {e:TypeId} {xs:List Value} (b:Box h g e xs):hcell h ⟨g,off,none⟩=xs[off]?:=by
 rw [hcell_of b]; simp
theorem Box.frozen {h:Hp} {g off:Nat} {e:TypeId} {xs:List Value} (b:Box h g e xs):hfrozen h ⟨g,off,none⟩=false:=by
 unfold hfrozen; unfold Box at b; simp only [b]; simp
theorem add_box (g off i:Nat):(⟨g,off,none⟩:Addr).add i=⟨g,off+i,none⟩:=by
 unfold Addr.add
 split
 ·subst_vars; rfl
 ·rfl
theorem Box.cells_from {h:Hp} {g off:Nat} {e:TypeId} {xs:List Value} (b:Box h g e xs):∀ (vs:List Value) (i:Nat),(∀ j,j<vs.length→xs[off+(i+j)]?=vs[j]?)→cellsAt h ⟨g,off,none⟩ i vs
 | [],_,_=>trivial
 | v::vs,i,hv=>by
  refine ⟨?_,b.cells_from vs (i+1) fun j hj=>?_⟩
  ·rw [add_box,b.cell]
   exact hv 0 (by simp)
  ·have:=hv (j+1) (by simpa using hj)
   rw [List.getElem?_cons_succ] at this
   rw [← this]; congr 1; omega
theorem Box.cells {h:Hp} {g off:Nat} {e:TypeId} {xs:List Value} (b:Box h g e xs) (vs:List Value) (hv:(xs.drop off).take vs.length=vs):cellsAt h ⟨g,off,none⟩ 0 vs:=by
 refine b.cells_from vs 0 fun j hj=>?_
 have:((xs.drop off).take vs.length)[j]?=vs[j]?:=by rw [hv]
 rw [List.getElem?_take,if_pos hj,List.getElem?_drop] at this
 rw [← this]; congr 1; omega
def setL (xs:List Value):Nat→List Value→List Value
 | _,[]=>xs
 | i,v::vs=>setL (xs.set i v) (i+1) vs
theorem setL_length:∀ (vs xs:List Value) (i:Nat),(setL xs i vs).length=xs.length
 | [],_,_=>rfl
 | v::vs,xs,i=>by simp [setL,setL_length vs]
theorem setL_eq:∀ (vs xs:List Value) (i:Nat),i+vs.length≤xs.length→setL xs i vs=xs.take i++vs++xs.drop (i+vs.length)
 | [],xs,i,_=>by simp [setL]
 | v::vs,xs,i,h=>by
  simp only [List.length_cons] at h
  rw [setL,setL_eq vs (xs.set i v) (i+1) (by rw [List.length_set]; omega)]
  rw [List.take_set,List.drop_set_of_lt (show i<i+1+vs.length by omega)]
  have e1:(xs.take (i+1)).set i v=xs.take i++[v]:=by
   rw [List.take_succ_eq_append_getElem (by omega),List.set_append_right _ _ (by simp; omega)]
   simp [Nat.min_eq_left (by omega:i≤xs.length)]
  rw [e1]
  simp only [List.append_assoc,List.cons_append,List.nil_append,List.length_cons]
  rw [show i+1+vs.length=i+(vs.length+1) by omega]
theorem hset_box {h:Hp} {g off:Nat} {e:TypeId} {xs:List Value} (b:Box h g e xs) (v:Value):Box (hset h ⟨g,off,none⟩ v) g e (xs.set off v)∧Ch [g] h (hset h ⟨g,off,none⟩ v)∧(hset h ⟨g,off,none⟩ v).size=h.size:=by
 unfold hset
 refine ⟨?_,⟨by simp,fun i hi hw=>?_⟩,by simp⟩
 ·unfold Box at b ⊢
  rw [Array.getElem?_modify,if_pos rfl,b]
  simp
 ·rw [Array.getElem?_modify,if_neg (by simp at hw; exact fun e=>hw e.symm)]
theorem stores_box {g off:Nat} {e:TypeId}:∀ (vs:List Value) (h:Hp) (i:Nat) (xs:List Value),Box h g e xs→vs.all plainV=true→off+i+vs.length≤xs.length →
  canSt h ⟨g,off,none⟩ i vs∧Box (hsets h ⟨g,off,none⟩ i vs) g e (setL xs (off+i) vs)∧Ch [g] h (hsets h ⟨g,off,none⟩ i vs)∧(hsets h ⟨g,off,none⟩ i vs).size=h.size
 | [],h,i,xs,b,_,_=>⟨trivial,b,Ch.refl _ _,rfl⟩
 | v::vs,h,i,xs,b,hp,hl=>by
  simp only [List.all_cons,Bool.and_eq_true,List.length_cons] at hp hl
  obtain ⟨b1,c1,z1⟩:=hset_box (off:=off+i) b v
  obtain ⟨k1,k2,k3,k4⟩:=stores_box (off:=off) vs (hset h ⟨g,off+i,none⟩ v) (i+1) (xs.set (off+i) v) b1 hp.2 (by rw [List.length_set]; omega)
  unfold canSt hsets
  rw [add_box]
  refine ⟨⟨hp.1,⟨xs[off+i]'(by omega),?_⟩,b.frozen,k1⟩,k2,c1.trans k3 (by simp),k4.trans z1⟩
  rw [b.cell,List.getElem?_eq_getElem]
section rules
variable {P:Program} {L:Lp} {K:Value→Hp→Prop} {h:Hp}
theorem sem_slice {s:Sem Value} {k:Option Addr→Nat→Nat→T} (hs:semW P s h fun v h'=>∃ p l c,v=.slice p l c∧k p l c L K h'):T.sem P s false [(false,[.slice 0])] k L K h :=
 semW_mono s _ _ _ (fun v h' ⟨p,l,c,hv,hk⟩=>⟨((p,l,c),()),hv,hk⟩) hs
end rules
theorem flatten_chunk {sz:Nat}:∀ (xs:List (List Value)) (i:Nat) (rest:List Value),(∀ x,x∈xs→x.length=sz)→(hi:i<xs.length)→((xs.flatten++rest).drop (i*sz)).take sz=xs[i]
 | [],i,_,_,hi=>by simp at hi
 | x::xs,0,rest,h,_=>by
  have hx:x.length=sz:=h x (by simp)
  simp [← hx]
 | x::xs,i+1,rest,h,hi=>by
  have hx:x.length=sz:=h x (by simp)
  have:(i+1)*sz=x.length+i*sz:=by rw [Nat.add_mul,hx]; omega
  rw [this,List.flatten_cons,List.append_assoc,← List.drop_drop,List.drop_left]
  simpa using flatten_chunk xs i rest (fun y hy=>h y (by simp [hy])) (by simpa using hi)
theorem setL_mid {A X B vs:List Value} (h:X.length=vs.length):setL (A++(X++B)) A.length vs=A++(vs++B):=by
 rw [setL_eq _ _ _ (by simp; omega),List.take_left,List.append_assoc,← List.drop_drop,List.drop_left,← h,List.drop_left]
theorem semW_map {P:Program} {α β:Type} (f:α→β) (s:Sem α) (h:Hp) (K:β→Hp→Prop):semW P (f <$> s) h K=semW P s h fun a h'=>K (f a) h':=by
 have:f <$> s=s >>= fun a=>pure (f a):=by rw [← bind_pure_comp]
 rw [this,semW_bind']; rfl
section append
variable {P:Program} {h:Hp} {K:Value→Hp→Prop}
theorem buildSlice_of {t e:TypeId} {n:Nat} {parts:Array (Nat × Value)} {i:TypeInfo} {z:Value} {cells:Array Value} (ht:P.underlying t=some (.slice e)) (hi:P.info? e=some i) (hz:i.zero=some z)
  (hn:n*i.size≠0) (hb:n*i.size≤2^24)
  (hf:Instr.fill (fun j=>some (j*i.size,i.size)) ((Array.range (n*i.size)).map (z.cells[· % z.cells.size]!)) parts.toList=some cells)
  (hk:∀ h',Box h' h.size e cells.toList→Ext h h'→h'.size=h.size+1→K (.slice (some ⟨h.size,0,none⟩) n n) h'):semW P (Instr.buildSlice t n parts) h K:=by
 unfold Instr.buildSlice
 rw [semW_bind',semW_underlying ht]
 simp only
 rw [semW_bind',semW_sizeOf hi,cellsOf_info hi]
 rw [if_neg (by omega),if_neg hn]
 rw [semW_bind',semW_zeroValue (z:=z) (by rw [hi]; exact hz)]
 show semW P (match Instr.fill (fun j=>some (j*i.size,i.size)) ((Array.range (n*i.size)).map (z.cells[· % z.cells.size]!)) parts.toList with
  | some cells=>do
   let d ← newRow e cells
   pure (Value.slice (some d) n n)
  | _ => stuck "buildSlice: a part of the wrong size") h K
 rw [hf]
 refine hk _ ?_ (Ext.push h _) (by simp)
 exact Box.new h e cells.toList
theorem growBy_le (need:Nat):∀ (n c:Nat),c≤2*need+1024→0<n→Builtin.growBy need n c≤2*need+1024:=by
 intro n
 induction n with
 | zero=>intro c h h0; omega
 | succ n ih =>
  intro c h _
  unfold Builtin.growBy
  split
  ·exact h
  ·rename_i hh
   cases n with
   | zero=>unfold Builtin.growBy; omega
   | succ n=>exact ih _ (by omega) (by omega)
theorem nextcap_le {need old:Nat} (h:old<need):Builtin.nextslicecap need old≤2*need+1024:=by
 unfold Builtin.nextslicecap
 split
 ·omega
 ·split
  ·omega
  ·exact growBy_le need 4 old (by omega) (by omega)
theorem zeroCells_size (z:Array Value) (n:Nat):(Builtin.zeroCells z n).size=n*z.size:=by
 unfold Builtin.zeroCells; simp
theorem cut_cap (need old:Nat) (e:TypeId) (t:Nat):need≤(Question.appendCap need old e).cut t∧(need<9223372036854775808→(Question.appendCap need old e).cut t<9223372036854775808):=by
 show need≤need+t % (2^63-need)∧(need<9223372036854775808→need+t % (2^63-need)<9223372036854775808)
 refine ⟨by omega,fun h=>?_⟩
 have:=Nat.mod_lt t (show 0<2^63-need by omega)
 omega
end append
end Go.Sx
