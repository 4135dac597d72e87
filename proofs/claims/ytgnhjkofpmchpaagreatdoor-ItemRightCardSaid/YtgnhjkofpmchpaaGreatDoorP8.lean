/- Contracts over heaps, and plain laws, for the functions that the laws of chapter 8 call, part 8: An instruction of its arguments, over heaps. An instruction of its name and argu Condition: as each statement says. -/
import Derived.Test.YtgnhjkofpmchpaaGreatDoorItB
import Derived.Test.YtgnhjkofpmchpaaGreatDoorP7
import Derived.Test.YtgnhjkofpmchpaaGreatDoorItD
set_option linter.unusedVariables false
set_option linter.unusedSimpArgs false
set_option maxRecDepth 100000
namespace Go.Sx.Ob
open Go.Proofs
structure VwA (h:Hp) (p:Option Addr) (l:Nat) (al:List In):Prop where
 len:l=al.length
 cells:∀ k,(hk:k<al.length)→∃ a,p=some a∧cellsAt h (a.add (k*1)) 0 al[k].val
 inn:∀ a,a∈al→Vw h a.p a.l a.c a.ts
 blk:∀ a,a∈al→∀ i,i∈blkOf a.p→i<h.size
 wf:∀ a,a∈al→Wf a.ts
 many:∀ a,a∈al→a.ts.length≤2^40
 ne:∀ a,a∈al→a.ts≠[]
 text:∀ a,a∈al→∀ t,t∈a.ts→t.text.size≤9223372036854775807
theorem VwA.keep {h h':Hp} {p:Option Addr} {l:Nat} {al:List In} (v:VwA h p l al) (e:Ext h h'):VwA h' p l al :=
 ⟨v.len,fun k hk=>by
  obtain ⟨a,ha,hc⟩:=v.cells k hk
  exact ⟨a,ha,cellsAt_keep e (by simp) _ _ hc⟩,fun a ha=>(v.inn a ha).keep e (by simp),fun a ha i hi=>Nat.lt_of_lt_of_le (v.blk a ha i hi) e.size,v.wf,v.many,v.ne,v.text⟩
theorem VwA.of {h:Hp} {b:Nat} {te es:TypeId} {p:Option Addr} {c:Nat} {al:List In} (A:Args h b te es p c al) (w:∀ a,a∈al→Wf a.ts∧a.ts.length≤2^40∧a.ts≠[]∧∀ t,t∈a.ts→t.text.size≤9223372036854775807):VwA h p al.length al:=by
 refine ⟨rfl,fun k hk=>?_,fun a ha=>(A.inn a ha).vw,fun a ha i hi=>((A.inn a ha).blk hi).2,fun a ha=>(w a ha).1,fun a ha=>(w a ha).2.1,fun a ha=>(w a ha).2.2.1,fun a ha=>(w a ha).2.2.2⟩
 obtain ⟨a,ha,hc⟩:=A.out.cells (i:=k) (by rw [List.length_map]; exact hk)
 rw [List.getElem_map] at hc
 exact ⟨a,ha,hc⟩
theorem asRR (z s t:Bool) (h:Hp) (K:Value→Hp→Prop):semW Tryz.prog (Instr.typeAssert (.iface 152 (.agg #[.bool z,.bool s,.bool t])) 20 152 true) h K=K (.tuple #[.agg #[.bool z,.bool s,.bool t],.bool true]) h:=by kernel_rfl
theorem asRC (lo hi:Int) (h:Hp) (K:Value→Hp→Prop):semW Tryz.prog (Instr.typeAssert (.iface 154 (.agg #[.int .i64 lo,.int .i64 hi])) 20 152 true) h K=K (.tuple #[.agg #[.bool false,.bool false,.bool false],.bool false]) h:=by kernel_rfl
theorem asCC (lo hi:Int) (h:Hp) (K:Value→Hp→Prop):semW Tryz.prog (Instr.typeAssert (.iface 154 (.agg #[.int .i64 lo,.int .i64 hi])) 20 154 true) h K=K (.tuple #[.agg #[.int .i64 lo,.int .i64 hi],.bool true]) h:=by kernel_rfl
theorem asRV (p:Bool) (h:Hp) (K:Value→Hp→Prop):semW Tryz.prog (Instr.typeAssert (.iface 156 (.agg #[.bool p])) 20 152 true) h K=K (.tuple #[.agg #[.bool false,.bool false,.bool false],.bool false]) h:=by kernel_rfl
theorem asCV (p:Bool) (h:Hp) (K:Value→Hp→Prop):semW Tryz.prog (Instr.typeAssert (.iface 156 (.agg #[.bool p])) 20 154 true) h K=K (.tuple #[.agg #[.int .i64 0,.int .i64 0],.bool false]) h:=by kernel_rfl
theorem asVV (p:Bool) (h:Hp) (K:Value→Hp→Prop):semW Tryz.prog (Instr.typeAssert (.iface 156 (.agg #[.bool p])) 20 156 true) h K=K (.tuple #[.agg #[.bool p],.bool true]) h:=by kernel_rfl
theorem wrap_i32 {n:Int} (h1:-2147483648≤n) (h2:n<2147483648):IntKind.wrap .i32 n=n:=by
 simp only [IntKind.wrap,IntKind.bits,IntKind.signed,Bool.true_and]
 split <;> rename_i hh
 ·have:=of_decide_eq_true hh; omega
 ·have:¬ _:=fun h=>hh (decide_eq_true h); omega
theorem s32_le (n:Nat) (h:n<4294967296):-2147483648≤s32 n∧s32 n<2147483648:=by
 unfold s32
 split <;> omega
theorem numA_32 {lo hi n:Int} {ts:List Tok} (w:Wf ts) (h:numA lo hi ts=.ok n):-2147483648≤n∧n<2147483648:=by
 unfold numA at h
 cases hx:parseX ts with
 | error e=>rw [hx] at h; cases h
 | ok x =>
  rw [hx] at h
  simp only at h
  split at h
  ·cases h
  ·injection h with h
   rw [← h]
   exact s32_le _ (parseX_good w hx).num
theorem numA_err {lo hi:Int} {ts:List Tok} {e:Nat} (w:Wf ts) (h:numA lo hi ts=.error e):e=20∨e=21:=by
 unfold numA at h
 cases hx:parseX ts with
 | error e' =>
  rw [hx] at h
  injection h with h
  subst h
  exact parseX_err w hx
 | ok x =>
  rw [hx] at h
  simp only at h
  split at h
  ·injection h with h
   exact .inr h.symm
  ·cases h
theorem regA_err {z:Bool} {ts:List Tok} {e:Nat} (h:regA z ts=.error e):e=20:=by
 unfold regA at h
 split at h
 ·split at h
  ·cases h
  ·injection h with h
   exact h.symm
 ·injection h with h
  exact h.symm
def argQ (h:Hp) (b0 B:Nat) (r:Except Nat Itm) (u:Value) (h':Hp):Prop:=Ch [B] h h'∧match r with
 | .error e=>u=.int .i64 (e:Int)∧(e=20∨e=21)∧∃ xs,Box h' B 54 xs∧xs.length=10
 | .ok y=>u=.int .i64 0∧∃ p l c,Box h' B 54 (encI p l c y)∧SL h' b0 50 2 p l c (y.e.terms.map encT)
theorem argument_hc {h:Hp} {b0 B:Nat} {x:Itm} {p:Option Addr} {l c:Nat} (b:Box h B 54 (encI p l c x)) (s:SL h b0 50 2 p l c (x.e.terms.map encT)) (hb0:b0≤h.size) (hB:B<b0) (r:Rdr)
  {q:Option Addr} {m d:Nat} {ts:List Tok} (v:Vw h q m d ts) (hq:∀ i,i∈blkOf q→i<h.size) (w:Wf ts) (hts:ts.length≤2^40) :
  HC Tryz.prog 58 #[.pointer (some ⟨B,0,none⟩),encR r,.slice q m d] h (argQ h b0 B (argA x r ts)):=by
 have hBs:=b.lt
 refine hcr_of (args:=[.pointer (some ⟨B,0,none⟩),encR r,.slice q m d]) mixed Tryz.func58 (by kernel_rfl) (t_item_argument_eq _ _ q m d) ?_
 unfold t_item_argument
 have hS:∀ {h1 h2:Hp},Ext h h1→Ch [B] h1 h2→SL h2 b0 50 2 p l c (x.e.terms.map encT):=fun e k=>(Sx.SL.keep' s e (by simp)).keep' k (fun i hi hm=>by have:=(Sx.SL.blk s hi).1; simp at hm; omega)
 have hC:∀ {h1 h2:Hp},Ext h h1→Ch [B] h1 h2→Ch [B] h h2:=fun e k=>Ch.trans (e.mono (by simp)) k (fun i hi _=>hi)
 cases r with
 | reg z s2 s3 =>
  show semW _ _ _ _
  unfold encR
  rw [asRR]
  refine ⟨(z,s2,s3,true,()),rfl,?_⟩
  dsimp only [flat,unc,unc1,nA,cA]
  refine cond_t rfl ?_
  refine newB ?_
  intro h1 b1 e1 z1
  refine stores_of b1 rfl (by simp) ?_
  intro h2 b2 k2 z2
  have b2:Box h2 h.size 152 [.bool z,.bool s2,.bool s3]:=b2
  have e2:Ext h h2:=Ch.trans e1 k2 (fun i hi hl=>by simp at hi; omega)
  refine loads_box b2 (z,()) rfl ?_
  dsimp only [flat,unc,unc1,nA,cA]
  have bB:=b.keep e2 (by simp)
  have st:∀ {L:Lp} (n e:Int) (y:Itm) (o:Nat) (val:Value),plainV val=true→o<10→(encI p l c x).set o val=encI p l c y→y.e=x.e→(∀ h',Box h' B 54 (encI p l c y)→Ch [B] h h'→SL h' b0 50 2 p l c (y.e.terms.map encT)→argQ h b0 B (argA x (.reg z s2 s3) ts) (.int .i64 e) h') →
    (T.stores ⟨B,o,none⟩ [val] <| T.ret (.int .i64 e)) L (argQ h b0 B (argA x (.reg z s2 s3) ts)) h2:=by
   intro L n e y o val hpv ho hset hy hk
   refine stores_of bB (by simp [hpv]) (by simp [encI]; omega) ?_
   intro h3 b3 k3 z3
   rw [show setL (encI p l c x) o [val]=(encI p l c x).set o val from rfl,hset] at b3
   exact hk h3 b3 (hC e2 k3) (by rw [hy]; exact hS e2 k3)
  cases hr:regA z ts with
  | error e =>
   have he:=regA_err hr
   have hA:argA x (.reg z s2 s3) ts=.error e:=by unfold argA; simp only [hr]
   refine call_p (v:=resI (regA z ts)) (reg_hc (v.keep e2 (by simp)) z) ((0:Int),(e:Int),()) (by rw [hr]; rfl) ?_
   dsimp only [flat,unc,unc1,nA,cA]
   rw [add_box]
   refine loads_box b2 (s3,()) rfl ?_
   dsimp only [flat,unc,unc1,nA,cA]
   have out:∀ {L:Lp} (o:Nat) (val:Value),plainV val=true→o<10→(T.stores ⟨B,o,none⟩ [val] <| T.ret (.int .i64 (e:Int))) L (argQ h b0 B (argA x (.reg z s2 s3) ts)) h2:=by
    intro L o val hpv ho
    refine stores_of bB (by simp [hpv]) (by simp [encI]; omega) ?_
    intro h3 b3 k3 z3
    refine ⟨hC e2 k3,?_⟩
    rw [hA]
    exact ⟨rfl,.inl he,_,b3,by rw [setL_length]; rfl⟩
   refine cond_mk (fun g=>?_) (fun g=>?_)
   ·refine osome_mk rfl ?_
    rw [add_box,add_box]
    exact out 5 _ rfl (by omega)
   ·rw [add_box]
    refine loads_box b2 (s2,()) rfl ?_
    dsimp only [flat,unc,unc1,nA,cA]
    refine cond_mk (fun g=>?_) (fun g=>?_)
    ·refine osome_mk rfl ?_
     rw [add_box,add_box]
     exact out 4 _ rfl (by omega)
    ·refine osome_mk rfl ?_
     rw [add_box,add_box]
     exact out 3 _ rfl (by omega)
  | ok n =>
   have hn:=regA_le hr
   have hn8:0≤n∧n<8:=by
    refine ⟨hn.1,?_⟩
    have:=hn.2
    split at this <;> omega
   refine call_p (v:=resI (regA z ts)) (reg_hc (v.keep e2 (by simp)) z) (n,(0:Int),()) (by rw [hr]; rfl) ?_
   dsimp only [flat,unc,unc1,nA,cA]
   rw [add_box]
   refine loads_box b2 (s3,()) rfl ?_
   dsimp only [flat,unc,unc1,nA,cA]
   have hA:argA x (.reg z s2 s3) ts=.ok (if s3 then putN x n else if s2 then putB x n else putA x n):=by unfold argA; simp only [hr]
   refine cond_mk (fun g=>?_) (fun g=>?_)
   ·refine osome_mk rfl ?_
    rw [add_box,add_box,wrap_i32 (by omega) (by omega)]
    refine st n 0 (putN x n) 5 _ rfl (by omega) rfl rfl ?_
    intro h' b' k' s'
    refine ⟨k',?_⟩
    rw [hA,if_pos g]
    exact ⟨rfl,p,l,c,b',s'⟩
   ·rw [add_box]
    refine loads_box b2 (s2,()) rfl ?_
    dsimp only [flat,unc,unc1,nA,cA]
    refine cond_mk (fun g'=>?_) (fun g'=>?_)
    ·refine osome_mk rfl ?_
     rw [add_box,add_box]
     refine st n 0 (putB x n) 4 _ rfl (by omega) rfl rfl ?_
     intro h' b' k' s'
     refine ⟨k',?_⟩
     rw [hA,if_neg (by rw [g]; simp),if_pos g']
     exact ⟨rfl,p,l,c,b',s'⟩
    ·refine osome_mk rfl ?_
     rw [add_box,add_box]
     refine st n 0 (putA x n) 3 _ rfl (by omega) rfl rfl ?_
     intro h' b' k' s'
     refine ⟨k',?_⟩
     rw [hA,if_neg (by rw [g]; simp),if_neg (by rw [g']; simp)]
     exact ⟨rfl,p,l,c,b',s'⟩
 | con lo hi =>
  show semW _ _ _ _
  unfold encR
  rw [asRC]
  refine ⟨(false,false,false,false,()),rfl,?_⟩
  dsimp only [flat,unc,unc1,nA,cA]
  refine cond_f rfl ?_
  show semW _ _ _ _
  rw [asCC]
  refine ⟨(lo,hi,true,()),rfl,?_⟩
  dsimp only [flat,unc,unc1,nA,cA]
  refine cond_t rfl ?_
  refine newB ?_
  intro h1 b1 e1 z1
  refine stores_of b1 rfl (by simp) ?_
  intro h2 b2 k2 z2
  have b2:Box h2 h.size 154 [.int .i64 lo,.int .i64 hi]:=b2
  have e2:Ext h h2:=Ch.trans e1 k2 (fun i hi hl=>by simp at hi; omega)
  refine loads_box b2 (lo,()) rfl ?_
  dsimp only [flat,unc,unc1,nA,cA]
  rw [add_box]
  refine loads_box b2 (hi,()) rfl ?_
  dsimp only [flat,unc,unc1,nA,cA]
  refine call_of (numArg_hc (v.keep e2 (by simp)) (fun i hi=>Nat.lt_of_lt_of_le (hq i hi) e2.size) w hts lo hi) ?_
  rintro _ h3 ⟨rfl,e3⟩
  have e3:=e2.trans e3
  have bB:=b.keep e3 (by simp)
  cases hr:numA lo hi ts with
  | error e =>
   have he:=numA_err w hr
   refine ⟨((0:Int),(e:Int),()),rfl,?_⟩
   dsimp only [flat,unc,unc1,nA,cA]
   refine osome_mk rfl ?_
   rw [add_box,add_box]
   refine stores_of bB rfl (by simp [encI]) ?_
   intro h4 b4 k4 z4
   refine ⟨hC e3 k4,?_⟩
   rw [show argA x (.con lo hi) ts=.error e by unfold argA; simp only [hr]]
   exact ⟨rfl,he,_,b4,by rw [setL_length]; rfl⟩
  | ok n =>
   have hn:=numA_32 w hr
   refine ⟨(n,(0:Int),()),rfl,?_⟩
   dsimp only [flat,unc,unc1,nA,cA]
   refine osome_mk rfl ?_
   rw [add_box,add_box,wrap_i32 hn.1 hn.2]
   refine stores_of bB rfl (by simp [encI]) ?_
   intro h4 b4 k4 z4
   refine ⟨hC e3 k4,?_⟩
   rw [show argA x (.con lo hi) ts=.ok (putN x n) by unfold argA; simp only [hr]]
   exact ⟨rfl,p,l,c,b4,hS e3 k4⟩
 | val pool =>
  show semW _ _ _ _
  unfold encR
  rw [asRV]
  refine ⟨(false,false,false,false,()),rfl,?_⟩
  dsimp only [flat,unc,unc1,nA,cA]
  refine cond_f rfl ?_
  show semW _ _ _ _
  rw [asCV]
  refine ⟨((0:Int),(0:Int),false,()),rfl,?_⟩
  dsimp only [flat,unc,unc1,nA,cA]
  refine cond_f rfl ?_
  show semW _ _ _ _
  rw [asVV]
  refine ⟨(pool,true,()),rfl,?_⟩
  dsimp only [flat,unc,unc1,nA,cA]
  refine cond_t rfl ?_
  refine newB ?_
  intro h1 b1 e1 z1
  refine stores_of b1 rfl (by simp) ?_
  intro h2 b2 k2 z2
  have b2:Box h2 h.size 156 [.bool pool]:=b2
  have e2:Ext h h2:=Ch.trans e1 k2 (fun i hi hl=>by simp at hi; omega)
  refine loads_box b2 (pool,()) rfl ?_
  dsimp only [flat,unc,unc1,nA,cA]
  have bB:=b.keep e2 (by simp)
  have put:∀ {L:Lp} {us:List Tok} {h3:Hp} {u:Value},Wf us→argA x (.val pool) ts=(match parseX us with | .error e=>.error e | .ok y=>.ok (putE x y))→ParseP h2 (parseX us) u h3 →
    ∃ y:HVs (flat [(true,[.slice 50,.int .u32]),(false,[.int .i64])]),u=rv true [(true,[.slice 50,.int .u32]),(false,[.int .i64])] (hvs _ y)∧@unc (flat [(true,[.slice 50,.int .u32]),(false,[.int .i64])]) T (fun (p18:Option Addr) (l19:Nat) (l20:Nat) (n21:Int) (n22:Int) =>
    T.osome (some (⟨B,0,none⟩:Addr)) <| fun (a23:Addr) =>
    T.stores (a23.add 7) [.slice p18 l19 l20,.int .u32 n21] <|
    T.ret (.int .i64 n22)) y L (argQ h b0 B (argA x (.val pool) ts)) h3:=by
   rintro L us h3 u hw hA ⟨e3,hu⟩
   have e3:=e2.trans e3
   cases hx:parseX us with
   | error e =>
    rw [hx] at hu hA
    have he:=parseX_err hw hx
    have hu:u=.tuple #[.agg #[.slice none 0 0,.int .u32 0],.int .i64 (e:Int)]:=hu
    subst hu
    refine ⟨((none,0,0),(0:Int),(e:Int),()),rfl,?_⟩
    dsimp only [flat,unc,unc1,nA,cA]
    refine osome_mk rfl ?_
    rw [add_box]
    refine stores_of (b.keep e3 (by simp)) rfl (by simp [encI]) ?_
    intro h4 b4 k4 z4
    refine ⟨hC e3 k4,?_⟩
    rw [hA]
    exact ⟨rfl,he,_,b4,by rw [setL_length]; rfl⟩
   | ok y =>
    rw [hx] at hu hA
    obtain ⟨p5,l5,c5,rfl,sl,gd⟩:=hu
    refine ⟨((p5,l5,c5),(y.num:Int),(0:Int),()),rfl,?_⟩
    dsimp only [flat,unc,unc1,nA,cA]
    refine osome_mk rfl ?_
    rw [add_box]
    refine stores_of (b.keep e3 (by simp)) rfl (by simp [encI]) ?_
    intro h4 b4 k4 z4
    refine ⟨hC e3 k4,?_⟩
    rw [hA]
    have hz:=e2.size
    exact ⟨rfl,p5,l5,c5,b4,((Sx.SL.mono sl (by omega)).keep' k4 (fun i hi hm=>by have:=(Sx.SL.blk sl hi).1; simp at hm; omega))⟩
  have v2:=v.keep e2 (by simp)
  have hq2:∀ i,i∈blkOf q→i<h2.size:=fun i hi=>Nat.lt_of_lt_of_le (hq i hi) e2.size
  cases pool with
  | false =>
   refine cond_f rfl ?_
   refine call_of (parse46_hc v2 hq2 w hts) ?_
   intro u h3 hu
   refine put w ?_ hu
   unfold argA valA
   rfl
  | true =>
   refine cond_t rfl ?_
   have hl:=v.len
   have bad:argA x (.val true) ts=.error 20→argQ h b0 B (argA x (.val true) ts) (.int .i64 20) h2:=by
    intro hA
    refine ⟨e2.mono (by simp),?_⟩
    rw [hA]
    exact ⟨rfl,.inl rfl,_,bB,rfl⟩
   refine cond_mk (fun g=>?_) (fun g=>?_)
   ·have g:m=0:=eqN_t g
    refine bad ?_
    have:ts=[]:=List.eq_nil_of_length_eq_zero (by omega)
    subst this
    rfl
   have g:¬ m=0:=eqN_f g
   cases ts with
   | nil=>simp at hl; omega
   | cons t r =>
    obtain ⟨a,rfl,c0⟩:=v2.cells 0 (by simp)
    have c0:cellsAt h2 (a.add (0*4)) 0 (enc t):=c0
    obtain ⟨q1,q2,_⟩:=tok_cells c0
    refine need_of ⟨by omega,by omega⟩ (osome_mk rfl (loads_of ((t.kind:Int),()) q1 ?_))
    dsimp only [flat,unc,unc1,nA,cA]
    refine cond_mk (fun g3=>?_) (fun g3=>?_)
    ·have g3:¬ t.kind=3:=by
      have:¬ (t.kind:Int)=3:=by simpa using g3
      omega
     refine bad ?_
     have:isS t 61=false:=by unfold isS; rw [beq_false_of_ne g3]; rfl
     unfold argA valA
     simp [this]
    have g3:t.kind=3:=by
     have:(t.kind:Int)=3:=by simpa using g3
     omega
    refine need_of ⟨by omega,by omega⟩ (osome_mk rfl (loads_of (t.text,()) q2 ?_))
    dsimp only [flat,unc,unc1,nA,cA]
    have hs:(ByteArray.toList t.text==[({ toBitVec:=61#8 }:UInt8)])=isS t 61:=by
     unfold isS
     rw [g3,ByteArray.toList_eq]
     rfl
    rw [hs]
    refine cond_mk (fun g4=>?_) (fun g4=>?_)
    ·have g4:isS t 61=false:=by simpa using g4
     refine bad ?_
     unfold argA valA
     simp [g4]
    have g4:isS t 61=true:=by simpa using g4
    refine need_of ⟨by omega,by simp at hl; omega,by have:=v.cap; omega⟩ ?_
    have vd:=v2.drop (k:=1) (by simp at hl; omega)
    refine call_of (args:=[.slice _ _ _]) (parse46_hc (ts:=r) (p:=if d=1 then some a else Option.map (fun a=>Addr.add a 4) (some a)) (l:=m-1) (c:=d-1) vd ?_ w.tail (by simp at hts; omega)) ?_
    ·intro i hi
     rw [show blkOf (if d=1 then some a else Option.map (fun a=>Addr.add a 4) (some a))=blkOf (some a) from blkOf_if _ _ _ _] at hi
     exact hq2 i hi
    ·intro u h3 hu
     refine put w.tail ?_ hu
     unfold argA valA
     simp only [g4,if_true]
     all_goals (cases parseX r <;> rfl)
theorem argA_err {x:Itm} {r:Rdr} {ts:List Tok} {e:Nat} (w:Wf ts) (h:argA x r ts=.error e):e=20∨e=21:=by
 unfold argA at h
 cases r with
 | reg z s t =>
  simp only at h
  cases hr:regA z ts with
  | error e' =>
   rw [hr] at h
   injection h with h
   subst h
   exact .inl (regA_err hr)
  | ok n=>rw [hr] at h; cases h
 | con lo hi =>
  simp only at h
  cases hr:numA lo hi ts with
  | error e' =>
   rw [hr] at h
   injection h with h
   subst h
   exact numA_err w hr
  | ok n=>rw [hr] at h; cases h
 | val p =>
  simp only at h
  cases hr:valA p ts with
  | error e' =>
   rw [hr] at h
   injection h with h
   subst h
   unfold valA at hr
   split at hr
   ·exact parseX_err w hr
   ·split at hr
    ·injection hr with hr
     exact .inl hr.symm
    ·split at hr
     ·exact parseX_err w.tail hr
     ·injection hr with hr
      exact .inl hr.symm
  | ok n=>rw [hr] at h; cases h
def itmQ (h:Hp) (r:Except Nat Itm) (u:Value) (h':Hp):Prop:=Ext h h'∧match r with
 | .error e=>u=.tuple #[itmV none 0 0 (itm 0),.int .i64 (e:Int)]
 | .ok y=>∃ p l c,u=.tuple #[itmV p l c y,.int .i64 0]∧SL h' h.size 50 2 p l c (y.e.terms.map encT)
def zI:List Value:=[.int .i64 (0:Int),.string ⟨#[]⟩,.int .i64 (0:Int),.int .i64 (0:Int),.int .i64 (0:Int),.int .i32 (0:Int),.int .i64 (0:Int),.slice none 0 0,.int .u32 (0:Int),.int .i64 (0:Int)]
theorem code_hc {h:Hp} (t:Tab h) {op:Nat} (h1:1≤op) (h2:op≤43) {p:Option Addr} {l c:Nat} {al:List In} (v:VwA h p l al) (hal:al.length≤2^40) :
  HC Tryz.prog 31 #[.int .i64 (op:Int),.slice p l c] h (itmQ h (codeA (op:Int) (al.map In.ts))):=by
 refine hcr_of (args:=[.int .i64 (op:Int),.slice p l c]) mixed Tryz.func31 (by kernel_rfl) (t_item_code_eq op p l c) ?_
 unfold t_item_code
 refine newB ?_
 intro g1 b1 e1 z1
 refine call_of (at_hc (t.keep e1 (by simp)) (op:Int) (by omega) (by omega)) ?_
 rintro _ g2 ⟨s,b,rfl,e2⟩
 refine ⟨(s,b,(shp (op:Int):Int),decide (shp (op:Int)≠0),()),rfl,?_⟩
 dsimp only [flat,unc,unc1,nA,cA]
 refine newB ?_
 intro g3 b3 e3 z3
 refine stores_of b3 rfl (by simp) ?_
 intro g4 b4 k4 z4
 have b4:Box g4 g2.size 112 [.string s,.int .u8 b,.int .i64 (shp (op:Int):Int)]:=b4
 have e24:Ext g2 g4:=Ch.trans e3 k4 (fun i hi hl=>by simp at hi; omega)
 have e04:Ext h g4:=(e1.trans e2).trans e24
 rw [add_box]
 refine loads_box b4 ((shp (op:Int):Int),()) rfl ?_
 dsimp only [flat,unc,unc1,nA,cA]
 refine call_of (readers_hc (shp (op:Int)) g4) ?_
 rintro _ g5 ⟨pr,cr,rfl,sr,e5⟩
 refine ⟨((pr,(rdrs (shp (op:Int))).length,cr),()),rfl,?_⟩
 dsimp only [flat,unc,unc1,nA,cA]
 have e05:=e04.trans e5
 have b1:Box g5 h.size 54 zI:=((b1.keep e2 (by simp)).keep e24 (by simp)).keep e5 (by simp)
 have hl:=v.len
 have out:∀ {L:Lp} {gg:Hp} {e:Nat},Ext h gg→(∃ xs,Box gg h.size 54 xs∧xs.length=10)→codeA (op:Int) (al.map In.ts)=.error e →
   (T.stores ⟨h.size,0,none⟩ zI <|
   T.loads ⟨h.size,0,none⟩ [.int .i64,.string,.int .i64,.int .i64,.int .i64,.int .i32,.int .i64,.slice 50,.int .u32,.int .i64] <| fun (n12:Int) (s13:ByteArray) (n14:Int) (n15:Int) (n16:Int) (n17:Int) (n18:Int) (p19:Option Addr) (l20:Nat) (l21:Nat) (n22:Int) (n23:Int) =>
   T.ret (.tuple #[.agg #[.int .i64 n12,.string s13,.int .i64 n14,.int .i64 n15,.int .i64 n16,.int .i32 n17,.int .i64 n18,.slice p19 l20 l21,.int .u32 n22,.int .i64 n23],.int .i64 (e:Int)])) L (itmQ h (codeA (op:Int) (al.map In.ts))) gg:=by
  rintro L gg e eg ⟨xs,bx,hx⟩ hA
  refine stores_of bx rfl (by rw [hx]; simp [zI]) ?_
  intro g' b' k' z'
  rw [setL_eq _ _ _ (by rw [hx]; simp [zI])] at b'
  have hd:xs.drop 10=[]:=List.drop_of_length_le (by omega)
  have b':Box g' h.size 54 zI:=by simpa [zI,hx,hd] using b'
  refine loads_box b' ((0:Int),(⟨#[]⟩:ByteArray),(0:Int),(0:Int),(0:Int),(0:Int),(0:Int),(none,0,0),(0:Int),(0:Int),()) rfl ?_
  refine ⟨Ch.trans eg k' (fun i hi hl=>by simp at hi; omega),?_⟩
  rw [hA]
  rfl
 refine cond_mk (fun q=>?_) (fun q=>?_)
 ·have q:¬ (rdrs (shp (op:Int))).length=l:=by
   have:¬ ((rdrs (shp (op:Int))).length:Int)=l:=by simpa using q
   omega
  exact out e05 ⟨_,b1,rfl⟩ (by unfold codeA; rw [if_pos (by rw [List.length_map]; omega)])
 have q:(rdrs (shp (op:Int))).length=l:=by
  have:((rdrs (shp (op:Int))).length:Int)=l:=by simpa using q
  omega
 have hcode:codeA (op:Int) (al.map In.ts)=codeL (code0 (op:Int)) (rdrs (shp (op:Int))) (al.map In.ts):=by
  unfold codeA
  rw [if_neg (by rw [List.length_map]; omega)]
 refine newB ?_
 intro g6 b6 e6 z6
 refine stores_of b6 rfl (by simp) ?_
 intro g7 b7 k7 z7
 have b7:Box g7 g5.size 54 (encI none 0 0 (code0 (op:Int))):=b7
 have e57:Ext g5 g7:=Ch.trans e6 k7 (fun i hi hl=>by simp at hi; omega)
 have e07:=e05.trans e57
 have b17:=b1.keep e57 (by simp)
 have sr7:=sr.keep' e57 (by simp)
 have hz5:=e05.size
 have hlt1:=b1.lt
 refine loop_of (cs:=[(false,[.int .i64]),(false,[.int .i64])]) (fun x n h'=>∃ (k:Nat) (y:Itm),x.2.1=(k:Int)∧k≤l∧n=l-k∧Ext g7 h'=Ext g7 h'∧Ch [g5.size] g7 h'∧codeL (code0 (op:Int)) (rdrs (shp (op:Int))) (al.map In.ts)=codeL y ((rdrs (shp (op:Int))).drop k) ((al.map In.ts).drop k) ∧
   ∃ p' l' c',Box h' g5.size 54 (encI p' l' c' y)∧SL h' (g5.size+1) 50 2 p' l' c' (y.e.terms.map encT)) ((0:Int),(0:Int),()) l rfl ⟨0,_,rfl,by omega,by omega,rfl,Ch.refl _ _,rfl,none,0,0,b7,SL.nil _ _ _ _⟩ ?_
 rintro ⟨n13,n14,⟨⟩⟩ n g8 ⟨k,y,hk,hkl,rfl,_,k8,hcl,p',l',c',b8,s8⟩
 simp only at hk
 subst hk
 dsimp only [flat,unc,unc1,nA,cA]
 have e58:Ext g5 g8:=Ch.trans e57 k8 (fun i hi hl=>by simp at hi; omega)
 have e08:=e05.trans e58
 have hz7:g7.size=g5.size+1:=by rw [z7,z6]
 refine cond_mk (fun r=>?_) (fun r=>?_)
 ·have r:=of_decide_eq_true r
  have hkr:k<(rdrs (shp (op:Int))).length:=by omega
  have hka:k<al.length:=by omega
  obtain ⟨ar,har,hcr⟩:=(sr.keep' e58 (by simp)).cells (i:=k) (by rw [List.length_map]; exact hkr)
  rw [List.getElem_map] at hcr
  obtain ⟨aa,haa,hca⟩:=(v.keep e08).cells k hka
  refine need_of ⟨by omega,by omega⟩ (osome_mk har ?_)
  rw [show Int.toNat (k:Int)=k by omega]
  refine loads_of (encR ((rdrs (shp (op:Int)))[k]),()) hcr ?_
  dsimp only [flat,unc,unc1,nA,cA]
  refine need_of ⟨by omega,by omega⟩ (osome_mk haa ?_)
  have hmem:al[k]∈al:=List.getElem_mem hka
  have hdr:(rdrs (shp (op:Int))).drop k=(rdrs (shp (op:Int)))[k]::(rdrs (shp (op:Int))).drop (k+1):=List.drop_eq_getElem_cons hkr
  have hda:(al.map In.ts).drop k=al[k].ts::(al.map In.ts).drop (k+1):=by
   rw [List.drop_eq_getElem_cons (by rw [List.length_map]; exact hka),List.getElem_map]
  rw [hdr,hda] at hcl
  simp only [codeL] at hcl
  generalize (rdrs (shp (op:Int)))[k]=rr at hcl ⊢
  generalize al[k]=a at hcl hca hmem ⊢
  refine loads_of ((a.p,a.l,a.c),()) hca ?_
  dsimp only [flat,unc,unc1,nA,cA]
  have hz8:g7.size≤g8.size:=k8.size
  refine call_of (argument_hc b8 s8 (by omega) (by omega) rr ((v.keep e08).inn a hmem) ((v.keep e08).blk a hmem) (v.wf a hmem) (v.many a hmem)) ?_
  rintro u g9 ⟨k9,hu⟩
  have e59:Ext g5 g9:=Ch.trans e58 k9 (fun i hi hl=>by simp at hi; omega)
  cases hA:argA y rr a.ts with
  | error e =>
   rw [hA] at hu hcl
   obtain ⟨rfl,he,xs,bx,hx⟩:=hu
   refine ⟨((e:Int),()),rfl,?_⟩
   dsimp only [flat,unc,unc1,nA,cA]
   refine cond_t (by simp; omega) ?_
   exact out (e05.trans e59) ⟨_,b1.keep e59 (by simp),rfl⟩ (by rw [hcode,hcl])
  | ok y' =>
   rw [hA] at hu hcl
   obtain ⟨rfl,p2,l2,c2,b9,s9⟩:=hu
   refine ⟨((0:Int),()),rfl,?_⟩
   dsimp only [flat,unc,unc1,nA,cA]
   refine cond_f rfl ?_
   have hw:IntKind.wrap .i64 ((k:Int)+1)=((k+1:Nat):Int):=by rw [wrap_i64 (by omega) (by omega)]; omega
   refine again_mk (cs:=[(false,[.int .i64]),(false,[.int .i64])]) (n13,((k+1:Nat):Int),()) (l-(k+1)) rfl (by omega) (by rw [hw]; rfl) ⟨k+1,y',rfl,by omega,rfl,rfl,Ch.trans k8 k9 (fun i hi _=>hi),hcl,p2,l2,c2,b9,s9⟩
 ·have r:=of_decide_eq_false r
  have hkl2:k=l:=by omega
  have hcl2:codeA (op:Int) (al.map In.ts)=.ok y:=by
   rw [hcode,hcl,List.drop_of_length_le (by omega)]
   rfl
  refine loads_box b8 (y.kind,y.name,y.inst.op,y.inst.a,y.inst.b,y.inst.n,y.inst.form,(p',l',c'),(y.e.num:Int),y.n,()) rfl ?_
  dsimp only [flat,unc,unc1,nA,cA]
  refine stores_of (b1.keep e58 (by simp)) rfl (by simp [zI]) ?_
  intro g9 b9 k9 z9
  have b9:Box g9 h.size 54 (encI p' l' c' y):=b9
  refine loads_box b9 (y.kind,y.name,y.inst.op,y.inst.a,y.inst.b,y.inst.n,y.inst.form,(p',l',c'),(y.e.num:Int),y.n,()) rfl ?_
  refine ⟨Ch.trans e08 k9 (fun i hi hl=>by simp at hi; omega),?_⟩
  rw [hcl2]
  refine ⟨p',l',c',rfl,(Sx.SL.mono s8 (by omega)).keep' k9 (fun i hi hm=>by have:=(Sx.SL.blk s8 hi).1; simp at hm; omega)⟩
def encD (u:Sli × Itm):List Value:=encI u.1.p u.1.l u.1.c u.2
structure ItsAt (h:Hp) (b:Nat) (p:Option Addr) (l c:Nat) (us:List (Sli × Itm)):Prop where
 out:SL h b 54 10 p l c (us.map encD)
 own:∀ u,u∈us→SL h b 50 2 u.1.p u.1.l u.1.c (u.2.e.terms.map encT)
 po:∀ u,u∈us→∀ i,i∈blkOf u.1.p→i∉blkOf p
 pp:us.Pairwise fun u v=>∀ i,i∈blkOf u.1.p→i∉blkOf v.1.p
theorem ItsAt.len {h:Hp} {b:Nat} {p:Option Addr} {l c:Nat} {us:List (Sli × Itm)} (A:ItsAt h b p l c us):l=us.length:=by rw [A.out.1,List.length_map]
theorem ItsAt.keep {ws:List Nat} {h h':Hp} {b:Nat} {p:Option Addr} {l c:Nat} {us:List (Sli × Itm)} (A:ItsAt h b p l c us) (k:Ch ws h h') (hw:∀ i,i∈ws→i<h.size→i<b):ItsAt h' b p l c us :=
 ⟨SL.keepN A.out k hw,fun u hu=>SL.keepN (A.own u hu) k hw,A.po,A.pp⟩
theorem ItsAt.mono {h:Hp} {b b':Nat} {p:Option Addr} {l c:Nat} {us:List (Sli × Itm)} (A:ItsAt h b p l c us) (hb:b'≤b):ItsAt h b' p l c us :=
 ⟨Sx.SL.mono A.out hb,fun u hu=>Sx.SL.mono (A.own u hu) hb,A.po,A.pp⟩
theorem ItsAt.nil (h:Hp) (b:Nat):ItsAt h b none 0 0 []:=⟨SL.nil _ _ _ _,by simp,by simp,List.Pairwise.nil⟩
theorem ItsAt.snoc {h h':Hp} {b:Nat} {p p':Option Addr} {l c c':Nat} {us:List (Sli × Itm)} (A:ItsAt h b p l c us) {u:Sli × Itm} (o:SL h' b 54 10 p' (l+1) c' (us.map encD++[encD u])) (k:Ch (blkOf p) h h') (hp:p'=p∨∃ x,p'=some x∧h.size≤x.block)
  (ha:SL h b 50 2 u.1.p u.1.l u.1.c (u.2.e.terms.map encT)) (h1:∀ i,i∈blkOf u.1.p→i∉blkOf p) (h2:∀ x,x∈us→∀ i,i∈blkOf x.1.p→i∉blkOf u.1.p):ItsAt h' b p' (l+1) c' (us++[u]):=by
 have hp':∀ i,i∈blkOf p'→i∈blkOf p∨h.size≤i:=by
  intro i hi
  rcases hp with rfl | ⟨x,rfl,hx⟩
  ·exact .inl hi
  ·simp [blkOf] at hi; right; omega
 refine ⟨by rw [List.map_append]; exact o,fun x hx=>?_,fun x hx i hi hh=>?_,List.pairwise_append.2 ⟨A.pp,by simp,fun x hx y hy i hi=>?_⟩⟩
 ·rcases List.mem_append.1 hx with hx | hx
  ·exact Sx.SL.keep' (A.own x hx) k fun i hi=>A.po x hx i hi
  ·have hx:x=u:=by simpa using hx
   subst hx
   exact Sx.SL.keep' ha k h1
 ·rcases List.mem_append.1 hx with hx | hx
  ·rcases hp' i hh with h' | h'
   ·exact A.po x hx i hi h'
   ·have:=(Sx.SL.blk (A.own x hx) hi).2; omega
  ·have hx:x=u:=by simpa using hx
   subst hx
   rcases hp' i hh with h' | h'
   ·exact h1 i hi h'
   ·have:=(Sx.SL.blk ha hi).2; omega
 ·have hy:y=u:=by simpa using hy
  subst hy
  exact h2 x hx i hi
theorem undI:Tryz.prog.underlying 22=some (.slice 54):=by kernel_rfl
theorem itmZI:(Tryz.prog.info? 54).map (fun i=>(i.zero,i.size,i.bytes))=some (some (.agg zI.toArray),10,104):=by kernel_rfl
theorem fillI (p:Option Addr) (l c:Nat) (x:Itm):Instr.fill (fun j=>some (j*10,10)) ((Array.range (1*10)).map ((Value.agg zI.toArray).cells[· % (Value.agg zI.toArray).cells.size]!)) [(0,.agg (encI p l c x).toArray)]=some (encI p l c x).toArray:=by kernel_rfl
theorem SL.one10 {h:Hp} {b g:Nat} {xs:List Value} (bx:Box h g 54 xs) (hb:b≤g) (hn:xs.length=10):SL h b 54 10 (some ⟨g,0,none⟩) 1 1 [xs]:=by
 refine ⟨rfl,by simpa using hn,g,[],[],rfl,hb,⟨Nat.le_refl _,by omega⟩,?_,by simp⟩
 simpa using bx
section
variable {L:Lp} {K:Value→Hp→Prop} {h:Hp}
theorem lit1_of {k:Option Addr→Nat→Nat→T} {p:Option Addr} {l c:Nat} {x:Itm} (hk:∀ h',SL h' h.size 54 10 (some ⟨h.size,0,none⟩) 1 1 [encI p l c x]→Ext h h'→h'.size=h.size+1→k (some ⟨h.size,0,none⟩) 1 1 L K h') :
  T.sem Tryz.prog (Instr.buildSlice 22 1 #[(0,.agg (encI p l c x).toArray)]) false [(false,[.slice 0])] k L K h:=by
 refine lit_of undI itmZI (by omega) (by omega) (fillI p l c x) ?_
 intro h' b e z
 exact hk h' (SL.one10 b (Nat.le_refl _) rfl) e z
end
def thgV (k:Int) (a:Sli) (s:ByteArray) (b:Sli) (n sec:Int):Value:=.agg #[.int .i64 k,a.v,.string s,b.v,.int .u32 n,.int .i64 sec]
structure ThgAt (h:Hp) (b:Nat) (t:Thg) (sl:Sli) (us:List (Sli × Itm)) (se:Sli):Prop where
 its:ItsAt h b sl.p sl.l sl.c us
 eq:us.map (·.2)=t.items
 e:SL h b 50 2 se.p se.l se.c (t.e.terms.map encT)
 apt:us=[]∨se.p=none
theorem ThgAt.keep {ws:List Nat} {h h':Hp} {b:Nat} {t:Thg} {sl:Sli} {us:List (Sli × Itm)} {se:Sli} (A:ThgAt h b t sl us se) (k:Ch ws h h') (hw:∀ i,i∈ws→i<h.size→i<b):ThgAt h' b t sl us se :=
 ⟨A.its.keep k hw,A.eq,SL.keepN A.e k hw,A.apt⟩
theorem ThgAt.mono {h:Hp} {b b':Nat} {t:Thg} {sl:Sli} {us:List (Sli × Itm)} {se:Sli} (A:ThgAt h b t sl us se) (hb:b'≤b):ThgAt h b' t sl us se:=⟨A.its.mono hb,A.eq,Sx.SL.mono A.e hb,A.apt⟩
def itsR (k:Nat) (args:List (List Tok)):Except Nat (List Itm):=if args=[] then .error 20 else itemsA k args
def itsQ (h:Hp) (r:Except Nat (List Itm)) (u:Value) (h':Hp):Prop:=Ext h h'∧match r with
 | .error e=>u=.tuple #[.slice none 0 0,.int .i64 (e:Int)]∧(e=20∨e=21)
 | .ok l=>∃ p n c us,u=.tuple #[.slice p n c,.int .i64 0]∧ItsAt h' h.size p n c us∧us.map (·.2)=l
theorem itemA_5 (ts:List Tok):itemA 5 ts=match numA (-128) 255 ts with | .error e=>.error e | .ok n=>.ok { itm 5 with n:=n }:=by
 unfold itemA
 rw [if_pos rfl]
 all_goals (cases numA (-128) 255 ts <;> rfl)
theorem itemA_6 (ts:List Tok):itemA 6 ts=match parseX ts with | .error e=>.error e | .ok x=>.ok { itm 6 with e:=x }:=by
 unfold itemA
 rw [if_neg (by decide)]
 all_goals (cases parseX ts <;> rfl)
theorem items_hc {h:Hp} {k:Nat} (hk56:k=5∨k=6) {p:Option Addr} {l c:Nat} {al:List In} (v:VwA h p l al) (hal:al.length≤2^32) :
  HC Tryz.prog 61 #[.int .i64 (k:Int),.slice p l c] h (itsQ h (itsR k (al.map In.ts))):=by
 refine hcr_of (args:=[.int .i64 (k:Int),.slice p l c]) mixed Tryz.func61 (by kernel_rfl) (t_item_items_eq k p l c) ?_
 unfold t_item_items
 have hl:=v.len
 refine cond_mk (fun q=>?_) (fun q=>?_)
 ·have q:l=0:=eqN_t q
  refine ⟨Ch.refl _ _,?_⟩
  have:itsR k (al.map In.ts)=.error 20:=by
   unfold itsR
   rw [if_pos (by rw [List.eq_nil_of_length_eq_zero (show al.length=0 by omega)]; rfl)]
  rw [this]
  exact ⟨rfl,.inl rfl⟩
 have q:¬ l=0:=eqN_f q
 have hR:itsR k (al.map In.ts)=itemsA k (al.map In.ts):=by
  unfold itsR
  rw [if_neg (fun hh=>by have:=congrArg List.length hh; simp at this; rw [this] at hl; simp at hl; omega)]
 rw [hR]
 refine loop_of (cs:=[(false,[.slice 0]),(false,[.int .i64]),(false,[.slice 0]),(false,[.int .i64])]) (fun x n h'=>∃ (i:Nat) (us:List (Sli × Itm)),x.2.2.2.1=(i:Int)∧i≤l∧n=l-i∧Ext h h'∧ItsAt h' h.size x.2.2.1.1 x.2.2.1.2.1 x.2.2.1.2.2 us∧us.length=i ∧
   itemsA k (al.map In.ts)=(match itemsA k ((al.map In.ts).drop i) with | .error e=>.error e | .ok r=>.ok (us.map (·.2)++r))) ((none,0,0),(0:Int),(none,0,0),(0:Int),()) l rfl
  ⟨0,[],rfl,by omega,by omega,Ch.refl _ _,ItsAt.nil _ _,rfl,by rw [List.drop_zero]; cases itemsA k (al.map In.ts) <;> rfl⟩ ?_
 rintro ⟨⟨p2,l3,l4⟩,n5,⟨p6,l7,l8⟩,n9,⟨⟩⟩ n h1 ⟨i,us,hi,hil,rfl,e1,A,hus,hit⟩
 simp only at hi A
 subst hi
 dsimp only [flat,unc,unc1,nA,cA]
 refine cond_mk (fun r=>?_) (fun r=>?_)
 ·have r:=of_decide_eq_true r
  have hia:i<al.length:=by omega
  obtain ⟨aa,haa,hca⟩:=(v.keep e1).cells i hia
  refine need_of ⟨by omega,by omega⟩ (osome_mk haa ?_)
  rw [show Int.toNat (i:Int)=i by omega]
  have hmem:al[i]∈al:=List.getElem_mem hia
  have hda:(al.map In.ts).drop i=al[i].ts::(al.map In.ts).drop (i+1):=by
   rw [List.drop_eq_getElem_cons (by rw [List.length_map]; exact hia),List.getElem_map]
  rw [hda] at hit
  simp only [itemsA] at hit
  generalize al[i]=a at hit hca hmem
  refine loads_of ((a.p,a.l,a.c),()) hca ?_
  dsimp only [flat,unc,unc1,nA,cA]
  refine newB ?_
  intro h2 b2 e2 z2
  refine stores_of b2 rfl (by simp) ?_
  intro h3 b3 k3 z3
  have b3:Box h3 h1.size 54 (encI none 0 0 (itm k)):=b3
  have e13:Ext h1 h3:=Ch.trans e2 k3 (fun j hj hl=>by simp at hj; omega)
  have e03:=e1.trans e13
  have A3:=A.keep e13 (by simp)
  have hz1:=e1.size
  have hlt3:=b3.lt
  have push:∀ {L:Lp} {K:Value→Hp→Prop} {kk:Option Addr→Nat→Nat→T} {hh:Hp} {sp:Sli} {y:Itm},Ext h3 hh∨Ch [h1.size] h3 hh→Ch [h1.size] h3 hh→SL hh (h1.size+1) 50 2 sp.p sp.l sp.c (y.e.terms.map encT) →
    (∀ p' c' h',Ext h h'→ItsAt h' h.size p' (l7+1) c' (us++[(sp,y)])→kk p' (l7+1) c' L K h') →
    T.sem Tryz.prog (Instr.buildSlice 22 1 #[(0,.agg (encI sp.p sp.l sp.c y).toArray)]) false [(false,[.slice 0])] (fun q m cc=>T.sem Tryz.prog (Builtin.append_ #[22,22] 22 #[.slice p6 l7 l8,.slice q m cc]) false [(false,[.slice 0])] kk) L K hh:=by
   intro L K kk hh sp y _ kc sy hk
   have hzh:=kc.size
   have e0h:Ext h hh:=Ch.trans e03 kc (fun j hj hl=>by simp at hj; omega)
   have Ah:ItsAt hh h.size p6 l7 l8 us:=by
    refine ⟨Sx.SL.keep' A3.out kc (fun j hj hm=>?_),fun u hu=>Sx.SL.keep' (A3.own u hu) kc (fun j hj hm=>?_),A3.po,A3.pp⟩
    ·have:=(Sx.SL.blk A.out hj).2; simp at hm; omega
    ·have:=(Sx.SL.blk (A.own u hu) hj).2; simp at hm; omega
   refine push_of (e:=54) (z:=.agg zI.toArray) (sz:=10) (by':=104) (vs:=encI sp.p sp.l sp.c y) undI itmZI rfl (by omega) (by omega) (fillI _ _ _ _) rfl rfl Ah.out e0h.size (by have:=A.len; omega) (by have:=A.len; omega) ?_
   intro p' c' h' o k' hp'
   refine hk p' c' h' (Ch.trans e0h k' (fun j hj hl=>by have:=(Sx.SL.blk Ah.out hj).1; omega)) (Ah.snoc (u:=(sp,y)) o k' hp' (Sx.SL.mono sy (by omega)) (fun j hj hm=>?_) (fun x hx j hj hm=>?_))
   ·have h1:=(Sx.SL.blk sy hj).1
    have h2:=(Sx.SL.blk A.out hm).2
    omega
   ·have h1:=(Sx.SL.blk sy hm).1
    have h2:=(Sx.SL.blk (A.own x hx) hj).2
    omega
  have hw:IntKind.wrap .i64 ((i:Int)+1)=((i+1:Nat):Int):=by rw [wrap_i64 (by omega) (by omega)]; omega
  have v3:=v.keep e03
  rcases hk56 with rfl | rfl
  ·refine cond_t rfl ?_
   refine call_of (numArg_hc (v3.inn a hmem) (v3.blk a hmem) (v.wf a hmem) (v.many a hmem) (-128) 255) ?_
   rintro _ h4 ⟨rfl,e4⟩
   rw [itemA_5] at hit
   cases hn:numA (-128) 255 a.ts with
   | error e =>
    rw [hn] at hit
    have he:=numA_err (v.wf a hmem) hn
    refine ⟨((0:Int),(e:Int),()),rfl,?_⟩
    dsimp only [flat,unc,unc1,nA,cA]
    rw [add_box]
    refine stores_of (b3.keep e4 (by simp)) rfl (by simp [encI]) ?_
    intro h5 b5 k5 z5
    refine cond_t (by simp; omega) ?_
    refine ⟨Ch.trans (e03.trans e4) k5 (fun j hj hl=>by simp at hj; omega),?_⟩
    rw [hit]
    exact ⟨rfl,he⟩
   | ok nn =>
    rw [hn] at hit
    refine ⟨(nn,(0:Int),()),rfl,?_⟩
    dsimp only [flat,unc,unc1,nA,cA]
    rw [add_box]
    refine stores_of (b3.keep e4 (by simp)) rfl (by simp [encI]) ?_
    intro h5 b5 k5 z5
    have b5:Box h5 h1.size 54 (encI none 0 0 { itm 5 with n:=nn }):=b5
    refine cond_f rfl ?_
    refine loads_box b5 ((5:Int),(⟨#[]⟩:ByteArray),(0:Int),(0:Int),(0:Int),(0:Int),(0:Int),(none,0,0),(0:Int),nn,()) rfl ?_
    dsimp only [flat,unc,unc1,nA,cA]
    have k35:Ch [h1.size] h3 h5:=Ch.trans (e4.mono (by simp)) k5 (fun j hj _=>hj)
    refine push (sp:=⟨none,0,0⟩) (y:={ itm 5 with n:=nn }) (.inr k35) k35 (SL.nil _ _ _ _) ?_
    intro p' c' h6 e6 A6
    refine again_mk (cs:=[(false,[.slice 0]),(false,[.int .i64]),(false,[.slice 0]),(false,[.int .i64])]) ((p2,l3,l4),n5,(p',l7+1,c'),((i+1:Nat):Int),()) (l-(i+1)) rfl (by omega) (by rw [hw]; rfl) ⟨i+1,_,rfl,by omega,rfl,e6,A6,by simp [hus],?_⟩
    rw [hit]
    cases itemsA 5 ((al.map In.ts).drop (i+1)) <;> simp
  ·refine cond_f rfl ?_
   refine call_of (parse46_hc (v3.inn a hmem) (v3.blk a hmem) (v.wf a hmem) (v.many a hmem)) ?_
   rintro u h4 ⟨e4,hu⟩
   rw [itemA_6] at hit
   cases hn:parseX a.ts with
   | error e =>
    rw [hn] at hit hu
    have he:=parseX_err (v.wf a hmem) hn
    have hu:u=.tuple #[.agg #[.slice none 0 0,.int .u32 0],.int .i64 (e:Int)]:=hu
    subst hu
    refine ⟨((none,0,0),(0:Int),(e:Int),()),rfl,?_⟩
    dsimp only [flat,unc,unc1,nA,cA]
    rw [add_box]
    refine stores_of (b3.keep e4 (by simp)) rfl (by simp [encI]) ?_
    intro h5 b5 k5 z5
    refine cond_t (by simp; omega) ?_
    refine ⟨Ch.trans (e03.trans e4) k5 (fun j hj hl=>by simp at hj; omega),?_⟩
    rw [hit]
    exact ⟨rfl,he⟩
   | ok y =>
    rw [hn] at hit hu
    obtain ⟨p5,l5,c5,rfl,sl,gd⟩:=hu
    refine ⟨((p5,l5,c5),(y.num:Int),(0:Int),()),rfl,?_⟩
    dsimp only [flat,unc,unc1,nA,cA]
    rw [add_box]
    refine stores_of (b3.keep e4 (by simp)) rfl (by simp [encI]) ?_
    intro h5 b5 k5 z5
    have b5:Box h5 h1.size 54 (encI p5 l5 c5 { itm 6 with e:=y }):=b5
    refine cond_f rfl ?_
    refine loads_box b5 ((6:Int),(⟨#[]⟩:ByteArray),(0:Int),(0:Int),(0:Int),(0:Int),(0:Int),(p5,l5,c5),(y.num:Int),(0:Int),()) rfl ?_
    dsimp only [flat,unc,unc1,nA,cA]
    have k35:Ch [h1.size] h3 h5:=Ch.trans (e4.mono (by simp)) k5 (fun j hj _=>hj)
    refine push (sp:=⟨p5,l5,c5⟩) (y:={ itm 6 with e:=y }) (.inr k35) k35 ((Sx.SL.mono sl (by omega)).keep' k5 (fun j hj hm=>by have:=(Sx.SL.blk sl hj).1; simp at hm; omega)) ?_
    intro p' c' h6 e6 A6
    refine again_mk (cs:=[(false,[.slice 0]),(false,[.int .i64]),(false,[.slice 0]),(false,[.int .i64])]) ((p2,l3,l4),n5,(p',l7+1,c'),((i+1:Nat):Int),()) (l-(i+1)) rfl (by omega) (by rw [hw]; rfl) ⟨i+1,_,rfl,by omega,rfl,e6,A6,by simp [hus],?_⟩
    rw [hit]
    cases itemsA 6 ((al.map In.ts).drop (i+1)) <;> simp
 ·have r:=of_decide_eq_false r
  have:i=l:=by omega
  subst this
  rw [List.drop_of_length_le (by rw [List.length_map]; omega)] at hit
  refine ⟨e1,?_⟩
  rw [hit]
  exact ⟨p6,l7,l8,us,rfl,A,by simp [itemsA]⟩
theorem counts_hc (s:ByteArray) (h:Hp):HCp Tryz.prog 59 [.string s] h (.tuple #[.int .i64 (if cntA s=-2 then 0 else cntA s),.bool (decide (cntA s≠-2))]):=by
 refine hcp_of mixed Tryz.func59 (by kernel_rfl) (t_item_counts_eq s) ?_
 unfold t_item_counts
 refine cond_mk (fun g=>?_) (fun g=>?_)
 ·have q0:s.data.toList=[112,111,111,108]:=(ByteArray.toList_eq s).symm.trans (eq_of_beq g)
  refine ⟨?_,rfl⟩
  have:cntA s=0:=by unfold cntA; simp [q0]
  rw [this]
  rfl
 ·have n0:¬ s.data.toList=[112,111,111,108]:=fun e=>ne_of_beq_false g ((ByteArray.toList_eq s).trans e)
  refine cond_mk (fun g=>?_) (fun g=>?_)
  ·have q1:s.data.toList=[97,108,105,103,110]:=(ByteArray.toList_eq s).symm.trans (eq_of_beq g)
   refine cond_t (by rw [ByteArray.toList_eq,q1]; rfl) ?_
   refine ⟨?_,rfl⟩
   have:cntA s=1:=by unfold cntA; simp [n0,q1]
   rw [this]
   rfl
  ·have n1:¬ s.data.toList=[97,108,105,103,110]:=fun e=>ne_of_beq_false g ((ByteArray.toList_eq s).trans e)
   refine cond_mk (fun g=>?_) (fun g=>?_)
   ·have q2:s.data.toList=[115,112,97,99,101]:=(ByteArray.toList_eq s).symm.trans (eq_of_beq g)
    refine cond_t (by rw [ByteArray.toList_eq,q2]; rfl) ?_
    refine ⟨?_,rfl⟩
    have:cntA s=1:=by unfold cntA; simp [n0,n1,q2]
    rw [this]
    rfl
   ·have n2:¬ s.data.toList=[115,112,97,99,101]:=fun e=>ne_of_beq_false g ((ByteArray.toList_eq s).trans e)
    refine cond_mk (fun g=>?_) (fun g=>?_)
    ·have q3:s.data.toList=[103,108,111,98,97,108]:=(ByteArray.toList_eq s).symm.trans (eq_of_beq g)
     refine cond_t (by rw [ByteArray.toList_eq,q3]; rfl) ?_
     refine ⟨?_,rfl⟩
     have:cntA s=1:=by unfold cntA; simp [n0,n1,n2,q3]
     rw [this]
     rfl
    ·have n3:¬ s.data.toList=[103,108,111,98,97,108]:=fun e=>ne_of_beq_false g ((ByteArray.toList_eq s).trans e)
     refine cond_mk (fun g=>?_) (fun g=>?_)
     ·have q4:s.data.toList=[115,101,99,116,105,111,110]:=(ByteArray.toList_eq s).symm.trans (eq_of_beq g)
      refine ⟨?_,rfl⟩
      have:cntA s=1:=by unfold cntA; simp [n0,n1,n2,n3,q4]
      rw [this]
      rfl
     ·have n4:¬ s.data.toList=[115,101,99,116,105,111,110]:=fun e=>ne_of_beq_false g ((ByteArray.toList_eq s).trans e)
      refine cond_mk (fun g=>?_) (fun g=>?_)
      ·have q5:s.data.toList=[101,113,117]:=(ByteArray.toList_eq s).symm.trans (eq_of_beq g)
       refine ⟨?_,rfl⟩
       have:cntA s=2:=by unfold cntA; simp [n0,n1,n2,n3,n4,q5]
       rw [this]
       rfl
      ·have n5:¬ s.data.toList=[101,113,117]:=fun e=>ne_of_beq_false g ((ByteArray.toList_eq s).trans e)
       refine cond_mk (fun g=>?_) (fun g=>?_)
       ·have q6:s.data.toList=[98,121,116,101]:=(ByteArray.toList_eq s).symm.trans (eq_of_beq g)
        refine cond_t (by rw [ByteArray.toList_eq,q6]; rfl) ?_
        refine ⟨?_,rfl⟩
        have:cntA s=-1:=by unfold cntA; simp [n0,n1,n2,n3,n4,n5,q6]
        rw [this]
        rfl
       ·have n6:¬ s.data.toList=[98,121,116,101]:=fun e=>ne_of_beq_false g ((ByteArray.toList_eq s).trans e)
        refine cond_mk (fun g=>?_) (fun g=>?_)
        ·have q7:s.data.toList=[119,111,114,100]:=(ByteArray.toList_eq s).symm.trans (eq_of_beq g)
         refine ⟨?_,rfl⟩
         have:cntA s=-1:=by unfold cntA; simp [n0,n1,n2,n3,n4,n5,n6,q7]
         rw [this]
         rfl
        ·have n7:¬ s.data.toList=[119,111,114,100]:=fun e=>ne_of_beq_false g ((ByteArray.toList_eq s).trans e)
         refine ⟨?_,rfl⟩
         have:cntA s=-2:=by unfold cntA; simp [n0,n1,n2,n3,n4,n5,n6,n7]
         rw [this]
         rfl
section
variable {L:Lp} {K:Value→Hp→Prop} {h:Hp}
def thgC (k:Int) (p:Option Addr) (l c:Nat) (nm:ByteArray) (p':Option Addr) (l' c':Nat) (n sec:Int):List Value:=[.int .i64 k,.slice p l c,.string nm,.slice p' l' c',.int .u32 n,.int .i64 sec]
theorem thg_st {g:Nat} {e:TypeId} {xs:List Value} {k:Int} {p:Option Addr} {l c:Nat} {nm:ByteArray} {p':Option Addr} {l' c':Nat} {n sec:Int} {cont:Int→Option Addr→Nat→Nat→ByteArray→Option Addr→Nat→Nat→Int→Int→T}
  (bx:Box h g e xs) (hx:xs.length=6) (hk:∀ h',Box h' g e (thgC k p l c nm p' l' c' n sec)→Ch [g] h h'→h'.size=h.size→cont k p l c nm p' l' c' n sec L K h') :
  (T.stores ⟨g,0,none⟩ [.int .i64 k,.slice p l c,.string nm,.slice p' l' c',.int .u32 n,.int .i64 sec] <| T.loads ⟨g,0,none⟩ [.int .i64,.slice 54,.string,.slice 50,.int .u32,.int .i64] cont) L K h:=by
 refine stores_of bx rfl (by rw [hx]; simp) ?_
 intro h' b k1 z
 rw [setL_eq _ _ _ (by rw [hx]; simp)] at b
 have hd:xs.drop 6=[]:=List.drop_of_length_le (by omega)
 have b:Box h' g e (thgC k p l c nm p' l' c' n sec):=by simpa [thgC,hx,hd] using b
 exact loads_box b (k,(p,l,c),nm,(p',l',c'),n,sec,()) rfl (hk h' b k1 z)
end
def whI (w:Nat):Int:=if w=2 then -1 else (w:Int)
def dirQ (h:Hp) (r:Except Nat (Thg × Nat)) (u:Value) (h':Hp):Prop:=Ext h h'∧match r with
 | .error e=>∃ k p l c nm p' l' c' n sec w,u=.tuple #[.agg (thgC k p l c nm p' l' c' n sec).toArray,.int .i64 w,.int .i64 (e:Int)]∧e≠0
 | .ok (t,w)=>∃ sl us se,u=.tuple #[thgV t.kind sl t.name se t.e.num t.sec,.int .i64 (whI w),.int .i64 0]∧ThgAt h' h.size t sl us se
theorem cells0 {h:Hp} {p:Option Addr} {l:Nat} {al:List In} (v:VwA h p l al) {k:Nat} (hk:k<al.length):∃ a,p=some a∧cellsAt h (a.add (k*1)) 0 [.slice al[k].p al[k].l al[k].c]:=v.cells k hk
theorem add0 (a:Addr):a.add (0*1)=a:=by simp [Addr.add]
theorem oneAt {h : Hp} {b : Nat} {p : Option Addr} {x : Itm} (s : SL h b 54 10 p 1 1 [encI none 0 0 x]) (he : x.e.terms = []) : ThgAt h b (oneT x) ⟨p, 1, 1⟩ [(⟨none, 0, 0⟩, x)] ⟨none, 0, 0⟩ :=
  ⟨⟨s, by intro u hu; have : u = (⟨none, 0, 0⟩, x) := by simpa using hu
          subst this
          rw [he]
          exact SL.nil _ _ _ _, by intro u hu; have : u = (⟨none, 0, 0⟩, x) := by simpa using hu
                                   subst this
                                   simp [blkOf], by simp⟩, rfl, SL.nil _ _ _ _, .inr rfl⟩
theorem namA_err {ts:List Tok} {e:Nat} (h:namA ts=.error e):e=20:=by
 unfold namA at h
 split at h
 ·split at h
  ·cases h
  ·injection h with h
   exact h.symm
 ·injection h with h
  exact h.symm
theorem directive_hc {h:Hp} {p:Option Addr} {l c:Nat} {al:List In} (v:VwA h p l al) (hal:al.length≤2^32) (s:ByteArray) :
  HC Tryz.prog 32 #[.string s,.slice p l c] h (dirQ h (dirA s (al.map In.ts))):=by
 refine hcr_of (args:=[.string s,.slice p l c]) mixed Tryz.func32 (by kernel_rfl) (t_item_directive_eq s p l c) ?_
 unfold t_item_directive
 have hl:=v.len
 refine newB ?_
 intro g1 b1 e1 z1
 refine call_p (counts_hc s g1) ((if cntA s=-2 then (0:Int) else cntA s:Int),decide (cntA s≠-2),()) rfl ?_
 dsimp only [flat,unc,unc1,nA,cA]
 have bad:∀ {gg:Hp} {k:Int} {nm:ByteArray} {sec w:Int} {e:Nat} {p1 p2:Option Addr} {l1 c1 l2 c2:Nat} {n1:Int} {L:Lp},Ext h gg→(∃ xs,Box gg h.size 28 xs∧xs.length=6)→dirA s (al.map In.ts)=.error e→e≠0 →
   (T.stores ⟨h.size,0,none⟩ [.int .i64 k,.slice p1 l1 c1,.string nm,.slice p2 l2 c2,.int .u32 n1,.int .i64 sec] <|
   T.loads ⟨h.size,0,none⟩ [.int .i64,.slice 54,.string,.slice 50,.int .u32,.int .i64] <| fun (n5:Int) (p6:Option Addr) (l7:Nat) (l8:Nat) (s9:ByteArray) (p10:Option Addr) (l11:Nat) (l12:Nat) (n13:Int) (n14:Int) =>
   T.ret (.tuple #[.agg #[.int .i64 n5,.slice p6 l7 l8,.string s9,.slice p10 l11 l12,.int .u32 n13,.int .i64 n14],.int .i64 w,.int .i64 (e:Int)])) L (dirQ h (dirA s (al.map In.ts))) gg:=by
  rintro gg k nm sec w e p1 p2 l1 c1 l2 c2 n1 L eg ⟨xs,bx,hx⟩ hA he
  refine thg_st bx hx ?_
  intro h' b' k' z'
  refine ⟨Ch.trans eg k' (fun i hi hl=>by simp at hi; omega),?_⟩
  rw [hA]
  exact ⟨k,p1,l1,c1,nm,p2,l2,c2,n1,sec,w,rfl,he⟩
 have good:∀ {gg:Hp} {t:Thg} {w:Nat} {wi:Int} {sl se:Sli} {us:List (Sli × Itm)} {L:Lp},Ext h gg→(∃ xs,Box gg h.size 28 xs∧xs.length=6)→dirA s (al.map In.ts)=.ok (t,w)→wi=whI w→ThgAt gg (h.size+1) t sl us se →
   (T.stores ⟨h.size,0,none⟩ [.int .i64 (t.kind:Int),.slice sl.p sl.l sl.c,.string t.name,.slice se.p se.l se.c,.int .u32 (t.e.num:Int),.int .i64 (t.sec:Int)] <|
   T.loads ⟨h.size,0,none⟩ [.int .i64,.slice 54,.string,.slice 50,.int .u32,.int .i64] <| fun (n5:Int) (p6:Option Addr) (l7:Nat) (l8:Nat) (s9:ByteArray) (p10:Option Addr) (l11:Nat) (l12:Nat) (n13:Int) (n14:Int) =>
   T.ret (.tuple #[.agg #[.int .i64 n5,.slice p6 l7 l8,.string s9,.slice p10 l11 l12,.int .u32 n13,.int .i64 n14],.int .i64 wi,.int .i64 (0:Int)])) L (dirQ h (dirA s (al.map In.ts))) gg:=by
  rintro gg t w wi sl se us L eg ⟨xs,bx,hx⟩ hA rfl A
  refine thg_st bx hx ?_
  intro h' b' k' z'
  refine ⟨Ch.trans eg k' (fun i hi hl=>by simp at hi; omega),?_⟩
  rw [hA]
  exact ⟨sl,us,se,rfl,(A.keep k' (fun i hi hl=>by simp at hi; omega)).mono (by omega)⟩
 have bz:∀ {gg:Hp},Ext g1 gg→∃ xs,Box gg h.size 28 xs∧xs.length=6:=fun e=>⟨_,b1.keep e (by simp),rfl⟩
 have hbad:cntA s=-2∨(0≤cntA s∧(al.length:Int)≠cntA s)→dirA s (al.map In.ts)=.error 20:=by
  intro hh
  unfold dirA
  simp only
  rw [if_pos (by rw [List.length_map]; exact hh)]
 refine join_of (cs:=[(false,[.int .i64]),(false,[.int .i64])]) (fun y h'=>h'=g1∧¬ (cntA s=-2∨(0≤cntA s∧((al.map In.ts).length:Int)≠cntA s))) ?_ ?_
 ·refine cond_mk (fun q=>?_) (fun q=>?_)
  ·have q:cntA s=-2:=by simpa using q
   exact bad (e:=20) e1 (bz (Ch.refl _ _)) (hbad (.inl q)) (by decide)
  have q:¬ cntA s=-2:=by simpa using q
  rw [if_neg q]
  refine cond_mk (fun r=>?_) (fun r=>?_)
  ·have r:=of_decide_eq_true r
   refine cond_mk (fun u=>?_) (fun u=>?_)
   ·have u:¬ (l:Int)=cntA s:=by simpa using u
    exact bad (e:=20) e1 (bz (Ch.refl _ _)) (hbad (.inr ⟨r,by omega⟩)) (by decide)
   ·have u:(l:Int)=cntA s:=by simpa using u
    exact meet_mk (cs:=[(false,[.int .i64]),(false,[.int .i64])]) ((0:Int),(0:Int),()) rfl rfl ⟨rfl,by rintro (x | x); exact q x; rw [List.length_map] at x; omega⟩
  ·have r:=of_decide_eq_false r
   exact meet_mk (cs:=[(false,[.int .i64]),(false,[.int .i64])]) ((0:Int),(0:Int),()) rfl rfl ⟨rfl,by rintro (x | x); exact q x; omega⟩
 rintro ⟨n5,n6,⟨⟩⟩ h9 ⟨e9,hcnt⟩
 have e9:=e9.symm
 subst e9
 dsimp only [flat,unc,unc1,nA,cA]
 clear hbad
 have hD:dirA s (al.map In.ts)=(if s.data.toList=[112,111,111,108] then .ok (oneT (itm 4),0)
 else if s.data.toList=[97,108,105,103,110] then match numA 1 256 (ag (al.map In.ts) 0) with
  | .error e=>.error e
  | .ok n=>if pow2 n then .ok (oneT { itm 3 with n:=n },2) else .error 21
 else if s.data.toList=[115,112,97,99,101] then match numA 0 1048576 (ag (al.map In.ts) 0) with
  | .error e=>.error e
  | .ok n=>.ok (oneT { itm 7 with n:=n },1)
 else if s.data.toList=[98,121,116,101] then match itsR 5 (al.map In.ts) with
  | .error e=>.error e
  | .ok l=>.ok ({ thg0 with kind:=2,items:=l },1)
 else if s.data.toList=[119,111,114,100] then match itsR 6 (al.map In.ts) with
  | .error e=>.error e
  | .ok l=>.ok ({ thg0 with kind:=2,items:=l },1)
 else if s.data.toList=[101,113,117] then match namA (ag (al.map In.ts) 0) with
  | .error e=>.error e
  | .ok s=>match parseX (ag (al.map In.ts) 1) with
   | .error e=>.error e
   | .ok x=>.ok ({ thg0 with kind:=3,name:=s,e:=x },2)
 else if s.data.toList=[103,108,111,98,97,108] then match namA (ag (al.map In.ts) 0) with
  | .error e=>.error e
  | .ok s=>.ok ({ thg0 with kind:=4,name:=s },2)
 else match ag (al.map In.ts) 0 with
  | [t]=>if t.kind=1∧t.text.data.toList=[116,101,120,116] then .ok ({ thg0 with kind:=5 },2) else if t.kind=1∧t.text.data.toList=[100,97,116,97] then .ok ({ thg0 with kind:=5,sec:=1 },2) else .error 20
  | _=>.error 20):=by
  unfold dirA itsR
  simp only
  rw [if_neg hcnt]
  by_cases hz:al.map In.ts=[]
  ·simp only [hz,if_true]
   rfl
  ·simp only [hz,if_false]
   rfl
 have v1:=v.keep e1
 have hh1:g1.size=h.size+1:=z1
 have arg:∀ i,(hi:i<al.length)→ag (al.map In.ts) i=al[i].ts:=by
  intro i hi
  unfold ag
  rw [List.getD_eq_getElem?_getD,List.getElem?_eq_getElem (by rw [List.length_map]; exact hi),Option.getD_some,List.getElem_map]
 have mem:∀ i,(hi:i<al.length)→al[i]∈al:=fun i hi=>List.getElem_mem hi
 refine cond_mk (fun q=>?_) (fun q=>?_)
 ·have q:s.data.toList=[112,111,111,108]:=(ByteArray.toList_eq s).symm.trans (eq_of_beq q)
  refine lit1_of (p:=none) (l:=0) (c:=0) (x:=itm 4) ?_
  intro h2 s2 e2 z2
  exact good (t:=oneT (itm 4)) (w:=0) (sl:=⟨some ⟨g1.size,0,none⟩,1,1⟩) (se:=⟨none,0,0⟩) (e1.trans e2) (bz e2) (hD.trans (if_pos q)) rfl (oneAt (Sx.SL.mono s2 (by omega)) rfl)
 have q1:¬ s.data.toList=[112,111,111,108]:=fun e=>ne_of_beq_false q ((ByteArray.toList_eq s).trans e)
 rw [if_neg q1] at hD
 refine cond_mk (fun q=>?_) (fun q=>?_)
 ·have q:s.data.toList=[97,108,105,103,110]:=(ByteArray.toList_eq s).symm.trans (eq_of_beq q)
  rw [if_pos q] at hD
  have hc:cntA s=1:=by unfold cntA; simp [q]
  rw [List.length_map] at hcnt
  have h1:0<al.length:=by omega
  obtain ⟨a0,ha0,hc0⟩:=cells0 v1 h1
  rw [add0] at hc0
  refine need_of ⟨by omega,by omega⟩ (osome_mk ha0 (loads_of ((al[0].p,al[0].l,al[0].c),()) hc0 ?_))
  dsimp only [flat,unc,unc1,nA,cA]
  refine call_of (numArg_hc (v1.inn _ (mem 0 h1)) (v1.blk _ (mem 0 h1)) (v.wf _ (mem 0 h1)) (v.many _ (mem 0 h1)) 1 256) ?_
  rintro _ h2 ⟨rfl,e2⟩
  rw [arg 0 h1] at hD
  cases hn:numA 1 256 al[0].ts with
  | error e =>
   have he:=numA_err (v.wf _ (mem 0 h1)) hn
   rw [hn] at hD
   refine ⟨((0:Int),(e:Int),()),rfl,?_⟩
   dsimp only [flat,unc,unc1,nA,cA]
   refine cond_f (by simp; omega) ?_
   refine lit1_of (p:=none) (l:=0) (c:=0) (x:={ itm 3 with n:=0 }) ?_
   intro h3 s3 e3 z3
   exact bad (e:=e) (e1.trans (e2.trans e3)) (bz (e2.trans e3)) hD (by omega)
  | ok n =>
   rw [hn] at hD
   refine ⟨(n,(0:Int),()),rfl,?_⟩
   dsimp only [flat,unc,unc1,nA,cA]
   refine cond_t rfl (call_bool (power_hc h2 n) ?_)
   refine cond_mk (fun r=>?_) (fun r=>?_)
   ·have r:pow2 n=false:=by simpa using r
    refine lit1_of (p:=none) (l:=0) (c:=0) (x:={ itm 3 with n:=n }) ?_
    intro h3 s3 e3 z3
    exact bad (e:=21) (e1.trans (e2.trans e3)) (bz (e2.trans e3)) (hD.trans (if_neg (by rw [r]; simp))) (by decide)
   ·have r:pow2 n=true:=by simpa using r
    refine lit1_of (p:=none) (l:=0) (c:=0) (x:={ itm 3 with n:=n }) ?_
    intro h3 s3 e3 z3
    have hz2:=e2.size
    exact good (t:=oneT { itm 3 with n:=n }) (w:=2) (sl:=⟨some ⟨h2.size,0,none⟩,1,1⟩) (se:=⟨none,0,0⟩) (e1.trans (e2.trans e3)) (bz (e2.trans e3)) (hD.trans (if_pos r)) rfl (oneAt (Sx.SL.mono s3 (by omega)) rfl)
 have q2:¬ s.data.toList=[97,108,105,103,110]:=fun e=>ne_of_beq_false q ((ByteArray.toList_eq s).trans e)
 rw [if_neg q2] at hD
 refine cond_mk (fun q=>?_) (fun q=>?_)
 ·have q:s.data.toList=[115,112,97,99,101]:=(ByteArray.toList_eq s).symm.trans (eq_of_beq q)
  rw [if_pos q] at hD
  have hc:cntA s=1:=by unfold cntA; simp [q]
  rw [List.length_map] at hcnt
  have h1:0<al.length:=by omega
  obtain ⟨a0,ha0,hc0⟩:=cells0 v1 h1
  rw [add0] at hc0
  refine need_of ⟨by omega,by omega⟩ (osome_mk ha0 (loads_of ((al[0].p,al[0].l,al[0].c),()) hc0 ?_))
  dsimp only [flat,unc,unc1,nA,cA]
  refine call_of (numArg_hc (v1.inn _ (mem 0 h1)) (v1.blk _ (mem 0 h1)) (v.wf _ (mem 0 h1)) (v.many _ (mem 0 h1)) 0 1048576) ?_
  rintro _ h2 ⟨rfl,e2⟩
  rw [arg 0 h1] at hD
  cases hn:numA 0 1048576 al[0].ts with
  | error e =>
   have he:=numA_err (v.wf _ (mem 0 h1)) hn
   rw [hn] at hD
   refine ⟨((0:Int),(e:Int),()),rfl,?_⟩
   dsimp only [flat,unc,unc1,nA,cA]
   refine lit1_of (p:=none) (l:=0) (c:=0) (x:={ itm 7 with n:=0 }) ?_
   intro h3 s3 e3 z3
   exact bad (e:=e) (e1.trans (e2.trans e3)) (bz (e2.trans e3)) hD (by omega)
  | ok n =>
   rw [hn] at hD
   refine ⟨(n,(0:Int),()),rfl,?_⟩
   dsimp only [flat,unc,unc1,nA,cA]
   refine lit1_of (p:=none) (l:=0) (c:=0) (x:={ itm 7 with n:=n }) ?_
   intro h3 s3 e3 z3
   have hz2:=e2.size
   exact good (t:=oneT { itm 7 with n:=n }) (w:=1) (sl:=⟨some ⟨h2.size,0,none⟩,1,1⟩) (se:=⟨none,0,0⟩) (e1.trans (e2.trans e3)) (bz (e2.trans e3)) hD rfl (oneAt (Sx.SL.mono s3 (by omega)) rfl)
 have q3:¬ s.data.toList=[115,112,97,99,101]:=fun e=>ne_of_beq_false q ((ByteArray.toList_eq s).trans e)
 rw [if_neg q3] at hD
 refine cond_mk (fun q=>?_) (fun q=>?_)
 ·have q:s.data.toList=[98,121,116,101]:=(ByteArray.toList_eq s).symm.trans (eq_of_beq q)
  rw [if_pos q] at hD
  refine call_of (items_hc (k:=5) (by omega) v1 hal) ?_
  rintro u h2 ⟨e2,hu⟩
  cases hn:itsR 5 (al.map In.ts) with
  | error e =>
   rw [hn] at hD hu
   obtain ⟨rfl,he⟩:=hu
   refine ⟨((none,0,0),(e:Int),()),rfl,?_⟩
   dsimp only [flat,unc,unc1,nA,cA]
   exact bad (e:=e) (e1.trans e2) (bz e2) hD (by omega)
  | ok li =>
   rw [hn] at hD hu
   obtain ⟨p5,l5,c5,us,rfl,A,hus⟩:=hu
   refine ⟨((p5,l5,c5),(0:Int),()),rfl,?_⟩
   dsimp only [flat,unc,unc1,nA,cA]
   exact good (t:={ thg0 with kind:=2,items:=li }) (w:=1) (sl:=⟨p5,l5,c5⟩) (se:=⟨none,0,0⟩) (us:=us) (e1.trans e2) (bz e2) hD rfl ⟨A.mono (by omega),hus,SL.nil _ _ _ _,.inr rfl⟩
 have q4:¬ s.data.toList=[98,121,116,101]:=fun e=>ne_of_beq_false q ((ByteArray.toList_eq s).trans e)
 rw [if_neg q4] at hD
 refine cond_mk (fun q=>?_) (fun q=>?_)
 ·have q:s.data.toList=[119,111,114,100]:=(ByteArray.toList_eq s).symm.trans (eq_of_beq q)
  rw [if_pos q] at hD
  refine call_of (items_hc (k:=6) (by omega) v1 hal) ?_
  rintro u h2 ⟨e2,hu⟩
  cases hn:itsR 6 (al.map In.ts) with
  | error e =>
   rw [hn] at hD hu
   obtain ⟨rfl,he⟩:=hu
   refine ⟨((none,0,0),(e:Int),()),rfl,?_⟩
   dsimp only [flat,unc,unc1,nA,cA]
   exact bad (e:=e) (e1.trans e2) (bz e2) hD (by omega)
  | ok li =>
   rw [hn] at hD hu
   obtain ⟨p5,l5,c5,us,rfl,A,hus⟩:=hu
   refine ⟨((p5,l5,c5),(0:Int),()),rfl,?_⟩
   dsimp only [flat,unc,unc1,nA,cA]
   exact good (t:={ thg0 with kind:=2,items:=li }) (w:=1) (sl:=⟨p5,l5,c5⟩) (se:=⟨none,0,0⟩) (us:=us) (e1.trans e2) (bz e2) hD rfl ⟨A.mono (by omega),hus,SL.nil _ _ _ _,.inr rfl⟩
 have q5:¬ s.data.toList=[119,111,114,100]:=fun e=>ne_of_beq_false q ((ByteArray.toList_eq s).trans e)
 rw [if_neg q5] at hD
 refine cond_mk (fun q=>?_) (fun q=>?_)
 ·have q:s.data.toList=[101,113,117]:=(ByteArray.toList_eq s).symm.trans (eq_of_beq q)
  rw [if_pos q] at hD
  have hc:cntA s=2:=by unfold cntA; simp [q]
  rw [List.length_map] at hcnt
  have h1:0<al.length:=by omega
  have h2:1<al.length:=by omega
  obtain ⟨a0,ha0,hc0⟩:=cells0 v1 h1
  rw [add0] at hc0
  refine need_of ⟨by omega,by omega⟩ (osome_mk ha0 (loads_of ((al[0].p,al[0].l,al[0].c),()) hc0 ?_))
  dsimp only [flat,unc,unc1,nA,cA]
  rw [arg 0 h1,arg 1 h2] at hD
  cases hn:namA al[0].ts with
  | error e =>
   have he:=namA_err hn
   rw [hn] at hD
   refine call_p (name_hc (v1.inn _ (mem 0 h1)) (v.text _ (mem 0 h1))) ((⟨#[]⟩:ByteArray),(e:Int),()) (by rw [hn]; rfl) ?_
   dsimp only [flat,unc,unc1,nA,cA]
   refine cond_t (by simp; omega) ?_
   exact bad (e:=e) e1 (bz (Ch.refl _ _)) hD (by omega)
  | ok nm =>
   rw [hn] at hD
   refine call_p (name_hc (v1.inn _ (mem 0 h1)) (v.text _ (mem 0 h1))) (nm,(0:Int),()) (by rw [hn]; rfl) ?_
   dsimp only [flat,unc,unc1,nA,cA]
   refine cond_f rfl ?_
   obtain ⟨a1,ha1,hc1⟩:=cells0 v1 h2
   rw [ha0] at ha1
   obtain rfl:=Option.some.inj ha1
   refine need_of ⟨by omega,by omega⟩ (osome_mk ha0 (loads_of ((al[1].p,al[1].l,al[1].c),()) hc1 ?_))
   dsimp only [flat,unc,unc1,nA,cA]
   refine call_of (parse46_hc (v1.inn _ (mem 1 h2)) (v1.blk _ (mem 1 h2)) (v.wf _ (mem 1 h2)) (v.many _ (mem 1 h2))) ?_
   rintro u h3 ⟨e3,hu⟩
   cases hx:parseX al[1].ts with
   | error e =>
    rw [hx] at hu hD
    have he:=parseX_err (v.wf _ (mem 1 h2)) hx
    have hu:u=.tuple #[.agg #[.slice none 0 0,.int .u32 0],.int .i64 (e:Int)]:=hu
    subst hu
    refine ⟨((none,0,0),(0:Int),(e:Int),()),rfl,?_⟩
    dsimp only [flat,unc,unc1,nA,cA]
    refine newB ?_
    intro h4 b4 e4 z4
    refine stores_of b4 rfl (by simp) ?_
    intro h5 b5 k5 z5
    have b5:Box h5 h3.size 26 [.slice none 0 0,.int .u32 (0:Int)]:=b5
    refine loads_box b5 ((none,0,0),(0:Int),()) rfl ?_
    dsimp only [flat,unc,unc1,nA,cA]
    have e35:Ext h3 h5:=Ch.trans e4 k5 (fun i hi hl=>by simp at hi; omega)
    exact bad (e:=e) (e1.trans (e3.trans e35)) (bz (e3.trans e35)) hD (by omega)
   | ok x =>
    rw [hx] at hu hD
    obtain ⟨p5,l5,c5,rfl,sl,gd⟩:=hu
    refine ⟨((p5,l5,c5),(x.num:Int),(0:Int),()),rfl,?_⟩
    dsimp only [flat,unc,unc1,nA,cA]
    refine newB ?_
    intro h4 b4 e4 z4
    refine stores_of b4 rfl (by simp) ?_
    intro h5 b5 k5 z5
    have b5:Box h5 h3.size 26 [.slice p5 l5 c5,.int .u32 (x.num:Int)]:=b5
    refine loads_box b5 ((p5,l5,c5),(x.num:Int),()) rfl ?_
    dsimp only [flat,unc,unc1,nA,cA]
    have e35:Ext h3 h5:=Ch.trans e4 k5 (fun i hi hl=>by simp at hi; omega)
    exact good (t:={ thg0 with kind:=3,name:=nm,e:=x }) (w:=2) (sl:=⟨none,0,0⟩) (se:=⟨p5,l5,c5⟩) (us:=[]) (e1.trans (e3.trans e35)) (bz (e3.trans e35)) hD rfl ⟨ItsAt.nil _ _,rfl,(Sx.SL.mono sl (by omega)).keep' e35 (by simp),.inl rfl⟩
 have q6:¬ s.data.toList=[101,113,117]:=fun e=>ne_of_beq_false q ((ByteArray.toList_eq s).trans e)
 rw [if_neg q6] at hD
 refine cond_mk (fun q=>?_) (fun q=>?_)
 ·have q:s.data.toList=[103,108,111,98,97,108]:=(ByteArray.toList_eq s).symm.trans (eq_of_beq q)
  rw [if_pos q] at hD
  have hc:cntA s=1:=by unfold cntA; simp [q]
  rw [List.length_map] at hcnt
  have h1:0<al.length:=by omega
  obtain ⟨a0,ha0,hc0⟩:=cells0 v1 h1
  rw [add0] at hc0
  refine need_of ⟨by omega,by omega⟩ (osome_mk ha0 (loads_of ((al[0].p,al[0].l,al[0].c),()) hc0 ?_))
  dsimp only [flat,unc,unc1,nA,cA]
  rw [arg 0 h1] at hD
  cases hn:namA al[0].ts with
  | error e =>
   have he:=namA_err hn
   rw [hn] at hD
   refine call_p (name_hc (v1.inn _ (mem 0 h1)) (v.text _ (mem 0 h1))) ((⟨#[]⟩:ByteArray),(e:Int),()) (by rw [hn]; rfl) ?_
   dsimp only [flat,unc,unc1,nA,cA]
   exact bad (e:=e) e1 (bz (Ch.refl _ _)) hD (by omega)
  | ok nm =>
   rw [hn] at hD
   refine call_p (name_hc (v1.inn _ (mem 0 h1)) (v.text _ (mem 0 h1))) (nm,(0:Int),()) (by rw [hn]; rfl) ?_
   dsimp only [flat,unc,unc1,nA,cA]
   exact good (t:={ thg0 with kind:=4,name:=nm }) (w:=2) (sl:=⟨none,0,0⟩) (se:=⟨none,0,0⟩) (us:=[]) e1 (bz (Ch.refl _ _)) hD rfl ⟨ItsAt.nil _ _,rfl,SL.nil _ _ _ _,.inl rfl⟩
 have q7:¬ s.data.toList=[103,108,111,98,97,108]:=fun e=>ne_of_beq_false q ((ByteArray.toList_eq s).trans e)
 rw [if_neg q7] at hD
 have hcn:cntA s=1:=by
  unfold cntA at hcnt ⊢
  simp only [if_neg q1,if_neg q6] at hcnt ⊢
  by_cases hs:s.data.toList=[115,101,99,116,105,111,110]
  ·simp [hs]
  ·exfalso
   apply hcnt
   left
   simp [q2,q3,q7,hs,q4,q5]
 rw [List.length_map] at hcnt
 have h1:0<al.length:=by omega
 obtain ⟨a0,ha0,hc0⟩:=cells0 v1 h1
 rw [add0] at hc0
 have va:=v1.inn _ (mem 0 h1)
 have hag:=arg 0 h1
 rw [hag] at hD
 refine need_of ⟨by omega,by omega⟩ (osome_mk ha0 (loads_of ((al[0].p,al[0].l,al[0].c),()) hc0 ?_))
 dsimp only [flat,unc,unc1,nA,cA]
 generalize al[0]=a at *
 have hla:=va.len
 refine cond_mk (fun r=>?_) (fun r=>?_)
 ·have r:a.l=1:=eqN_t r
  obtain ⟨t,ht⟩:=one_of (show a.ts.length=1 by omega)
  rw [ht] at va hD
  obtain ⟨aa,haa,c0⟩:=va.cells 0 (by simp)
  have c0:cellsAt g1 (aa.add (0*4)) 0 (enc t):=c0
  obtain ⟨u1,u2,_⟩:=tok_cells c0
  simp only at hD
  refine need_of ⟨by omega,by omega⟩ (osome_mk ha0 (loads_of ((a.p,a.l,a.c),()) hc0 ?_))
  dsimp only [flat,unc,unc1,nA,cA]
  refine need_of ⟨by omega,by omega⟩ (osome_mk haa (loads_of ((t.kind:Int),()) u1 ?_))
  dsimp only [flat,unc,unc1,nA,cA]
  refine cond_mk (fun g=>?_) (fun g=>?_)
  ·have g:t.kind=1:=eqN_t g
   refine need_of ⟨by omega,by omega⟩ (osome_mk ha0 (loads_of ((a.p,a.l,a.c),()) hc0 ?_))
   dsimp only [flat,unc,unc1,nA,cA]
   refine need_of ⟨by omega,by omega⟩ (osome_mk haa (loads_of (t.text,()) u2 ?_))
   dsimp only [flat,unc,unc1,nA,cA]
   refine cond_mk (fun w=>?_) (fun w=>?_)
   ·have w:t.text.data.toList=[116,101,120,116]:=(ByteArray.toList_eq _).symm.trans (eq_of_beq w)
    rw [if_pos ⟨g,w⟩] at hD
    exact good (t:={ thg0 with kind:=5 }) (w:=2) (sl:=⟨none,0,0⟩) (se:=⟨none,0,0⟩) (us:=[]) e1 (bz (Ch.refl _ _)) hD rfl ⟨ItsAt.nil _ _,rfl,SL.nil _ _ _ _,.inl rfl⟩
   have w:¬ t.text.data.toList=[116,101,120,116]:=fun e=>ne_of_beq_false w ((ByteArray.toList_eq _).trans e)
   rw [if_neg (fun hh=>w hh.2)] at hD
   refine cond_mk (fun x=>?_) (fun x=>?_)
   ·have x:t.text.data.toList=[100,97,116,97]:=(ByteArray.toList_eq _).symm.trans (eq_of_beq x)
    rw [if_pos ⟨g,x⟩] at hD
    exact good (t:={ thg0 with kind:=5,sec:=1 }) (w:=2) (sl:=⟨none,0,0⟩) (se:=⟨none,0,0⟩) (us:=[]) e1 (bz (Ch.refl _ _)) hD rfl ⟨ItsAt.nil _ _,rfl,SL.nil _ _ _ _,.inl rfl⟩
   have x:¬ t.text.data.toList=[100,97,116,97]:=fun e=>ne_of_beq_false x ((ByteArray.toList_eq _).trans e)
   rw [if_neg (fun hh=>x hh.2)] at hD
   exact bad (e:=20) e1 (bz (Ch.refl _ _)) hD (by decide)
  ·have g:¬ t.kind=1:=eqN_f g
   rw [if_neg (fun hh=>g hh.1),if_neg (fun hh=>g hh.1)] at hD
   exact bad (e:=20) e1 (bz (Ch.refl _ _)) hD (by decide)
 ·have r:¬ a.l=1:=eqN_f r
  have hD:dirA s (al.map In.ts)=.error 20:=by
   rw [hD]
   cases hts:a.ts with
   | nil=>rfl
   | cons t r =>
    cases r with
    | nil=>rw [hts] at hla; simp at hla; omega
    | cons _ _=>rfl
  exact bad (e:=20) e1 (bz (Ch.refl _ _)) hD (by decide)
def whyI {α:Type}:Except Nat α→Int
 | .error e=>(e:Int)
 | .ok _=>0
def valI:Except Nat Int→Int
 | .error _=>0
 | .ok n=>n
section
variable {L:Lp} {K:Value→Hp→Prop} {hh:Hp}
theorem regSt {a5 o:Nat} {e5:TypeId} {xs:List Value} {q:Option Addr} {m d:Nat} {ts:List Tok} (vA:Vw hh q m d ts) (z:Bool) (b:Box hh a5 e5 xs) (ho:o<xs.length) {cont:Int→T}
  (hk:∀ h',Ch [a5] hh h'→Box h' a5 e5 (xs.set o (.int .i64 (valI (regA z ts))))→cont (whyI (regA z ts)) L K h') :
  (T.call Tryz.prog 75 [.slice q m d,.bool z] true [(false,[.int .i64]),(false,[.int .i64])] <| fun (n10:Int) (n11:Int)=>T.stores ⟨a5,o,none⟩ [.int .i64 n10] <| cont n11) L K hh:=by
 refine call_p (reg2_hc vA z) (valI (regA z ts),whyI (regA z ts),()) (by cases regA z ts <;> rfl) ?_
 dsimp only [flat,unc,unc1,nA,cA]
 refine stores_of b rfl (by simp; omega) ?_
 intro h' b' k' z'
 exact hk h' k' b'
theorem conSt {q:Option Addr} {m d:Nat} {ts:List Tok} (vA:Vw hh q m d ts) (hp:∀ i,i∈blkOf q→i<hh.size) (w:Wf ts) (hts:ts.length≤2^40) (hz:∀ t,t∈ts→t.text.size≤9223372036854775807) {lo hi:Int} {cont:Int→Int→T}
  (hk:∀ h',Ext hh h'→cont (valI (numA lo hi ts)) (whyI (numA lo hi ts)) L K h') :
  (T.call Tryz.prog 76 [.slice q m d,.int .i64 lo,.int .i64 hi] true [(false,[.int .i64]),(false,[.int .i64])] cont) L K hh:=by
 refine call_of (con2_hc vA hp w hts hz lo hi) ?_
 rintro _ h' ⟨rfl,e⟩
 exact ⟨(valI (numA lo hi ts),whyI (numA lo hi ts),()),by cases numA lo hi ts <;> rfl,hk h' e⟩
theorem valSt {a5:Nat} {x:Itm} {p:Option Addr} {l c:Nat} {q:Option Addr} {m d:Nat} {ts:List Tok} (vA:Vw hh q m d ts) (hp:∀ i,i∈blkOf q→i<hh.size) (w:Wf ts) (hts:ts.length≤2^40) (hz:∀ t,t∈ts→t.text.size≤9223372036854775807)
  (b:Box hh a5 54 (encI p l c x)) (ha5:a5<hh.size) {cont:Int→T}
  (hk:∀ h',Ch [a5] hh h'→(match parseX ts with | .error _=>∃ xs,Box h' a5 54 xs∧xs.length=10 | .ok y=>∃ p' l' c',Box h' a5 54 (encI p' l' c' (putE x y))∧SL h' hh.size 50 2 p' l' c' (y.terms.map encT))→cont (whyI (parseX ts)) L K h') :
  (T.call Tryz.prog 77 [.slice q m d] true [(true,[.slice 50,.int .u32]),(false,[.int .i64])] <| fun (p24:Option Addr) (l25:Nat) (l26:Nat) (n27:Int) (n28:Int)=>T.stores ⟨a5,7,none⟩ [.slice p24 l25 l26,.int .u32 n27] <| cont n28) L K hh:=by
 refine call_of (parse47_hc vA hp w hts hz) ?_
 rintro u h1 ⟨e1,hu⟩
 cases hx:parseX ts with
 | error e =>
  rw [hx] at hu hk
  have hu:u=.tuple #[.agg #[.slice none 0 0,.int .u32 0],.int .i64 (e:Int)]:=hu
  subst hu
  refine ⟨((none,0,0),(0:Int),(e:Int),()),rfl,?_⟩
  dsimp only [flat,unc,unc1,nA,cA]
  refine stores_of (b.keep e1 (by simp)) rfl (by simp [encI]) ?_
  intro h2 b2 k2 z2
  exact hk h2 (Ch.trans (e1.mono (by simp)) k2 (fun i hi _=>hi)) ⟨_,b2,by rw [setL_length]; rfl⟩
 | ok y =>
  rw [hx] at hu hk
  obtain ⟨p5,l5,c5,rfl,sl,gd⟩:=hu
  refine ⟨((p5,l5,c5),(y.num:Int),(0:Int),()),rfl,?_⟩
  dsimp only [flat,unc,unc1,nA,cA]
  refine stores_of (b.keep e1 (by simp)) rfl (by simp [encI]) ?_
  intro h2 b2 k2 z2
  exact hk h2 (Ch.trans (e1.mono (by simp)) k2 (fun i hi _=>hi)) ⟨p5,l5,c5,b2,Sx.SL.keep' sl k2 (fun i hi hm=>by have:=(Sx.SL.blk sl hi).1; simp at hm; omega)⟩
end
def zA (s:Nat):Option Bool:=if s=2∨s=4∨s=6∨s=8∨s=10∨s=11∨s=13 then some false else if s=3∨s=5∨s=7 then some true else none
def fstA (op:Int) (s:Nat) (args:List (List Tok)):Except Nat Itm :=
 match zA s with
 | some z=>argA (code0 op) (.reg z false false) (ag args 0)
 | none=>.ok (code0 op)
def kA (s:Nat):Int:=if (zA s).isSome then 1 else 0
def rstR (s:Nat):List Rdr:=if (zA s).isSome then (rdrs s).drop 1 else rdrs s
def rstT (s:Nat) (args:List (List Tok)):List (List Tok):=if (zA s).isSome then args.drop 1 else args
theorem codeL_fst {op : Int} {s : Nat} (h1 : 1 ≤ s) (h2 : s ≤ 13) {args : List (List Tok)} (hl : (rdrs s).length = args.length) : codeL (code0 op) (rdrs s) args = match fstA op s args with
    | .error e => .error e
    | .ok x => codeL x (rstR s) (rstT s args) := by
  have : s = 1 ∨ s = 2 ∨ s = 3 ∨ s = 4 ∨ s = 5 ∨ s = 6 ∨ s = 7 ∨ s = 8 ∨ s = 9 ∨ s = 10 ∨ s = 11 ∨ s = 12 ∨ s = 13 := by omega
  rcases this with rfl | rfl | rfl | rfl | rfl | rfl | rfl | rfl | rfl | rfl | rfl | rfl | rfl
  all_goals first
    | rfl
    | (cases args with
       | nil => simp [rdrs] at hl
       | cons a args => rfl)
def outT (B:Nat) (e:Int):T :=
 T.stores ⟨B,0,none⟩ zI <|
 T.loads ⟨B,0,none⟩ [.int .i64,.string,.int .i64,.int .i64,.int .i64,.int .i32,.int .i64,.slice 50,.int .u32,.int .i64] <| fun (n12:Int) (s13:ByteArray) (n14:Int) (n15:Int) (n16:Int) (n17:Int) (n18:Int) (p19:Option Addr) (l20:Nat) (l21:Nat) (n22:Int) (n23:Int) =>
 T.ret (.tuple #[.agg #[.int .i64 n12,.string s13,.int .i64 n14,.int .i64 n15,.int .i64 n16,.int .i32 n17,.int .i64 n18,.slice p19 l20 l21,.int .u32 n22,.int .i64 n23],.int .i64 e])
theorem outT_of {L:Lp} {h gg:Hp} {e:Nat} {r:Except Nat Itm} (eg:Ext h gg) (bx:Box gg h.size 54 zI) (hA:r=.error e):outT h.size (e:Int) L (itmQ h r) gg:=by
 unfold outT
 refine stores_of bx rfl (by simp [zI]) ?_
 intro g' b' k' z'
 have b':Box g' h.size 54 zI:=b'
 refine loads_box b' ((0:Int),(⟨#[]⟩:ByteArray),(0:Int),(0:Int),(0:Int),(0:Int),(0:Int),(none,0,0),(0:Int),(0:Int),()) rfl ?_
 refine ⟨Ch.trans eg k' (fun i hi hl=>by simp at hi; omega),?_⟩
 rw [hA]
 rfl
theorem argA_reg {x:Itm} {z s t:Bool} {ts:List Tok} {n:Int} (h:regA z ts=.ok n):argA x (.reg z s t) ts=.ok (if t then putN x n else if s then putB x n else putA x n):=by unfold argA; simp only [h]
theorem argA_regE {x:Itm} {z s t:Bool} {ts:List Tok} {e:Nat} (h:regA z ts=.error e):argA x (.reg z s t) ts=.error e:=by unfold argA; simp only [h]
theorem argA_con {x:Itm} {lo hi:Int} {ts:List Tok} {n:Int} (h:numA lo hi ts=.ok n):argA x (.con lo hi) ts=.ok (putN x n):=by unfold argA; simp only [h]
theorem argA_conE {x:Itm} {lo hi:Int} {ts:List Tok} {e:Nat} (h:numA lo hi ts=.error e):argA x (.con lo hi) ts=.error e:=by unfold argA; simp only [h]
def J1 (g7:Hp) (a5:Nat) (r1:Except Nat Itm) (k:Int) (n6 n7:Int) (h':Hp):Prop:=Ch [a5] g7 h'∧match r1 with
 | .error e=>n6=(e:Int)∧(e=20∨e=21)
 | .ok x=>n6=0∧n7=k∧Box h' a5 54 (encI none 0 0 x)
def J2 (g7:Hp) (a5:Nat) (r:Except Nat Itm) (n9 n10:Int) (h':Hp):Prop:=Ch [a5] g7 h'∧match r with
 | .error e=>n9=(e:Int)∧(e=20∨e=21)
 | .ok x=>n9=0∧n10=x.inst.n∧(-2147483648≤x.inst.n∧x.inst.n<2147483648)∧∃ p l c,Box h' a5 54 (encI p l c (putN x 0))∧SL h' (a5+1) 50 2 p l c (x.e.terms.map encT)
set_option maxHeartbeats 1000000 in
theorem code2_hc {h:Hp} {op:Nat} (h1:1≤op) (h2:op≤43) {p:Option Addr} {l c:Nat} {al:List In} (v:VwA h p l al) (hal:al.length≤2^40) :
  HC Tryz.prog 51 #[.int .i64 (op:Int),.slice p l c] h (itmQ h (codeA (op:Int) (al.map In.ts))):=by
 refine hcr_of (args:=[.int .i64 (op:Int),.slice p l c]) mixed Tryz.func51 (by kernel_rfl) (t_spandrelref8_code_eq op p l c) ?_
 unfold t_spandrelref8_code
 refine newB ?_
 intro g1 b1 e1 z1
 refine call_of (shape_hc g1 (op:Int) ⟨by omega,by omega⟩) ?_
 rintro _ g2 ⟨rfl,e2⟩
 refine ⟨((shp (op:Int):Int),()),rfl,?_⟩
 dsimp only [flat,unc,unc1,nA,cA]
 have hs':∀ k:Fin 44,1≤k.1→1≤shp (k.1:Int)∧shp (k.1:Int)≤13:=by decide
 have hs:=hs' ⟨op,by omega⟩ h1
 simp only at hs
 clear hs'
 obtain ⟨r,hr⟩:∃ r,codeA (op:Int) (al.map In.ts)=r:=⟨_,rfl⟩
 rw [hr]
 unfold codeA at hr
 generalize shp (op:Int)=s at hs hr ⊢
 refine call_p (args2_hc s hs.1 hs.2 g2) (((rdrs s).length:Int),()) rfl ?_
 dsimp only [flat,unc,unc1,nA,cA]
 have b1:Box g2 h.size 54 zI:=b1.keep e2 (by simp)
 have e02:=e1.trans e2
 have hl:=v.len
 refine cond_mk (fun q=>?_) (fun q=>?_)
 ·have q:¬ l=(rdrs s).length:=by
   have:¬ (l:Int)=((rdrs s).length:Int):=by simpa using q
   omega
  exact outT_of e02 b1 (by rw [← hr,if_pos (by rw [List.length_map]; omega)])
 have q:(rdrs s).length=al.length:=by
  have:(l:Int)=((rdrs s).length:Int):=by simpa using q
  omega
 rw [if_neg (by rw [List.length_map]; omega),codeL_fst hs.1 hs.2 (by rw [List.length_map]; exact q)] at hr
 refine newB ?_
 intro g6 b6 e6 z6
 refine stores_of b6 rfl (by simp) ?_
 intro g7 b7 k7 z7
 have b7:Box g7 g2.size 54 (encI none 0 0 (code0 (op:Int))):=b7
 have e27:Ext g2 g7:=Ch.trans e6 k7 (fun i hi hl=>by simp at hi; omega)
 have e07:=e02.trans e27
 have b17:=b1.keep e27 (by simp)
 have hlt1:=b1.lt
 have hz7:g7.size=g2.size+1:=by rw [z7,z6]
 have v7:=v.keep e07
 have mem:∀ i,(hi:i<al.length)→al[i]∈al:=fun i hi=>List.getElem_mem hi
 have arg:∀ i,(hi:i<al.length)→ag (al.map In.ts) i=al[i].ts:=by
  intro i hi
  unfold ag
  rw [List.getD_eq_getElem?_getD,List.getElem?_eq_getElem (by rw [List.length_map]; exact hi),Option.getD_some,List.getElem_map]
 have eX:∀ {hh:Hp},Ch [g2.size] g7 hh→Ext h hh:=fun k=>Ch.trans e07 k (fun i hi hl=>by have:=e02.size; simp at hi; omega)
 obtain ⟨r1,hr1⟩:∃ r1,fstA (op:Int) s (al.map In.ts)=r1:=⟨_,rfl⟩
 rw [hr1] at hr
 refine join_of (cs:=[(false,[.int .i64]),(false,[.int .i64])]) (fun y h'=>J1 g7 g2.size r1 (kA s) y.1 y.2.1 h') ?_ ?_
 ·have arm:∀ {z:Bool} {L:Lp} {K:Value→Hp→Prop} (h0:0<al.length),fstA (op:Int) s (al.map In.ts)=argA (code0 (op:Int)) (.reg z false false) (ag (al.map In.ts) 0)→(∀ n h',J1 g7 g2.size r1 1 n 1 h'→(T.again 0 [.int .i64 n,.int .i64 (1:Int)]) L K h') →
    (T.need (((0:Int)≤(0:Int))∧((0:Int)<(l:Int))) <|
    T.osome p <| fun (a6:Addr) =>
    T.loads a6 [.slice 101] <| fun (p7:Option Addr) (l8:Nat) (l9:Nat) =>
    T.call Tryz.prog 75 [.slice p7 l8 l9,.bool z] true [(false,[.int .i64]),(false,[.int .i64])] <| fun (n10:Int) (n11:Int) =>
    T.stores (((⟨g2.size,0,none⟩:Addr).add 2).add 1) [.int .i64 n10] <|
    T.again 0 [.int .i64 n11,.int .i64 (1:Int)]) L K g7:=by
   intro z L K h0 hA hk
   obtain ⟨a0,ha0,hc0⟩:=cells0 v7 h0
   rw [add0] at hc0
   rw [arg 0 h0,hr1] at hA
   refine need_of ⟨by omega,by omega⟩ (osome_mk ha0 (loads_of ((al[0].p,al[0].l,al[0].c),()) hc0 ?_))
   dsimp only [flat,unc,unc1,nA,cA]
   rw [add_box,add_box]
   refine regSt (v7.inn _ (mem 0 h0)) z b7 (by simp [encI]) (cont:=fun n11=>T.again 0 [.int .i64 n11,.int .i64 (1:Int)]) ?_
   intro h' k' b'
   refine hk _ _ ⟨k',?_⟩
   cases hg:regA z al[0].ts with
   | error e =>
    rw [argA_regE hg] at hA
    rw [hA]
    exact ⟨rfl,.inl (regA_err hg)⟩
   | ok n =>
    rw [argA_reg hg] at hA
    rw [hg] at b'
    rw [hA]
    exact ⟨rfl,rfl,b'⟩
  have non:∀ {L:Lp} {K:Value→Hp→Prop},fstA (op:Int) s (al.map In.ts)=.ok (code0 (op:Int))→(∀ h',J1 g7 g2.size r1 0 0 0 h'→(T.again 0 [.int .i64 (0:Int),.int .i64 (0:Int)]) L K h')→(T.again 0 [.int .i64 (0:Int),.int .i64 (0:Int)]) L K g7:=by
   intro L K hA hk
   rw [hr1] at hA
   exact hk g7 ⟨Ch.refl _ _,by rw [hA]; exact ⟨rfl,rfl,b7⟩⟩
  have:s=1∨s=9∨s=12∨s=2∨s=3∨s=4∨s=5∨s=6∨s=7∨s=8∨s=10∨s=11∨s=13:=by omega
  rcases this with rfl | rfl | rfl | this
  iterate 3
   ·repeat (first | refine cond_t rfl ?_ | refine cond_f rfl ?_)
    exact non rfl (fun h' j=>meet_mk (cs:=[(false,[.int .i64]),(false,[.int .i64])]) ((0:Int),(0:Int),()) rfl rfl j)
  rcases this with rfl | rfl | rfl | rfl | rfl | rfl | rfl | rfl | rfl | rfl
  all_goals
   repeat (first | refine cond_t rfl ?_ | refine cond_f rfl ?_)
   exact arm (by rw [← q]; decide) rfl (fun n h' j=>meet_mk (cs:=[(false,[.int .i64]),(false,[.int .i64])]) (n,(1:Int),()) rfl rfl j)
 rintro ⟨n6,n7,⟨⟩⟩ g8 ⟨k8,hJ⟩
 simp only at hJ
 dsimp only [flat,unc,unc1,nA,cA]
 have e08:=eX k8
 have b18:=b17.keep k8 (by simp; omega)
 cases r1 with
 | error e =>
  obtain ⟨rfl,he⟩:=hJ
  refine cond_t (by simp; omega) ?_
  exact outT_of e08 b18 hr.symm
 | ok x =>
 obtain ⟨rfl,rfl,b8⟩:=hJ
 refine cond_f rfl ?_
 simp only at hr
 have v8:=v.keep e08
 have hz8:=k8.size
 have hx0:x.inst.n=0∧x.e=lin0:=by
  unfold fstA at hr1
  cases hz:zA s with
  | none=>rw [hz] at hr1; injection hr1 with hr1; subst hr1; exact ⟨rfl,rfl⟩
  | some z =>
   rw [hz] at hr1
   simp only at hr1
   cases hg:regA z (ag (al.map In.ts) 0) with
   | error e=>rw [argA_regE hg] at hr1; cases hr1
   | ok n=>rw [argA_reg hg] at hr1; injection hr1 with hr1; subst hr1; exact ⟨rfl,rfl⟩
 have hput:putN x 0=x:=by
  obtain ⟨k1,k2,⟨i1,i2,i3,i4,i5⟩,k4,k5⟩:=x
  have:i4=0:=hx0.1
  subst this
  rfl
 have cC:∀ {hh:Hp},Ch [g2.size] g8 hh→Ch [g2.size] g7 hh:=fun k=>Ch.trans k8 k (fun i hi _=>hi)
 have atA:∀ {i:Nat} (hi:i<al.length) {L:Lp} {K:Value→Hp→Prop} {cont:Option Addr→Nat→Nat→T} {hh:Hp},Ch [g2.size] g8 hh→cont al[i].p al[i].l al[i].c L K hh→∃ a,p=some a∧T.loads (a.add (i*1)) [.slice 101] cont L K hh:=by
  intro i hi L K cont hh k hc
  obtain ⟨a,ha,hca⟩:=cells0 (v.keep (eX (cC k))) hi
  exact ⟨a,ha,loads_of ((al[i].p,al[i].l,al[i].c),()) hca hc⟩
 refine join_of (cs:=[(false,[.int .i64]),(false,[.int .i64]),(false,[.int .i64])]) (fun y h'=>J2 g7 g2.size r y.2.1 y.2.2.1 h') ?_ ?_
 ·
  have non:r=.ok x→∀ {L:Lp} {K:Value→Hp→Prop},(∀ h',J2 g7 g2.size r 0 0 h'→(T.again 0 [.int .i64 (0:Int),.int .i64 (0:Int),.int .i64 (0:Int)]) L K h')→(T.again 0 [.int .i64 (0:Int),.int .i64 (0:Int),.int .i64 (0:Int)]) L K g8:=by
   intro hA L K hk
   refine hk g8 ⟨k8,?_⟩
   rw [hA]
   refine ⟨rfl,hx0.1.symm,by rw [hx0.1]; omega,none,0,0,by rw [hput]; exact b8,?_⟩
   rw [hx0.2]
   exact SL.nil _ _ _ _
  have two:∀ {z:Bool} (hi:1<al.length) {L:Lp} {K:Value→Hp→Prop} {cont:Int→T},(∀ h',Ch [g2.size] g8 h'→(∀ n,regA z al[1].ts=.ok n→Box h' g2.size 54 (encI none 0 0 (putB x n)))→cont (whyI (regA z al[1].ts)) L K h') →
    (T.need (((0:Int)≤(1:Int))∧((1:Int)<(l:Int))) <|
    T.osome p <| fun (a8:Addr) =>
    T.loads (a8.add 1) [.slice 101] <| fun (p9:Option Addr) (l10:Nat) (l11:Nat) =>
    T.call Tryz.prog 75 [.slice p9 l10 l11,.bool z] true [(false,[.int .i64]),(false,[.int .i64])] <| fun (n12:Int) (n13:Int) =>
    T.stores (((⟨g2.size,0,none⟩:Addr).add 2).add 2) [.int .i64 n12] <| cont n13) L K g8:=by
   intro z hi L K cont hk
   obtain ⟨a,ha,hca⟩:=cells0 v8 hi
   refine need_of ⟨by omega,by omega⟩ (osome_mk ha (loads_of ((al[1].p,al[1].l,al[1].c),()) hca ?_))
   dsimp only [flat,unc,unc1,nA,cA]
   rw [add_box,add_box]
   refine regSt (v8.inn _ (mem 1 hi)) z b8 (by simp [encI]) (cont:=cont) ?_
   intro h' k' b'
   refine hk h' k' (fun n hn=>?_)
   rw [hn] at b'
   exact b'
  have num:∀ {i:Nat} {lo hi:Int} (hi':i<al.length) {L:Lp} {K:Value→Hp→Prop},r=argA x (.con lo hi) al[i].ts→(∀ n9 n10 h',J2 g7 g2.size r n9 n10 h'→(T.again 0 [.int .i64 (0:Int),.int .i64 n9,.int .i64 n10]) L K h') →
    (T.call Tryz.prog 76 [.slice al[i].p al[i].l al[i].c,.int .i64 lo,.int .i64 hi] true [(false,[.int .i64]),(false,[.int .i64])] <| fun (n12:Int) (n13:Int)=>T.again 0 [.int .i64 (0:Int),.int .i64 n13,.int .i64 n12]) L K g8:=by
   intro i lo hi hi' L K hA hk
   have hm:=mem i hi'
   refine conSt (v8.inn _ hm) (v8.blk _ hm) (v.wf _ hm) (v.many _ hm) (v.text _ hm) (cont:=fun n12 n13=>T.again 0 [.int .i64 (0:Int),.int .i64 n13,.int .i64 n12]) ?_
   intro h' e'
   refine hk _ _ _ ⟨cC (e'.mono (by simp)),?_⟩
   cases hn:numA lo hi al[i].ts with
   | error e =>
    rw [hA,argA_conE hn]
    exact ⟨rfl,numA_err (v.wf _ hm) hn⟩
   | ok n =>
    rw [hA,argA_con hn]
    refine ⟨rfl,rfl,numA_32 (v.wf _ hm) hn,none,0,0,?_,?_⟩
    ·have:putN (putN x n) 0=x:=hput
     rw [this]
     exact b8.keep e' (by simp)
    ·show SL h' _ 50 2 none 0 0 (x.e.terms.map encT)
     rw [hx0.2]
     exact SL.nil _ _ _ _
  have valP:∀ {q:Option Addr} {m d:Nat} {ts:List Tok} {L:Lp} {K:Value→Hp→Prop},Vw g8 q m d ts→(∀ i,i∈blkOf q→i<g8.size)→Wf ts→ts.length≤2^40→(∀ t,t∈ts→t.text.size≤9223372036854775807)→r=(match parseX ts with | .error e=>.error e | .ok y=>.ok (putE x y))→(∀ n9 h',J2 g7 g2.size r n9 0 h'→(T.again 0 [.int .i64 (0:Int),.int .i64 n9,.int .i64 (0:Int)]) L K h') →
    (T.call Tryz.prog 77 [.slice q m d] true [(true,[.slice 50,.int .u32]),(false,[.int .i64])] <| fun (p24:Option Addr) (l25:Nat) (l26:Nat) (n27:Int) (n28:Int) =>
    T.stores ((⟨g2.size,0,none⟩:Addr).add 7) [.slice p24 l25 l26,.int .u32 n27] <|
    T.again 0 [.int .i64 (0:Int),.int .i64 n28,.int .i64 (0:Int)]) L K g8:=by
   intro q m d ts L K vq hq w hts hzs hA hk
   rw [add_box]
   refine valSt vq hq w hts hzs b8 b8.lt (cont:=fun n28=>T.again 0 [.int .i64 (0:Int),.int .i64 n28,.int .i64 (0:Int)]) ?_
   intro h' k' hm
   refine hk _ _ ⟨cC k',?_⟩
   cases hx:parseX ts with
   | error e =>
    rw [hx] at hA
    have hA:r=.error e:=hA
    subst hA
    exact ⟨rfl,parseX_err w hx⟩
   | ok y =>
    rw [hx] at hA hm
    have hA:r=.ok (putE x y):=hA
    subst hA
    obtain ⟨p',l',c',b',s'⟩:=hm
    refine ⟨rfl,hx0.1.symm,by show -2147483648≤x.inst.n∧x.inst.n<2147483648; rw [hx0.1]; omega,p',l',c',?_,Sx.SL.mono s' (by omega)⟩
    have:putN (putE x y) 0=putE (putN x 0) y:=rfl
    rw [this,hput]
    exact b'
  have:s=1∨s=2∨s=3∨s=4∨s=5∨s=6∨s=7∨s=8∨s=9∨s=10∨s=11∨s=12∨s=13:=by omega
  clear hs
  rcases this with rfl | rfl | rfl | rfl | rfl | rfl | rfl | rfl | rfl | rfl | rfl | rfl | rfl
  ·
   obtain rfl:=len0 q
   repeat (first | refine cond_t rfl ?_ | refine cond_f rfl ?_)
   exact non hr.symm (fun h' j=>meet_mk (cs:=[(false,[.int .i64]),(false,[.int .i64]),(false,[.int .i64])]) ((0:Int),(0:Int),(0:Int),()) rfl rfl j)
  ·
   obtain ⟨a,rfl⟩:=len1 q
   repeat (first | refine cond_t rfl ?_ | refine cond_f rfl ?_)
   exact non hr.symm (fun h' j=>meet_mk (cs:=[(false,[.int .i64]),(false,[.int .i64]),(false,[.int .i64])]) ((0:Int),(0:Int),(0:Int),()) rfl rfl j)
  ·
   obtain ⟨a,rfl⟩:=len1 q
   repeat (first | refine cond_t rfl ?_ | refine cond_f rfl ?_)
   exact non hr.symm (fun h' j=>meet_mk (cs:=[(false,[.int .i64]),(false,[.int .i64]),(false,[.int .i64])]) ((0:Int),(0:Int),(0:Int),()) rfl rfl j)
  ·
   obtain ⟨a,b,rfl⟩:=len2 q
   repeat (first | refine cond_t rfl ?_ | refine cond_f rfl ?_)
   refine two (z:=false) (by simp) (cont:=fun n13=>T.again 0 [.int .i64 (0:Int),.int .i64 n13,.int .i64 (0:Int)]) ?_
   intro h' k' hb
   have hr:(match argA x (.reg false true false) b.ts with | .error e=>.error e | .ok y=>codeL y [] [])=r:=hr
   refine meet_mk (cs:=[(false,[.int .i64]),(false,[.int .i64]),(false,[.int .i64])]) ((0:Int),whyI (regA false b.ts),(0:Int),()) rfl rfl ⟨cC k',?_⟩
   cases hg:regA false b.ts with
   | error e =>
    rw [argA_regE hg] at hr
    subst hr
    exact ⟨rfl,.inl (regA_err hg)⟩
   | ok n =>
    rw [argA_reg hg] at hr
    subst hr
    refine ⟨rfl,hx0.1.symm,by show -2147483648≤x.inst.n∧x.inst.n<2147483648; rw [hx0.1]; omega,none,0,0,?_,?_⟩
    ·have:putN (putB x n) 0=putB (putN x 0) n:=rfl
     show Box _ _ _ (encI none 0 0 (putN (putB x n) 0))
     rw [this,hput]
     exact hb n hg
    ·show SL h' _ 50 2 none 0 0 (x.e.terms.map encT)
     rw [hx0.2]
     exact SL.nil _ _ _ _
  ·
   obtain ⟨a,b,rfl⟩:=len2 q
   repeat (first | refine cond_t rfl ?_ | refine cond_f rfl ?_)
   refine two (z:=true) (by simp) (cont:=fun n13=>T.again 0 [.int .i64 (0:Int),.int .i64 n13,.int .i64 (0:Int)]) ?_
   intro h' k' hb
   have hr:(match argA x (.reg true true false) b.ts with | .error e=>.error e | .ok y=>codeL y [] [])=r:=hr
   refine meet_mk (cs:=[(false,[.int .i64]),(false,[.int .i64]),(false,[.int .i64])]) ((0:Int),whyI (regA true b.ts),(0:Int),()) rfl rfl ⟨cC k',?_⟩
   cases hg:regA true b.ts with
   | error e =>
    rw [argA_regE hg] at hr
    subst hr
    exact ⟨rfl,.inl (regA_err hg)⟩
   | ok n =>
    rw [argA_reg hg] at hr
    subst hr
    refine ⟨rfl,hx0.1.symm,by show -2147483648≤x.inst.n∧x.inst.n<2147483648; rw [hx0.1]; omega,none,0,0,?_,?_⟩
    ·have:putN (putB x n) 0=putB (putN x 0) n:=rfl
     show Box _ _ _ (encI none 0 0 (putN (putB x n) 0))
     rw [this,hput]
     exact hb n hg
    ·show SL h' _ 50 2 none 0 0 (x.e.terms.map encT)
     rw [hx0.2]
     exact SL.nil _ _ _ _
  ·
   obtain ⟨a,b,rfl⟩:=len2 q
   repeat (first | refine cond_t rfl ?_ | refine cond_f rfl ?_)
   refine two (z:=true) (by simp) (cont:=fun n13=>T.again 0 [.int .i64 (0:Int),.int .i64 n13,.int .i64 (0:Int)]) ?_
   intro h' k' hb
   have hr:(match argA x (.reg true true false) b.ts with | .error e=>.error e | .ok y=>codeL y [] [])=r:=hr
   refine meet_mk (cs:=[(false,[.int .i64]),(false,[.int .i64]),(false,[.int .i64])]) ((0:Int),whyI (regA true b.ts),(0:Int),()) rfl rfl ⟨cC k',?_⟩
   cases hg:regA true b.ts with
   | error e =>
    rw [argA_regE hg] at hr
    subst hr
    exact ⟨rfl,.inl (regA_err hg)⟩
   | ok n =>
    rw [argA_reg hg] at hr
    subst hr
    refine ⟨rfl,hx0.1.symm,by show -2147483648≤x.inst.n∧x.inst.n<2147483648; rw [hx0.1]; omega,none,0,0,?_,?_⟩
    ·have:putN (putB x n) 0=putB (putN x 0) n:=rfl
     show Box _ _ _ (encI none 0 0 (putN (putB x n) 0))
     rw [this,hput]
     exact hb n hg
    ·show SL h' _ 50 2 none 0 0 (x.e.terms.map encT)
     rw [hx0.2]
     exact SL.nil _ _ _ _
  ·
   obtain ⟨a,b,d,rfl⟩:=len3 q
   repeat (first | refine cond_t rfl ?_ | refine cond_f rfl ?_)
   refine two (z:=false) (by simp) ?_
   intro h' k' hb
   have hr:(match argA x (.reg false true false) b.ts with | .error e=>.error e | .ok y=>match argA y (.reg false false true) d.ts with | .error e=>.error e | .ok y=>codeL y [] [])=r:=hr
   cases hg:regA false b.ts with
   | error e =>
    rw [argA_regE hg] at hr
    subst hr
    have he:=regA_err hg
    have hw:whyI (regA false b.ts)=(e:Int):=by rw [hg]; rfl
    refine cond_f (b:=(whyI (regA false b.ts)==(0:Int))) (by rw [hw]; simp; omega) ?_
    exact meet_mk (cs:=[(false,[.int .i64]),(false,[.int .i64]),(false,[.int .i64])]) ((0:Int),whyI (regA false b.ts),(0:Int),()) rfl rfl ⟨cC k',hw,.inl he⟩
   | ok n =>
    rw [argA_reg hg] at hr
    have hb:=hb n hg
    refine cond_t (b:=(whyI (regA false b.ts)==(0:Int))) (by rw [hg]; rfl) ?_
    obtain ⟨a3,ha3,hc3⟩:=cells0 (v.keep (eX (cC k'))) (k:=2) (by simp)
    refine need_of ⟨by omega,by simp at hl; omega⟩ (osome_mk ha3 (loads_of ((d.p,d.l,d.c),()) hc3 ?_))
    dsimp only [flat,unc,unc1,nA,cA]
    have v9:=(v.keep (eX (cC k'))).inn d (by simp)
    refine call_p (reg2_hc v9 false) (valI (regA false d.ts),whyI (regA false d.ts),()) (by cases regA false d.ts <;> rfl) ?_
    dsimp only [flat,unc,unc1,nA,cA]
    refine meet_mk (cs:=[(false,[.int .i64]),(false,[.int .i64]),(false,[.int .i64])]) ((0:Int),whyI (regA false d.ts),valI (regA false d.ts),()) rfl rfl ⟨cC k',?_⟩
    have hr:(match argA (putB x n) (.reg false false true) d.ts with | .error e=>.error e | .ok y=>codeL y [] [])=r:=hr
    cases hf:regA false d.ts with
    | error e =>
     rw [argA_regE hf] at hr
     subst hr
     exact ⟨rfl,.inl (regA_err hf)⟩
    | ok k =>
     rw [argA_reg hf] at hr
     subst hr
     have hk:=regA_le hf
     simp only [Bool.false_eq_true,if_false] at hk
     refine ⟨rfl,rfl,by show -2147483648≤k∧k<2147483648; omega,none,0,0,?_,?_⟩
     ·have:putN (putN (putB x n) k) 0=putB (putN x 0) n:=rfl
      show Box _ _ _ (encI none 0 0 (putN (putN (putB x n) k) 0))
      rw [this,hput]
      exact hb
     ·show SL h' _ 50 2 none 0 0 (x.e.terms.map encT)
      rw [hx0.2]
      exact SL.nil _ _ _ _
  ·
   obtain ⟨a,b,rfl⟩:=len2 q
   repeat (first | refine cond_t rfl ?_ | refine cond_f rfl ?_)
   have hr:(match argA x (.con (-128) 127) b.ts with | .error e=>.error e | .ok y=>codeL y [] [])=r:=hr
   have hr:r=argA x (.con (-128) 127) b.ts:=by
    rw [← hr]
    all_goals (cases argA x (.con (-128) 127) b.ts <;> rfl)
   obtain ⟨a3,ha3,hc3⟩:=cells0 v8 (k:=1) (by simp)
   refine need_of ⟨by omega,by simp at hl; omega⟩ (osome_mk ha3 (loads_of ((b.p,b.l,b.c),()) hc3 ?_))
   dsimp only [flat,unc,unc1,nA,cA]
   exact num (i:=1) (by simp) hr (fun n9 n10 h' j=>meet_mk (cs:=[(false,[.int .i64]),(false,[.int .i64]),(false,[.int .i64])]) ((0:Int),n9,n10,()) rfl rfl j)
  ·
   obtain ⟨a,rfl⟩:=len1 q
   repeat (first | refine cond_t rfl ?_ | refine cond_f rfl ?_)
   have hr:(match argA x (.con 0 255) a.ts with | .error e=>.error e | .ok y=>codeL y [] [])=r:=hr
   have hr:r=argA x (.con 0 255) a.ts:=by
    rw [← hr]
    all_goals (cases argA x (.con 0 255) a.ts <;> rfl)
   obtain ⟨a3,ha3,hc3⟩:=cells0 v8 (k:=0) (by simp)
   rw [add0] at hc3
   refine need_of ⟨by omega,by simp at hl; omega⟩ (osome_mk ha3 (loads_of ((a.p,a.l,a.c),()) hc3 ?_))
   dsimp only [flat,unc,unc1,nA,cA]
   exact num (i:=0) (by simp) hr (fun n9 n10 h' j=>meet_mk (cs:=[(false,[.int .i64]),(false,[.int .i64]),(false,[.int .i64])]) ((0:Int),n9,n10,()) rfl rfl j)
  ·
   obtain ⟨a,b,rfl⟩:=len2 q
   repeat (first | refine cond_t rfl ?_ | refine cond_f rfl ?_)
   have hr:(match argA x (.val false) b.ts with | .error e=>.error e | .ok y=>codeL y [] [])=r:=hr
   have hr:r=(match parseX b.ts with | .error e=>.error e | .ok y=>.ok (putE x y)):=by
    rw [← hr]
    unfold argA valA
    all_goals (cases parseX b.ts <;> rfl)
   have hm:b∈_:=mem 1 (by simp)
   obtain ⟨a3,ha3,hc3⟩:=cells0 v8 (k:=1) (by simp)
   refine need_of ⟨by decide,by simp at hl; simp [kA,zA]; omega⟩ (osome_mk ha3 (loads_of ((b.p,b.l,b.c),()) hc3 ?_))
   dsimp only [flat,unc,unc1,nA,cA]
   exact valP (v8.inn _ hm) (v8.blk _ hm) (v.wf _ hm) (v.many _ hm) (v.text _ hm) hr (fun n9 h' j=>meet_mk (cs:=[(false,[.int .i64]),(false,[.int .i64]),(false,[.int .i64])]) ((0:Int),n9,(0:Int),()) rfl rfl j)
  ·
   obtain ⟨a,b,rfl⟩:=len2 q
   repeat (first | refine cond_t rfl ?_ | refine cond_f rfl ?_)
   have hr2:(match argA x (.val true) b.ts with | .error e=>.error e | .ok y=>codeL y [] [])=r:=hr
   have hm:b∈_:=mem 1 (by simp)
   obtain ⟨a3,ha3,hc3⟩:=cells0 v8 (k:=1) (by simp)
   refine need_of ⟨by omega,by simp at hl; omega⟩ (osome_mk ha3 (loads_of ((b.p,b.l,b.c),()) hc3 ?_))
   dsimp only [flat,unc,unc1,nA,cA]
   have vb:=v8.inn b hm
   have hlb:=vb.len
   obtain ⟨bp,bl,bc,bts⟩:=b
   simp only at vb hlb hr2
   cases bts with
   | nil=>exact absurd rfl (v.ne _ hm)
   | cons t ts =>
    obtain ⟨aa,haa,c0⟩:=vb.cells 0 (by simp)
    subst haa
    have c0:cellsAt g8 (aa.add (0*4)) 0 (enc t):=c0
    obtain ⟨u1,u2,_⟩:=tok_cells c0
    simp only [List.length_cons] at hlb
    have wt:=v.wf _ hm
    have refu:¬ isS t 61=true→∀ {L:Lp},outT h.size 20 L (itmQ h r) g8:=by
     intro hn L
     refine outT_of (e:=20) e08 b18 ?_
     rw [← hr2]
     unfold argA valA
     simp [hn]
    have hbl:(0:Int)<(bl:Int):=by omega
    refine need_of ⟨by omega,hbl⟩ (osome_mk rfl (loads_of ((t.kind:Int),()) u1 ?_))
    dsimp only [flat,unc,unc1,nA,cA]
    refine cond_mk (fun g=>?_) (fun g=>?_)
    ·have g:¬ t.kind=3:=by
      have:¬ (t.kind:Int)=3:=by simpa using g
      omega
     exact refu (fun hh=>by unfold isS at hh; simp at hh; exact g hh.1)
    have g:t.kind=3:=by
     have:(t.kind:Int)=3:=by simpa using g
     omega
    refine need_of ⟨by omega,by simp at hl; omega⟩ (osome_mk ha3 (loads_of ((some aa,bl,bc),()) hc3 ?_))
    dsimp only [flat,unc,unc1,nA,cA]
    refine need_of ⟨by omega,hbl⟩ (osome_mk rfl (loads_of (t.text,()) u2 ?_))
    dsimp only [flat,unc,unc1,nA,cA]
    have hs2:(ByteArray.toList t.text==[({ toBitVec:=61#8 }:UInt8)])=isS t 61:=by
     unfold isS
     rw [g,ByteArray.toList_eq]
     rfl
    rw [hs2]
    refine cond_mk (fun g4=>?_) (fun g4=>?_)
    ·have g4:isS t 61=false:=by simpa using g4
     exact refu (by rw [g4]; simp)
    have g4:isS t 61=true:=by simpa using g4
    refine need_of ⟨by omega,by simp at hl; omega⟩ (osome_mk ha3 (loads_of ((some aa,bl,bc),()) hc3 ?_))
    dsimp only [flat,unc,unc1,nA,cA]
    have hcap:=vb.cap
    refine need_of ⟨by omega,by omega,by omega⟩ ?_
    have vd:=vb.drop (k:=1) (by omega)
    have hr:r=(match parseX ts with | .error e=>.error e | .ok y=>.ok (putE x y)):=by
     rw [← hr2]
     unfold argA valA
     simp only [g4,if_true]
     all_goals (cases parseX ts <;> rfl)
    refine valP (q:=if bc=1 then some aa else Option.map (fun a=>Addr.add a 4) (some aa)) (m:=bl-1) (d:=bc-1) (ts:=ts) vd ?_ wt.tail (by have:=v.many _ hm; simp at this; omega) (fun u hu=>v.text _ hm u (by simp [hu])) hr (fun n9 h' j=>meet_mk (cs:=[(false,[.int .i64]),(false,[.int .i64]),(false,[.int .i64])]) ((0:Int),n9,(0:Int),()) rfl rfl j)
    intro i hi
    rw [show blkOf (if bc=1 then some aa else Option.map (fun a=>Addr.add a 4) (some aa))=blkOf (some aa) from blkOf_if _ _ _ _] at hi
    exact v8.blk _ hm i hi
  ·
   obtain ⟨a,rfl⟩:=len1 q
   repeat (first | refine cond_t rfl ?_ | refine cond_f rfl ?_)
   have hr:(match argA x (.val false) a.ts with | .error e=>.error e | .ok y=>codeL y [] [])=r:=hr
   have hr:r=(match parseX a.ts with | .error e=>.error e | .ok y=>.ok (putE x y)):=by
    rw [← hr]
    unfold argA valA
    all_goals (cases parseX a.ts <;> rfl)
   have hm:a∈_:=mem 0 (by simp)
   obtain ⟨a3,ha3,hc3⟩:=cells0 v8 (k:=0) (by simp)
   refine need_of ⟨by decide,by simp at hl; simp [kA,zA]; omega⟩ (osome_mk ha3 (loads_of ((a.p,a.l,a.c),()) hc3 ?_))
   dsimp only [flat,unc,unc1,nA,cA]
   exact valP (v8.inn _ hm) (v8.blk _ hm) (v.wf _ hm) (v.many _ hm) (v.text _ hm) hr (fun n9 h' j=>meet_mk (cs:=[(false,[.int .i64]),(false,[.int .i64]),(false,[.int .i64])]) ((0:Int),n9,(0:Int),()) rfl rfl j)
  ·
   obtain ⟨a,b,rfl⟩:=len2 q
   repeat (first | refine cond_t rfl ?_ | refine cond_f rfl ?_)
   have hr:(match argA x (.val false) b.ts with | .error e=>.error e | .ok y=>codeL y [] [])=r:=hr
   have hr:r=(match parseX b.ts with | .error e=>.error e | .ok y=>.ok (putE x y)):=by
    rw [← hr]
    unfold argA valA
    all_goals (cases parseX b.ts <;> rfl)
   have hm:b∈_:=mem 1 (by simp)
   obtain ⟨a3,ha3,hc3⟩:=cells0 v8 (k:=1) (by simp)
   refine need_of ⟨by decide,by simp at hl; simp [kA,zA]; omega⟩ (osome_mk ha3 (loads_of ((b.p,b.l,b.c),()) hc3 ?_))
   dsimp only [flat,unc,unc1,nA,cA]
   exact valP (v8.inn _ hm) (v8.blk _ hm) (v.wf _ hm) (v.many _ hm) (v.text _ hm) hr (fun n9 h' j=>meet_mk (cs:=[(false,[.int .i64]),(false,[.int .i64]),(false,[.int .i64])]) ((0:Int),n9,(0:Int),()) rfl rfl j)
 rintro ⟨n8,n9,n10,⟨⟩⟩ g9 ⟨k9,hJ⟩
 simp only at hJ
 dsimp only [flat,unc,unc1,nA,cA]
 have e09:=eX k9
 have b19:=b17.keep k9 (by simp; omega)
 cases r with
 | error e =>
  obtain ⟨rfl,he⟩:=hJ
  refine cond_t (by simp; omega) ?_
  exact outT_of e09 b19 rfl
 | ok y =>
  obtain ⟨rfl,rfl,hw,p',l',c',b9,s9⟩:=hJ
  refine cond_f rfl ?_
  rw [add_box,add_box,wrap_i32 hw.1 hw.2]
  refine stores_of b9 rfl (by simp [encI]) ?_
  intro g10 b10 k10 z10
  have b10:Box g10 g2.size 54 (encI p' l' c' y):=b10
  refine loads_box b10 (y.kind,y.name,y.inst.op,y.inst.a,y.inst.b,y.inst.n,y.inst.form,(p',l',c'),(y.e.num:Int),y.n,()) rfl ?_
  dsimp only [flat,unc,unc1,nA,cA]
  have k710:Ch [g2.size] g7 g10:=Ch.trans k9 k10 (fun i hi _=>hi)
  refine stores_of (b17.keep k710 (by simp; omega)) rfl (by simp [zI]) ?_
  intro g11 b11 k11 z11
  have b11:Box g11 h.size 54 (encI p' l' c' y):=b11
  refine loads_box b11 (y.kind,y.name,y.inst.op,y.inst.a,y.inst.b,y.inst.n,y.inst.form,(p',l',c'),(y.e.num:Int),y.n,()) rfl ?_
  have h02:=e02.size
  refine ⟨Ch.trans (eX k710) k11 (fun i hi hl=>by simp at hi; omega),p',l',c',rfl,Sx.SL.keep' (Sx.SL.keep' (Sx.SL.mono s9 (by omega)) k10 (fun i hi hm=>by have:=(Sx.SL.blk s9 hi).1; simp at hm; omega)) k11 (fun i hi hm=>by have:=(Sx.SL.blk s9 hi).1; simp at hm; omega)⟩
end Go.Sx.Ob
