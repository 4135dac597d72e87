/- Contracts over heaps, and plain laws, for the functions that the laws of chapter 9 call, part 6: An instruction of its name and arguments, over heaps. Rows of items, and what a  Condition: as each statement says. -/
import Derived.Test.YtfkjiiapldkoeaaGreatDoorP5
import Derived.Test.YtfkjiiapldkoeaaGreatDoorAtD
import Derived.Test.YtfkjiiapldkoeaaGreatDoorAtH
import Derived.Test.YtfkjiiapldkoeaaGreatDoorAtI
import Derived.Test.YtfkjiiapldkoeaaGreatDoorAtJ
set_option linter.unusedVariables false
set_option linter.unusedSimpArgs false
set_option maxRecDepth 100000
namespace Go.Sx.Ob
open Go.Proofs
theorem Fy {x:bD} {r:DQ} {ts:List Tok} {e:Nat} (w:Wf ts) (h:dL x r ts=.error e):e=20∨e=21:=by
 unfold dL at h;cases r with
 | uS z s t =>
  simp only at h;cases hr:nV z ts with
  | error e' =>
   rw [hr] at h;injection h with h
   subst h;exact .inl (AU hr)
  | ok n=>rw [hr] at h; cases h
 | H2 lo hi =>
  simp only at h;cases hr:iJ lo hi ts with
  | error e' =>
   rw [hr] at h;injection h with h
   subst h;exact gZ w hr
  | ok n=>rw [hr] at h; cases h
 | val p =>
  simp only at h;cases hr:qY p ts with
  | error e' =>
   rw [hr] at h;injection h with h
   subst h;unfold qY at hr;split at hr
   ·exact dS w hr
   ·split at hr
    ·injection hr with hr
     exact .inl hr.symm
    ·split at hr
     ·exact dS w.tail hr
     ·injection hr with hr
      exact .inl hr.symm
  | ok n=>rw [hr] at h; cases h
def Lq (h:Hp) (r:Except Nat bD) (u:Value) (h':Hp):Prop:=Ext h h'∧match r with
 | .error e=>u=.tuple #[nv none 0 0 (cY 0),.int .i64 (e:Int)]
 | .ok y=>∃ p l c,u=.tuple #[nv p l c y,.int .i64 0]∧SL h' h.size 109 2 p l c (y.e.au.map cV)
def zI:List Value:=[.int .i64 (0:Int),.string ⟨#[]⟩,.int .i64 (0:Int),.int .i64 (0:Int),.int .i64 (0:Int),.int .i32 (0:Int),.int .i64 (0:Int),.slice none 0 0,.int .u32 (0:Int),.int .i64 (0:Int)]
theorem Iv {h:Hp} (t:y7 h) {op:Nat} (h1:1≤op) (h2:op≤43) {p:Option Addr} {l c:Nat} {al:List In} (v:DU h p l al) (hal:al.length≤2^40) :
  HC Tryz.prog 99 #[.int .i64 (op:Int),.slice p l c] h (Lq h (ez (op:Int) (al.map In.ts))):=by
 refine aK (args:=[.int .i64 (op:Int),.slice p l c]) mixed Tryz.func99 (by kernel_rfl) (wB op p l c) ?_;unfold tY;refine aX ?_;intro g1 b1 e1 z1;refine aB (DV (t.ai e1 (by simp)) (op:Int) (by omega) (by omega)) ?_;rintro _ g2 ⟨s,b,rfl,e2⟩;refine ⟨(s,b,(bG (op:Int):Int),decide (bG (op:Int)≠0),()),rfl,?_⟩;dsimp only [flat,az,ah,nA,cA];refine aX ?_;intro g3 b3 e3 z3;refine an b3 rfl (by simp) ?_;intro g4 b4 k4 z4;have b4:aO g4 g2.size 158 [.string s,.int .u8 b,.int .i64 (bG (op:Int):Int)]:=b4;have e24:Ext g2 g4:=Ch.trans e3 k4 (fun i hi hl=>by simp at hi; omega);have e04:Ext h g4:=(e1.trans e2).trans e24;rw [ao];refine ad b4 ((bG (op:Int):Int),()) rfl ?_;dsimp only [flat,az,ah,nA,cA];refine aB (CG (bG (op:Int)) g4) ?_;rintro _ g5 ⟨pr,cr,rfl,sr,e5⟩;refine ⟨((pr,(cZ (bG (op:Int))).length,cr),()),rfl,?_⟩;dsimp only [flat,az,ah,nA,cA];have e05:=e04.trans e5;have b1:aO g5 h.size 96 zI:=((b1.ai e2 (by simp)).ai e24 (by simp)).ai e5 (by simp);have hl:=v.len
 have out:∀ {L:Lp} {gg:Hp} {e:Nat},Ext h gg→(∃ xs,aO gg h.size 96 xs∧xs.length=10)→ez (op:Int) (al.map In.ts)=.error e →
   (T.ap ⟨h.size,0,none⟩ zI <|
   T.ae ⟨h.size,0,none⟩ [.int .i64,.string,.int .i64,.int .i64,.int .i64,.int .i32,.int .i64,.slice 109,.int .u32,.int .i64] <| fun (n12:Int) (s13:ByteArray) (n14:Int) (n15:Int) (n16:Int) (n17:Int) (n18:Int) (p19:Option Addr) (l20:Nat) (l21:Nat) (n22:Int) (n23:Int) =>
   T.ret (.tuple #[.agg #[.int .i64 n12,.string s13,.int .i64 n14,.int .i64 n15,.int .i64 n16,.int .i32 n17,.int .i64 n18,.slice p19 l20 l21,.int .u32 n22,.int .i64 n23],.int .i64 (e:Int)])) L (Lq h (ez (op:Int) (al.map In.ts))) gg:=by
  rintro L gg e eg ⟨xs,bx,hx⟩ hA;refine an bx rfl (by rw [hx]; simp [zI]) ?_;intro g' b' k' z';rw [pd _ _ _ (by rw [hx]; simp [zI])] at b';have hd:xs.drop 10=[]:=List.drop_of_length_le (by omega);have b':aO g' h.size 96 zI:=by simpa [zI,hx,hd] using b'
  refine ad b' ((0:Int),(⟨#[]⟩:ByteArray),(0:Int),(0:Int),(0:Int),(0:Int),(0:Int),(none,0,0),(0:Int),(0:Int),()) rfl ?_;refine ⟨Ch.trans eg k' (fun i hi hl=>by simp at hi; omega),?_⟩;rw [hA];rfl
 refine af (fun q=>?_) (fun q=>?_)
 ·have q:¬ (cZ (bG (op:Int))).length=l:=by
   have:¬ ((cZ (bG (op:Int))).length:Int)=l:=by simpa using q
   omega
  exact out e05 ⟨_,b1,rfl⟩ (by unfold ez; rw [if_pos (by rw [List.length_map]; omega)])
 have q:(cZ (bG (op:Int))).length=l:=by
  have:((cZ (bG (op:Int))).length:Int)=l:=by simpa using q
  omega
 have hcode:ez (op:Int) (al.map In.ts)=dU (dW (op:Int)) (cZ (bG (op:Int))) (al.map In.ts):=by
  unfold ez;rw [if_neg (by rw [List.length_map]; omega)]
 refine aX ?_;intro g6 b6 e6 z6;refine an b6 rfl (by simp) ?_;intro g7 b7 k7 z7;have b7:aO g7 g5.size 96 (encI none 0 0 (dW (op:Int))):=b7;have e57:Ext g5 g7:=Ch.trans e6 k7 (fun i hi hl=>by simp at hi; omega);have e07:=e05.trans e57;have b17:=b1.ai e57 (by simp);have sr7:=sr.bf e57 (by simp);have hz5:=e05.size;have hlt1:=b1.lt
 refine bh (cs:=[(false,[.int .i64]),(false,[.int .i64])]) (fun x n h'=>∃ (k:Nat) (y:bD),x.2.1=(k:Int)∧k≤l∧n=l-k∧Ext g7 h'=Ext g7 h'∧Ch [g5.size] g7 h'∧dU (dW (op:Int)) (cZ (bG (op:Int))) (al.map In.ts)=dU y ((cZ (bG (op:Int))).drop k) ((al.map In.ts).drop k) ∧
   ∃ p' l' c',aO h' g5.size 96 (encI p' l' c' y)∧SL h' (g5.size+1) 109 2 p' l' c' (y.e.au.map cV)) ((0:Int),(0:Int),()) l rfl ⟨0,_,rfl,by omega,by omega,rfl,Ch.refl _ _,rfl,none,0,0,b7,SL.nil _ _ _ _⟩ ?_
 rintro ⟨n13,n14,⟨⟩⟩ n g8 ⟨k,y,hk,hkl,rfl,_,k8,hcl,p',l',c',b8,s8⟩;simp only at hk;subst hk;dsimp only [flat,az,ah,nA,cA];have e58:Ext g5 g8:=Ch.trans e57 k8 (fun i hi hl=>by simp at hi; omega);have e08:=e05.trans e58;have hz7:g7.size=g5.size+1:=by rw [z7,z6]
 refine af (fun r=>?_) (fun r=>?_)
 ·have r:=of_decide_eq_true r;have hkr:k<(cZ (bG (op:Int))).length:=by omega
  have hka:k<al.length:=by omega
  obtain ⟨ar,har,hcr⟩:=(sr.bf e58 (by simp)).cells (i:=k) (by rw [List.length_map]; exact hkr);rw [List.getElem_map] at hcr;obtain ⟨aa,haa,hca⟩:=(v.ai e08).cells k hka;refine ay ⟨by omega,by omega⟩ (aj har ?_);rw [show Int.toNat (k:Int)=k by omega];refine aE (kT ((cZ (bG (op:Int)))[k]),()) hcr ?_;dsimp only [flat,az,ah,nA,cA];refine ay ⟨by omega,by omega⟩ (aj haa ?_);have hmem:al[k]∈al:=List.getElem_mem hka;have hdr:(cZ (bG (op:Int))).drop k=(cZ (bG (op:Int)))[k]::(cZ (bG (op:Int))).drop (k+1):=List.drop_eq_getElem_cons hkr;have hda:(al.map In.ts).drop k=al[k].ts::(al.map In.ts).drop (k+1):=by
   rw [List.drop_eq_getElem_cons (by rw [List.length_map]; exact hka),List.getElem_map]
  rw [hdr,hda] at hcl;simp only [dU] at hcl;generalize (cZ (bG (op:Int)))[k]=rr at hcl ⊢;generalize al[k]=a at hcl hca hmem ⊢;refine aE ((a.p,a.l,a.c),()) hca ?_;dsimp only [flat,az,ah,nA,cA];have hz8:g7.size≤g8.size:=k8.size;refine aB (Ba b8 s8 (by omega) (by omega) rr ((v.ai e08).ul a hmem) ((v.ai e08).bW a hmem) (v.wf a hmem) (v.many a hmem)) ?_;rintro u g9 ⟨k9,hu⟩;have e59:Ext g5 g9:=Ch.trans e58 k9 (fun i hi hl=>by simp at hi; omega);cases hA:dL y rr a.ts with
  | error e =>
   rw [hA] at hu hcl;obtain ⟨rfl,he,xs,bx,hx⟩:=hu;refine ⟨((e:Int),()),rfl,?_⟩;dsimp only [flat,az,ah,nA,cA];refine aT (by simp; omega) ?_;exact out (e05.trans e59) ⟨_,b1.ai e59 (by simp),rfl⟩ (by rw [hcode,hcl])
  | ok y' =>
   rw [hA] at hu hcl;obtain ⟨rfl,p2,l2,c2,b9,s9⟩:=hu;refine ⟨((0:Int),()),rfl,?_⟩;dsimp only [flat,az,ah,nA,cA];refine aU rfl ?_;have hw:IntKind.wrap .i64 ((k:Int)+1)=((k+1:Nat):Int):=by rw [wrap_i64 (by omega) (by omega)]; omega
   refine aI (cs:=[(false,[.int .i64]),(false,[.int .i64])]) (n13,((k+1:Nat):Int),()) (l-(k+1)) rfl (by omega) (by rw [hw]; rfl) ⟨k+1,y',rfl,by omega,rfl,rfl,Ch.trans k8 k9 (fun i hi _=>hi),hcl,p2,l2,c2,b9,s9⟩
 ·have r:=of_decide_eq_false r;have hkl2:k=l:=by omega
  have hcl2:ez (op:Int) (al.map In.ts)=.ok y:=by
   rw [hcode,hcl,List.drop_of_length_le (by omega)];rfl
  refine ad b8 (y.kind,y.name,y.inst.op,y.inst.a,y.inst.b,y.inst.n,y.inst.form,(p',l',c'),(y.e.num:Int),y.n,()) rfl ?_;dsimp only [flat,az,ah,nA,cA];refine an (b1.ai e58 (by simp)) rfl (by simp [zI]) ?_;intro g9 b9 k9 z9;have b9:aO g9 h.size 96 (encI p' l' c' y):=b9;refine ad b9 (y.kind,y.name,y.inst.op,y.inst.a,y.inst.b,y.inst.n,y.inst.form,(p',l',c'),(y.e.num:Int),y.n,()) rfl ?_;refine ⟨Ch.trans e08 k9 (fun i hi hl=>by simp at hi; omega),?_⟩;rw [hcl2];refine ⟨p',l',c',rfl,(Sx.SL.mono s8 (by omega)).bf k9 (fun i hi hm=>by have:=(Sx.SL.bW s8 hi).1; simp at hm; omega)⟩
def xM (u:bP × bD):List Value:=encI u.1.p u.1.l u.1.c u.2
structure dM (h:Hp) (b:Nat) (p:Option Addr) (l c:Nat) (us:List (bP × bD)):Prop where
 out:SL h b 96 10 p l c (us.map xM)
 own:∀ u,u∈us→SL h b 109 2 u.1.p u.1.l u.1.c (u.2.e.au.map cV)
 po:∀ u,u∈us→∀ i,i∈aC u.1.p→i∉aC p
 pp:us.Pairwise fun u v=>∀ i,i∈aC u.1.p→i∉aC v.1.p
theorem dM.len {h:Hp} {b:Nat} {p:Option Addr} {l c:Nat} {us:List (bP × bD)} (A:dM h b p l c us):l=us.length:=by rw [A.out.1,List.length_map]
theorem dM.ai {ws:List Nat} {h h':Hp} {b:Nat} {p:Option Addr} {l c:Nat} {us:List (bP × bD)} (A:dM h b p l c us) (k:Ch ws h h') (hw:∀ i,i∈ws→i<h.size→i<b):dM h' b p l c us :=
 ⟨SL.vR A.out k hw,fun u hu=>SL.vR (A.own u hu) k hw,A.po,A.pp⟩
theorem dM.mono {h:Hp} {b b':Nat} {p:Option Addr} {l c:Nat} {us:List (bP × bD)} (A:dM h b p l c us) (hb:b'≤b):dM h b' p l c us :=
 ⟨Sx.SL.mono A.out hb,fun u hu=>Sx.SL.mono (A.own u hu) hb,A.po,A.pp⟩
theorem dM.nil (h:Hp) (b:Nat):dM h b none 0 0 []:=⟨SL.nil _ _ _ _,by simp,by simp,List.Pairwise.nil⟩
theorem dM.snoc {h h':Hp} {b:Nat} {p p':Option Addr} {l c c':Nat} {us:List (bP × bD)} (A:dM h b p l c us) {u:bP × bD} (o:SL h' b 96 10 p' (l+1) c' (us.map xM++[xM u])) (k:Ch (aC p) h h') (hp:p'=p∨∃ x,p'=some x∧h.size≤x.block)
  (ha:SL h b 109 2 u.1.p u.1.l u.1.c (u.2.e.au.map cV)) (h1:∀ i,i∈aC u.1.p→i∉aC p) (h2:∀ x,x∈us→∀ i,i∈aC x.1.p→i∉aC u.1.p):dM h' b p' (l+1) c' (us++[u]):=by
 have hp':∀ i,i∈aC p'→i∈aC p∨h.size≤i:=by
  intro i hi;rcases hp with rfl | ⟨x,rfl,hx⟩
  ·exact .inl hi
  ·simp [aC] at hi; right; omega
 refine ⟨by rw [List.map_append]; exact o,fun x hx=>?_,fun x hx i hi hh=>?_,List.pairwise_append.2 ⟨A.pp,by simp,fun x hx y hy i hi=>?_⟩⟩
 ·rcases List.mem_append.1 hx with hx | hx
  ·exact Sx.SL.bf (A.own x hx) k fun i hi=>A.po x hx i hi
  ·have hx:x=u:=by simpa using hx
   subst hx;exact Sx.SL.bf ha k h1
 ·rcases List.mem_append.1 hx with hx | hx
  ·rcases hp' i hh with h' | h'
   ·exact A.po x hx i hi h'
   ·have:=(Sx.SL.bW (A.own x hx) hi).2; omega
  ·have hx:x=u:=by simpa using hx
   subst hx;rcases hp' i hh with h' | h'
   ·exact h1 i hi h'
   ·have:=(Sx.SL.bW ha hi).2; omega
 ·have hy:y=u:=by simpa using hy
  subst hy;exact h2 x hx i hi
theorem Il:Tryz.prog.underlying 23=some (.slice 96):=by kernel_rfl
theorem DY:(Tryz.prog.info? 96).map (fun i=>(i.zero,i.size,i.bytes))=some (some (.agg zI.toArray),10,104):=by kernel_rfl
theorem JK (p:Option Addr) (l c:Nat) (x:bD):Instr.fill (fun j=>some (j*10,10)) ((Array.range (1*10)).map ((Value.agg zI.toArray).cells[· % (Value.agg zI.toArray).cells.size]!)) [(0,.agg (encI p l c x).toArray)]=some (encI p l c x).toArray:=by kernel_rfl
theorem SL.L4 {h:Hp} {b g:Nat} {xs:List Value} (bx:aO h g 96 xs) (hb:b≤g) (hn:xs.length=10):SL h b 96 10 (some ⟨g,0,none⟩) 1 1 [xs]:=by
 refine ⟨rfl,by simpa using hn,g,[],[],rfl,hb,⟨Nat.le_refl _,by omega⟩,?_,by simp⟩;simpa using bx
section
variable {L:Lp} {K:Value→Hp→Prop} {h:Hp}
theorem j9 {k:Option Addr→Nat→Nat→T} {p:Option Addr} {l c:Nat} {x:bD} (hk:∀ h',SL h' h.size 96 10 (some ⟨h.size,0,none⟩) 1 1 [encI p l c x]→Ext h h'→h'.size=h.size+1→k (some ⟨h.size,0,none⟩) 1 1 L K h') :
  T.bj Tryz.prog (Instr.buildSlice 23 1 #[(0,.agg (encI p l c x).toArray)]) false [(false,[.slice 0])] k L K h:=by
 refine dP Il DY (by omega) (by omega) (JK p l c x) ?_;intro h' b e z;exact hk h' (SL.L4 b (Nat.le_refl _) rfl) e z
end
def Kv (k:Int) (a:bP) (s:ByteArray) (b:bP) (n sec:Int):Value:=.agg #[.int .i64 k,a.v,.string s,b.v,.int .u32 n,.int .i64 sec]
structure iW (h:Hp) (b:Nat) (t:kD) (sl:bP) (us:List (bP × bD)) (se:bP):Prop where
 jW:dM h b sl.p sl.l sl.c us
 eq:us.map (·.2)=t.items
 e:SL h b 109 2 se.p se.l se.c (t.e.au.map cV)
 Nz:us=[]∨se.p=none
theorem iW.ai {ws:List Nat} {h h':Hp} {b:Nat} {t:kD} {sl:bP} {us:List (bP × bD)} {se:bP} (A:iW h b t sl us se) (k:Ch ws h h') (hw:∀ i,i∈ws→i<h.size→i<b):iW h' b t sl us se :=
 ⟨A.jW.ai k hw,A.eq,SL.vR A.e k hw,A.Nz⟩
theorem iW.mono {h:Hp} {b b':Nat} {t:kD} {sl:bP} {us:List (bP × bD)} {se:bP} (A:iW h b t sl us se) (hb:b'≤b):iW h b' t sl us se:=⟨A.jW.mono hb,A.eq,Sx.SL.mono A.e hb,A.Nz⟩
def xy (k:Nat) (args:List (List Tok)):Except Nat (List bD):=if args=[] then .error 20 else cO k args
def MX (h:Hp) (r:Except Nat (List bD)) (u:Value) (h':Hp):Prop:=Ext h h'∧match r with
 | .error e=>u=.tuple #[.slice none 0 0,.int .i64 (e:Int)]∧(e=20∨e=21)
 | .ok l=>∃ p n c us,u=.tuple #[.slice p n c,.int .i64 0]∧dM h' h.size p n c us∧us.map (·.2)=l
theorem II (ts:List Tok):jQ 5 ts=match iJ (-128) 255 ts with | .error e=>.error e | .ok n=>.ok { cY 5 with n:=n }:=by
 unfold jQ;rw [if_pos rfl]
 all_goals (cases iJ (-128) 255 ts <;> rfl)
theorem Io (ts:List Tok):jQ 6 ts=match bV ts with | .error e=>.error e | .ok x=>.ok { cY 6 with e:=x }:=by
 unfold jQ;rw [if_neg (by decide)]
 all_goals (cases bV ts <;> rfl)
theorem Bn {h:Hp} {k:Nat} (hk56:k=5∨k=6) {p:Option Addr} {l c:Nat} {al:List In} (v:DU h p l al) (hal:al.length≤2^32) :
  HC Tryz.prog 128 #[.int .i64 (k:Int),.slice p l c] h (MX h (xy k (al.map In.ts))):=by
 refine aK (args:=[.int .i64 (k:Int),.slice p l c]) mixed Tryz.func128 (by kernel_rfl) (ur k p l c) ?_;unfold rf;have hl:=v.len;refine af (fun q=>?_) (fun q=>?_)
 ·have q:l=0:=dO q;refine ⟨Ch.refl _ _,?_⟩
  have:xy k (al.map In.ts)=.error 20:=by
   unfold xy;rw [if_pos (by rw [List.eq_nil_of_length_eq_zero (show al.length=0 by omega)]; rfl)]
  rw [this];exact ⟨rfl,.inl rfl⟩
 have q:¬ l=0:=dX q;have hR:xy k (al.map In.ts)=cO k (al.map In.ts):=by
  unfold xy;rw [if_neg (fun hh=>by have:=congrArg List.length hh; simp at this; rw [this] at hl; simp at hl; omega)]
 rw [hR]
 refine bh (cs:=[(false,[.slice 0]),(false,[.int .i64]),(false,[.slice 0]),(false,[.int .i64])]) (fun x n h'=>∃ (i:Nat) (us:List (bP × bD)),x.2.2.2.1=(i:Int)∧i≤l∧n=l-i∧Ext h h'∧dM h' h.size x.2.2.1.1 x.2.2.1.2.1 x.2.2.1.2.2 us∧us.length=i ∧
   cO k (al.map In.ts)=(match cO k ((al.map In.ts).drop i) with | .error e=>.error e | .ok r=>.ok (us.map (·.2)++r))) ((none,0,0),(0:Int),(none,0,0),(0:Int),()) l rfl
  ⟨0,[],rfl,by omega,by omega,Ch.refl _ _,dM.nil _ _,rfl,by rw [List.drop_zero]; cases cO k (al.map In.ts) <;> rfl⟩ ?_
 rintro ⟨⟨p2,l3,l4⟩,n5,⟨p6,l7,l8⟩,n9,⟨⟩⟩ n h1 ⟨i,us,hi,hil,rfl,e1,A,hus,hit⟩;simp only at hi A;subst hi;dsimp only [flat,az,ah,nA,cA];refine af (fun r=>?_) (fun r=>?_)
 ·have r:=of_decide_eq_true r;have hia:i<al.length:=by omega
  obtain ⟨aa,haa,hca⟩:=(v.ai e1).cells i hia;refine ay ⟨by omega,by omega⟩ (aj haa ?_);rw [show Int.toNat (i:Int)=i by omega];have hmem:al[i]∈al:=List.getElem_mem hia;have hda:(al.map In.ts).drop i=al[i].ts::(al.map In.ts).drop (i+1):=by
   rw [List.drop_eq_getElem_cons (by rw [List.length_map]; exact hia),List.getElem_map]
  rw [hda] at hit;simp only [cO] at hit;generalize al[i]=a at hit hca hmem;refine aE ((a.p,a.l,a.c),()) hca ?_;dsimp only [flat,az,ah,nA,cA];refine aX ?_;intro h2 b2 e2 z2;refine an b2 rfl (by simp) ?_;intro h3 b3 k3 z3;have b3:aO h3 h1.size 96 (encI none 0 0 (cY k)):=b3;have e13:Ext h1 h3:=Ch.trans e2 k3 (fun j hj hl=>by simp at hj; omega);have e03:=e1.trans e13;have A3:=A.ai e13 (by simp);have hz1:=e1.size;have hlt3:=b3.lt
  have push:∀ {L:Lp} {K:Value→Hp→Prop} {kk:Option Addr→Nat→Nat→T} {hh:Hp} {sp:bP} {y:bD},Ext h3 hh∨Ch [h1.size] h3 hh→Ch [h1.size] h3 hh→SL hh (h1.size+1) 109 2 sp.p sp.l sp.c (y.e.au.map cV) →
    (∀ p' c' h',Ext h h'→dM h' h.size p' (l7+1) c' (us++[(sp,y)])→kk p' (l7+1) c' L K h') →
    T.bj Tryz.prog (Instr.buildSlice 23 1 #[(0,.agg (encI sp.p sp.l sp.c y).toArray)]) false [(false,[.slice 0])] (fun q m cc=>T.bj Tryz.prog (Builtin.append_ #[23,23] 23 #[.slice p6 l7 l8,.slice q m cc]) false [(false,[.slice 0])] kk) L K hh:=by
   intro L K kk hh sp y _ kc sy hk;have hzh:=kc.size;have e0h:Ext h hh:=Ch.trans e03 kc (fun j hj hl=>by simp at hj; omega);have Ah:dM hh h.size p6 l7 l8 us:=by
    refine ⟨Sx.SL.bf A3.out kc (fun j hj hm=>?_),fun u hu=>Sx.SL.bf (A3.own u hu) kc (fun j hj hm=>?_),A3.po,A3.pp⟩
    ·have:=(Sx.SL.bW A.out hj).2; simp at hm; omega
    ·have:=(Sx.SL.bW (A.own u hu) hj).2; simp at hm; omega
   refine rJ (e:=96) (z:=.agg zI.toArray) (sz:=10) (by':=104) (vs:=encI sp.p sp.l sp.c y) Il DY rfl (by omega) (by omega) (JK _ _ _ _) rfl rfl Ah.out e0h.size (by have:=A.len; omega) (by have:=A.len; omega) ?_;intro p' c' h' o k' hp';refine hk p' c' h' (Ch.trans e0h k' (fun j hj hl=>by have:=(Sx.SL.bW Ah.out hj).1; omega)) (Ah.snoc (u:=(sp,y)) o k' hp' (Sx.SL.mono sy (by omega)) (fun j hj hm=>?_) (fun x hx j hj hm=>?_))
   ·have h1:=(Sx.SL.bW sy hj).1;have h2:=(Sx.SL.bW A.out hm).2;omega
   ·have h1:=(Sx.SL.bW sy hm).1;have h2:=(Sx.SL.bW (A.own x hx) hj).2;omega
  have hw:IntKind.wrap .i64 ((i:Int)+1)=((i+1:Nat):Int):=by rw [wrap_i64 (by omega) (by omega)]; omega
  have v3:=v.ai e03;rcases hk56 with rfl | rfl
  ·refine aT rfl ?_;refine aB (oV (v3.ul a hmem) (v3.bW a hmem) (v.wf a hmem) (v.many a hmem) (-128) 255) ?_;rintro _ h4 ⟨rfl,e4⟩;rw [II] at hit;cases hn:iJ (-128) 255 a.ts with
   | error e =>
    rw [hn] at hit;have he:=gZ (v.wf a hmem) hn;refine ⟨((0:Int),(e:Int),()),rfl,?_⟩;dsimp only [flat,az,ah,nA,cA];rw [ao];refine an (b3.ai e4 (by simp)) rfl (by simp [encI]) ?_;intro h5 b5 k5 z5;refine aT (by simp; omega) ?_;refine ⟨Ch.trans (e03.trans e4) k5 (fun j hj hl=>by simp at hj; omega),?_⟩;rw [hit];exact ⟨rfl,he⟩
   | ok nn =>
    rw [hn] at hit;refine ⟨(nn,(0:Int),()),rfl,?_⟩;dsimp only [flat,az,ah,nA,cA];rw [ao];refine an (b3.ai e4 (by simp)) rfl (by simp [encI]) ?_;intro h5 b5 k5 z5;have b5:aO h5 h1.size 96 (encI none 0 0 { cY 5 with n:=nn }):=b5;refine aU rfl ?_;refine ad b5 ((5:Int),(⟨#[]⟩:ByteArray),(0:Int),(0:Int),(0:Int),(0:Int),(0:Int),(none,0,0),(0:Int),nn,()) rfl ?_;dsimp only [flat,az,ah,nA,cA];have k35:Ch [h1.size] h3 h5:=Ch.trans (e4.mono (by simp)) k5 (fun j hj _=>hj);refine push (sp:=⟨none,0,0⟩) (y:={ cY 5 with n:=nn }) (.inr k35) k35 (SL.nil _ _ _ _) ?_;intro p' c' h6 e6 A6;refine aI (cs:=[(false,[.slice 0]),(false,[.int .i64]),(false,[.slice 0]),(false,[.int .i64])]) ((p2,l3,l4),n5,(p',l7+1,c'),((i+1:Nat):Int),()) (l-(i+1)) rfl (by omega) (by rw [hw]; rfl) ⟨i+1,_,rfl,by omega,rfl,e6,A6,by simp [hus],?_⟩;rw [hit];cases cO 5 ((al.map In.ts).drop (i+1)) <;> simp
  ·refine aU rfl ?_;refine aB (jq (v3.ul a hmem) (v3.bW a hmem) (v.wf a hmem) (v.many a hmem)) ?_;rintro u h4 ⟨e4,hu⟩;rw [Io] at hit;cases hn:bV a.ts with
   | error e =>
    rw [hn] at hit hu;have he:=dS (v.wf a hmem) hn;have hu:u=.tuple #[.agg #[.slice none 0 0,.int .u32 0],.int .i64 (e:Int)]:=hu;subst hu;refine ⟨((none,0,0),(0:Int),(e:Int),()),rfl,?_⟩;dsimp only [flat,az,ah,nA,cA];rw [ao];refine an (b3.ai e4 (by simp)) rfl (by simp [encI]) ?_;intro h5 b5 k5 z5;refine aT (by simp; omega) ?_;refine ⟨Ch.trans (e03.trans e4) k5 (fun j hj hl=>by simp at hj; omega),?_⟩;rw [hit];exact ⟨rfl,he⟩
   | ok y =>
    rw [hn] at hit hu;obtain ⟨p5,l5,c5,rfl,sl,gd⟩:=hu;refine ⟨((p5,l5,c5),(y.num:Int),(0:Int),()),rfl,?_⟩;dsimp only [flat,az,ah,nA,cA];rw [ao];refine an (b3.ai e4 (by simp)) rfl (by simp [encI]) ?_;intro h5 b5 k5 z5;have b5:aO h5 h1.size 96 (encI p5 l5 c5 { cY 6 with e:=y }):=b5;refine aU rfl ?_;refine ad b5 ((6:Int),(⟨#[]⟩:ByteArray),(0:Int),(0:Int),(0:Int),(0:Int),(0:Int),(p5,l5,c5),(y.num:Int),(0:Int),()) rfl ?_;dsimp only [flat,az,ah,nA,cA];have k35:Ch [h1.size] h3 h5:=Ch.trans (e4.mono (by simp)) k5 (fun j hj _=>hj);refine push (sp:=⟨p5,l5,c5⟩) (y:={ cY 6 with e:=y }) (.inr k35) k35 ((Sx.SL.mono sl (by omega)).bf k5 (fun j hj hm=>by have:=(Sx.SL.bW sl hj).1; simp at hm; omega)) ?_;intro p' c' h6 e6 A6;refine aI (cs:=[(false,[.slice 0]),(false,[.int .i64]),(false,[.slice 0]),(false,[.int .i64])]) ((p2,l3,l4),n5,(p',l7+1,c'),((i+1:Nat):Int),()) (l-(i+1)) rfl (by omega) (by rw [hw]; rfl) ⟨i+1,_,rfl,by omega,rfl,e6,A6,by simp [hus],?_⟩;rw [hit];cases cO 6 ((al.map In.ts).drop (i+1)) <;> simp
 ·have r:=of_decide_eq_false r
  have:i=l:=by omega
  subst this;rw [List.drop_of_length_le (by rw [List.length_map]; omega)] at hit;refine ⟨e1,?_⟩;rw [hit];exact ⟨p6,l7,l8,us,rfl,A,by simp [cO]⟩
theorem Ff (s:ByteArray) (h:Hp):pQ Tryz.prog 126 [.string s] h (.tuple #[.int .i64 (if dc s=-2 then 0 else dc s),.bool (decide (dc s≠-2))]):=by
 refine cK mixed Tryz.func126 (by kernel_rfl) (sY s) ?_;unfold pU;refine af (fun g=>?_) (fun g=>?_)
 ·have q0:s.data.toList=[112,111,111,108]:=(ByteArray.toList_eq s).symm.trans (eq_of_beq g);refine ⟨?_,rfl⟩
  have:dc s=0:=by unfold dc; simp [q0]
  rw [this];rfl
 ·have n0:¬ s.data.toList=[112,111,111,108]:=fun e=>ne_of_beq_false g ((ByteArray.toList_eq s).trans e)
  refine af (fun g=>?_) (fun g=>?_)
  ·have q1:s.data.toList=[97,108,105,103,110]:=(ByteArray.toList_eq s).symm.trans (eq_of_beq g);refine aT (by rw [ByteArray.toList_eq,q1]; rfl) ?_;refine ⟨?_,rfl⟩
   have:dc s=1:=by unfold dc; simp [n0,q1]
   rw [this];rfl
  ·have n1:¬ s.data.toList=[97,108,105,103,110]:=fun e=>ne_of_beq_false g ((ByteArray.toList_eq s).trans e)
   refine af (fun g=>?_) (fun g=>?_)
   ·have q2:s.data.toList=[115,112,97,99,101]:=(ByteArray.toList_eq s).symm.trans (eq_of_beq g);refine aT (by rw [ByteArray.toList_eq,q2]; rfl) ?_;refine ⟨?_,rfl⟩
    have:dc s=1:=by unfold dc; simp [n0,n1,q2]
    rw [this];rfl
   ·have n2:¬ s.data.toList=[115,112,97,99,101]:=fun e=>ne_of_beq_false g ((ByteArray.toList_eq s).trans e)
    refine af (fun g=>?_) (fun g=>?_)
    ·have q3:s.data.toList=[103,108,111,98,97,108]:=(ByteArray.toList_eq s).symm.trans (eq_of_beq g);refine aT (by rw [ByteArray.toList_eq,q3]; rfl) ?_;refine ⟨?_,rfl⟩
     have:dc s=1:=by unfold dc; simp [n0,n1,n2,q3]
     rw [this];rfl
    ·have n3:¬ s.data.toList=[103,108,111,98,97,108]:=fun e=>ne_of_beq_false g ((ByteArray.toList_eq s).trans e)
     refine af (fun g=>?_) (fun g=>?_)
     ·have q4:s.data.toList=[115,101,99,116,105,111,110]:=(ByteArray.toList_eq s).symm.trans (eq_of_beq g);refine ⟨?_,rfl⟩
      have:dc s=1:=by unfold dc; simp [n0,n1,n2,n3,q4]
      rw [this];rfl
     ·have n4:¬ s.data.toList=[115,101,99,116,105,111,110]:=fun e=>ne_of_beq_false g ((ByteArray.toList_eq s).trans e)
      refine af (fun g=>?_) (fun g=>?_)
      ·have q5:s.data.toList=[101,113,117]:=(ByteArray.toList_eq s).symm.trans (eq_of_beq g);refine ⟨?_,rfl⟩
       have:dc s=2:=by unfold dc; simp [n0,n1,n2,n3,n4,q5]
       rw [this];rfl
      ·have n5:¬ s.data.toList=[101,113,117]:=fun e=>ne_of_beq_false g ((ByteArray.toList_eq s).trans e)
       refine af (fun g=>?_) (fun g=>?_)
       ·have q6:s.data.toList=[98,121,116,101]:=(ByteArray.toList_eq s).symm.trans (eq_of_beq g);refine aT (by rw [ByteArray.toList_eq,q6]; rfl) ?_;refine ⟨?_,rfl⟩
        have:dc s=-1:=by unfold dc; simp [n0,n1,n2,n3,n4,n5,q6]
        rw [this];rfl
       ·have n6:¬ s.data.toList=[98,121,116,101]:=fun e=>ne_of_beq_false g ((ByteArray.toList_eq s).trans e)
        refine af (fun g=>?_) (fun g=>?_)
        ·have q7:s.data.toList=[119,111,114,100]:=(ByteArray.toList_eq s).symm.trans (eq_of_beq g);refine ⟨?_,rfl⟩
         have:dc s=-1:=by unfold dc; simp [n0,n1,n2,n3,n4,n5,n6,q7]
         rw [this];rfl
        ·have n7:¬ s.data.toList=[119,111,114,100]:=fun e=>ne_of_beq_false g ((ByteArray.toList_eq s).trans e)
         refine ⟨?_,rfl⟩
         have:dc s=-2:=by unfold dc; simp [n0,n1,n2,n3,n4,n5,n6,n7]
         rw [this];rfl
section
variable {L:Lp} {K:Value→Hp→Prop} {h:Hp}
def qX (k:Int) (p:Option Addr) (l c:Nat) (nm:ByteArray) (p':Option Addr) (l' c':Nat) (n sec:Int):List Value:=[.int .i64 k,.slice p l c,.string nm,.slice p' l' c',.int .u32 n,.int .i64 sec]
theorem zk {g:Nat} {e:TypeId} {xs:List Value} {k:Int} {p:Option Addr} {l c:Nat} {nm:ByteArray} {p':Option Addr} {l' c':Nat} {n sec:Int} {cont:Int→Option Addr→Nat→Nat→ByteArray→Option Addr→Nat→Nat→Int→Int→T}
  (bx:aO h g e xs) (hx:xs.length=6) (hk:∀ h',aO h' g e (qX k p l c nm p' l' c' n sec)→Ch [g] h h'→h'.size=h.size→cont k p l c nm p' l' c' n sec L K h') :
  (T.ap ⟨g,0,none⟩ [.int .i64 k,.slice p l c,.string nm,.slice p' l' c',.int .u32 n,.int .i64 sec] <| T.ae ⟨g,0,none⟩ [.int .i64,.slice 96,.string,.slice 109,.int .u32,.int .i64] cont) L K h:=by
 refine an bx rfl (by rw [hx]; simp) ?_;intro h' b k1 z;rw [pd _ _ _ (by rw [hx]; simp)] at b;have hd:xs.drop 6=[]:=List.drop_of_length_le (by omega);have b:aO h' g e (qX k p l c nm p' l' c' n sec):=by simpa [qX,hx,hd] using b
 exact ad b (k,(p,l,c),nm,(p',l',c'),n,sec,()) rfl (hk h' b k1 z)
end
def Iq (w:Nat):Int:=if w=2 then -1 else (w:Int)
def Ky (h:Hp) (r:Except Nat (kD × Nat)) (u:Value) (h':Hp):Prop:=Ext h h'∧match r with
 | .error e=>∃ k p l c nm p' l' c' n sec w,u=.tuple #[.agg (qX k p l c nm p' l' c' n sec).toArray,.int .i64 w,.int .i64 (e:Int)]∧e≠0
 | .ok (t,w)=>∃ sl us se,u=.tuple #[Kv t.kind sl t.name se t.e.num t.sec,.int .i64 (Iq w),.int .i64 0]∧iW h' h.size t sl us se
theorem th {h:Hp} {p:Option Addr} {l:Nat} {al:List In} (v:DU h p l al) {k:Nat} (hk:k<al.length):∃ a,p=some a∧aG h (a.add (k*1)) 0 [.slice al[k].p al[k].l al[k].c]:=v.cells k hk
theorem FV (a:Addr):a.add (0*1)=a:=by simp [Addr.add]
theorem GD {h : Hp} {b : Nat} {p : Option Addr} {x : bD} (s : SL h b 96 10 p 1 1 [encI none 0 0 x]) (he : x.e.au = []) : iW h b (eV x) ⟨p, 1, 1⟩ [(⟨none, 0, 0⟩, x)] ⟨none, 0, 0⟩ :=
  ⟨⟨s, by intro u hu; have : u = (⟨none, 0, 0⟩, x) := by simpa using hu
          subst this;rw [he]
          exact SL.nil _ _ _ _, by intro u hu; have : u = (⟨none, 0, 0⟩, x) := by simpa using hu
                                   subst this;simp [aC], by simp⟩, rfl, SL.nil _ _ _ _, .inr rfl⟩
theorem rQ {ts:List Tok} {e:Nat} (h:nu ts=.error e):e=20:=by
 unfold nu at h;split at h
 ·split at h
  ·cases h
  ·injection h with h
   exact h.symm
 ·injection h with h
  exact h.symm
theorem y8 {h:Hp} {p:Option Addr} {l c:Nat} {al:List In} (v:DU h p l al) (hal:al.length≤2^32) (s:ByteArray) :
  HC Tryz.prog 100 #[.string s,.slice p l c] h (Ky h (ga s (al.map In.ts))):=by
 refine aK (args:=[.string s,.slice p l c]) mixed Tryz.func100 (by kernel_rfl) (pD s p l c) ?_;unfold lc;have hl:=v.len;refine aX ?_;intro g1 b1 e1 z1;refine iF (Ff s g1) ((if dc s=-2 then (0:Int) else dc s:Int),decide (dc s≠-2),()) rfl ?_;dsimp only [flat,az,ah,nA,cA]
 have bad:∀ {gg:Hp} {k:Int} {nm:ByteArray} {sec w:Int} {e:Nat} {p1 p2:Option Addr} {l1 c1 l2 c2:Nat} {n1:Int} {L:Lp},Ext h gg→(∃ xs,aO gg h.size 134 xs∧xs.length=6)→ga s (al.map In.ts)=.error e→e≠0 →
   (T.ap ⟨h.size,0,none⟩ [.int .i64 k,.slice p1 l1 c1,.string nm,.slice p2 l2 c2,.int .u32 n1,.int .i64 sec] <|
   T.ae ⟨h.size,0,none⟩ [.int .i64,.slice 96,.string,.slice 109,.int .u32,.int .i64] <| fun (n5:Int) (p6:Option Addr) (l7:Nat) (l8:Nat) (s9:ByteArray) (p10:Option Addr) (l11:Nat) (l12:Nat) (n13:Int) (n14:Int) =>
   T.ret (.tuple #[.agg #[.int .i64 n5,.slice p6 l7 l8,.string s9,.slice p10 l11 l12,.int .u32 n13,.int .i64 n14],.int .i64 w,.int .i64 (e:Int)])) L (Ky h (ga s (al.map In.ts))) gg:=by
  rintro gg k nm sec w e p1 p2 l1 c1 l2 c2 n1 L eg ⟨xs,bx,hx⟩ hA he;refine zk bx hx ?_;intro h' b' k' z';refine ⟨Ch.trans eg k' (fun i hi hl=>by simp at hi; omega),?_⟩;rw [hA];exact ⟨k,p1,l1,c1,nm,p2,l2,c2,n1,sec,w,rfl,he⟩
 have good:∀ {gg:Hp} {t:kD} {w:Nat} {wi:Int} {sl se:bP} {us:List (bP × bD)} {L:Lp},Ext h gg→(∃ xs,aO gg h.size 134 xs∧xs.length=6)→ga s (al.map In.ts)=.ok (t,w)→wi=Iq w→iW gg (h.size+1) t sl us se →
   (T.ap ⟨h.size,0,none⟩ [.int .i64 (t.kind:Int),.slice sl.p sl.l sl.c,.string t.name,.slice se.p se.l se.c,.int .u32 (t.e.num:Int),.int .i64 (t.sec:Int)] <|
   T.ae ⟨h.size,0,none⟩ [.int .i64,.slice 96,.string,.slice 109,.int .u32,.int .i64] <| fun (n5:Int) (p6:Option Addr) (l7:Nat) (l8:Nat) (s9:ByteArray) (p10:Option Addr) (l11:Nat) (l12:Nat) (n13:Int) (n14:Int) =>
   T.ret (.tuple #[.agg #[.int .i64 n5,.slice p6 l7 l8,.string s9,.slice p10 l11 l12,.int .u32 n13,.int .i64 n14],.int .i64 wi,.int .i64 (0:Int)])) L (Ky h (ga s (al.map In.ts))) gg:=by
  rintro gg t w wi sl se us L eg ⟨xs,bx,hx⟩ hA rfl A;refine zk bx hx ?_;intro h' b' k' z';refine ⟨Ch.trans eg k' (fun i hi hl=>by simp at hi; omega),?_⟩;rw [hA];exact ⟨sl,us,se,rfl,(A.ai k' (fun i hi hl=>by simp at hi; omega)).mono (by omega)⟩
 have bz:∀ {gg:Hp},Ext g1 gg→∃ xs,aO gg h.size 134 xs∧xs.length=6:=fun e=>⟨_,b1.ai e (by simp),rfl⟩
 have hbad:dc s=-2∨(0≤dc s∧(al.length:Int)≠dc s)→ga s (al.map In.ts)=.error 20:=by
  intro hh;unfold ga;simp only;rw [if_pos (by rw [List.length_map]; exact hh)]
 refine cD (cs:=[(false,[.int .i64]),(false,[.int .i64])]) (fun y h'=>h'=g1∧¬ (dc s=-2∨(0≤dc s∧((al.map In.ts).length:Int)≠dc s))) ?_ ?_
 ·refine af (fun q=>?_) (fun q=>?_)
  ·have q:dc s=-2:=by simpa using q
   exact bad (e:=20) e1 (bz (Ch.refl _ _)) (hbad (.inl q)) (by decide)
  have q:¬ dc s=-2:=by simpa using q
  rw [if_neg q];refine af (fun r=>?_) (fun r=>?_)
  ·have r:=of_decide_eq_true r;refine af (fun u=>?_) (fun u=>?_)
   ·have u:¬ (l:Int)=dc s:=by simpa using u
    exact bad (e:=20) e1 (bz (Ch.refl _ _)) (hbad (.inr ⟨r,by omega⟩)) (by decide)
   ·have u:(l:Int)=dc s:=by simpa using u
    exact aY (cs:=[(false,[.int .i64]),(false,[.int .i64])]) ((0:Int),(0:Int),()) rfl rfl ⟨rfl,by rintro (x | x); exact q x; rw [List.length_map] at x; omega⟩
  ·have r:=of_decide_eq_false r;exact aY (cs:=[(false,[.int .i64]),(false,[.int .i64])]) ((0:Int),(0:Int),()) rfl rfl ⟨rfl,by rintro (x | x); exact q x; omega⟩
 rintro ⟨n5,n6,⟨⟩⟩ h9 ⟨e9,hcnt⟩;have e9:=e9.symm;subst e9;dsimp only [flat,az,ah,nA,cA];clear hbad;have hD:ga s (al.map In.ts)=(if s.data.toList=[112,111,111,108] then .ok (eV (cY 4),0)
 else if s.data.toList=[97,108,105,103,110] then match iJ 1 256 (ag (al.map In.ts) 0) with
  | .error e=>.error e
  | .ok n=>if lR n then .ok (eV { cY 3 with n:=n },2) else .error 21
 else if s.data.toList=[115,112,97,99,101] then match iJ 0 1048576 (ag (al.map In.ts) 0) with
  | .error e=>.error e
  | .ok n=>.ok (eV { cY 7 with n:=n },1)
 else if s.data.toList=[98,121,116,101] then match xy 5 (al.map In.ts) with
  | .error e=>.error e
  | .ok l=>.ok ({ bJ with kind:=2,items:=l },1)
 else if s.data.toList=[119,111,114,100] then match xy 6 (al.map In.ts) with
  | .error e=>.error e
  | .ok l=>.ok ({ bJ with kind:=2,items:=l },1)
 else if s.data.toList=[101,113,117] then match nu (ag (al.map In.ts) 0) with
  | .error e=>.error e
  | .ok s=>match bV (ag (al.map In.ts) 1) with
   | .error e=>.error e
   | .ok x=>.ok ({ bJ with kind:=3,name:=s,e:=x },2)
 else if s.data.toList=[103,108,111,98,97,108] then match nu (ag (al.map In.ts) 0) with
  | .error e=>.error e
  | .ok s=>.ok ({ bJ with kind:=4,name:=s },2)
 else match ag (al.map In.ts) 0 with
  | [t]=>if t.kind=1∧t.text.data.toList=[116,101,120,116] then .ok ({ bJ with kind:=5 },2) else if t.kind=1∧t.text.data.toList=[100,97,116,97] then .ok ({ bJ with kind:=5,sec:=1 },2) else .error 20
  | _=>.error 20):=by
  unfold ga xy;simp only;rw [if_neg hcnt]
  by_cases hz:al.map In.ts=[]
  ·simp only [hz,if_true];rfl
  ·simp only [hz,if_false];rfl
 have v1:=v.ai e1;have hh1:g1.size=h.size+1:=z1;have arg:∀ i,(hi:i<al.length)→ag (al.map In.ts) i=al[i].ts:=by
  intro i hi;unfold ag;rw [List.getD_eq_getElem?_getD,List.getElem?_eq_getElem (by rw [List.length_map]; exact hi),Option.getD_some,List.getElem_map]
 have mem:∀ i,(hi:i<al.length)→al[i]∈al:=fun i hi=>List.getElem_mem hi
 refine af (fun q=>?_) (fun q=>?_)
 ·have q:s.data.toList=[112,111,111,108]:=(ByteArray.toList_eq s).symm.trans (eq_of_beq q);refine j9 (p:=none) (l:=0) (c:=0) (x:=cY 4) ?_;intro h2 s2 e2 z2;exact good (t:=eV (cY 4)) (w:=0) (sl:=⟨some ⟨g1.size,0,none⟩,1,1⟩) (se:=⟨none,0,0⟩) (e1.trans e2) (bz e2) (hD.trans (if_pos q)) rfl (GD (Sx.SL.mono s2 (by omega)) rfl)
 have q1:¬ s.data.toList=[112,111,111,108]:=fun e=>ne_of_beq_false q ((ByteArray.toList_eq s).trans e)
 rw [if_neg q1] at hD;refine af (fun q=>?_) (fun q=>?_)
 ·have q:s.data.toList=[97,108,105,103,110]:=(ByteArray.toList_eq s).symm.trans (eq_of_beq q);rw [if_pos q] at hD;have hc:dc s=1:=by unfold dc; simp [q]
  rw [List.length_map] at hcnt;have h1:0<al.length:=by omega
  obtain ⟨a0,ha0,hc0⟩:=th v1 h1;rw [FV] at hc0;refine ay ⟨by omega,by omega⟩ (aj ha0 (aE ((al[0].p,al[0].l,al[0].c),()) hc0 ?_));dsimp only [flat,az,ah,nA,cA];refine aB (oV (v1.ul _ (mem 0 h1)) (v1.bW _ (mem 0 h1)) (v.wf _ (mem 0 h1)) (v.many _ (mem 0 h1)) 1 256) ?_;rintro _ h2 ⟨rfl,e2⟩;rw [arg 0 h1] at hD;cases hn:iJ 1 256 al[0].ts with
  | error e =>
   have he:=gZ (v.wf _ (mem 0 h1)) hn;rw [hn] at hD;refine ⟨((0:Int),(e:Int),()),rfl,?_⟩;dsimp only [flat,az,ah,nA,cA];refine aU (by simp; omega) ?_;refine j9 (p:=none) (l:=0) (c:=0) (x:={ cY 3 with n:=0 }) ?_;intro h3 s3 e3 z3;exact bad (e:=e) (e1.trans (e2.trans e3)) (bz (e2.trans e3)) hD (by omega)
  | ok n =>
   rw [hn] at hD;refine ⟨(n,(0:Int),()),rfl,?_⟩;dsimp only [flat,az,ah,nA,cA];refine aT rfl (aD (vA h2 n) ?_);refine af (fun r=>?_) (fun r=>?_)
   ·have r:lR n=false:=by simpa using r
    refine j9 (p:=none) (l:=0) (c:=0) (x:={ cY 3 with n:=n }) ?_;intro h3 s3 e3 z3;exact bad (e:=21) (e1.trans (e2.trans e3)) (bz (e2.trans e3)) (hD.trans (if_neg (by rw [r]; simp))) (by decide)
   ·have r:lR n=true:=by simpa using r
    refine j9 (p:=none) (l:=0) (c:=0) (x:={ cY 3 with n:=n }) ?_;intro h3 s3 e3 z3;have hz2:=e2.size;exact good (t:=eV { cY 3 with n:=n }) (w:=2) (sl:=⟨some ⟨h2.size,0,none⟩,1,1⟩) (se:=⟨none,0,0⟩) (e1.trans (e2.trans e3)) (bz (e2.trans e3)) (hD.trans (if_pos r)) rfl (GD (Sx.SL.mono s3 (by omega)) rfl)
 have q2:¬ s.data.toList=[97,108,105,103,110]:=fun e=>ne_of_beq_false q ((ByteArray.toList_eq s).trans e)
 rw [if_neg q2] at hD;refine af (fun q=>?_) (fun q=>?_)
 ·have q:s.data.toList=[115,112,97,99,101]:=(ByteArray.toList_eq s).symm.trans (eq_of_beq q);rw [if_pos q] at hD;have hc:dc s=1:=by unfold dc; simp [q]
  rw [List.length_map] at hcnt;have h1:0<al.length:=by omega
  obtain ⟨a0,ha0,hc0⟩:=th v1 h1;rw [FV] at hc0;refine ay ⟨by omega,by omega⟩ (aj ha0 (aE ((al[0].p,al[0].l,al[0].c),()) hc0 ?_));dsimp only [flat,az,ah,nA,cA];refine aB (oV (v1.ul _ (mem 0 h1)) (v1.bW _ (mem 0 h1)) (v.wf _ (mem 0 h1)) (v.many _ (mem 0 h1)) 0 1048576) ?_;rintro _ h2 ⟨rfl,e2⟩;rw [arg 0 h1] at hD;cases hn:iJ 0 1048576 al[0].ts with
  | error e =>
   have he:=gZ (v.wf _ (mem 0 h1)) hn;rw [hn] at hD;refine ⟨((0:Int),(e:Int),()),rfl,?_⟩;dsimp only [flat,az,ah,nA,cA];refine j9 (p:=none) (l:=0) (c:=0) (x:={ cY 7 with n:=0 }) ?_;intro h3 s3 e3 z3;exact bad (e:=e) (e1.trans (e2.trans e3)) (bz (e2.trans e3)) hD (by omega)
  | ok n =>
   rw [hn] at hD;refine ⟨(n,(0:Int),()),rfl,?_⟩;dsimp only [flat,az,ah,nA,cA];refine j9 (p:=none) (l:=0) (c:=0) (x:={ cY 7 with n:=n }) ?_;intro h3 s3 e3 z3;have hz2:=e2.size;exact good (t:=eV { cY 7 with n:=n }) (w:=1) (sl:=⟨some ⟨h2.size,0,none⟩,1,1⟩) (se:=⟨none,0,0⟩) (e1.trans (e2.trans e3)) (bz (e2.trans e3)) hD rfl (GD (Sx.SL.mono s3 (by omega)) rfl)
 have q3:¬ s.data.toList=[115,112,97,99,101]:=fun e=>ne_of_beq_false q ((ByteArray.toList_eq s).trans e)
 rw [if_neg q3] at hD;refine af (fun q=>?_) (fun q=>?_)
 ·have q:s.data.toList=[98,121,116,101]:=(ByteArray.toList_eq s).symm.trans (eq_of_beq q);rw [if_pos q] at hD;refine aB (Bn (k:=5) (by omega) v1 hal) ?_;rintro u h2 ⟨e2,hu⟩;cases hn:xy 5 (al.map In.ts) with
  | error e =>
   rw [hn] at hD hu;obtain ⟨rfl,he⟩:=hu;refine ⟨((none,0,0),(e:Int),()),rfl,?_⟩;dsimp only [flat,az,ah,nA,cA];exact bad (e:=e) (e1.trans e2) (bz e2) hD (by omega)
  | ok li =>
   rw [hn] at hD hu;obtain ⟨p5,l5,c5,us,rfl,A,hus⟩:=hu;refine ⟨((p5,l5,c5),(0:Int),()),rfl,?_⟩;dsimp only [flat,az,ah,nA,cA];exact good (t:={ bJ with kind:=2,items:=li }) (w:=1) (sl:=⟨p5,l5,c5⟩) (se:=⟨none,0,0⟩) (us:=us) (e1.trans e2) (bz e2) hD rfl ⟨A.mono (by omega),hus,SL.nil _ _ _ _,.inr rfl⟩
 have q4:¬ s.data.toList=[98,121,116,101]:=fun e=>ne_of_beq_false q ((ByteArray.toList_eq s).trans e)
 rw [if_neg q4] at hD;refine af (fun q=>?_) (fun q=>?_)
 ·have q:s.data.toList=[119,111,114,100]:=(ByteArray.toList_eq s).symm.trans (eq_of_beq q);rw [if_pos q] at hD;refine aB (Bn (k:=6) (by omega) v1 hal) ?_;rintro u h2 ⟨e2,hu⟩;cases hn:xy 6 (al.map In.ts) with
  | error e =>
   rw [hn] at hD hu;obtain ⟨rfl,he⟩:=hu;refine ⟨((none,0,0),(e:Int),()),rfl,?_⟩;dsimp only [flat,az,ah,nA,cA];exact bad (e:=e) (e1.trans e2) (bz e2) hD (by omega)
  | ok li =>
   rw [hn] at hD hu;obtain ⟨p5,l5,c5,us,rfl,A,hus⟩:=hu;refine ⟨((p5,l5,c5),(0:Int),()),rfl,?_⟩;dsimp only [flat,az,ah,nA,cA];exact good (t:={ bJ with kind:=2,items:=li }) (w:=1) (sl:=⟨p5,l5,c5⟩) (se:=⟨none,0,0⟩) (us:=us) (e1.trans e2) (bz e2) hD rfl ⟨A.mono (by omega),hus,SL.nil _ _ _ _,.inr rfl⟩
 have q5:¬ s.data.toList=[119,111,114,100]:=fun e=>ne_of_beq_false q ((ByteArray.toList_eq s).trans e)
 rw [if_neg q5] at hD;refine af (fun q=>?_) (fun q=>?_)
 ·have q:s.data.toList=[101,113,117]:=(ByteArray.toList_eq s).symm.trans (eq_of_beq q);rw [if_pos q] at hD;have hc:dc s=2:=by unfold dc; simp [q]
  rw [List.length_map] at hcnt;have h1:0<al.length:=by omega
  have h2:1<al.length:=by omega
  obtain ⟨a0,ha0,hc0⟩:=th v1 h1;rw [FV] at hc0;refine ay ⟨by omega,by omega⟩ (aj ha0 (aE ((al[0].p,al[0].l,al[0].c),()) hc0 ?_));dsimp only [flat,az,ah,nA,cA];rw [arg 0 h1,arg 1 h2] at hD;cases hn:nu al[0].ts with
  | error e =>
   have he:=rQ hn;rw [hn] at hD;refine iF (vf (v1.ul _ (mem 0 h1)) (v.text _ (mem 0 h1))) ((⟨#[]⟩:ByteArray),(e:Int),()) (by rw [hn]; rfl) ?_;dsimp only [flat,az,ah,nA,cA];refine aT (by simp; omega) ?_;exact bad (e:=e) e1 (bz (Ch.refl _ _)) hD (by omega)
  | ok nm =>
   rw [hn] at hD;refine iF (vf (v1.ul _ (mem 0 h1)) (v.text _ (mem 0 h1))) (nm,(0:Int),()) (by rw [hn]; rfl) ?_;dsimp only [flat,az,ah,nA,cA];refine aU rfl ?_;obtain ⟨a1,ha1,hc1⟩:=th v1 h2;rw [ha0] at ha1;obtain rfl:=Option.some.inj ha1;refine ay ⟨by omega,by omega⟩ (aj ha0 (aE ((al[1].p,al[1].l,al[1].c),()) hc1 ?_));dsimp only [flat,az,ah,nA,cA];refine aB (jq (v1.ul _ (mem 1 h2)) (v1.bW _ (mem 1 h2)) (v.wf _ (mem 1 h2)) (v.many _ (mem 1 h2))) ?_;rintro u h3 ⟨e3,hu⟩;cases hx:bV al[1].ts with
   | error e =>
    rw [hx] at hu hD;have he:=dS (v.wf _ (mem 1 h2)) hx;have hu:u=.tuple #[.agg #[.slice none 0 0,.int .u32 0],.int .i64 (e:Int)]:=hu;subst hu;refine ⟨((none,0,0),(0:Int),(e:Int),()),rfl,?_⟩;dsimp only [flat,az,ah,nA,cA];refine aX ?_;intro h4 b4 e4 z4;refine an b4 rfl (by simp) ?_;intro h5 b5 k5 z5;have b5:aO h5 h3.size 94 [.slice none 0 0,.int .u32 (0:Int)]:=b5;refine ad b5 ((none,0,0),(0:Int),()) rfl ?_;dsimp only [flat,az,ah,nA,cA];have e35:Ext h3 h5:=Ch.trans e4 k5 (fun i hi hl=>by simp at hi; omega);exact bad (e:=e) (e1.trans (e3.trans e35)) (bz (e3.trans e35)) hD (by omega)
   | ok x =>
    rw [hx] at hu hD;obtain ⟨p5,l5,c5,rfl,sl,gd⟩:=hu;refine ⟨((p5,l5,c5),(x.num:Int),(0:Int),()),rfl,?_⟩;dsimp only [flat,az,ah,nA,cA];refine aX ?_;intro h4 b4 e4 z4;refine an b4 rfl (by simp) ?_;intro h5 b5 k5 z5;have b5:aO h5 h3.size 94 [.slice p5 l5 c5,.int .u32 (x.num:Int)]:=b5;refine ad b5 ((p5,l5,c5),(x.num:Int),()) rfl ?_;dsimp only [flat,az,ah,nA,cA];have e35:Ext h3 h5:=Ch.trans e4 k5 (fun i hi hl=>by simp at hi; omega);exact good (t:={ bJ with kind:=3,name:=nm,e:=x }) (w:=2) (sl:=⟨none,0,0⟩) (se:=⟨p5,l5,c5⟩) (us:=[]) (e1.trans (e3.trans e35)) (bz (e3.trans e35)) hD rfl ⟨dM.nil _ _,rfl,(Sx.SL.mono sl (by omega)).bf e35 (by simp),.inl rfl⟩
 have q6:¬ s.data.toList=[101,113,117]:=fun e=>ne_of_beq_false q ((ByteArray.toList_eq s).trans e)
 rw [if_neg q6] at hD;refine af (fun q=>?_) (fun q=>?_)
 ·have q:s.data.toList=[103,108,111,98,97,108]:=(ByteArray.toList_eq s).symm.trans (eq_of_beq q);rw [if_pos q] at hD;have hc:dc s=1:=by unfold dc; simp [q]
  rw [List.length_map] at hcnt;have h1:0<al.length:=by omega
  obtain ⟨a0,ha0,hc0⟩:=th v1 h1;rw [FV] at hc0;refine ay ⟨by omega,by omega⟩ (aj ha0 (aE ((al[0].p,al[0].l,al[0].c),()) hc0 ?_));dsimp only [flat,az,ah,nA,cA];rw [arg 0 h1] at hD;cases hn:nu al[0].ts with
  | error e =>
   have he:=rQ hn;rw [hn] at hD;refine iF (vf (v1.ul _ (mem 0 h1)) (v.text _ (mem 0 h1))) ((⟨#[]⟩:ByteArray),(e:Int),()) (by rw [hn]; rfl) ?_;dsimp only [flat,az,ah,nA,cA];exact bad (e:=e) e1 (bz (Ch.refl _ _)) hD (by omega)
  | ok nm =>
   rw [hn] at hD;refine iF (vf (v1.ul _ (mem 0 h1)) (v.text _ (mem 0 h1))) (nm,(0:Int),()) (by rw [hn]; rfl) ?_;dsimp only [flat,az,ah,nA,cA];exact good (t:={ bJ with kind:=4,name:=nm }) (w:=2) (sl:=⟨none,0,0⟩) (se:=⟨none,0,0⟩) (us:=[]) e1 (bz (Ch.refl _ _)) hD rfl ⟨dM.nil _ _,rfl,SL.nil _ _ _ _,.inl rfl⟩
 have q7:¬ s.data.toList=[103,108,111,98,97,108]:=fun e=>ne_of_beq_false q ((ByteArray.toList_eq s).trans e)
 rw [if_neg q7] at hD;have hcn:dc s=1:=by
  unfold dc at hcnt ⊢;simp only [if_neg q1,if_neg q6] at hcnt ⊢
  by_cases hs:s.data.toList=[115,101,99,116,105,111,110]
  ·simp [hs]
  ·exfalso;apply hcnt
   left
   simp [q2,q3,q7,hs,q4,q5]
 rw [List.length_map] at hcnt;have h1:0<al.length:=by omega
 obtain ⟨a0,ha0,hc0⟩:=th v1 h1;rw [FV] at hc0;have va:=v1.ul _ (mem 0 h1);have hag:=arg 0 h1;rw [hag] at hD;refine ay ⟨by omega,by omega⟩ (aj ha0 (aE ((al[0].p,al[0].l,al[0].c),()) hc0 ?_));dsimp only [flat,az,ah,nA,cA];generalize al[0]=a at *;have hla:=va.len;refine af (fun r=>?_) (fun r=>?_)
 ·have r:a.l=1:=dO r;obtain ⟨t,ht⟩:=Cu (show a.ts.length=1 by omega);rw [ht] at va hD;obtain ⟨aa,haa,c0⟩:=va.cells 0 (by simp);have c0:aG g1 (aa.add (0*4)) 0 (ec t):=c0;obtain ⟨u1,u2,_⟩:=jg c0;simp only at hD;refine ay ⟨by omega,by omega⟩ (aj ha0 (aE ((a.p,a.l,a.c),()) hc0 ?_));dsimp only [flat,az,ah,nA,cA];refine ay ⟨by omega,by omega⟩ (aj haa (aE ((t.kind:Int),()) u1 ?_));dsimp only [flat,az,ah,nA,cA];refine af (fun g=>?_) (fun g=>?_)
  ·have g:t.kind=1:=dO g;refine ay ⟨by omega,by omega⟩ (aj ha0 (aE ((a.p,a.l,a.c),()) hc0 ?_));dsimp only [flat,az,ah,nA,cA];refine ay ⟨by omega,by omega⟩ (aj haa (aE (t.text,()) u2 ?_));dsimp only [flat,az,ah,nA,cA];refine af (fun w=>?_) (fun w=>?_)
   ·have w:t.text.data.toList=[116,101,120,116]:=(ByteArray.toList_eq _).symm.trans (eq_of_beq w);rw [if_pos ⟨g,w⟩] at hD;exact good (t:={ bJ with kind:=5 }) (w:=2) (sl:=⟨none,0,0⟩) (se:=⟨none,0,0⟩) (us:=[]) e1 (bz (Ch.refl _ _)) hD rfl ⟨dM.nil _ _,rfl,SL.nil _ _ _ _,.inl rfl⟩
   have w:¬ t.text.data.toList=[116,101,120,116]:=fun e=>ne_of_beq_false w ((ByteArray.toList_eq _).trans e)
   rw [if_neg (fun hh=>w hh.2)] at hD;refine af (fun x=>?_) (fun x=>?_)
   ·have x:t.text.data.toList=[100,97,116,97]:=(ByteArray.toList_eq _).symm.trans (eq_of_beq x);rw [if_pos ⟨g,x⟩] at hD;exact good (t:={ bJ with kind:=5,sec:=1 }) (w:=2) (sl:=⟨none,0,0⟩) (se:=⟨none,0,0⟩) (us:=[]) e1 (bz (Ch.refl _ _)) hD rfl ⟨dM.nil _ _,rfl,SL.nil _ _ _ _,.inl rfl⟩
   have x:¬ t.text.data.toList=[100,97,116,97]:=fun e=>ne_of_beq_false x ((ByteArray.toList_eq _).trans e)
   rw [if_neg (fun hh=>x hh.2)] at hD;exact bad (e:=20) e1 (bz (Ch.refl _ _)) hD (by decide)
  ·have g:¬ t.kind=1:=dX g;rw [if_neg (fun hh=>g hh.1),if_neg (fun hh=>g hh.1)] at hD;exact bad (e:=20) e1 (bz (Ch.refl _ _)) hD (by decide)
 ·have r:¬ a.l=1:=dX r;have hD:ga s (al.map In.ts)=.error 20:=by
   rw [hD];cases hts:a.ts with
   | nil=>rfl
   | cons t r =>
    cases r with
    | nil=>rw [hts] at hla; simp at hla; omega
    | cons _ _=>rfl
  exact bad (e:=20) e1 (bz (Ch.refl _ _)) hD (by decide)
section
variable {L:Lp} {K:Value→Hp→Prop} {hh:Hp}
end
set_option maxHeartbeats 1000000 in
def zT:List Value:=qX 0 none 0 0 bI none 0 0 0 0
def EU (h:Hp) (r:Except Nat kD) (u:Value) (h':Hp):Prop:=Ext h h'∧match r with
 | .error e=>u=.tuple #[.agg zT.toArray,.int .i64 (e:Int)]∧e≠0
 | .ok t=>∃ sl us se,u=.tuple #[Kv t.kind sl t.name se t.e.num t.sec,.int .i64 0]∧iW h' h.size t sl us se
def La (op:ByteArray) (args:List (List Tok)):Except Nat (kD × Nat) :=
 if lm op≠0 then match ez (lm op) args with
  | .error e=>.error e
  | .ok x=>.ok (eV x,0)
 else ga op args
theorem FY {l:Ln} {data:Bool} (h:¬ l.op=bI):dG l data=match La l.op l.args with
  | .error e=>.error e
  | .ok (t,w)=>if w=2∨w=(if data then 1 else 0) then .ok t else .error 21:=by
 unfold dG La;rw [if_neg h]
 by_cases hf:lm l.op≠0
 ·rw [if_pos hf,if_pos hf];cases ez (lm l.op) l.args with
  | error e=>rfl
  | ok x=>cases data <;> simp
 ·rw [if_neg hf,if_neg hf];cases ga l.op l.args with
  | error e=>rfl
  | ok q=>rfl
theorem yR {op:Int} {args:List (List Tok)} {e:Nat} (hw:∀ a,a∈args→Wf a) (h:ez op args=.error e):e=20∨e=21:=by
 unfold ez at h;split at h
 ·injection h with h
  exact .inl h.symm
 have key:∀ (rs:List DQ) (args:List (List Tok)) (x:bD),(∀ a,a∈args→Wf a)→dU x rs args=.error e→e=20∨e=21:=by
  intro rs
  induction rs with
  | nil=>intro args x _ h; cases args <;> simp [dU] at h
  | cons r rs ih =>
   intro args x hw h;cases args with
   | nil=>simp [dU] at h
   | cons a args =>
    simp only [dU] at h;cases ha:dL x r a with
    | error e' =>
     rw [ha] at h;injection h with h
     subst h;exact Fy (hw a (by simp)) ha
    | ok y =>
     rw [ha] at h;exact ih args y (fun b hb=>hw b (by simp [hb])) h
 exact key _ _ _ hw h
theorem Kw {op:ByteArray} {args:List (List Tok)} {t:kD} {w:Nat} (hd:ga op args=.ok (t,w)):w≤2:=by
 unfold ga at hd;simp only at hd
 repeat' split at hd
 all_goals first | (cases hd; done) | (injection hd with hd; injection hd with h1 h2; omega)
set_option maxHeartbeats 1000000 in
theorem DH {h:Hp} (tb:pJ h) {dH op:ByteArray} {p:Option Addr} {l c:Nat} {al:List In} (v:DU h p l al) (hal:al.length≤2^32) (sec:Int) :
  HC Tryz.prog 65 #[.agg #[.string dH,.string op,.slice p l c],.int .i64 sec] h (EU h (dG ⟨dH,op,al.map In.ts⟩ (decide (sec=1)))):=by
 refine aK (args:=[.agg #[.string dH,.string op,.slice p l c],.int .i64 sec]) mixed Tryz.func65 (by kernel_rfl) (we dH op p l c sec) ?_;unfold ua;refine aX ?_;intro g1 b1 e1 z1;refine aX ?_;intro g2 b2 e2 z2;have b1:=b1.ai e2 (by simp);have e02:=e1.trans e2;have b2:aO g2 g1.size 134 zT:=b2;obtain ⟨s4,hs4⟩:∃ s4:Int,s4=if sec=1 then 1 else 0:=⟨_,rfl⟩
 refine cD (cs:=[(false,[.int .i64])]) (fun y h'=>g2=h'∧s4=y.1) ?_ ?_
 ·refine af (fun q=>?_) (fun q=>?_)
  ·have q:¬ sec=1:=by simpa using q
   exact aY (cs:=[(false,[.int .i64])]) ((0:Int),()) rfl rfl ⟨rfl,by rw [hs4,if_neg q]⟩
  ·have q:sec=1:=by simpa using q
   exact aY (cs:=[(false,[.int .i64])]) (sec,()) rfl rfl ⟨rfl,by rw [hs4,if_pos q,q]⟩
 rintro ⟨n4,⟨⟩⟩ g9 ⟨h9,h4⟩;simp only at h4;subst h9;rw [← h4];clear h4;dsimp only [flat,az,ah,nA,cA];rw [ao];refine ad b1 (op,()) rfl ?_;dsimp only [flat,az,ah,nA,cA];obtain ⟨r,hr⟩:∃ r,r=dG ⟨dH,op,al.map In.ts⟩ (decide (sec=1)):=⟨_,rfl⟩
 rw [← hr]
 have bad:∀ {gg:Hp} {xs:List Value} {e:Nat} {L:Lp},Ext h gg→aO gg g1.size 134 xs→xs.length=6→r=.error e→e≠0 →
   (T.ap ⟨g1.size,0,none⟩ [.int .i64 (0:Int),.slice none 0 0,.string ⟨#[]⟩,.slice none 0 0,.int .u32 (0:Int),.int .i64 (0:Int)] <|
   T.ae ⟨g1.size,0,none⟩ [.int .i64,.slice 96,.string,.slice 109,.int .u32,.int .i64] <| fun (n6:Int) (p7:Option Addr) (l8:Nat) (l9:Nat) (s10:ByteArray) (p11:Option Addr) (l12:Nat) (l13:Nat) (n14:Int) (n15:Int) =>
   T.ret (.tuple #[.agg #[.int .i64 n6,.slice p7 l8 l9,.string s10,.slice p11 l12 l13,.int .u32 n14,.int .i64 n15],.int .i64 (e:Int)])) L (EU h r) gg:=by
  intro gg xs e L eg bx hx hA he;refine zk bx hx ?_;intro h' b' k' z';refine ⟨Ch.trans eg k' (fun i hi hl=>by simp at hi; omega),?_⟩;rw [hA];exact ⟨rfl,he⟩
 have good:∀ {gg:Hp} {xs:List Value} {t:kD} {sl se:bP} {us:List (bP × bD)} {L:Lp},Ext h gg→aO gg g1.size 134 xs→xs.length=6→r=.ok t→iW gg (g1.size+1) t sl us se →
   (T.ap ⟨g1.size,0,none⟩ [.int .i64 (t.kind:Int),.slice sl.p sl.l sl.c,.string t.name,.slice se.p se.l se.c,.int .u32 (t.e.num:Int),.int .i64 (t.sec:Int)] <|
   T.ae ⟨g1.size,0,none⟩ [.int .i64,.slice 96,.string,.slice 109,.int .u32,.int .i64] <| fun (n6:Int) (p7:Option Addr) (l8:Nat) (l9:Nat) (s10:ByteArray) (p11:Option Addr) (l12:Nat) (l13:Nat) (n14:Int) (n15:Int) =>
   T.ret (.tuple #[.agg #[.int .i64 n6,.slice p7 l8 l9,.string s10,.slice p11 l12 l13,.int .u32 n14,.int .i64 n15],.int .i64 (0:Int)])) L (EU h r) gg:=by
  intro gg xs t sl se us L eg bx hx hA A;refine zk bx hx ?_;intro h' b' k' z';refine ⟨Ch.trans eg k' (fun i hi hl=>by simp at hi; omega),?_⟩;rw [hA];exact ⟨sl,us,se,rfl,(A.ai k' (fun i hi hl=>by simp at hi; omega)).mono (by omega)⟩
 refine af (fun q=>?_) (fun q=>?_)
 ·have q:op=bI:=by
   have q:op.data.toList=[]:=(ByteArray.toList_eq op).symm.trans (eq_of_beq q);exact mg q
  have hA:r=.ok bJ:=by rw [hr]; unfold dG; rw [if_pos q]
  exact good (t:=bJ) (sl:=⟨none,0,0⟩) (se:=⟨none,0,0⟩) (us:=[]) e02 b2 rfl hA ⟨dM.nil _ _,rfl,SL.nil _ _ _ _,.inl rfl⟩
 have q:¬ op=bI:=fun e=>by
  subst e;rw [ByteArray.toList_eq] at q;simp [bI] at q
 have hop:=FY (l:=⟨dH,op,al.map In.ts⟩) (data:=decide (sec=1)) q;rw [← hr] at hop;simp only at hop;obtain ⟨ro,hro⟩:∃ ro,La op (al.map In.ts)=ro:=⟨_,rfl⟩
 rw [hro] at hop;refine aX ?_;intro g3 b3 e3 z3;have b3:aO g3 g2.size 134 zT:=b3;have b1:=b1.ai e3 (by simp);have b2:=b2.ai e3 (by simp);have e03:=e02.trans e3;have hlt2:=b2.lt;have v3:=v.ai e03;refine cD (cs:=[(false,[.int .i64]),(false,[.int .i64])]) (fun y h'=>Ext h h'∧aO h' g1.size 134 zT∧match ro with
  | .error e=>y.2.1=(e:Int)∧e≠0
  | .ok (t,w)=>y.1=Iq w∧y.2.1=(0:Int)∧w≤2∧∃ sl us se,aO h' g2.size 134 (qX t.kind sl.p sl.l sl.c t.name se.p se.l se.c t.e.num t.sec)∧iW h' (g1.size+1) t sl us se) ?_ ?_
 ·rw [ao];refine ad b1 (op,()) rfl ?_;dsimp only [flat,az,ah,nA,cA];refine aB (JB (tb.ai e03 (by simp)) op) ?_;obtain ⟨fo,hfo⟩:∃ fo,lm op=fo:=⟨_,rfl⟩
  have hle:fo≤43:=hfo▸vT _ _ _;rintro u0 g4 ⟨hu0,e4⟩;rw [hfo] at hu0;subst hu0;refine ⟨((fo:Int),decide (fo≠0),()),rfl,?_⟩;dsimp only [flat,az,ah,nA,cA];have b14:=b1.ai e4 (by simp);have b24:=b2.ai e4 (by simp);have b34:=b3.ai e4 (by simp);have e04:=e03.trans e4;refine af (fun f=>?_) (fun f=>?_)
  ·have f:fo≠0:=of_decide_eq_true f;refine aX ?_;intro g5 b5 e5 z5;have b15:=b14.ai e5 (by simp)
   try rw [ao]
   refine ad b15 ((p,l,c),()) rfl ?_;dsimp only [flat,az,ah,nA,cA];have e05:=e04.trans e5;refine aB (Iv ((tb.ai e05 (by simp)).J3) (op:=fo) (by omega) hle (v.ai e05) (by omega)) ?_;rintro u g6 ⟨e6,hu⟩;have e06:=e05.trans e6
   have hopA:ro=match ez (fo:Int) (al.map In.ts) with
     | .error e=>.error e
     | .ok x=>.ok (eV x,0):=by
    rw [← hro];unfold La;rw [hfo,if_pos f]
   have fin:∀ {x:bD} {p':Option Addr} {l' c':Nat} {why:Int} {L:Lp} {K:Value→Hp→Prop},SL g6 g5.size 109 2 p' l' c' (x.e.au.map cV)→(∀ h',Ext g6 h'∨True→Ch [g2.size] g6 h'∨True→Ext h h'→aO h' g1.size 134 zT→aO h' g2.size 134 (qX 1 (some ⟨g6.size,0,none⟩) 1 1 bI none 0 0 0 0)→dM h' (g1.size+1) (some ⟨g6.size,0,none⟩) 1 1 [(⟨p',l',c'⟩,x)]→T.again 0 [.int .i64 (0:Int),.int .i64 why] L K h') →
     (T.ap ⟨g4.size,0,none⟩ [.int .i64 x.kind,.string x.name,.int .i64 x.inst.op,.int .i64 x.inst.a,.int .i64 x.inst.b,.int .i32 x.inst.n,.int .i64 x.inst.form,.slice p' l' c',.int .u32 (x.e.num:Int),.int .i64 x.n] <|
     T.ae ⟨g4.size,0,none⟩ [.int .i64,.string,.int .i64,.int .i64,.int .i64,.int .i32,.int .i64,.slice 109,.int .u32,.int .i64] <| fun (n27:Int) (s28:ByteArray) (n29:Int) (n30:Int) (n31:Int) (n32:Int) (n33:Int) (p34:Option Addr) (l35:Nat) (l36:Nat) (n37:Int) (n38:Int) =>
     T.bj Tryz.prog (Instr.buildSlice 23 1 #[(0,.agg #[.int .i64 n27,.string s28,.int .i64 n29,.int .i64 n30,.int .i64 n31,.int .i32 n32,.int .i64 n33,.slice p34 l35 l36,.int .u32 n37,.int .i64 n38])]) false [(false,[.slice 0])] <| fun (p39:Option Addr) (l40:Nat) (l41:Nat) =>
     T.ap ⟨g2.size,0,none⟩ [.int .i64 (1:Int),.slice p39 l40 l41,.string ⟨#[]⟩,.slice none 0 0,.int .u32 (0:Int),.int .i64 (0:Int)] <|
     T.again 0 [.int .i64 (0:Int),.int .i64 why]) L K g6:=by
    intro x p' l' c' why L K sx hk;refine an (b5.ai e6 (by simp)) rfl (by simp) ?_;intro g7 b7 k7 z7;have b7:aO g7 g4.size 96 (encI p' l' c' x):=b7;refine ad b7 (x.kind,x.name,x.inst.op,x.inst.a,x.inst.b,x.inst.n,x.inst.form,(p',l',c'),(x.e.num:Int),x.n,()) rfl ?_;dsimp only [flat,az,ah,nA,cA];refine j9 (p:=p') (l:=l') (c:=c') (x:=x) ?_;intro g8 s8 e8 z8;have hz4:=e4.size;have hz5:g5.size=g4.size+1:=z5;have hz6:=e6.size;have e07:Ext h g7:=Ch.trans e06 k7 (fun i hi hl=>by have:=e04.size; simp at hi; omega);have b38:aO g8 g2.size 134 zT:=(((b34.ai e5 (by simp)).ai e6 (by simp)).ai k7 (by have:=b34.lt; simp; omega)).ai e8 (by simp);refine an b38 rfl (by simp [zT,qX]) ?_;intro g9 b9 k9 z9;have b28:aO g8 g1.size 134 zT:=(((b24.ai e5 (by simp)).ai e6 (by simp)).ai k7 (by have:=b24.lt; simp; omega)).ai e8 (by simp);have e09:Ext h g9:=Ch.trans (e07.trans e8) k9 (fun i hi hl=>by have:=e02.size; simp at hi; omega);have s8':=SL.vR (Sx.SL.mono s8 (show g1.size+1≤g7.size by omega)) (Ch.refl [] g8) (by simp);refine hk g9 (.inr trivial) (.inr trivial) e09 (b28.ai k9 (by simp; omega)) (by rw [z7] at b9; exact b9) ?_;refine ⟨?_,?_,?_,by simp⟩
    ·rw [z7] at s8;exact Sx.SL.bf (Sx.SL.mono s8 (by omega)) k9 (fun i hi hm=>by simp [aC] at hi hm; omega)
    ·intro w hw;have hw:w=(⟨p',l',c'⟩,x):=by simpa using hw
     subst hw;refine Sx.SL.bf (Sx.SL.bf (Sx.SL.bf (Sx.SL.mono sx (by omega)) k7 (fun i hi hm=>by have:=(Sx.SL.bW sx hi).1; simp at hm; omega)) e8 (by simp)) k9 (fun i hi hm=>by have:=(Sx.SL.bW sx hi).1; simp at hm; omega)
    ·intro w hw i hi hm;have hw:w=(⟨p',l',c'⟩,x):=by simpa using hw
     subst hw
     have:=(Sx.SL.bW sx hi).2
     simp [aC] at hm;omega
   cases hcd:ez (fo:Int) (al.map In.ts) with
   | error e =>
    rw [hcd] at hu hopA;have he:=yR (fun a ha=>by obtain ⟨b,hb,rfl⟩:=List.mem_map.1 ha; exact v.wf b hb) hcd;have hu:u=.tuple #[nv none 0 0 (cY 0),.int .i64 (e:Int)]:=hu;subst hu;refine ⟨((0:Int),(⟨#[]⟩:ByteArray),(0:Int),(0:Int),(0:Int),(0:Int),(0:Int),(none,0,0),(0:Int),(0:Int),(e:Int),()),rfl,?_⟩;dsimp only [flat,az,ah,nA,cA];refine fin (x:=cY 0) (p':=none) (l':=0) (c':=0) (SL.nil _ _ _ _) ?_;intro g9 _ _ e09 b29 b39 _;refine aY (cs:=[(false,[.int .i64]),(false,[.int .i64])]) ((0:Int),(e:Int),()) rfl rfl ⟨e09,b29,?_⟩;have hopA:ro=.error e:=hopA;subst hopA;exact ⟨rfl,by omega⟩
   | ok x =>
    rw [hcd] at hu hopA;obtain ⟨p',l',c',rfl,sx⟩:=hu;refine ⟨(x.kind,x.name,x.inst.op,x.inst.a,x.inst.b,x.inst.n,x.inst.form,(p',l',c'),(x.e.num:Int),x.n,(0:Int),()),rfl,?_⟩;dsimp only [flat,az,ah,nA,cA];refine fin (x:=x) sx ?_;intro g9 _ _ e09 b29 b39 A9;refine aY (cs:=[(false,[.int .i64]),(false,[.int .i64])]) ((0:Int),(0:Int),()) rfl rfl ⟨e09,b29,?_⟩;have hopA:ro=.ok (eV x,0):=hopA;subst hopA;exact ⟨rfl,rfl,by omega,⟨_,1,1⟩,_,⟨none,0,0⟩,b39,A9,rfl,SL.nil _ _ _ _,.inr rfl⟩
  ·have f:¬ fo≠0:=of_decide_eq_false f;have hopA:ro=ga op (al.map In.ts):=by
    rw [← hro];unfold La;rw [hfo,if_neg f]
   try rw [ao]
   refine ad b14 (op,()) rfl ?_;dsimp only [flat,az,ah,nA,cA]
   try rw [ao]
   refine ad b14 ((p,l,c),()) rfl ?_;dsimp only [flat,az,ah,nA,cA];refine aB (y8 (v.ai e04) hal op) ?_;rintro u g5 ⟨e5,hu⟩;have e05:=e04.trans e5;have hz2:=e2.size;have hlt3:=b34.lt;cases hd:ga op (al.map In.ts) with
   | error e =>
    rw [hd] at hu;obtain ⟨k,p1,l1,c1,nm,p2,l2,c2,n,sc,w,rfl,he⟩:=hu;refine ⟨(k,(p1,l1,c1),nm,(p2,l2,c2),n,sc,w,(e:Int),()),rfl,?_⟩;dsimp only [flat,az,ah,nA,cA];refine an (b34.ai e5 (by simp)) rfl (by simp [zT,qX]) ?_;intro g6 b6 k6 z6;refine aY (cs:=[(false,[.int .i64]),(false,[.int .i64])]) (w,(e:Int),()) rfl rfl ⟨Ch.trans e05 k6 (fun i hi hl=>by have:=e02.size; simp at hi; omega),(b24.ai e5 (by simp)).ai k6 (by simp; omega),?_⟩;have hopA:ro=.error e:=hopA.trans hd;subst hopA;exact ⟨rfl,he⟩
   | ok q =>
    obtain ⟨t,w⟩:=q;rw [hd] at hu;obtain ⟨sl,us,se,rfl,A⟩:=hu;refine ⟨(((t.kind:Nat):Int),(sl.p,sl.l,sl.c),t.name,(se.p,se.l,se.c),(t.e.num:Int),((t.sec:Nat):Int),Iq w,(0:Int),()),rfl,?_⟩;dsimp only [flat,az,ah,nA,cA];refine an (b34.ai e5 (by simp)) rfl (by simp [zT,qX]) ?_;intro g6 b6 k6 z6;have hw2:w≤2:=Kw hd;refine aY (cs:=[(false,[.int .i64]),(false,[.int .i64])]) (Iq w,(0:Int),()) rfl rfl ⟨Ch.trans e05 k6 (fun i hi hl=>by have:=e02.size; simp at hi; omega),(b24.ai e5 (by simp)).ai k6 (by simp; omega),?_⟩;have hopA:ro=.ok (t,w):=hopA.trans hd;subst hopA;exact ⟨rfl,rfl,hw2,sl,us,se,b6,(A.ai k6 (fun i hi hl=>by simp at hi; omega)).mono (by have:=e4.size; omega)⟩
 rintro ⟨n7,n8,⟨⟩⟩ g4 ⟨e04,b24,hJ⟩;simp only at hJ;dsimp only [flat,az,ah,nA,cA];cases ho:ro with
 | error e =>
  subst ho;obtain ⟨rfl,he⟩:=hJ;refine aT (by simp; omega) ?_;exact bad (e:=e) e04 b24 rfl hop he
 | ok q =>
  obtain ⟨t,w⟩:=q;subst ho;obtain ⟨rfl,rfl,hw,sl,us,se,b34,A⟩:=hJ;simp only at hop;refine aU rfl ?_
  have done_:w=2∨w=(if decide (sec=1)=true then 1 else 0)→∀ {L:Lp},(T.ae ⟨g2.size,0,none⟩ [.int .i64,.slice 96,.string,.slice 109,.int .u32,.int .i64] <| fun (n9:Int) (p10:Option Addr) (l11:Nat) (l12:Nat) (s13:ByteArray) (p14:Option Addr) (l15:Nat) (l16:Nat) (n17:Int) (n18:Int) =>
    T.ap ⟨g1.size,0,none⟩ [.int .i64 n9,.slice p10 l11 l12,.string s13,.slice p14 l15 l16,.int .u32 n17,.int .i64 n18] <|
    T.ae ⟨g1.size,0,none⟩ [.int .i64,.slice 96,.string,.slice 109,.int .u32,.int .i64] <| fun (n19:Int) (p20:Option Addr) (l21:Nat) (l22:Nat) (s23:ByteArray) (p24:Option Addr) (l25:Nat) (l26:Nat) (n27:Int) (n28:Int) =>
    T.ret (.tuple #[.agg #[.int .i64 n19,.slice p20 l21 l22,.string s23,.slice p24 l25 l26,.int .u32 n27,.int .i64 n28],.int .i64 (0:Int)])) L (EU h r) g4:=by
   intro hh L;refine ad b34 (((t.kind:Nat):Int),(sl.p,sl.l,sl.c),t.name,(se.p,se.l,se.c),(t.e.num:Int),((t.sec:Nat):Int),()) rfl ?_;dsimp only [flat,az,ah,nA,cA];exact good e04 b24 rfl (hop.trans (if_pos hh)) A
  refine af (fun g=>?_) (fun g=>?_)
  ·have g:=of_decide_eq_true g;have hw2:¬ w=2:=fun e=>by rw [e] at g; simp [Iq] at g
   have hwi:Iq w=(w:Int):=by unfold Iq; rw [if_neg hw2]
   rw [hwi,hs4];refine af (fun f=>?_) (fun f=>?_)
   ·have f:¬ (w:Int)=if sec=1 then 1 else 0:=by simpa using f
    refine bad (e:=21) e04 b24 rfl (hop.trans (if_neg ?_)) (by decide);rintro (x | x)
    ·exact hw2 x
    ·apply f;rw [x]
     by_cases hs:sec=1 <;> simp [hs]
   ·have f:(w:Int)=if sec=1 then 1 else 0:=by simpa using f
    refine done_ (.inr ?_)
    by_cases hs:sec=1
    ·simp [hs] at f ⊢; omega
    ·simp [hs] at f ⊢; omega
  ·have g:=of_decide_eq_false g;have hw2:w=2:=by
    by_cases e:w=2
    ·exact e
    ·exfalso;apply g;unfold Iq;rw [if_neg e];omega
   exact done_ (.inl hw2)
end Go.Sx.Ob
set_option linter.unusedVariables false
set_option linter.unusedSimpArgs false
set_option maxRecDepth 100000
namespace Go.Sx
open Go.Proofs
theorem FX {s:ByteArray} {a k':Nat} {t:Tok} (ha:a≤s.size) (h:kS s a=.tok t k'):MV t:=by
 have hsz:s.data.toList.length=s.size:=by simp
 unfold kS at h;split at h
 ·cases h
 split at h
 ·cases h
 have hlen:(s.data.toList.drop a).length=s.size-a:=by rw [List.length_drop,hsz]
 split at h
 ·rename_i h1 h2 h3;split at h
  ·cases h
  ·rename_i h4;cases h;refine ⟨by simp,fun _=>⟨rfl,?_⟩⟩;have h5:=dB (s.data.toList.drop a) bt;have h0:(s.data.toList.drop a).getD 0 0=s.data.toList.getD a 0:=by simp [List.getD]
   have h6:=(nZ (s:=s.data.toList.drop a) (set:=bt) (by omega)).2 (by
    rw [h0];show (bY++bi).contains _=true;rw [nT,h3]; rfl)
   have e:(s.extract a (a+aS (s.data.toList.drop a) bt)).data.toList=(s.data.toList.drop a).take (aS (s.data.toList.drop a) bt):=by
    rw [gY,show a+aS (s.data.toList.drop a) bt-a=aS (s.data.toList.drop a) bt by omega]
   show bd (s.extract a (a+aS (s.data.toList.drop a) bt)).data.toList=!(fI (s.extract a (a+aS (s.data.toList.drop a) bt)).data.toList).2.2;rw [e];unfold bd;have l1:((s.data.toList.drop a).take (aS (s.data.toList.drop a) bt)).length=aS (s.data.toList.drop a) bt:=by rw [List.length_take]; omega
   have l2:((s.data.toList.drop a).take (aS (s.data.toList.drop a) bt)).getD 0 0=s.data.toList.getD a 0:=by rw [← h0]; exact getD_take (by omega)
   have l3:((s.data.toList.drop a).take (aS (s.data.toList.drop a) bt)).all (fun c=>cM c || cR c)=true:=by
    refine List.all_eq_true.2 fun c hc=>?_
    obtain ⟨i,hi,rfl⟩:=List.getElem_of_mem hc;rw [l1] at hi;have h7:=rX hi;have h8:(bY++bi).contains ((s.data.toList.drop a).getD i 0)=true:=h7;rw [nT] at h8;rw [List.getElem_take];rw [List.getD,List.getElem?_eq_getElem (by omega)] at h8;exact h8
   rw [l1,l2,l3,h3,decide_eq_true (by omega),decide_eq_true (by omega)];rfl
 split at h
 ·split at h
  ·cases h
  ·cases h;exact ⟨(uZ _).2,by simp⟩
 split at h
 ·split at h
  ·cases h
  ·cases h;exact ⟨by show (s.data.toList.getD (a+1) 0).toNat<4294967296; have:=(s.data.toList.getD (a+1) 0).toNat_lt; omega,by simp⟩
 split at h
 ·cases h;exact ⟨by simp,by simp⟩
 ·cases h
theorem DD {s:ByteArray}:∀ (f k:Nat) (acc:List Tok),k≤s.size→Wf acc→Wf (j7 s f k acc).1
 | 0,k,acc,hk,w=>w
 | f+1,k,acc,hk,w=>by
  unfold j7;cases h:dR s k with
  | stop=>exact w
  | cI a=>intro t ht; simp at ht
  | tok t k' =>
   simp only;have h1:=nK hk h;have hle:k+aS (s.data.toList.drop k) aN≤s.size:=by
    have:=dB (s.data.toList.drop k) aN
    rw [List.length_drop] at this;have hsz:s.data.toList.length=s.size:=by simp
    omega
   refine DD f k' _ h1.2 ?_;intro u hu;rcases List.mem_append.1 hu with hu | hu
   ·exact w u hu
   ·rw [List.mem_singleton] at hu;subst hu;exact FX hle h
theorem IX (s:ByteArray):Wf (eu s).1:=DD _ 0 [] (Nat.zero_le _) (by intro t ht; simp at ht)
theorem yz {s:ByteArray}:∀ (f k:Nat) (acc:List Tok),k≤s.size→(∀ t,t∈acc→t.text.size≤s.size)→∀ t,t∈(j7 s f k acc).1→t.text.size≤s.size
 | 0,k,acc,hk,w=>w
 | f+1,k,acc,hk,w=>by
  unfold j7;cases h:dR s k with
  | stop=>exact w
  | cI a=>intro t ht; simp at ht
  | tok t k' =>
   simp only;have h1:=nK hk h;have hle:k+aS (s.data.toList.drop k) aN≤s.size:=by
    have:=dB (s.data.toList.drop k) aN
    rw [List.length_drop] at this;have hsz:s.data.toList.length=s.size:=by simp
    omega
   refine yz f k' _ h1.2 ?_;intro u hu;rcases List.mem_append.1 hu with hu | hu
   ·exact w u hu
   ·rw [List.mem_singleton] at hu;subst hu;obtain ⟨_,_,_,h4⟩:=yh hle h;rw [h4,fh];omega
theorem yL (s:ByteArray):∀ t,t∈(eu s).1→t.text.size≤s.size:=yz _ 0 [] (Nat.zero_le _) (by intro t ht; simp at ht)
theorem vi (n:Nat):∀ (ts:List Tok) (done:List (List Tok)) (cj:List Tok) (r:List (List Tok)),dV n ts done cj=.ok r→(∀ l,l∈done→l≠[])→∀ l,l∈r→l≠[]
 | [],done,cj,r,h,hd=>by
  simp only [dV] at h;split at h
  ·cases h
  ·rename_i hc;injection h with h
   subst h;intro l hl;rcases List.mem_append.1 hl with hl | hl
   ·exact hd l hl
   ·have:l=cj:=by simpa using hl
    subst this;exact hc
 | t::ts,done,cj,r,h,hd=>by
  simp only [dV] at h;split at h
  ·cases h
  ·rename_i h0;split at h
   ·rename_i h1;refine vi n ts _ _ r h fun l hl=>?_
    rcases List.mem_append.1 hl with hl | hl
    ·exact hd l hl
    ·have:l=cj:=by simpa using hl
     subst this;intro hh;subst hh;rw [h1] at h0;simp at h0
   ·exact vi n ts _ _ r h hd
theorem x' (n:Nat) (lb:ByteArray) (us:List Tok):∀ l,l∈(bU n lb us).1.args→l≠[]:=by
 cases us with
 | nil=>simp [bU]
 | cons t us =>
  simp only [bU];split
  ·simp [iv]
  ·cases hA:eU n us with
   | error a=>simp [iv]
   | ok r =>
    unfold eU at hA;split at hA
    ·injection hA with hA
     subst hA
     simp
    ·exact vi n us [] [] r hA (by simp)
theorem Eh (s:ByteArray):∀ l,l∈(aL s).1.args→l≠[]:=by
 unfold aL;split
 ·simp [iv]
 ·unfold eP;split
  ·exact x' _ _ _
  ·exact x' _ _ _
theorem to (P:Tok→Prop) (n:Nat):∀ (ts:List Tok) (done:List (List Tok)) (cj:List Tok) (r:List (List Tok)),dV n ts done cj=.ok r→(∀ l,l∈done→∀ t,t∈l→P t)→(∀ t,t∈cj→P t)→(∀ t,t∈ts→P t)→∀ l,l∈r→∀ t,t∈l→P t
 | [],done,cj,r,h,hd,hc,ht=>by
  simp only [dV] at h;split at h
  ·cases h
  ·injection h with h
   subst h;intro l hl;rcases List.mem_append.1 hl with hl | hl
   ·exact hd l hl
   ·have:l=cj:=by simpa using hl
    subst this;exact hc
 | t::ts,done,cj,r,h,hd,hc,ht=>by
  simp only [dV] at h;split at h
  ·cases h
  ·split at h
   ·refine to P n ts _ _ r h (fun l hl=>?_) (by simp) (fun x hx=>ht x (by simp [hx]));rcases List.mem_append.1 hl with hl | hl
    ·exact hd l hl
    ·have:l=cj:=by simpa using hl
     subst this;exact hc
   ·refine to P n ts _ _ r h hd (fun x hx=>?_) (fun x hx=>ht x (by simp [hx]));rcases List.mem_append.1 hx with hx | hx
    ·exact hc x hx
    ·have:x=t:=by simpa using hx
     subst this;exact ht x (by simp)
theorem wh (Q:Tok→Prop) (n:Nat) (lb:ByteArray) (us:List Tok) (h:∀ t,t∈us→Q t):∀ l,l∈(bU n lb us).1.args→∀ t,t∈l→Q t:=by
 cases us with
 | nil=>simp [bU]
 | cons t us =>
  simp only [bU];split
  ·simp [iv]
  ·cases hA:eU n us with
   | error a=>simp [iv]
   | ok r =>
    unfold eU at hA;split at hA
    ·injection hA with hA
     subst hA
     simp
    ·exact to Q n us [] [] r hA (by simp) (by simp) (fun x hx=>h x (by simp [hx]))
theorem xn (Q:Tok→Prop) (s:ByteArray) (h:∀ t,t∈(eu s).1→Q t):∀ l,l∈(aL s).1.args→∀ t,t∈l→Q t:=by
 unfold aL;split
 ·simp [iv]
 ·unfold eP;split
  ·exact wh Q _ _ _ fun t ht=>h t (List.mem_of_mem_drop ht)
  ·exact wh Q _ _ _ h
theorem gX (s:ByteArray) (hs:s.size≤2^20):∀ a,a∈(aL s).1.args→Wf a∧a.length≤2^40∧a≠[]∧∀ t,t∈a→t.text.size≤9223372036854775807:=fun a ha =>
 ⟨xn MV s (IX s) a ha,by have:=(eH s).1 a ha; omega,Eh s a ha,fun t ht=>by have:=xn (fun t=>t.text.size≤s.size) s (yL s) a ha t ht; omega⟩
end Go.Sx
namespace Go.Sx.Ob
open Go.Proofs
variable {K:Value→Hp→Prop}
theorem DU.parse {h:Hp} {b:Nat} {te es:TypeId} {p:Option Addr} {c:Nat} {al:List In} (s:ByteArray) (hs:s.size≤2^20) (A:gj h b te es p c al) (ha:al.map In.ts=(aL s).1.args):DU h p al.length al∧al.length≤2^32:=by
 refine ⟨DU.of A fun a hm=>gX s hs a.ts (ha▸List.mem_map_of_mem hm),?_⟩
 have:=(eH s).2
 rw [← ha,List.length_map] at this;omega
theorem iW.z (h:Hp) (b:Nat):iW h b bJ ⟨none,0,0⟩ [] ⟨none,0,0⟩:=⟨dM.nil _ _,rfl,SL.nil _ _ _ _,.inl rfl⟩
theorem mm {ts:List Tok} {x:ey} (hw:Wf ts) (h:bV ts=.ok x):x.au.length≤ts.length:=by
 unfold bV at h
 have:=lM 32 ts hw
 cases hs:oQ 32 ts with
 | error e=>rw [hs] at h; cases h
 | ok q =>
  rw [hs] at h this;simp only at h;split at h
  ·injection h with h
   subst h;obtain ⟨_,_,_,h4⟩:=this;omega
  ·cases h
theorem FT {pool:Bool} {ts:List Tok} {x:ey} (hw:Wf ts) (h:qY pool ts=.ok x):x.au.length≤ts.length:=by
 unfold qY at h;split at h
 ·exact mm hw h
 ·split at h
  ·cases h
  ·split at h
   ·have:=mm hw.tail h
    simp only [List.length_cons]; omega
   ·cases h
def Bd (n:Nat) (x:bD):Prop:=x.e.au.length≤n
theorem GL {n:Nat} {x y:bD} {r:DQ} {ts:List Tok} (hw:Wf ts) (hn:ts.length≤n) (hx:Bd n x) (h:dL x r ts=.ok y):Bd n y:=by
 unfold dL at h;unfold Bd at *;split at h
 ·split at h
  ·cases h
  ·injection h with h
   subst h;split
   ·exact hx
   ·split
    ·exact hx
    ·exact hx
 ·split at h
  ·cases h
  ·injection h with h
   subst h;exact hx
 ·split at h
  ·cases h
  ·rename_i hv;injection h with h
   subst h
   have:=FT hw hv
   simp only [zK]; omega
theorem yg {n:Nat}:∀ (rs:List DQ) (args:List (List Tok)) (x y:bD),(∀ a,a∈args→Wf a∧a.length≤n)→Bd n x→dU x rs args=.ok y→Bd n y
 | [],args,x,y,_,hx,h=>by
  have h:Except.ok x=(Except.ok y:Except Nat bD):=by cases args <;> exact h
  injection h with h
  subst h;exact hx
 | r::rs,[],x,y,_,hx,h=>by
  simp only [dU] at h;injection h with h
  subst h;exact hx
 | r::rs,a::args,x,y,ha,hx,h=>by
  simp only [dU] at h;split at h
  ·cases h
  ·rename_i z hz;exact yg rs args z y (fun b hb=>ha b (by simp [hb])) (GL (ha a (by simp)).1 (ha a (by simp)).2 hx hz) h
theorem Fe {n:Nat} {op:Int} {args:List (List Tok)} {y:bD} (ha:∀ a,a∈args→Wf a∧a.length≤n) (h:ez op args=.ok y):Bd n y:=by
 unfold ez at h;split at h
 ·cases h
 ·exact yg _ _ _ _ ha (by simp [Bd,dW,cY,dT]) h
theorem Ed {n k:Nat} {ts:List Tok} {y:bD} (hw:Wf ts) (hn:ts.length≤n) (h:jQ k ts=.ok y):Bd n y:=by
 unfold jQ at h;split at h
 ·split at h
  ·cases h
  ·injection h with h
   subst h;simp [Bd,cY,dT]
 ·split at h
  ·cases h
  ·rename_i x hx;injection h with h
   subst h
   have:=mm hw hx
   unfold Bd; simp only; omega
theorem qm {n k:Nat}:∀ (args:List (List Tok)) (l:List bD),(∀ a,a∈args→Wf a∧a.length≤n)→cO k args=.ok l→l.length=args.length∧∀ x,x∈l→Bd n x
 | [],l,_,h=>by
  simp only [cO] at h;injection h with h
  subst h
  simp
 | a::args,l,ha,h=>by
  simp only [cO] at h;split at h
  ·cases h
  ·rename_i x hx;split at h
   ·cases h
   ·rename_i l' hl;injection h with h
    subst h
    have:=qm args l' (fun b hb=>ha b (by simp [hb])) hl
    refine ⟨by simp [this.1],fun y hy=>?_⟩;rcases List.mem_cons.1 hy with rfl | hy
    ·exact Ed (ha a (by simp)).1 (ha a (by simp)).2 hx
    ·exact this.2 y hy
structure oR (n:Nat) (t:kD):Prop where
 many:t.items.length≤n
 item:∀ x,x∈t.items→Bd n x
 e:t.e.au.length≤n
theorem oR.z (n:Nat):oR n bJ:=⟨by simp [bJ],by simp [bJ],by simp [bJ,dT]⟩
theorem oR.one {n:Nat} {x:bD} (hn:1≤n) (h:Bd n x):oR n (eV x):=⟨by simp [eV]; omega,by simp [eV]; exact h,by simp [eV,bJ,dT]⟩
theorem ID {n:Nat} {op:ByteArray} {args:List (List Tok)} {t:kD} {w:Nat} (hn:1≤n) (ha:∀ a,a∈args→Wf a∧a.length≤n) (hl:args.length≤n) (h:ga op args=.ok (t,w)):oR n t:=by
 have hag:∀ i,Wf (ag args i)∧(ag args i).length≤n:=by
  intro i;unfold ag;rw [List.getD_eq_getElem?_getD];cases hh:args[i]? with
  | none=>exact ⟨fun t ht=>by simp at ht,by simp⟩
  | some a=>exact ha a (List.mem_of_getElem? hh)
 have z:∀ x:bD,x.e=dT→Bd n x:=fun x hx=>by unfold Bd; rw [hx]; simp [dT]
 unfold ga at h;simp only at h;split at h
 ·cases h
 split at h
 ·injection h with h; injection h with h _; subst h
  exact oR.one hn (z _ rfl)
 split at h
 ·split at h
  ·cases h
  split at h
  ·injection h with h; injection h with h _; subst h
   exact oR.one hn (z _ rfl)
  ·cases h
 split at h
 ·split at h
  ·cases h
  injection h with h; injection h with h _; subst h
  exact oR.one hn (z _ rfl)
 split at h
 ·split at h
  ·cases h
  split at h
  ·cases h
  rename_i l hh;injection h with h; injection h with h _; subst h
  have:=qm args l ha hh
  exact ⟨by simp only; omega,this.2,by simp [bJ,dT]⟩
 split at h
 ·split at h
  ·cases h
  split at h
  ·cases h
  rename_i l hh;injection h with h; injection h with h _; subst h
  have:=qm args l ha hh
  exact ⟨by simp only; omega,this.2,by simp [bJ,dT]⟩
 split at h
 ·split at h
  ·cases h
  split at h
  ·cases h
  rename_i x hx;injection h with h; injection h with h _; subst h
  have:=mm (hag 1).1 hx
  exact ⟨by simp [bJ],by simp [bJ],by have:=(hag 1).2; simp only; omega⟩
 split at h
 ·split at h
  ·cases h
  injection h with h; injection h with h _; subst h
  exact ⟨by simp [bJ],by simp [bJ],by simp [bJ,dT]⟩
 split at h
 ·split at h
  ·injection h with h; injection h with h _; subst h
   exact ⟨by simp [bJ],by simp [bJ],by simp [bJ,dT]⟩
  split at h
  ·injection h with h; injection h with h _; subst h
   exact ⟨by simp [bJ],by simp [bJ],by simp [bJ,dT]⟩
  ·cases h
 ·cases h
theorem Ao {n:Nat} {l:Ln} {data:Bool} {t:kD} (hn:1≤n) (ha:∀ a,a∈l.args→Wf a∧a.length≤n) (hl:l.args.length≤n) (h:dG l data=.ok t):oR n t:=by
 unfold dG at h;split at h
 ·injection h with h
  subst h;exact oR.z n
 split at h
 ·split at h
  ·cases h
  rename_i x hx;split at h
  ·cases h
  injection h with h
  subst h;exact oR.one hn (Fe ha hx)
 split at h
 ·cases h
 rename_i t' w' hd
 by_cases g:w'=2∨w'=(if data then 1 else 0)
 ·rw [if_pos g] at h;injection h with h
  subst h;exact ID hn ha hl hd
 ·rw [if_neg g] at h;cases h
theorem J9 {op:Int} (h:bG op≠0):Sm op:=by
 unfold bG at h;unfold Sm;split at h
 ·exact absurd rfl h
 ·by_cases g:op≤43
  ·omega
  ·exfalso;apply h;rw [List.getD_eq_getElem?_getD,List.getElem?_eq_none (by simp only [bS,List.length_cons,List.length_nil]; omega)];rfl
def IP (s:ByteArray):List Value:=[.string s]
abbrev SN (h:Hp) (b:Nat) (p:Option Addr) (l c:Nat) (xs:List ByteArray):Prop:=SL h b 9 1 p l c (xs.map IP)
theorem SN.len {h:Hp} {b:Nat} {p:Option Addr} {l c:Nat} {xs:List ByteArray} (s:SN h b p l c xs):l=xs.length:=by
 have:=s.1
 rwa [List.length_map] at this
theorem SN.cell {h:Hp} {b:Nat} {p:Option Addr} {l c:Nat} {xs:List ByteArray} (s:SN h b p l c xs) {i:Nat} (hi:i<xs.length):∃ a,p=some a∧aG h (a.add (i*1)) 0 [.string xs[i]]:=by
 obtain ⟨a,ha,hc⟩:=SL.cells s (i:=i) (by rw [List.length_map]; exact hi);refine ⟨a,ha,?_⟩;rw [List.getElem_map] at hc;exact hc
theorem MM (D:List ByteArray) (s:ByteArray) (i:Nat) (hi:i<D.length):eb (D.take (i+1)) s=(eb (D.take i) s || decide (D[i]=s)):=by
 unfold eb;rw [List.take_succ_eq_append_getElem hi,List.any_append]
 simp
theorem zG {h:Hp} {b:Nat} {p:Option Addr} {l c:Nat} {xs:List ByteArray} (v:SN h b p l c xs) (hl:xs.length≤2^61) (s:ByteArray):pQ Tryz.prog 50 [.slice p l c,.string s] h (.bool (eb xs s)):=by
 refine cK mixed Tryz.func50 (by kernel_rfl) (nj p l c s) ?_;unfold jV;have n:=SN.len v;refine bh (cs:=[(false,[.bool]),(false,[.int .i64])]) (fun y m h'=>∃ i:Nat,y.2.1=(i:Int)∧m=xs.length-i∧i≤xs.length∧h'=h∧eb (xs.take i) s=false) (false,(0:Int),()) xs.length rfl
  ⟨0,rfl,rfl,by omega,rfl,rfl⟩ ?_
 rintro ⟨b2,n3,⟨⟩⟩ m h' ⟨i,hi,rfl,hle,rfl,hn⟩;simp only at hi;subst hi;dsimp only [flat,az,ah,nA,cA];refine af (fun q=>?_) (fun q=>?_)
 ·have q:=of_decide_eq_true q;have hil:i<xs.length:=by omega
  obtain ⟨a,ha,hc⟩:=SN.cell v hil;refine ay ⟨by omega,by omega⟩ (aj ha ?_);rw [show Int.toNat (i:Int)=i by omega];refine aE (xs[i],()) hc ?_;dsimp only [flat,az,ah,nA,cA];have hs:=MM xs s i hil;rw [Kh];refine af (fun r=>?_) (fun r=>?_)
  ·have r:=of_decide_eq_true r;refine ⟨congrArg Value.bool ?_,rfl⟩;unfold eb;exact (List.any_eq_true.2 ⟨_,List.getElem_mem hil,decide_eq_true r⟩).symm
  ·rw [hn,r] at hs;refine aI (cs:=[(false,[.bool]),(false,[.int .i64])]) (b2,((i+1:Nat):Int),()) (xs.length-(i+1)) rfl (by omega) (by rw [wrap_i64 (by omega) (by omega)]; rfl) ?_;exact ⟨i+1,rfl,rfl,by omega,rfl,hs⟩
 ·have q:=of_decide_eq_false q
  have:i=xs.length:=by omega
  subst this;rw [List.take_length] at hn;exact ⟨by rw [hn],rfl⟩
def cB (l:List bD):List ByteArray:=(l.filter fun x=>decide (x.kind=1)).map (·.name)
theorem oY (l:List bD) (i:Nat) (hi:i<l.length):cB (l.take (i+1))=cB (l.take i)++if l[i].kind=1 then [l[i].name] else []:=by
 unfold cB;rw [List.take_succ_eq_append_getElem hi,List.filter_append,List.map_append]
 congr 1
 by_cases hk:l[i].kind=1 <;> simp [hk]
theorem SN.push {L:Lp} {h:Hp} {b:Nat} {p:Option Addr} {l c:Nat} {xs:List ByteArray} (v:SN h b p l c xs) (x:ByteArray) (hl:xs.length≤2^40) (hb:b≤h.size) {k:Option Addr→Nat→Nat→T}
  (hk:∀ p' c' h',SN h' b p' (l+1) c' (xs++[x])→Ch (aC p) h h'→k p' (l+1) c' L K h') :
  T.bj Tryz.prog (Instr.buildSlice 25 1 #[(0,.string x)]) false [(false,[.slice 0])] (fun q m cc=>T.bj Tryz.prog (Builtin.append_ #[25,25] 25 #[.slice p l c,.slice q m cc]) false [(false,[.slice 0])] k) L K h:=by
 have n:=SN.len v;refine rJ (vs:=[.string x]) DB Mj rfl (by omega) (by omega) (by kernel_rfl) rfl rfl v hb (by omega) (by omega) ?_;intro p' c' h' s' ch _;refine hk p' c' h' ?_ ch;unfold SN;rw [List.map_append];exact s'
theorem SN.ext {h a b':Hp} {b:Nat} {p:Option Addr} {l c:Nat} {xs:List ByteArray} (e:Ext h a) (v:SN a b p l c xs) (hb:h.size≤b) (k:Ch (aC p) a b'):Ext h b' :=
 Ch.trans e k (fun i hi hl=>by have:=(Ob.SL.bW v i hi).1; omega)
theorem xS {h:Hp} {p:Option Addr} {l c:Nat} {us:List bD} (v:Fk h p l us) (hm:us.length≤2^20) :
  HC Tryz.prog 52 #[.slice p l c] h fun w h'=>∃ p' l' c',w=.slice p' l' c'∧SN h' h.size p' l' c' (cB us)∧Ext h h':=by
 refine aK (args:=[.slice p l c]) mixed Tryz.func52 (by kernel_rfl) (kv p l c) ?_;unfold gF;have n:=v.len;refine bh (cs:=[(false,[.slice 0]),(false,[.int .i64])]) (fun y m h'=>∃ i:Nat,y.2.1=(i:Int)∧m=us.length-i∧i≤us.length∧Ext h h'∧(cB (us.take i)).length≤i∧SN h' h.size y.1.1 y.1.2.1 y.1.2.2 (cB (us.take i))) ((none,0,0),(0:Int),()) us.length rfl
  ⟨0,rfl,rfl,by omega,Ch.refl _ _,by simp [cB],SL.nil _ _ _ _⟩ ?_
 rintro ⟨⟨p1,l2,l3⟩,n4,⟨⟩⟩ m h1 ⟨i,hi,rfl,hle,e1,hll,s⟩;simp only at hi s;subst hi;dsimp only [flat,az,ah,nA,cA];have hz:=e1.size;refine af (fun q=>?_) (fun q=>?_)
 ·have q:=of_decide_eq_true q;have hil:i<us.length:=by omega
  obtain ⟨aa,pp,ll,cc,eX,hc,va⟩:=(v.ai e1).cells i hil;have ht:=oY us i hil;generalize us[i]=x at hc va ht;refine ay ⟨by omega,by omega⟩ (aj eX ?_);rw [show Int.toNat (i:Int)=i by omega];refine aE (x.kind,()) ⟨hc.1,trivial⟩ ?_;dsimp only [flat,az,ah,nA,cA];refine af (fun r=>?_) (fun r=>?_)
  ·have r:x.kind=1:=by simpa using r
   rw [if_pos r] at ht;refine ay ⟨by omega,by omega⟩ (aj eX ?_);refine aE (x.name,()) ⟨by rw [add_add]; exact hc.2.1,trivial⟩ ?_;dsimp only [flat,az,ah,nA,cA];refine SN.push s x.name (by omega) (by omega) ?_;intro p' c' h2 s2 k2;refine aI (cs:=[(false,[.slice 0]),(false,[.int .i64])]) ((p',l2+1,c'),((i+1:Nat):Int),()) (us.length-(i+1)) rfl (by omega) (by rw [wrap_i64 (by omega) (by omega)]; rfl) ?_;exact ⟨i+1,rfl,rfl,by omega,SN.ext e1 s (Nat.le_refl _) k2,by rw [ht,List.length_append]; simp; omega,by rw [ht]; exact s2⟩
  ·have r:¬ x.kind=1:=by simpa using r
   rw [if_neg r,List.append_nil] at ht;refine aI (cs:=[(false,[.slice 0]),(false,[.int .i64])]) ((p1,l2,l3),((i+1:Nat):Int),()) (us.length-(i+1)) rfl (by omega) (by rw [wrap_i64 (by omega) (by omega)]; rfl) ?_;exact ⟨i+1,rfl,rfl,by omega,e1,by rw [ht]; omega,by rw [ht]; exact s⟩
 ·have q:=of_decide_eq_false q
  have:i=us.length:=by omega
  subst this;rw [List.take_length] at s;exact ⟨p1,l2,l3,rfl,s,e1⟩
theorem IL {L:Lp} {h:Hp} {k:Option Addr→Nat→Nat→T} {b b':Nat} {p:Option Addr} {l c:Nat} {xs:List ByteArray} (s:SN h b p l c xs) {q:Option Addr} {m d:Nat} {us:List ByteArray} (v:SN h b' q m d us)
  (hl:l+m≤2^40) (hb:b≤h.size)
  (hk:∀ p' c' h',SN h' b p' (l+m) c' (xs++us)→Ch (aC p) h h'→k p' (l+m) c' L K h') :
  T.bj Tryz.prog (Builtin.append_ #[25,25] 25 #[.slice p l c,.slice q m d]) false [(false,[.slice 0])] k L K h:=by
 obtain ⟨i,hi,hz,hsz,hby⟩:=kj Mj;refine cG ?_;cases q with
 | none =>
  have h1:us=[]:=by
   have:=v.2.2.2
   simpa using this
  have h0:m=0:=by have:=SN.len v; rw [h1] at this; exact this
  have hd:d=0:=v.2.2.1;subst h0 h1 hd;have hc0:l≤c:=by
   cases p with
   | none =>
    have h2:=s.2.2.2;have h3:=s.1;rw [h2] at h3;simp at h3;omega
   | some a =>
    obtain ⟨g,pre,rest,rfl,hbg,hlc,_⟩:=s.2.2;exact hlc.1
  simp [Builtin.append_,ak,aw DB,aZ hi,bK hi,Builtin.lenOf,Builtin.firstCells,hc0];have hfin:∃ p' l' c',Value.slice p l c=.slice p' l' c'∧k p' l' c' L K h:=⟨p,l,c,rfl,by simpa using hk p c h (by simpa using s) (Ch.refl _ _)⟩
  cases p with
  | none=>exact hfin
  | some a=>exact hfin
 | some a =>
  have hc:aG h a 0 (us.map IP).flatten:=by
   obtain ⟨g,pre,rest,rfl,hbg,hlc,hbox,hr⟩:=v.2.2;refine hbox.cells _ ?_;rw [List.drop_left,List.take_left]
  have hpl:(us.map IP).flatten.all ei=true:=by
   rw [List.all_eq_true];intro x hx;obtain ⟨y,hy,hxy⟩:=List.mem_flatten.1 hx;obtain ⟨z,_,rfl⟩:=List.mem_map.1 hy;rw [List.mem_singleton.1 hxy];rfl
  refine kY DB hi hz (by rw [hsz]; rfl) (by rw [hsz]; exact s) (ys:=us.map IP) (by rw [List.length_map]; exact SN.len v) (fun y hy=>?_) hc hpl (by rw [hby]; omega) (by omega) hb ?_
  ·obtain ⟨t,_,rfl⟩:=List.mem_map.1 hy;rw [hsz];rfl
  ·intro p' c' h' s' k' hp';rw [hsz,← List.map_append] at s';exact ⟨_,_,_,rfl,hk p' c' h' s' k'⟩
def ft (u:fS):List ByteArray:=cB u.text++cB u.data++u.aQ.map (·.1)
theorem jE (l:List bD):(cB l).length≤l.length:=by
 unfold cB;rw [List.length_map];exact List.length_filter_le _ _
theorem wT {h:Hp} {a b c d:bP} {u:fS} (v:gn h a b c d u) (h1:u.text.length≤2^20) (h2:u.data.length≤2^20) (h3:u.aQ.length≤2^20) :
  HC Tryz.prog 23 #[lh a b c d] h fun w h'=>∃ p' l' c',w=.slice p' l' c'∧SN h' h.size p' l' c' (ft u)∧Ext h h':=by
 refine aK (args:=[lh a b c d]) mixed Tryz.func23 (by kernel_rfl) (np a.p a.l a.c b.p b.l b.c c.p c.l c.c d.p d.l d.c) ?_;unfold jH;refine aX ?_;intro g1 b1 e1 z1;have b1:aO g1 h.size 27 [a.v,b.v,c.v,d.v]:=b1;simp only [ao];refine ad b1 ((a.p,a.l,a.c),()) rfl ?_;dsimp only [flat,az,ah,nA,cA];refine ad b1 ((b.p,b.l,b.c),()) rfl ?_;dsimp only [flat,az,ah,nA,cA];refine aB (xS (c:=a.c) (v.text.ai e1) h1) ?_;rintro _ g2 ⟨p8,l9,l10,rfl,s8,e2⟩;refine ⟨((p8,l9,l10),()),rfl,?_⟩;dsimp only [flat,az,ah,nA,cA];have b2:=b1.ai e2 (by simp);refine ⟨⟨b2.cells _ rfl,trivial⟩,?_⟩;refine aB (xS (c:=b.c) (v.data.ai (e1.trans e2)) h2) ?_;rintro _ g3 ⟨p11,l12,l13,rfl,s11,e3⟩;refine ⟨((p11,l12,l13),()),rfl,?_⟩;dsimp only [flat,az,ah,nA,cA];have b3:=b2.ai e3 (by simp);have q1:=e1.size;have q2:=e2.size;have q3:=e3.size;refine ⟨⟨b3.cells _ rfl,trivial⟩,?_⟩;have s8':SN g3 g1.size p8 l9 l10 (cB u.text):=s8.ai e3 (by simp);have n8:=SN.len s8;have n11:=SN.len s11;have k8:=jE u.text;have k11:=jE u.data;have e03:=(e1.trans e2).trans e3;refine IL s8' s11 (by omega) (by omega) ?_;intro p14 c14 g4 s14 k4;have e4:=SN.ext e03 s8' (by omega) k4;have nb:h.size∉aC p8:=fun hi=>by have:=(Ob.SL.bW s8' _ hi).1; omega
 have b4:=b3.ai k4 nb;refine ⟨⟨b4.cells _ rfl,b4.cells _ rfl,trivial⟩,?_⟩;have nc:=v.aQ.len;have hu:∀ i,i<u.aQ.length→cB u.text++cB u.data++(u.aQ.take (i+1)).map (·.1)=(cB u.text++cB u.data++(u.aQ.take i).map (·.1))++[(u.aQ.getD i (bI,dT)).1]:=by
  intro i hi;rw [List.take_succ_eq_append_getElem hi,List.map_append,← List.append_assoc,List.getD_eq_getElem?_getD,List.getElem?_eq_getElem hi];rfl
 refine bh (cs:=[(false,[.slice 0]),(false,[.int .i64])]) (fun y m h'=>∃ i:Nat,y.2.1=(i:Int)∧m=u.aQ.length-i∧i≤u.aQ.length∧(Ext h h'∧g1.size≤h'.size)∧aO h' h.size 27 [a.v,b.v,c.v,d.v]∧SN h' g1.size y.1.1 y.1.2.1 y.1.2.2 (cB u.text++cB u.data++(u.aQ.take i).map (·.1))) ((p14,l9+l12,c14),(0:Int),()) u.aQ.length rfl
  ⟨0,rfl,rfl,by omega,⟨e4,by have:=k4.size; omega⟩,b4,by simpa using s14⟩ ?_
 rintro ⟨⟨p1,l2,l3⟩,n4,⟨⟩⟩ m g5 ⟨i,hi,rfl,hle,⟨e5,z5⟩,b5,s⟩;simp only at hi s;subst hi;dsimp only [flat,az,ah,nA,cA];have hz:=e5.size;refine ad b5 ((c.p,c.l,c.c),()) rfl ?_;dsimp only [flat,az,ah,nA,cA];refine af (fun q=>?_) (fun q=>?_)
 ·have q:=of_decide_eq_true q;have hil:i<u.aQ.length:=by omega
  refine ad b5 ((c.p,c.l,c.c),()) rfl ?_;dsimp only [flat,az,ah,nA,cA];obtain ⟨aa,pp,ll,cc,eX,hc,va,vn⟩:=(v.aQ.ai e5).cells i hil;refine ay ⟨by omega,by omega⟩ (aj eX ?_);rw [show Int.toNat (i:Int)=i by omega];refine aE (u.aQ[i].1,()) ⟨hc.1,trivial⟩ ?_;dsimp only [flat,az,ah,nA,cA];have ns:=SN.len s;have hg:(u.aQ.getD i (bI,dT)).1=u.aQ[i].1:=by
   rw [List.getD_eq_getElem?_getD,List.getElem?_eq_getElem hil];rfl
  refine SN.push s _ (by simp only [List.length_append,List.length_map,List.length_take]; omega) z5 ?_;intro p' c' h2 s2 k2;have nb2:h.size∉aC p1:=fun hi=>by have:=(Ob.SL.bW s _ hi).1; omega
  refine aI (cs:=[(false,[.slice 0]),(false,[.int .i64])]) ((p',l2+1,c'),((i+1:Nat):Int),()) (u.aQ.length-(i+1)) rfl (by omega) (by rw [wrap_i64 (by omega) (by omega)]; rfl) ?_;exact ⟨i+1,rfl,rfl,by omega,⟨SN.ext e5 s (by omega) k2,by have:=k2.size; omega⟩,b5.ai k2 nb2,by rw [hu i hil,hg]; exact s2⟩
 ·have q:=of_decide_eq_false q
  have:i=u.aQ.length:=by omega
  subst this;rw [List.take_length] at s;exact ⟨p1,l2,l3,rfl,Sx.SL.mono s (by omega),e5⟩
theorem SN.put {L:Lp} {h:Hp} {b:Nat} {p:Option Addr} {l c:Nat} {xs:List ByteArray} (v:SN h b p l c xs) {i:Nat} (hi:i<xs.length) (x:ByteArray) {a:Addr} (ha:p=some a) {k:T}
  (hk:∀ h',SN h' b p l c (xs.set i x)→Ch (aC p) h h'→h'.size=h.size→k L K h'):T.ap (a.add (i*1)) [.string x] k L K h:=by
 refine SL.store (P:=Tryz.prog) v (i:=i) (vs:=IP x) (by rw [List.length_map]; exact hi) rfl rfl ha ?_;intro h' s' ch z;refine hk h' ?_ ch z;unfold SN;rw [List.map_set];exact s'
theorem tQ (zs:List ByteArray) (j:Nat) (hj:0<j) (hl:j<zs.length):(zs.set j (zs[j-1]'(by omega))).eraseIdx (j-1)=zs.eraseIdx j:=by
 apply List.ext_getElem?;intro k;rw [List.getElem?_eraseIdx,List.getElem?_eraseIdx]
 by_cases h1:k<j-1
 ·rw [if_pos h1,if_pos (by omega),List.getElem?_set_ne (by omega)]
 ·rw [if_neg h1]
  by_cases h2:k<j
  ·have:k=j-1:=by omega
   subst this;rw [if_pos h2,show j-1+1=j by omega,List.getElem?_set_self hl,List.getElem?_eq_getElem (by omega)]
  ·rw [if_neg h2,List.getElem?_set_ne (by omega)]
theorem DJ (zs:List ByteArray) (j:Nat) (hl:j<zs.length) (x s:ByteArray):eb (zs.set j x) s=(eb (zs.eraseIdx j) s || decide (x=s)):=by
 unfold eb;rw [List.set_eq_take_append_cons_drop,if_pos hl,List.eraseIdx_eq_take_drop_succ];simp only [List.any_append,List.any_cons]
 all_goals (cases List.any (zs.take j) (fun t=>decide (t=s)) <;> cases List.any (zs.drop (j+1)) (fun t=>decide (t=s)) <;> cases decide (x=s) <;> rfl)
theorem eI {D:List ByteArray} {s:ByteArray}:eb D s=true↔s∈D:=by
 unfold eb;rw [List.any_eq_true];constructor
 ·rintro ⟨t,ht,e⟩;rw [← of_decide_eq_true e];exact ht
 ·intro hs;exact ⟨s,hs,decide_eq_true rfl⟩
theorem lV (l:List ByteArray) (x:ByteArray):(l++[x]).Nodup↔l.Nodup∧x∉l:=by
 rw [List.nodup_append];constructor
 ·rintro ⟨a,_,c⟩;exact ⟨a,fun hx=>c x hx x (by simp) rfl⟩
 ·rintro ⟨a,b⟩;refine ⟨a,by simp,fun y hy z hz e=>?_⟩;rw [List.mem_singleton.1 hz] at e;exact b (e▸hy)
theorem tn {h : Hp} {b : Nat} {p : Option Addr} {l c : Nat} {xs : List ByteArray} (v : SN h b p l c xs) (hm : xs.length ≤ 2 ^ 30) :
    HC Tryz.prog 22 #[.slice p l c] h fun w h' => ∃ p' c' ys, w = .slice p' (ys : List ByteArray).length c' ∧ ys.length ≤ xs.length ∧ (ys.length = xs.length ↔ xs.Nodup) ∧ Ext h h' := by
  refine aK (args := [.slice p l c]) mixed Tryz.func22 (by kernel_rfl) (eW p l c) ?_;unfold ef;have n := SN.len v
  refine bh (cs := [(false, [.slice 0]), (false, [.int .i64])]) (fun y m h' => ∃ (i : Nat) (ys : List ByteArray), y.2.1 = (i : Int) ∧ m = xs.length - i ∧ i ≤ xs.length ∧ Ext h h' ∧ SN h' h.size y.1.1 y.1.2.1 y.1.2.2 ys ∧ ys.length ≤ i ∧ (∀ s, eb ys s = eb (xs.take i) s) ∧ (ys.length = i ↔ (xs.take i).Nodup)) ((none, 0, 0), (0 : Int), ()) xs.length rfl
    ⟨0, [], rfl, rfl, by omega, Ch.refl _ _, SL.nil _ _ _ _, by simp, fun s => rfl, by simp⟩ ?_
  rintro ⟨⟨p1, l2, l3⟩, n4, ⟨⟩⟩ m h1 ⟨i, ys, hi, rfl, hle, e1, s, hyl, hin, hnd⟩;simp only at hi s;subst hi;dsimp only [flat, az, ah, nA, cA];have hz := e1.size;have ny := SN.len s;refine af (fun q => ?_) (fun q => ?_)
  · have q := of_decide_eq_true q
    have hil : i < xs.length := by omega
    have hx : ∀ {g}, Ext h g → ∃ a, p = some a ∧ aG g (a.add (i * 1)) 0 [.string xs[i]] := by
      intro g e;obtain ⟨a, ha, hc⟩ := SN.cell v hil;exact ⟨a, ha, bE e (by simp) _ _ hc⟩
    have htk : xs.take (i + 1) = xs.take i ++ [xs[i]] := List.take_succ_eq_append_getElem hil;generalize hxv : xs[i] = x at hx htk;obtain ⟨a, ha, hc⟩ := hx e1;refine ay ⟨by omega, by omega⟩ (aj ha ?_);rw [show Int.toNat (i : Int) = i by omega];refine aE (x, ()) hc ?_;dsimp only [flat, az, ah, nA, cA];refine aD (zG s (by omega) x) ?_;rw [hin];have hinx : eb (xs.take i) x = true ↔ x ∈ xs.take i := eI;refine af (fun r => ?_) (fun r => ?_)
    · have r2 := hinx.1 r
      refine aI (cs := [(false, [.slice 0]), (false, [.int .i64])]) ((p1, l2, l3), ((i + 1 : Nat) : Int), ()) (xs.length - (i + 1)) rfl (by omega) (by rw [wrap_i64 (by omega) (by omega)]; rfl) ?_;refine ⟨i + 1, ys, rfl, rfl, by omega, e1, s, by omega, fun t => ?_, ?_⟩
      · rw [hin, htk]
        by_cases e : x = t
        · subst e
          rw [r];exact (eI.2 (List.mem_append.2 (.inl r2))).symm
        · unfold eb
          rw [List.any_append];simp [e]
      · rw [htk, lV]
        exact ⟨fun k => by omega, fun k => absurd r2 k.2⟩
    · have r2 : x ∉ xs.take i := fun k => by rw [hinx.2 k] at r; cases r
      refine ay ⟨by omega, by omega⟩ (aj ha ?_);refine aE (x, ()) hc ?_;dsimp only [flat, az, ah, nA, cA];refine SN.push s x (by omega) hz ?_;intro p' c' h2 s2 k2;have e2 := SN.ext e1 s (Nat.le_refl _) k2
      refine bh (cs := [(false, [.int .i64])]) (fun y m h' => ∃ (j : Nat) (zs : List ByteArray), y.1 = (j : Int) ∧ m = j ∧ j ≤ ys.length ∧ zs.length = ys.length + 1 ∧ zs.eraseIdx j = ys ∧ Ext h h' ∧ SN h' h.size p' (l2 + 1) c' zs) ((l2 : Int), ()) ys.length rfl
        ⟨ys.length, ys ++ [x], by rw [ny], rfl, by omega, by simp, by rw [List.eraseIdx_append_of_length_le (by omega)]; simp, e2, s2⟩ ?_
      rintro ⟨n16, ⟨⟩⟩ m h3 ⟨j, zs, hj, rfl, hjl, hzl, hze, e3, s3⟩;simp only at hj;subst hj;dsimp only [flat, az, ah, nA, cA]
      have hpl : ∃ a2, p' = some a2 := by
        obtain ⟨a2, h2, _⟩ := SN.cell s3 (i := 0) (by omega);exact ⟨a2, h2⟩
      obtain ⟨a2, ha2⟩ := hpl
      have last : (T.aJ (((0 : Int) ≤ (i : Int)) ∧ ((i : Int) < (l : Int))) <|
         T.av p fun (a21 : Addr) =>
         T.ae (a21.add ((Int.toNat (i : Int)) * 1)) [.string] <| fun (s22 : ByteArray) =>
         T.aJ (((0 : Int) ≤ (m : Int)) ∧ ((m : Int) < ((l2 + 1 : Nat) : Int))) <|
         T.av p' fun (a23 : Addr) =>
         T.ap (a23.add ((Int.toNat (m : Int)) * 1)) [.string s22] <|
         T.again 0 [.slice p' (l2 + 1) c', .int .i64 (IntKind.wrap .i64 ((i : Int) + (1 : Int)))])
         ([] ++ [Jl (cs := [(false, [.slice 0]), (false, [.int .i64])]) (fun y m h' => ∃ (i : Nat) (ys : List ByteArray), y.2.1 = (i : Int) ∧ m = xs.length - i ∧ i ≤ xs.length ∧ Ext h h' ∧ SN h' h.size y.1.1 y.1.2.1 y.1.2.2 ys ∧ ys.length ≤ i ∧ (∀ s, eb ys s = eb (xs.take i) s) ∧ (ys.length = i ↔ (xs.take i).Nodup)) (xs.length - i)] ++
          [Jl (cs := [(false, [.int .i64])]) (fun y m h' => ∃ (j : Nat) (zs : List ByteArray), y.1 = (j : Int) ∧ m = j ∧ j ≤ ys.length ∧ zs.length = ys.length + 1 ∧ zs.eraseIdx j = ys ∧ Ext h h' ∧ SN h' h.size p' (l2 + 1) c' zs) m])
         (fun w h' => ∃ p' c' ys, w = .slice p' (ys : List ByteArray).length c' ∧ ys.length ≤ xs.length ∧ (ys.length = xs.length ↔ xs.Nodup) ∧ Ext h h') h3 := by
        obtain ⟨a, ha, hc⟩ := hx e3;refine ay ⟨by omega, by omega⟩ (aj ha ?_);rw [show Int.toNat (i : Int) = i by omega];refine aE (x, ()) hc ?_;dsimp only [flat, az, ah, nA, cA];refine ay ⟨by omega, by omega⟩ (aj ha2 ?_);rw [show Int.toNat (m : Int) = m by omega];refine SN.put s3 (by omega) x ha2 ?_;intro h4 s4 k4 z4;refine aI (cs := [(false, [.slice 0]), (false, [.int .i64])]) ((p', l2 + 1, c'), ((i + 1 : Nat) : Int), ()) (xs.length - (i + 1)) rfl (by omega) (by rw [wrap_i64 (by omega) (by omega)]; rfl) ?_;refine ⟨i + 1, zs.set m x, rfl, rfl, by omega, SN.ext e3 s3 (Nat.le_refl _) k4, s4, by rw [List.length_set]; omega, fun t => ?_, ?_⟩
        · rw [DJ zs m (by omega), hze, hin, htk]
          unfold eb;rw [List.any_append]
          simp
        · rw [List.length_set, htk, lV, ← hnd, hzl]
          exact ⟨fun k => ⟨by omega, r2⟩, fun k => by omega⟩
      refine af (fun q2 => ?_) (fun q2 => last);have q2 := of_decide_eq_true q2;rw [wrap_i64 (by omega) (by omega)];obtain ⟨a3, ha3, hc3⟩ := SN.cell s3 (i := m - 1) (by omega);refine ay ⟨by omega, by omega⟩ (aj ha3 ?_);rw [show Int.toNat ((m : Int) - 1) = m - 1 by omega];refine aE (zs[m - 1]'(by omega), ()) hc3 ?_;dsimp only [flat, az, ah, nA, cA];obtain ⟨a, ha, hc⟩ := hx e3;refine ay ⟨by omega, by omega⟩ (aj ha ?_);refine aE (x, ()) hc ?_;dsimp only [flat, az, ah, nA, cA];refine af (fun q3 => ?_) (fun q3 => ?_)
      · refine ay ⟨by omega, by omega⟩ (aj ha3 ?_)
        refine aE (zs[m - 1]'(by omega), ()) hc3 ?_;dsimp only [flat, az, ah, nA, cA];refine ay ⟨by omega, by omega⟩ (aj ha2 ?_);rw [show Int.toNat (m : Int) = m by omega];refine SN.put s3 (by omega) _ ha2 ?_;intro h4 s4 k4 z4;refine aI (cs := [(false, [.int .i64])]) (((m - 1 : Nat) : Int), ()) (m - 1) rfl (by omega) (by rw [show (m : Int) - 1 = ((m - 1 : Nat) : Int) by omega]; rfl) ?_;exact ⟨m - 1, _, rfl, rfl, by omega, by rw [List.length_set]; exact hzl, by rw [tQ zs m (by omega) (by omega)]; exact hze, SN.ext e3 s3 (Nat.le_refl _) k4, s4⟩
      · have := last
        rw [show Int.toNat (i : Int) = i by omega] at this;exact this
  · have q := of_decide_eq_false q
    have : i = xs.length := by omega
    subst this;rw [List.take_length] at hnd;exact ⟨p1, l3, ys, by rw [ny], hyl, hnd, e1⟩
def Bi (e:lP):Bool:=bd e.1.data.toList && kO none e.2.au
def wj (u:fS):Bool:=u.text.all (fun x=>bm x 0) && (u.data.all (fun x=>bm x 1) && (u.aQ.all Bi && (decide (ft u).Nodup && cw (ft u) bI u.aF)))
theorem yl (x:bD) (l:List bD):cB (x::l)=(if x.kind=1 then [x.name] else [])++cB l:=by
 unfold cB
 by_cases h:x.kind=1 <;> simp [h]
theorem BF (D:List ByteArray) (x:bD) (s:ByteArray):s∈ri D x↔s∈D∨s∈(if x.kind=1 then [x.name] else []):=by
 unfold ri;split <;> simp [or_comm]
theorem oM (sec:Nat):∀ (l:List bD) (D:List ByteArray),ek sec D l=true↔(∀ x,x∈l→bm x sec=true)∧(∀ s,s∈cB l→s∉D)∧(cB l).Nodup
 | [],D=>by simp [ek,cB]
 | x::l,D=>by
  rw [ek,Bool.and_eq_true,oM sec l,yl];unfold yW;rw [Bool.and_eq_true,List.nodup_append]
  by_cases h:x.kind=1
  ·simp only [h,decide_true,Bool.true_and,if_true,Bool.not_eq_true',List.mem_cons,List.mem_append,List.mem_singleton,List.not_mem_nil,or_false];have hin:eb D x.name=false↔x.name∉D:=by
    rw [← Bool.not_eq_true,eI]
   rw [hin];have ha:∀ s,s∈ri D x↔s=x.name∨s∈D:=fun s=>by
    rw [BF,if_pos h];simp [or_comm]
   simp only [ha];constructor
   ·rintro ⟨⟨a,b⟩,c,d,e⟩;refine ⟨?_,?_,?_,e,?_⟩
    ·rintro y (rfl | hy)
     ·exact a
     ·exact c y hy
    ·rintro s (rfl | hs)
     ·exact b
     ·exact fun k=>d s hs (.inr k)
    ·simp
    ·intro y hy z hz hyz;exact d z hz (.inl (hyz▸hy))
   ·rintro ⟨a,b,c,d,e⟩;refine ⟨⟨a x (.inl rfl),b _ (.inl rfl)⟩,fun y hy=>a y (.inr hy),fun s hs k=>?_,d⟩;rcases k with rfl | k
    ·exact e _ rfl _ hs rfl
    ·exact b s (.inr hs) k
  ·have ha:ri D x=D:=by unfold ri; rw [if_neg h]
   simp only [h,decide_false,Bool.false_and,if_false,Bool.not_false,and_true,List.mem_cons,List.nil_append,ha];constructor
   ·rintro ⟨a,c,d,e⟩;refine ⟨?_,d,by simp,e,by simp⟩;rintro y (rfl | hy)
    ·exact a
    ·exact c y hy
   ·rintro ⟨a,b,_,d,_⟩;exact ⟨a x (.inl rfl),fun y hy=>a y (.inr hy),b,d⟩
theorem wa:∀ (l:List lP) (D:List ByteArray),fW D l=true↔(∀ x,x∈l→Bi x=true)∧(∀ s,s∈l.map (·.1)→s∉D)∧(l.map (·.1)).Nodup
 | [],D=>by simp [fW]
 | x::l,D=>by
  rw [fW,Bool.and_eq_true,wa l,List.map_cons,List.nodup_cons];have hok:AL D x=true↔x.1∉D∧Bi x=true:=by
   unfold AL Bi;rw [Bool.and_eq_true,Bool.and_eq_true,Bool.and_eq_true,Bool.not_eq_true',← Bool.not_eq_true,eI,and_assoc]
  rw [hok];simp only [List.mem_cons];constructor
  ·rintro ⟨⟨a,b⟩,c,d,e⟩;refine ⟨?_,?_,?_,e⟩
   ·rintro y (rfl | hy)
    ·exact b
    ·exact c y hy
   ·rintro s (rfl | hs)
    ·exact a
    ·exact fun k=>d s hs (.inr k)
   ·exact fun hs=>d _ hs (.inl rfl)
  ·rintro ⟨a,b,c,d⟩;refine ⟨⟨b _ (.inl rfl),a x (.inl rfl)⟩,fun y hy=>a y (.inr hy),fun s hs k=>?_,d⟩;rcases k with rfl | k
   ·exact c hs
   ·exact b s (.inr hs) k
theorem jr:∀ (l:List bD) (D:List ByteArray) (s:ByteArray),s∈bM D l↔s∈D∨s∈cB l
 | [],D,s=>by simp [bM,cB]
 | x::l,D,s=>by
  show s∈bM (ri D x) l↔_;rw [jr l,BF,yl,List.mem_append,or_assoc]
theorem vr:∀ (l:List lP) (D:List ByteArray) (s:ByteArray),s∈fL D l↔s∈D∨s∈l.map (·.1)
 | [],D,s=>by simp [fL]
 | x::l,D,s=>by
  show s∈fL (x.1::D) l↔_;rw [vr l,List.map_cons,List.mem_cons,List.mem_cons,← or_assoc,or_comm (a:=s=x.1)]
theorem EX {D E:List ByteArray} (h:∀ s,s∈D↔s∈E) (s:ByteArray):eb D s=eb E s:=by
 have:eb D s=true↔eb E s=true:=by rw [eI,eI]; exact h s
 exact Bool.eq_iff_iff.2 this
theorem pR {D E:List ByteArray} (h:∀ s,s∈D↔s∈E):∀ (l:List ByteArray) (o:ByteArray),cw D o l=cw E o l
 | [],o=>rfl
 | x::l,o=>by
  rw [cw,cw,pR h l,KZ,KZ,EX h]
theorem xW (u:fS):yX u=wj u:=by
 have hg:cw u.names bI u.aF=cw (ft u) bI u.aF:=by
  refine pR (fun s=>?_) _ _;unfold fS.names ft;rw [vr,jr,jr];simp [or_assoc]
 rw [Bool.eq_iff_iff];unfold yX wj;rw [Bool.and_eq_true,Bool.and_eq_true,Bool.and_eq_true,Bool.and_eq_true,Bool.and_eq_true,Bool.and_eq_true,Bool.and_eq_true,oM,oM,wa,hg,List.all_eq_true,List.all_eq_true,List.all_eq_true,decide_eq_true_iff];unfold ft;rw [List.nodup_append,List.nodup_append];have e1:∀ s,s∈bM [] u.text↔s∈cB u.text:=fun s=>by rw [jr]; simp
 have e2:∀ s,s∈bM (bM [] u.text) u.data↔s∈cB u.text∨s∈cB u.data:=fun s=>by rw [jr,e1]
 simp only [e1,e2,List.mem_append];constructor
 ·rintro ⟨⟨⟨⟨a1,a2,a3⟩,b1,b2,b3⟩,c1,c2,c3⟩,g⟩;refine ⟨a1,b1,c1,⟨⟨a3,b3,fun x hx y hy e=>b2 y hy (e▸hx)⟩,c3,fun x hx y hy e=>c2 y hy (e▸hx)⟩,g⟩
 ·rintro ⟨a1,b1,c1,⟨⟨a3,b3,d⟩,c3,f⟩,g⟩;exact ⟨⟨⟨⟨a1,fun s _=>by simp,a3⟩,b1,fun s hs k=>d s k s hs rfl,b3⟩,c1,fun s hs k=>f s k s hs rfl,c3⟩,g⟩
theorem oJ {α:Type} (f:α→Bool) (l:List α) {i:Nat} (hi:i<l.length):(l.drop i).all f=(f l[i] && (l.drop (i+1)).all f):=by
 rw [List.drop_eq_getElem_cons hi,List.all_cons]
end Go.Sx.Ob
