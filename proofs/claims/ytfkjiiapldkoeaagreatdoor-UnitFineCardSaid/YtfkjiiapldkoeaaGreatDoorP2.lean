/- Contracts over heaps, and plain laws, for the functions that the laws of chapter 9 call, part 2: Sums of names, in plain words: lists of terms with rising names are one where ea Condition: as each statement says. -/
import Derived.Test.YtfkjiiapldkoeaaGreatDoorP1
import Derived.Test.YtfkjiiapldkoeaaGreatDoorAExprU
import Derived.Test.YtfkjiiapldkoeaaGreatDoorAExprX
set_option linter.unusedVariables false
set_option linter.unusedSimpArgs false
set_option linter.deprecated false
set_option maxRecDepth 100000
namespace Go.Sx
open Go.Proofs
variable {K:Value→Hp→Prop} {h':Hp} {ws:List Nat} {r:ByteArray × Nat}
abbrev di:=List (ByteArray × Nat)
def cP (p:ByteArray × Nat):List Value:=[.string p.1,.int .u32 p.2]
def vm (D:di):List (ByteArray × Value):=D.map fun p=>(p.1,Value.int .u32 p.2)
def dA (D:di) (s:ByteArray):Nat:=((D.find? fun p=>decide (s=p.1)).map (·.2)).getD 0
def eI (D:di) (s:ByteArray) (v:Nat):di:=if (D.find? fun p=>decide (s=p.1)).isSome then D.map fun p=>if s=p.1 then (p.1,v) else p else D++[(s,v)]
def jF (D:di) (p:ByteArray × Nat):di:=eI D p.1 ((dA D p.1+p.2) % 4294967296)
def Ga (D:di):di:=(keysOf (vm D)).filterMap fun k=>if dA D ⟨k.toArray⟩=0 then none else some (⟨k.toArray⟩,dA D ⟨k.toArray⟩)
theorem Iy (D:di) (s:ByteArray):(vm D).find? (fun p=>decide (s=p.1))=(D.find? fun p=>decide (s=p.1)).map fun p=>(p.1,Value.int .u32 p.2):=by
 unfold vm
 induction D with
 | nil=>rfl
 | cons p D ih =>
  by_cases h:s=p.1
  ·simp [h]
  ·simp only [List.map_cons,List.find?_cons,decide_eq_false h];exact ih
theorem Dm (D:di) (s:ByteArray):look (vm D) s=(D.find? fun p=>decide (s=p.1)).map fun p=>Value.int .u32 p.2:=by
 unfold look;rw [Iy,Option.map_map] <;> rfl
theorem Ee (D:di) (s:ByteArray):(look (vm D) s).getD (.int .u32 0)=.int .u32 (dA D s):=by
 rw [Dm];unfold dA
 all_goals (cases D.find? fun p=>decide (s=p.1) <;> rfl)
theorem Kb (D:di) (s:ByteArray) (v:Nat):EV (vm D) s (.int .u32 v)=vm (eI D s v):=by
 unfold EV eI;rw [Dm];cases h:(D.find? fun p=>decide (s=p.1)) with
 | none=>simp [vm]
 | some q =>
  simp only [Option.map_some,Option.isSome_some,if_true,vm,List.map_map];refine List.map_congr_left fun p hp=>?_
  simp only [Function.comp];split <;> simp_all
theorem tj (D:di) (s:ByteArray) (v:Nat):(eI D s v).length≤D.length+1:=by
 unfold eI;split <;> simp
theorem JO:(Tryz.prog.info? 92).bind (·.zero)=some (.int .u32 0):=by kernel_rfl
theorem JD:Tryz.prog.underlying 91=some (.slice 109):=by kernel_rfl
theorem JA:(Tryz.prog.info? 109).map (fun i=>(i.zero,i.size,i.bytes))=some (some (.agg #[.string ⟨#[]⟩,.int .u32 0]),2,24):=by kernel_rfl
theorem uv {L:Lp} {h:Hp} {g:Nat} {D:di} (m:eP h g (vm D)) (s:ByteArray) {k:Int→T} (hk:k (dA D s) L K h):T.aY Tryz.prog (Instr.lookup 286 (.map (some g)) (.string s) false) false [(false,[.int .u32])] k L K h:=by
 refine yr Jm Ei JO m s false _ ?_;refine ⟨((dA D s:Int),()),?_,hk⟩;simp only [Bool.false_eq_true,if_false];rw [Ee] <;> rfl
theorem Fb {L:Lp} {h:Hp} {g:Nat} {D:di} (m:eP h g (vm D)) {s:ByteArray} (hs:s.size≤maxLen) {v:Int} {n:Nat} (hv:v=(n:Int)) {k:T} (hk:∀ h',eP h' g (vm (eI D s n))→Ch [g] h h'→h'.size=h.size→k L K h') :
  T.mC Tryz.prog (Instr.mapUpdate 286 (.map (some g)) (.string s) (.int .u32 v)) k L K h:=by
 subst hv;refine rI Jm Ei m hs _ _ ?_;intro h' m' c' z';rw [Kb] at m';exact hk h' m' c' z'
theorem Dc {h:Hp} {g:Nat} {D:di} (m:eP h g (vm D)) (hl:D.length≤2^40) (n:Int) :
  HC Tryz.prog 179 #[.map (some g),.int .u32 n] h fun v h'=>Ext h h'∧∃ p l c,v=.agg #[.slice p l c,.int .u32 n]∧SL h' h.size 109 2 p l c ((Ga D).map cP):=by
 refine aL (args:=[.map (some g),.int .u32 n]) mixed Tryz.func179 (by kernel_rfl) (uy (some g) n) ?_;unfold sQ;refine aW ?_;intro h1 b1 e1 z1;refine aW ?_;intro h2 b2 e2 z2;refine ak b2 rfl (by simp) ?_;intro h3 b3 k3 z3;have b3:aO h3 h1.size 94 [.slice none 0 0,.int .u32 n]:=b3;have e3:Ext h h3:=Ch.trans (e1.trans e2) k3 (fun i hi hl=>by simp at hi; omega);have m3:=m.ah e3 (by simp);have c3:aO h3 h.size 94 [.slice none 0 0,.int .u32 0]:=(b1.ah e2 (by simp)).ah k3 (by simp; omega);refine aC (HR (some g) h3) ?_;rintro _ h4 ⟨rfl,rfl⟩;refine ⟨(.func (.func 202) #[] #[.pointer (some ⟨h3.size,0,none⟩)],()),rfl,?_⟩;dsimp only [flat,aB,ai,nA,cA];have e4:Ext h3 (h3.push (.cells #[.map (some g)] 286)):=Ext.push _ _;have hkl:(vm D).length≤2^40:=by unfold vm; rw [List.length_map]; exact hl
 refine aC (yJ m3 hkl) ?_;rintro _ h5 ⟨pk,lk,ck,rfl,sk,e5⟩;refine ⟨((pk,lk,ck),()),rfl,?_⟩;dsimp only [flat,aB,ai,nA,cA];have e35:=e4.trans e5;have hkeys:(keysOf (vm D)).length≤2^40:=by
  unfold keysOf;rw [List.length_mergeSort,List.length_map];exact hkl
 have hlk:lk=(keysOf (vm D)).length:=by rw [sk.1,List.length_map]
 unfold Ga;generalize keysOf (vm D)=ks at sk hkeys hlk ⊢;have b5:=b3.ah e35 (by simp);have c5:=c3.ah e35 (by simp);have m5:=m3.ah e35 (by simp);have e05:=e3.trans e35;have hz3:=e35.size;have hb3:=b3.lt;have hg:=m.lt;refine bm (cs:=[(false,[.int .i64])]) (fun x w h'=>∃ (i:Nat) (p:Option Addr) (l c:Nat),x.1=(i:Int)∧i≤ks.length∧w=ks.length-i∧Ch [h1.size] h5 h'∧aO h' h1.size 94 [.slice p l c,.int .u32 n] ∧
  SL h' h5.size 109 2 p l c (((ks.take i).filterMap fun k=>if dA D ⟨k.toArray⟩=0 then none else some ((⟨k.toArray⟩:ByteArray),dA D ⟨k.toArray⟩)).map cP)∧l≤i) ((0:Int),()) ks.length rfl
  ⟨0,none,0,0,rfl,by omega,by omega,Ch.refl _ _,b5,SL.nil _ _ _ _,by omega⟩ ?_
 rintro ⟨n8,⟨⟩⟩ w h6 ⟨i,p,l,c,hi,hile,rfl,k6,b6,s6,hli⟩;simp only at hi;subst hi;dsimp only [flat,aB,ai,nA,cA];have m6:=m5.ah k6 (by simp; omega);have hz6:=k6.size;have e06:Ext h h6:=Ch.trans e05 k6 (fun j hj hl=>by simp at hj; omega);refine af (fun g1=>?_) (fun g1=>?_)
 ·have g1:=of_decide_eq_true g1;have hilt:i<ks.length:=by omega
  have sk6:=sk.aT k6 (fun j hj=>by have:=(sk.bO hj).1; simp; omega);obtain ⟨a,rfl,hc⟩:=sk6.cells (i:=i) (by simpa using hilt);rw [List.getElem_map] at hc;have htk:ks.take (i+1)=ks.take i++[ks[i]]:=List.take_succ_eq_append_getElem hilt;generalize ks[i]=k at hc htk;refine aA ⟨by omega,by omega⟩ (an rfl ?_);rw [show Int.toNat (i:Int)=i by omega];refine aG ((⟨k.toArray⟩:ByteArray),()) hc ?_;dsimp only [flat,aB,ai,nA,cA];have hw:IntKind.wrap .i64 ((i:Int)+1)=((i+1:Nat):Int):=by rw [wrap_i64 (by omega) (by omega)]; omega
  refine uv m6 _ (af (fun g2=>?_) (fun g2=>?_))
  ·have g2:((dA D ⟨k.toArray⟩:Nat):Int)≠0:=by simpa using g2
   refine ad b6 ((p,l,c),()) rfl ?_;dsimp only [flat,aB,ai,nA,cA];refine uv m6 _ ?_;refine nS (vs:=cP (⟨k.toArray⟩,dA D ⟨k.toArray⟩)) JD JA rfl (by omega) (by omega) (by kernel_rfl) rfl rfl s6 hz6 (by omega) (by omega) ?_;intro p' c' h7 s7 k7 hp7;have b7:=b6.ah k7 (fun hh=>by have:=(s6.bO hh).1; omega);refine ak b7 rfl (by simp) ?_;intro h8 b8 k8 z8;refine aM (cs:=[(false,[.int .i64])]) (((i+1:Nat):Int),()) (ks.length-(i+1)) rfl (by omega) (congrArg (fun z=>[Value.int .i64 z]) hw) ⟨i+1,p',l+1,c',rfl,by omega,rfl,?_,b8,?_,by omega⟩
   ·exact Ch.trans (Ch.trans k6 k7 (fun j hj hl=>by have:=(s6.bO hj).1; omega)) k8 (fun j hj _=>hj)
   ·rw [htk,List.filterMap_append,List.map_append];have hf:([k].filterMap fun k=>if dA D ⟨k.toArray⟩=0 then none else some ((⟨k.toArray⟩:ByteArray),dA D ⟨k.toArray⟩))=[((⟨k.toArray⟩:ByteArray),dA D ⟨k.toArray⟩)]:=by
     simp only [List.filterMap_cons,List.filterMap_nil];rw [if_neg (by omega)]
    rw [hf];exact s7.aT k8 (fun j hj=>by have:=(s7.bO hj).1; simp; omega)
  ·have g2:((dA D ⟨k.toArray⟩:Nat):Int)=0:=by simpa using g2
   refine aM (cs:=[(false,[.int .i64])]) (((i+1:Nat):Int),()) (ks.length-(i+1)) rfl (by omega) (congrArg (fun z=>[Value.int .i64 z]) hw) ⟨i+1,p,l,c,rfl,by omega,rfl,k6,b6,?_,by omega⟩;rw [htk,List.filterMap_append];have hf:([k].filterMap fun k=>if dA D ⟨k.toArray⟩=0 then none else some ((⟨k.toArray⟩:ByteArray),dA D ⟨k.toArray⟩))=[]:=by
    simp only [List.filterMap_cons,List.filterMap_nil];rw [if_pos (by omega)]
   rw [hf,List.append_nil];exact s6
 ·have g1:=of_decide_eq_false g1;have hi:i=ks.length:=by omega
  subst hi;rw [List.take_length] at s6;have c6:=c5.ah k6 (by simp; omega);refine ad b6 ((p,l,c),n,()) rfl ?_;dsimp only [flat,aB,ai,nA,cA];refine ak c6 rfl (by simp) ?_;intro h7 b7 k7 z7;have b7:aO h7 h.size 94 [.slice p l c,.int .u32 n]:=b7;refine ad b7 ((p,l,c),n,()) rfl ?_;have hz5:=e05.size;exact ⟨Ch.trans e06 k7 (fun j hj hl=>by simp at hj; omega),p,l,c,rfl,(s6.aT k7 (fun j hj=>by have:=(s6.bO hj).1; simp; omega)).mono (by omega)⟩
structure qt (h:Hp) (p:Option Addr) (l:Nat) (us:di):Prop where
 len:l=us.length
 cells:∀ i,(hi:i<us.length)→∃ a,p=some a∧aH h (a.add (i*2)) 0 (cP us[i])
theorem qt.ah {h:Hp} {p:Option Addr} {l:Nat} {us:di} (v:qt h p l us) (k:Ch ws h h') (hw:∀ i,i∈az p→i∉ws):qt h' p l us :=
 ⟨v.len,fun i hi=>by
  obtain ⟨a,ha,hc⟩:=v.cells i hi;exact ⟨a,ha,bt k (by rw [gN]; exact hw _ (by rw [ha]; simp [az])) _ _ hc⟩⟩
theorem SL.FL {h:Hp} {b:Nat} {e:TypeId} {p:Option Addr} {l c:Nat} {us:di} (s:SL h b e 2 p l c (us.map cP)):qt h p l us:=by
 refine ⟨by rw [s.1,List.length_map],fun i hi=>?_⟩;obtain ⟨a,ha,hc⟩:=s.cells (i:=i) (by simpa using hi);rw [List.getElem_map] at hc;exact ⟨a,ha,hc⟩
structure eS where
 aw:di
 num:Nat
def oR (p:Option Addr) (l c:Nat) (x:eS):Value:=.agg #[.slice p l c,.int .u32 x.num]
def JH (l:di):di:=Ga (l.foldl jF [])
def fb (x:eS) (n:Nat):eS:=⟨JH (x.aw.map fun p=>(p.1,p.2*n % 4294967296)),x.num*n % 4294967296⟩
def vp (x y:eS):eS:=⟨JH (x.aw++y.aw),(x.num+y.num) % 4294967296⟩
theorem fP (x:Int):IntKind.wrap .u32 x=x % 4294967296:=by
 simp only [IntKind.wrap] <;> rfl
theorem nv (a:Nat):((a % 4294967296:Nat):Int)=(a:Int) % 4294967296:=Int.natCast_emod a 4294967296
theorem qC {h:Hp} {p:Option Addr} {l c:Nat} {x:eS} (v:qt h p l x.aw) (hl:x.aw.length≤2^40) (hs:∀ t,t∈x.aw→t.1.size≤maxLen) (n:Nat) :
  HC Tryz.prog 156 #[oR p l c x,.int .u32 n] h fun w h'=>Ext h h'∧∃ p' l' c',w=oR p' l' c' (fb x n)∧SL h' h.size 109 2 p' l' c' ((fb x n).aw.map cP):=by
 refine aL (args:=[.agg #[.slice p l c,.int .u32 x.num],.int .u32 n]) mixed Tryz.func156 (by kernel_rfl) (tV p l c x.num n) ?_;unfold qS;refine aW ?_;intro h1 b1 e1 z1;refine aW ?_;intro h2 b2 e2 z2;refine pH _ ?_;intro h3 m3 e3 z3;refine ⟨(some h2.size,()),rfl,?_⟩;dsimp only [flat,aB,ai,nA,cA];have c3:=(b1.ah e2 (by simp)).ah e3 (by simp);have b3:=b2.ah e3 (by simp);have e03:=(e1.trans e2).trans e3;have v3:=v.ah e03 (by simp);have hll:=v.len;refine ad c3 ((p,l,c),()) rfl ?_;dsimp only [flat,aB,ai,nA,cA];refine bm (cs:=[(false,[.int .i64])]) (fun y w h'=>∃ (i:Nat),y.1=(i:Int)∧i≤x.aw.length∧w=x.aw.length-i∧Ch [h2.size] h3 h' ∧
  eP h' h2.size (vm (((x.aw.take i).map fun p=>(p.1,p.2*n % 4294967296)).foldl jF []))∧(((x.aw.take i).map fun p=>(p.1,p.2*n % 4294967296)).foldl jF []).length≤i) ((0:Int),()) x.aw.length rfl
  ⟨0,rfl,by omega,by omega,Ch.refl _ _,m3,by simp⟩ ?_
 rintro ⟨n8,⟨⟩⟩ w h4 ⟨i,hi,hile,rfl,k4,m4,hD⟩;simp only at hi;subst hi;dsimp only [flat,aB,ai,nA,cA];have hz4:=k4.size;have e04:Ext h h4:=Ch.trans e03 k4 (fun j hj hl=>by simp at hj; omega);refine af (fun g1=>?_) (fun g1=>?_)
 ·have g1:=of_decide_eq_true g1;have hilt:i<x.aw.length:=by omega
  obtain ⟨a,rfl,hc⟩:=(v.ah e04 (by simp)).cells i hilt;have htk:x.aw.take (i+1)=x.aw.take i++[x.aw[i]]:=List.take_succ_eq_append_getElem hilt;have hsz:=hs x.aw[i] (List.getElem_mem hilt);generalize x.aw[i]=t at hc htk hsz;refine aA ⟨by omega,by omega⟩ (an rfl ?_);rw [show Int.toNat (i:Int)=i by omega];refine aG (t.1,(t.2:Int),()) hc ?_;dsimp only [flat,aB,ai,nA,cA];refine aW ?_;intro h5 b5 e5 z5;refine ak b5 rfl (by simp) ?_;intro h6 b6 k6 z6;have b6:aO h6 h4.size 109 (cP t):=b6;have e46:Ext h4 h6:=Ch.trans e5 k6 (fun j hj hl=>by simp at hj; omega);have m6:=m4.ah e46 (by simp);have hlt4:=m4.lt;refine ad b6 (t.1,()) rfl ?_;dsimp only [flat,aB,ai,nA,cA];refine uv m6 _ ?_;rw [ao];refine ad b6 ((t.2:Int),()) rfl ?_;dsimp only [flat,aB,ai,nA,cA];generalize hDD:((x.aw.take i).map fun p=>(p.1,p.2*n % 4294967296)).foldl jF []=D at m6 hD;refine Fb (n:=(dA D t.1+t.2*n % 4294967296) % 4294967296) m6 hsz ?_ ?_
  ·rw [fP,fP,nv,Int.natCast_add,nv,Int.natCast_mul]
  ·intro h7 m7 k7 z7;have hw:IntKind.wrap .i64 ((i:Int)+1)=((i+1:Nat):Int):=by rw [wrap_i64 (by omega) (by omega)]; omega
   have hf:((x.aw.take (i+1)).map fun p=>(p.1,p.2*n % 4294967296)).foldl jF []=eI D t.1 ((dA D t.1+t.2*n % 4294967296) % 4294967296):=by
    rw [htk,List.map_append,List.foldl_append,hDD] <;> rfl
   refine aM (cs:=[(false,[.int .i64])]) (((i+1:Nat):Int),()) (x.aw.length-(i+1)) rfl (by omega) (congrArg (fun z=>[Value.int .i64 z]) hw) ⟨i+1,rfl,by omega,rfl,?_,by rw [hf]; exact m7,?_⟩
   ·exact Ch.trans (Ch.trans k4 e46 (by simp)) k7 (fun j hj _=>hj)
   ·rw [hf]
    have:=tj D t.1 ((dA D t.1+t.2*n % 4294967296) % 4294967296)
    omega
 ·have g1:=of_decide_eq_false g1;have hi:i=x.aw.length:=by omega
  subst hi;rw [List.take_length] at m4 hD;have c4:=c3.ah k4 (by simp; omega);have b4:=b3.ah k4 (by simp; omega);rw [ao];refine ad c4 ((x.num:Int),()) rfl ?_;dsimp only [flat,aB,ai,nA,cA];refine aC (Dc m4 (by omega) _) ?_;rintro _ h5 ⟨e5,p',l',c',rfl,s5⟩;refine ⟨((p',l',c'),IntKind.wrap .u32 ((x.num:Int)*(n:Int)),()),rfl,?_⟩;dsimp only [flat,aB,ai,nA,cA];refine ak (b4.ah e5 (by simp)) rfl (by simp) ?_;intro h6 b6 k6 z6;have b6:aO h6 h1.size 94 [.slice p' l' c',.int .u32 (IntKind.wrap .u32 ((x.num:Int)*(n:Int)))]:=b6;refine ad b6 ((p',l',c'),IntKind.wrap .u32 ((x.num:Int)*(n:Int)),()) rfl ?_;have hz5:=e04.size;refine ⟨Ch.trans (e04.trans e5) k6 (fun j hj hl=>by simp at hj; omega),p',l',c',?_,(s5.aT k6 (fun j hj=>by have:=(s5.bO hj).1; simp; omega)).mono (by omega)⟩;unfold oR fb;rw [fP];dsimp only;rw [nv,Int.natCast_mul]
def jO (a b:ByteArray):Prop:=a.data.toList<b.data.toList
instance (a b:ByteArray):Decidable (jO a b):=inferInstanceAs (Decidable (a.data.toList<b.data.toList))
theorem wC (a:ByteArray):¬ jO a a:=List.lt_irrefl (α:=UInt8) _
theorem iQ {a b c:ByteArray} (h:jO a b) (k:jO b c):jO a c:=List.lt_trans (α:=UInt8) h k
theorem F8 {a b:ByteArray} (h:a.data.toList=b.data.toList):a=b:=by
 cases a; cases b;simp only at h;rw [Array.toList_inj.1 h]
theorem qN (a b:ByteArray) (h:¬ jO a b) (k:¬ jO b a):a=b :=
 F8 (List.le_antisymm (α:=UInt8) (List.not_lt.1 k) (List.not_lt.1 h))
theorem wK {a b:ByteArray} (h:jO a b):a≠b:=fun e=>by subst e; exact wC _ h
theorem Ea {a b:ByteArray} (h:jO a b):¬ jO b a:=fun k=>wC _ (iQ h k)
structure Nf (l:di):Prop where
 Mk:l.Pairwise fun p q=>jO p.1 q.1
 GV:∀ p,p∈l→p.2≠0∧p.2<4294967296
def cf:di→ByteArray→Nat
 | [],_=>0
 | p::l,s=>(if p.1=s then p.2 else 0)+cf l s
theorem zw (s:ByteArray):cf [] s=0:=rfl
theorem fk (p:ByteArray × Nat) (l:di) (s:ByteArray):cf (p::l) s=(if p.1=s then p.2 else 0)+cf l s:=rfl
theorem Nf.tail {p:ByteArray × Nat} {l:di} (h:Nf (p::l)):Nf l:=⟨(List.pairwise_cons.1 h.1).2,fun q hq=>h.2 q (List.mem_cons_of_mem _ hq)⟩
theorem Nf.head {p:ByteArray × Nat} {l:di} (h:Nf (p::l)):∀ q,q∈l→jO p.1 q.1:=(List.pairwise_cons.1 h.1).1
theorem Nf.nil:Nf []:=⟨List.Pairwise.nil,by simp⟩
theorem CW {l:di} {s:ByteArray} (h:∀ p,p∈l→p.1≠s):cf l s=0:=by
 induction l with
 | nil=>rfl
 | cons p l ih =>
  rw [fk,if_neg (h p (List.mem_cons_self ..)),ih fun q hq=>h q (List.mem_cons_of_mem _ hq)]
theorem EN (l m:di) (s:ByteArray):cf (l++m) s=cf l s+cf m s:=by
 induction l with
 | nil=>simp [cf]
 | cons p l ih=>simp only [List.cons_append,cf,ih]; omega
theorem Nf.oz {p:ByteArray × Nat} {l:di} (h:Nf (p::l)):cf (p::l) p.1=p.2:=by
 rw [fk,if_pos rfl,CW fun q hq=>(wK (h.head q hq)).symm] <;> rfl
theorem Nf.y7 {l:di} {s:ByteArray} (h:∀ p,p∈l→jO s p.1):cf l s=0:=CW fun p hp=>(wK (h p hp)).symm
theorem Nf.It:∀ {l m:di},Nf l→Nf m→(∀ s,cf l s % 4294967296=cf m s % 4294967296)→l=m
 | [],[],_,_,_=>rfl
 | [],q::m,_,hm,h=>by
  have:=h q.1
  rw [hm.oz] at this;have hq:=hm.GV q (List.mem_cons_self ..);simp only [cf] at this;omega
 | p::l,[],hl,_,h=>by
  have:=h p.1
  rw [hl.oz] at this;have hq:=hl.GV p (List.mem_cons_self ..);simp only [cf] at this;omega
 | p::l,q::m,hl,hm,h=>by
  have hp:=hl.GV p (List.mem_cons_self ..);have hq:=hm.GV q (List.mem_cons_self ..)
  by_cases h1:jO p.1 q.1
  ·exfalso
   have:=h p.1
   rw [hl.oz,Nf.y7 (l:=q::m) (s:=p.1) (by
    intro r hr;rcases List.mem_cons.1 hr with rfl | hr
    ·exact h1
    ·exact iQ h1 (hm.head r hr))] at this
   omega
  ·by_cases h2:jO q.1 p.1
   ·exfalso
    have:=h q.1
    rw [hm.oz,Nf.y7 (l:=p::l) (s:=q.1) (by
     intro r hr;rcases List.mem_cons.1 hr with rfl | hr
     ·exact h2
     ·exact iQ h2 (hl.head r hr))] at this
    omega
   ·have he:=qN _ _ h1 h2;have h3:=h p.1;rw [hl.oz,he,hm.oz] at h3;have hpq:p=q:=by
     obtain ⟨a,b⟩:=p;obtain ⟨c,d⟩:=q;simp only at he h3 hp hq;subst he
     congr 1
     rw [Nat.mod_eq_of_lt hp.2,Nat.mod_eq_of_lt hq.2] at h3;exact h3
    subst hpq
    congr 1
    refine Nf.It hl.tail hm.tail fun s=>?_
    by_cases hs:p.1=s
    ·subst hs;rw [Nf.y7 hl.head,Nf.y7 hm.head]
    ·have:=h s
     simp only [cf,if_neg hs,Nat.zero_add] at this;exact this
/-! What 'made' makes. -/
theorem mG (s:ByteArray):dA [] s=0:=rfl
theorem kN (p:ByteArray × Nat) (D:di) (s:ByteArray):dA (p::D) s=if s=p.1 then p.2 else dA D s:=by
 unfold dA;rw [List.find?_cons]
 by_cases h:s=p.1
 ·simp [h]
 ·simp [h]
theorem Bj (D:di) (s t:ByteArray) (v:Nat):dA (D++[(t,v)]) s=if (D.find? fun p=>decide (s=p.1)).isSome then dA D s else if s=t then v else 0:=by
 induction D with
 | nil=>simp [kN,mG]
 | cons p D ih =>
  rw [List.cons_append,kN,kN,ih,List.find?_cons]
  by_cases h:s=p.1
  ·simp [h]
  ·simp only [decide_eq_false h,if_neg h]
theorem xF {D:di} {s:ByteArray} (h:(D.find? fun p=>decide (s=p.1)).isSome=false):dA D s=0:=by
 unfold dA;cases hf:(D.find? fun p=>decide (s=p.1)) with
 | none=>rfl
 | some x=>rw [hf] at h; cases h
theorem Gk (D:di) (t:ByteArray) (v:Nat) (s:ByteArray):dA (D.map fun p=>if t=p.1 then (p.1,v) else p) s=if s=t∧(D.find? fun p=>decide (t=p.1)).isSome then v else dA D s:=by
 induction D with
 | nil=>simp [mG]
 | cons p D ih =>
  rw [List.map_cons,kN,ih,kN,List.find?_cons]
  by_cases h:t=p.1
  ·subst h
   by_cases k:s=p.1 <;> simp [k]
  ·rw [if_neg h]
   by_cases k:s=p.1
   ·subst k
    have:¬ p.1=t:=fun e=>h e.symm
    simp [this]
   ·simp only [decide_eq_false h,if_neg k]
theorem xY (D:di) (t:ByteArray) (v:Nat) (s:ByteArray):dA (eI D t v) s=if s=t then v else dA D s:=by
 unfold eI;split
 ·rename_i hh;rw [Gk]
  by_cases k:s=t <;> simp [k,hh]
 ·rename_i hh;rw [Bj]
  by_cases k:s=t
  ·subst k;simp [hh]
  ·rw [if_neg k];split
   ·rfl
   ·rename_i h2;rw [xF (Bool.eq_false_iff.2 h2)]
theorem CS (l:di) (s:ByteArray):∀ D:di,dA (l.foldl jF D) s % 4294967296=(dA D s+cf l s) % 4294967296:=by
 induction l with
 | nil=>intro D; simp [cf]
 | cons p l ih =>
  intro D;rw [List.foldl_cons,ih];unfold jF;rw [fk,xY]
  by_cases h:s=p.1
  ·subst h;rw [if_pos rfl,if_pos rfl,Nat.mod_add_mod]
   congr 1; omega
  ·rw [if_neg h,if_neg fun e=>h e.symm]
   congr 1; omega
theorem CR {D:di} (h:(D.map (·.1)).Nodup) (t:ByteArray) (v:Nat):((eI D t v).map (·.1)).Nodup:=by
 unfold eI;have h1:(D.find? fun p=>decide (t=p.1)).isSome=true↔t∈D.map (·.1):=by
  rw [List.find?_isSome];simp [eq_comm]
 split
 ·have e:(D.map fun p=>if t=p.1 then (p.1,v) else p).map (·.1)=D.map (·.1):=by
   rw [List.map_map];refine List.map_congr_left fun p hp=>?_
   simp only [Function.comp];split <;> rfl
  rw [e]; exact h
 ·rename_i hn;rw [List.map_append,List.nodup_append];refine ⟨h,by simp,?_⟩;rintro a ha b hb rfl;simp only [List.map_cons,List.map_nil,List.mem_singleton] at hb;subst hb;exact hn (h1.2 ha)
theorem wz (l:di):∀ D:di,(D.map (·.1)).Nodup→((l.foldl jF D).map (·.1)).Nodup:=by
 induction l with
 | nil=>intro D h; exact h
 | cons p l ih =>
  intro D h;rw [List.foldl_cons];exact ih _ (CR h _ _)
theorem C4 (l:di):∀ D:di,(∀ s,dA D s<4294967296)→∀ s,dA (l.foldl jF D) s<4294967296:=by
 induction l with
 | nil=>intro D h; exact h
 | cons p l ih =>
  intro D h;rw [List.foldl_cons];refine ih _ fun s=>?_
  unfold jF;rw [xY];split
  ·exact Nat.mod_lt _ (by decide)
  ·exact h s
theorem Gx {D:di} {s:ByteArray} (h:s∉D.map (·.1)):dA D s=0:=by
 refine xF ?_;cases hf:(D.find? fun p=>decide (s=p.1)).isSome with
 | false=>rfl
 | true =>
  rw [List.find?_isSome] at hf;obtain ⟨x,hx,hs⟩:=hf;exact absurd (List.mem_map.2 ⟨x,hx,(of_decide_eq_true hs).symm⟩) h
def pick (g:ByteArray→Nat) (ks:List (List UInt8)):di:=ks.filterMap fun k=>if g ⟨k.toArray⟩=0 then none else some (⟨k.toArray⟩,g ⟨k.toArray⟩)
theorem HH (g:ByteArray→Nat) (s:ByteArray):∀ ks:List (List UInt8),ks.Nodup→cf (pick g ks) s=if s.data.toList∈ks then g s else 0:=by
 intro ks
 induction ks with
 | nil=>intro _; simp [pick,cf]
 | cons k ks ih =>
  intro h;rw [List.nodup_cons] at h;have ih:=ih h.2;unfold pick at ih ⊢;rw [List.filterMap_cons];have e1:(⟨k.toArray⟩:ByteArray)=s↔s.data.toList=k:=by
   constructor
   ·rintro rfl; simp
   ·intro e; exact F8 (by simp [e])
  by_cases hk:s.data.toList=k
  ·have hs:=e1.2 hk;rw [hs];split
   ·rename_i hg;split at hg
    ·rename_i h0;rw [ih,h0]
     simp
    ·cases hg
   ·rename_i hg;split at hg
    ·cases hg
    ·cases hg;rw [fk,ih,if_pos rfl,if_neg (by rw [hk]; exact h.1),if_pos (by rw [hk]; simp)] <;> rfl
  ·have hs:¬ (⟨k.toArray⟩:ByteArray)=s:=fun e=>hk (e1.1 e)
   split
   ·rw [ih];simp [hk]
   ·rename_i hg;split at hg
    ·cases hg
    ·cases hg;rw [fk,ih,if_neg hs];simp [hk]
theorem H0 (g:ByteArray→Nat) (hg:∀ s,g s<4294967296) {ks:List (List UInt8)} (h:ks.Pairwise fun a b=>a<b):Nf (pick g ks):=by
 refine ⟨?_,?_⟩
 ·unfold pick;refine List.Pairwise.filterMap _ ?_ h;intro a b hab p hp q hq;split at hp
  ·cases hp
  ·split at hq
   ·cases hq
   ·cases hp; cases hq;unfold jO;simpa using hab
 ·intro p hp;unfold pick at hp;rw [List.mem_filterMap] at hp;obtain ⟨k,_,hk⟩:=hp;split at hk
  ·cases hk
  ·rename_i h0;cases hk;exact ⟨h0,hg _⟩
theorem tf (D:di):(keysOf (vm D)).Perm (D.map fun p=>p.1.data.toList):=by
 unfold keysOf vm;rw [List.map_map];exact List.mergeSort_perm _ _
theorem pc {D:di} (h:(D.map (·.1)).Nodup):(keysOf (vm D)).Pairwise fun a b=>a<b:=by
 have hn:(keysOf (vm D)).Nodup:=by
  refine (tf D).nodup_iff.2 ?_
  have:(D.map fun p=>p.1.data.toList)=(D.map (·.1)).map fun s=>s.data.toList:=by rw [List.map_map]; rfl
  rw [this];exact List.pairwise_map.2 (h.imp fun hne e=>hne (F8 e))
 have hs:(keysOf (vm D)).Pairwise fun a b=>a≤b:=by
  unfold keysOf;refine (List.pairwise_mergeSort ?_ ?_ _).imp ?_
  ·intro a b c h1 h2;exact decide_eq_true (List.le_trans (α:=UInt8) (of_decide_eq_true h1) (of_decide_eq_true h2))
  ·intro a b;simp only [Bool.or_eq_true,decide_eq_true_eq];exact List.le_total (α:=UInt8) a b
  ·intro a b hab;exact of_decide_eq_true hab
 refine (hs.and hn).imp ?_;rintro a b ⟨h1,h2⟩
 by_cases hlt:a<b
 ·exact hlt
 ·exact absurd (List.le_antisymm (α:=UInt8) h1 (List.not_lt.1 hlt)) h2
theorem AA (l:di):JH l=pick (dA (l.foldl jF [])) (keysOf (vm (l.foldl jF []))):=rfl
theorem GD (l:di):Nf (JH l):=by
 rw [AA];exact H0 _ (C4 l [] (fun s=>by rw [mG]; decide)) (pc (wz l [] (by simp)))
theorem GP (l:di) (s:ByteArray):cf (JH l) s=cf l s % 4294967296:=by
 have h1:=CS l s [];rw [mG,Nat.zero_add,Nat.mod_eq_of_lt (C4 l [] (fun s=>by rw [mG]; decide) s)] at h1;rw [AA,HH _ _ _ ((pc (wz l [] (by simp))).imp fun h e=>by subst e; exact List.lt_irrefl (α:=UInt8) _ h)];split
 ·exact h1
 ·rename_i hn;rw [← h1,Gx];intro hm;refine hn ((tf _).mem_iff.2 ?_);obtain ⟨p,hp,rfl⟩:=List.mem_map.1 hm;exact List.mem_map.2 ⟨p,hp,rfl⟩
/-! The reference's sums and products. -/
def ep (n:Nat) (l:di):di:=l.filterMap fun p=>if p.2*n % 4294967296=0 then none else some (p.1,p.2*n % 4294967296)
def gI:Nat→di→di→di
 | 0,_,_=>[]
 | n+1,x,y=>match x,y with
  | [],[]=>[]
  | p::x,[]=>p::gI n x []
  | [],q::y=>q::gI n [] y
  | p::x,q::y=>if jO p.1 q.1 then p::gI n x (q::y) else if jO q.1 p.1 then q::gI n (p::x) y else if (p.2+q.2) % 4294967296=0 then gI n x y else (p.1,(p.2+q.2) % 4294967296)::gI n x y
def D6 (x y:di):di:=gI (x.length+y.length) x y
theorem sG {n:Nat} {l:di} (h:Nf l):Nf (ep n l):=by
 refine ⟨?_,?_⟩
 ·unfold ep;refine List.Pairwise.filterMap _ ?_ h.1;intro a b hab p hp q hq;split at hp
  ·cases hp
  ·split at hq
   ·cases hq
   ·cases hp; cases hq;exact hab
 ·intro p hp;unfold ep at hp;rw [List.mem_filterMap] at hp;obtain ⟨k,_,hk⟩:=hp;split at hk
  ·cases hk
  ·rename_i h0;cases hk;exact ⟨h0,Nat.mod_lt _ (by decide)⟩
theorem yH (n:Nat) (l:di) (s:ByteArray):cf (ep n l) s % 4294967296=cf l s*n % 4294967296:=by
 induction l with
 | nil=>simp [ep,cf]
 | cons p l ih =>
  have hc:cf (ep n (p::l)) s=(if p.1=s then p.2*n % 4294967296 else 0)+cf (ep n l) s:=by
   unfold ep;rw [List.filterMap_cons];split
   ·rename_i hg;split at hg
    ·rename_i h0;rw [h0]; simp
    ·cases hg
   ·rename_i hg;split at hg
    ·cases hg
    ·cases hg;rfl
  rw [hc,Nat.add_mod,ih,fk]
  by_cases h:p.1=s
  ·rw [if_pos h,if_pos h,Nat.add_mul,Nat.mod_mod,← Nat.add_mod]
  ·rw [if_neg h,if_neg h,Nat.zero_add]; simp
theorem kL {n:Nat} {x y:di} (h:r∈gI n x y):(∃ p,p∈x∧p.1=r.1)∨(∃ q,q∈y∧q.1=r.1):=by
 induction n generalizing x y with
 | zero=>simp [gI] at h
 | succ n ih =>
  rcases x with _ | ⟨p,x⟩ <;> rcases y with _ | ⟨q,y⟩
  ·simp [gI] at h
  ·simp only [gI,List.mem_cons] at h;rcases h with rfl | h
   ·exact .inr ⟨_,by simp,rfl⟩
   ·rcases ih h with ⟨a,ha,e⟩ | ⟨a,ha,e⟩
    ·simp at ha
    ·exact .inr ⟨a,by simp [ha],e⟩
  ·simp only [gI,List.mem_cons] at h;rcases h with rfl | h
   ·exact .inl ⟨_,by simp,rfl⟩
   ·rcases ih h with ⟨a,ha,e⟩ | ⟨a,ha,e⟩
    ·exact .inl ⟨a,by simp [ha],e⟩
    ·simp at ha
  ·simp only [gI] at h;split at h
   ·rcases List.mem_cons.1 h with rfl | h
    ·exact .inl ⟨_,by simp,rfl⟩
    ·rcases ih h with ⟨a,ha,e⟩ | ⟨a,ha,e⟩
     ·exact .inl ⟨a,by simp [ha],e⟩
     ·exact .inr ⟨a,ha,e⟩
   ·split at h
    ·rcases List.mem_cons.1 h with rfl | h
     ·exact .inr ⟨_,by simp,rfl⟩
     ·rcases ih h with ⟨a,ha,e⟩ | ⟨a,ha,e⟩
      ·exact .inl ⟨a,ha,e⟩
      ·exact .inr ⟨a,by simp [ha],e⟩
    ·split at h
     ·rcases ih h with ⟨a,ha,e⟩ | ⟨a,ha,e⟩
      ·exact .inl ⟨a,by simp [ha],e⟩
      ·exact .inr ⟨a,by simp [ha],e⟩
     ·rcases List.mem_cons.1 h with rfl | h
      ·exact .inl ⟨p,by simp,rfl⟩
      ·rcases ih h with ⟨a,ha,e⟩ | ⟨a,ha,e⟩
       ·exact .inl ⟨a,by simp [ha],e⟩
       ·exact .inr ⟨a,by simp [ha],e⟩
theorem Nf.cons {p:ByteArray × Nat} {l:di} (h:Nf l) (hc:p.2≠0∧p.2<4294967296) (hl:∀ q,q∈l→jO p.1 q.1):Nf (p::l) :=
 ⟨List.pairwise_cons.2 ⟨hl,h.1⟩,fun q hq=>by rcases List.mem_cons.1 hq with rfl | hq; exact hc; exact h.2 q hq⟩
theorem IS {n:Nat} {x y:di} (hx:Nf x) (hy:Nf y):Nf (gI n x y):=by
 induction n generalizing x y with
 | zero=>exact Nf.nil
 | succ n ih =>
  rcases x with _ | ⟨p,x⟩ <;> rcases y with _ | ⟨q,y⟩
  ·exact Nf.nil
  ·simp only [gI];refine (ih Nf.nil hy.tail).cons (hy.2 q (by simp)) fun r hr=>?_
   rcases kL hr with ⟨a,ha,e⟩ | ⟨a,ha,e⟩
   ·simp at ha
   ·rw [← e]; exact hy.head a ha
  ·simp only [gI];refine (ih hx.tail Nf.nil).cons (hx.2 p (by simp)) fun r hr=>?_
   rcases kL hr with ⟨a,ha,e⟩ | ⟨a,ha,e⟩
   ·rw [← e]; exact hx.head a ha
   ·simp at ha
  ·simp only [gI];split
   ·rename_i h1;refine (ih hx.tail hy).cons (hx.2 p (by simp)) fun r hr=>?_
    rcases kL hr with ⟨a,ha,e⟩ | ⟨a,ha,e⟩
    ·rw [← e]; exact hx.head a ha
    ·rw [← e];rcases List.mem_cons.1 ha with rfl | ha
     ·exact h1
     ·exact iQ h1 (hy.head a ha)
   ·rename_i h1;split
    ·rename_i h2;refine (ih hx hy.tail).cons (hy.2 q (by simp)) fun r hr=>?_
     rcases kL hr with ⟨a,ha,e⟩ | ⟨a,ha,e⟩
     ·rw [← e];rcases List.mem_cons.1 ha with rfl | ha
      ·exact h2
      ·exact iQ h2 (hx.head a ha)
     ·rw [← e]; exact hy.head a ha
    ·rename_i h2;have he:=qN _ _ h1 h2;split
     ·exact ih hx.tail hy.tail
     ·rename_i h0;refine (ih hx.tail hy.tail).cons ⟨h0,Nat.mod_lt _ (by decide)⟩ fun r hr=>?_
      rcases kL hr with ⟨a,ha,e⟩ | ⟨a,ha,e⟩
      ·rw [← e]; exact hx.head a ha
      ·rw [← e];show jO p.1 a.1;rw [he]; exact hy.head a ha
theorem IL {n:Nat} {x y:di} (hn:x.length+y.length≤n) (s:ByteArray):cf (gI n x y) s % 4294967296=(cf x s+cf y s) % 4294967296:=by
 induction n generalizing x y with
 | zero =>
  have h1:x=[]:=List.length_eq_zero_iff.1 (by omega);have h2:y=[]:=List.length_eq_zero_iff.1 (by omega);subst h1 h2;rfl
 | succ n ih =>
  rcases x with _ | ⟨p,x⟩ <;> rcases y with _ | ⟨q,y⟩
  ·rfl
  ·simp only [gI,fk,zw]
   have:=ih (x:=[]) (y:=y) (by simp at hn ⊢; omega)
   simp only [zw] at this;omega
  ·simp only [gI,fk,zw]
   have:=ih (x:=x) (y:=[]) (by simp at hn ⊢; omega)
   simp only [zw] at this;omega
  ·simp only [List.length_cons] at hn;simp only [gI];split
   ·have:=ih (x:=x) (y:=q::y) (by simp; omega)
    simp only [fk] at this ⊢;omega
   ·rename_i h1;split
    ·have:=ih (x:=p::x) (y:=y) (by simp; omega)
     simp only [fk] at this ⊢;omega
    ·rename_i h2;have he:=qN _ _ h1 h2
     have:=ih (x:=x) (y:=y) (by omega)
     split
     ·rename_i h0;simp only [fk,← he];split
      ·omega
      ·omega
     ·simp only [fk,← he];split
      ·omega
      ·omega
theorem Dr {x y:di} (hx:Nf x) (hy:Nf y):Nf (D6 x y):=IS hx hy
theorem Ij (x y:di) (s:ByteArray):cf (D6 x y) s % 4294967296=(cf x s+cf y s) % 4294967296:=IL (Nat.le_refl _) s
theorem Gt {x y:di} (hx:Nf x) (hy:Nf y):JH (x++y)=D6 x y :=
 Nf.It (GD _) (Dr hx hy) fun s=>by rw [GP,Ij,EN,Nat.mod_mod]
theorem yX (n:Nat) (l:di) (s:ByteArray):cf (l.map fun p=>(p.1,p.2*n % 4294967296)) s % 4294967296=cf l s*n % 4294967296:=by
 induction l with
 | nil=>simp [cf]
 | cons p l ih =>
  simp only [List.map_cons,cf];rw [Nat.add_mod,ih]
  by_cases h:p.1=s
  ·rw [if_pos h,if_pos h,Nat.add_mul,Nat.mod_mod,← Nat.add_mod]
  ·rw [if_neg h,if_neg h,Nat.zero_add]; simp
theorem BU {n:Nat} {l:di} (h:Nf l):JH (l.map fun p=>(p.1,p.2*n % 4294967296))=ep n l :=
 Nf.It (GD _) (sG h) fun s=>by rw [GP,yH,Nat.mod_mod,yX]
def gG (x:eS) (n:Nat):eS:=⟨ep n x.aw,x.num*n % 4294967296⟩
def ib (x y:eS):eS:=⟨D6 x.aw y.aw,(x.num+y.num) % 4294967296⟩
theorem jQ {x:eS} (h:Nf x.aw) (n:Nat):fb x n=gG x n:=by unfold fb gG; rw [BU h]
theorem xE {x y:eS} (h:Nf x.aw) (k:Nf y.aw):vp x y=ib x y:=by unfold vp ib; rw [Gt h k]
theorem dy (n:Nat) (l:di):(ep n l).length≤l.length:=List.length_filterMap_le _ _
theorem Bp (n:Nat) (x y:di):(gI n x y).length≤x.length+y.length:=by
 induction n generalizing x y with
 | zero=>simp [gI]
 | succ n ih =>
  rcases x with _ | ⟨p,x⟩ <;> rcases y with _ | ⟨q,y⟩
  ·simp [gI]
  ·have:=ih [] y
   simp only [gI,List.length_cons,List.length_nil] at this ⊢; omega
  ·have:=ih x []
   simp only [gI,List.length_cons,List.length_nil] at this ⊢; omega
  ·have h1:=ih x (q::y);have h2:=ih (p::x) y;have h3:=ih x y;simp only [List.length_cons] at h1 h2 ⊢;simp only [gI];split
   ·simp only [List.length_cons]; omega
   ·split
    ·simp only [List.length_cons]; omega
    ·split
     ·omega
     ·simp only [List.length_cons]; omega
theorem jV (x y:di):(D6 x y).length≤x.length+y.length:=Bp _ x y
theorem Fu {x y:di} (h:r∈D6 x y):(∃ p,p∈x∧p.1=r.1)∨(∃ q,q∈y∧q.1=r.1):=kL h
theorem B1 {n:Nat} {x:di} (h:r∈ep n x):∃ p,p∈x∧p.1=r.1:=by
 unfold ep at h;rw [List.mem_filterMap] at h;obtain ⟨k,hk,hr⟩:=h;split at hr
 ·cases hr
 ·cases hr;exact ⟨k,hk,rfl⟩
def KD (r:Option Nat) (p:Option Addr) (l lv:Nat) (k:T):T :=
 T.loop [(false,[.int .i64])] [.int .i64 (0:Int)] <| fun (n20:Int) =>
 cond (decide (n20<(l:Int)))
  (T.need (((0:Int)≤n20)∧(n20<(l:Int))) <|
  T.au p <| fun (a21:Addr) =>
  T.ae (a21.add ((Int.toNat n20)*2)) [.string,.int .u32] <| fun (s22:ByteArray) (n23:Int) =>
  T.new [.string ⟨#[]⟩,.int .u32 (0:Int)] 109 <| fun (a24:Addr) =>
  T.ap a24 [.string s22,.int .u32 n23] <|
  T.ae a24 [.string] <| fun (s25:ByteArray) =>
  T.aY Tryz.prog (Instr.lookup 286 (.map r) (.string s25) false) false [(false,[.int .u32])] <| fun (n26:Int) =>
  T.ae (a24.add 1) [.int .u32] <| fun (n27:Int) =>
  T.mC Tryz.prog (Instr.mapUpdate 286 (.map r) (.string s25) (.int .u32 (IntKind.wrap .u32 (n26+n27)))) <|
  T.again lv [.int .i64 (IntKind.wrap .i64 (n20+(1:Int)))]) k
theorem yO (l:di):∀ D:di,(l.foldl jF D).length≤D.length+l.length:=by
 induction l with
 | nil=>intro D; simp
 | cons p l ih =>
  intro D;rw [List.foldl_cons];have h1:=ih (jF D p);have h2:=tj D p.1 ((dA D p.1+p.2) % 4294967296);have h3:(jF D p).length≤D.length+1:=h2;simp only [List.length_cons];omega
theorem Dq {L:Lp} {h:Hp} {g:Nat} {p:Option Addr} {l:Nat} {us D:di} {k:T} {lv:Nat} (hlv:L.length=lv) (v:qt h p l us) (hl:us.length≤2^40) (hs:∀ t,t∈us→t.1.size≤maxLen) (m:eP h g (vm D)) (hg:g∉az p)
  (hk:∀ J h',eP h' g (vm (us.foldl jF D))→Ch [g] h h'→k (L++[J]) K h'):KD (some g) p l lv k L K h:=by
 have hll:=v.len;have hL:∀ J:List Value→Hp→Prop,(L++[J])[lv]?=some J:=by intro J; subst hlv; simp
 unfold KD;refine bm (cs:=[(false,[.int .i64])]) (fun y w h'=>∃ (i:Nat),y.1=(i:Int)∧i≤us.length∧w=us.length-i∧Ch [g] h h'∧eP h' g (vm ((us.take i).foldl jF D))) ((0:Int),()) us.length rfl
  ⟨0,rfl,by omega,by omega,Ch.refl _ _,by simpa using m⟩ ?_
 rintro ⟨n8,⟨⟩⟩ w h4 ⟨i,hi,hile,rfl,k4,m4⟩;simp only at hi;subst hi;dsimp only [flat,aB,ai,nA,cA];refine af (fun g1=>?_) (fun g1=>?_)
 ·have g1:=of_decide_eq_true g1;have hilt:i<us.length:=by omega
  obtain ⟨a,rfl,hc⟩:=(v.ah k4 (by intro j hj hm; rw [List.mem_singleton] at hm; subst hm; exact hg hj)).cells i hilt;have htk:us.take (i+1)=us.take i++[us[i]]:=List.take_succ_eq_append_getElem hilt;have hsz:=hs us[i] (List.getElem_mem hilt);generalize us[i]=t at hc htk hsz;refine aA ⟨by omega,by omega⟩ (an rfl ?_);rw [show Int.toNat (i:Int)=i by omega];refine aG (t.1,(t.2:Int),()) hc ?_;dsimp only [flat,aB,ai,nA,cA];refine aW ?_;intro h5 b5 e5 z5;refine ak b5 rfl (by simp) ?_;intro h6 b6 k6 z6;have b6:aO h6 h4.size 109 (cP t):=b6;have e46:Ext h4 h6:=Ch.trans e5 k6 (fun j hj hl=>by simp at hj; omega);have m6:=m4.ah e46 (by simp);refine ad b6 (t.1,()) rfl ?_;dsimp only [flat,aB,ai,nA,cA];refine uv m6 _ ?_;rw [ao];refine ad b6 ((t.2:Int),()) rfl ?_;dsimp only [flat,aB,ai,nA,cA];generalize hDD:(us.take i).foldl jF D=D' at m6;refine Fb (n:=(dA D' t.1+t.2) % 4294967296) m6 hsz ?_ ?_
  ·rw [fP,nv,Int.natCast_add]
  ·intro h7 m7 k7 z7;have hw:IntKind.wrap .i64 ((i:Int)+1)=((i+1:Nat):Int):=by rw [wrap_i64 (by omega) (by omega)]; omega
   have hf:(us.take (i+1)).foldl jF D=eI D' t.1 ((dA D' t.1+t.2) % 4294967296):=by
    rw [htk,List.foldl_append,hDD] <;> rfl
   refine aM (cs:=[(false,[.int .i64])]) (((i+1:Nat):Int),()) (us.length-(i+1)) (hL _) (by omega) (congrArg (fun z=>[Value.int .i64 z]) hw) ⟨i+1,rfl,by omega,rfl,?_,by rw [hf]; exact m7⟩;exact Ch.trans (Ch.trans k4 e46 (by simp)) k7 (fun j hj _=>hj)
 ·have g1:=of_decide_eq_false g1;have hi:i=us.length:=by omega
  subst hi;rw [List.take_length] at m4;exact hk _ _ m4 k4
theorem Lc:Tryz.prog.underlying 288=some (.slice 91):=by kernel_rfl
theorem Lj:(Tryz.prog.info? 91).map (fun i=>(i.zero,i.size,i.bytes))=some (some (.slice none 0 0),1,24):=by kernel_rfl
theorem Fm {h:Hp} {p q:Option Addr} {l c m d:Nat} {x y:eS} (v:qt h p l x.aw) (u:qt h q m y.aw) (hp:∀ i,i∈az p→i<h.size) (hq:∀ i,i∈az q→i<h.size)
  (hl:x.aw.length+y.aw.length≤2^40) (hx:∀ t,t∈x.aw→t.1.size≤maxLen) (hy:∀ t,t∈y.aw→t.1.size≤maxLen) :
  HC Tryz.prog 159 #[oR p l c x,oR q m d y] h fun w h'=>Ext h h'∧∃ p' l' c',w=oR p' l' c' (vp x y)∧SL h' h.size 109 2 p' l' c' ((vp x y).aw.map cP):=by
 refine aL (args:=[.agg #[.slice p l c,.int .u32 x.num],.agg #[.slice q m d,.int .u32 y.num]]) mixed Tryz.func159 (by kernel_rfl) (xc p l c x.num q m d y.num) ?_;unfold vW;refine aW ?_;intro h1 b1 e1 z1;refine aW ?_;intro h2 b2 e2 z2;refine aW ?_;intro h3 b3 e3 z3;refine pH _ ?_;intro h4 m4 e4 z4;refine ⟨(some h3.size,()),rfl,?_⟩;dsimp only [flat,aB,ai,nA,cA];have b1:=((b1.ah e2 (by simp)).ah e3 (by simp)).ah e4 (by simp);have b2:=(b2.ah e3 (by simp)).ah e4 (by simp);have b3:=b3.ah e4 (by simp);have e04:=((e1.trans e2).trans e3).trans e4;refine ad b1 ((p,l,c),()) rfl ?_;dsimp only [flat,aB,ai,nA,cA];refine ad b2 ((q,m,d),()) rfl ?_;dsimp only [flat,aB,ai,nA,cA];refine eA (cells:=[.slice p l c,.slice q m d]) Lc Lj (by decide) (by decide) (by kernel_rfl) ?_;intro h5 b5 e5 z5;have m5:eP h5 h3.size (vm []):=m4.ah e5 (by simp);have b1:=b1.ah e5 (by simp);have b2:=b2.ah e5 (by simp);have b3:=b3.ah e5 (by simp);have e05:=e04.trans e5;have hb5:=b5.lt;have hm4:=m4.lt;refine bm (cs:=[(false,[.int .i64])]) (fun z w h'=>∃ (i:Nat),z.1=(i:Int)∧i≤2∧w=2-i∧Ch [h3.size] h5 h'∧eP h' h3.size (vm ((([x.aw,y.aw].take i).flatten).foldl jF []))) ((0:Int),()) 2 rfl
  ⟨0,rfl,by omega,by omega,Ch.refl _ _,m5⟩ ?_
 rintro ⟨n8,⟨⟩⟩ w h6 ⟨i,hi,hile,rfl,k6,m6⟩;simp only at hi;subst hi;dsimp only [flat,aB,ai,nA,cA];have b6:=b5.ah k6 (by simp; omega);have e06:Ext h h6:=Ch.trans e05 k6 (fun j hj hl=>by simp at hj; omega);refine af (fun g1=>?_) (fun g1=>?_)
 ·have g1:=of_decide_eq_true g1;refine aA ⟨by omega,by omega⟩ (an rfl ?_);rw [show Int.toNat (i:Int)=i by omega,ao];have hw:IntKind.wrap .i64 ((i:Int)+1)=((i+1:Nat):Int):=by rw [wrap_i64 (by omega) (by omega)]; omega
  have hi2:i=0∨i=1:=by omega
  rcases hi2 with rfl | rfl
  ·refine ad b6 ((p,l,c),()) rfl ?_;dsimp only [flat,aB,ai,nA,cA];refine Dq (us:=x.aw) (D:=[]) rfl (v.ah e06 (by simp)) (by omega) hx m6 (fun hh=>by have:=hp _ hh; omega) ?_;intro J h7 m7 k7;refine aM (cs:=[(false,[.int .i64])]) (((0+1:Nat):Int),()) (2-(0+1)) rfl (by omega) (congrArg (fun z=>[Value.int .i64 z]) hw) ⟨0+1,rfl,by omega,rfl,Ch.trans k6 k7 (fun j hj _=>hj),?_⟩;simpa using m7
  ·refine ad b6 ((q,m,d),()) rfl ?_;dsimp only [flat,aB,ai,nA,cA];refine Dq (us:=y.aw) (D:=x.aw.foldl jF []) rfl (u.ah e06 (by simp)) (by omega) hy (by simpa using m6) (fun hh=>by have:=hq _ hh; omega) ?_;intro J h7 m7 k7;refine aM (cs:=[(false,[.int .i64])]) (((1+1:Nat):Int),()) (2-(1+1)) rfl (by omega) (congrArg (fun z=>[Value.int .i64 z]) hw) ⟨1+1,rfl,by omega,rfl,Ch.trans k6 k7 (fun j hj _=>hj),?_⟩;simpa using m7
 ·have g1:=of_decide_eq_false g1;have hi:i=2:=by omega
  subst hi;have m6:eP h6 h3.size (vm ((x.aw++y.aw).foldl jF [])):=by simpa using m6
  have b1:=b1.ah k6 (by simp; omega);have b2:=b2.ah k6 (by simp; omega);have b3:=b3.ah k6 (by simp; omega);rw [ao,ao];refine ad b1 ((x.num:Int),()) rfl ?_;dsimp only [flat,aB,ai,nA,cA];refine ad b2 ((y.num:Int),()) rfl ?_;dsimp only [flat,aB,ai,nA,cA];refine aC (Dc m6 (by have:=yO (x.aw++y.aw) []; rw [List.length_append,List.length_nil] at this; omega) _) ?_;rintro _ h7 ⟨e7,p',l',c',rfl,s7⟩;refine ⟨((p',l',c'),IntKind.wrap .u32 ((x.num:Int)+(y.num:Int)),()),rfl,?_⟩;dsimp only [flat,aB,ai,nA,cA];refine ak (b3.ah e7 (by simp)) rfl (by simp) ?_;intro h8 b8 k8 z8;have b8:aO h8 h2.size 94 [.slice p' l' c',.int .u32 (IntKind.wrap .u32 ((x.num:Int)+(y.num:Int)))]:=b8;refine ad b8 ((p',l',c'),IntKind.wrap .u32 ((x.num:Int)+(y.num:Int)),()) rfl ?_;have hz6:=e06.size;have hz2:=(e1.trans e2).size;have hb3:=b3.lt;refine ⟨Ch.trans (e06.trans e7) k8 (fun j hj hl=>by simp at hj; omega),p',l',c',?_,(s7.aT k8 (fun j hj=>by have:=(s7.bO hj).1; simp; omega)).mono (by omega)⟩;unfold oR vp;rw [fP];dsimp only;rw [nv,Int.natCast_add]
abbrev cH:=Except Nat (eS × List Tok)
def CL (b:Bool) (x:eS):eS:=if b=true then gG x 4294967295 else x
def wS:eS:=⟨[],0⟩
def pX (o:Option (List Tok→cH)) (ts:List Tok):cH :=
 match ts with
 | []=>.error 20
 | t::r =>
  if t.kind=1 then if (iG t.text.data.toList).2.2=true then .error 20 else .ok (⟨[(t.text,1)],0⟩,r)
  else if t.kind=2 then .ok (⟨[],t.num⟩,r)
  else if fE t 40=true then match o with
   | none=>.error 21
   | some f=>match f r with
    | .error e=>.error e
    | .ok (x,r')=>match r' with
     | []=>.error 20
     | t'::r''=>if fE t' 41=true then .ok (x,r'') else .error 20
  else .error 20
def xx (o:Option (List Tok→cH)) (b:Bool) (ts:List Tok):cH :=
 match pX o ts with
 | .error e=>.error e
 | .ok (x,r)=>.ok (CL b x,r)
def vk (o:Option (List Tok→cH)):Bool→List Tok→cH
 | b,[]=>xx o b []
 | b,t::r=>if fE t 45=true then vk o (!b) r else xx o b (t::r)
def AN (o:Option (List Tok→cH)) (ts:List Tok):cH:=vk o false ts
def hO (fac:List Tok→cH):Nat→eS→List Tok→cH
 | 0,x,r=>.ok (x,r)
 | n+1,x,r=>match r with
  | []=>.ok (x,[])
  | t::r'=>if fE t 42=true then match fac r' with
    | .error e=>.error e
    | .ok (y,r'')=>if x.aw≠[]∧y.aw≠[] then .error 21 else if y.aw≠[] then hO fac n (gG y x.num) r'' else hO fac n (gG x y.num) r''
   else .ok (x,t::r')
def nB (fac:List Tok→cH) (ts:List Tok):cH :=
 match fac ts with
 | .error e=>.error e
 | .ok (x,r)=>hO fac r.length x r
def j7 (part:List Tok→cH):Nat→eS→List Tok→cH
 | 0,x,r=>.ok (x,r)
 | n+1,x,r=>match r with
  | []=>.ok (x,[])
  | t::r'=>if fE t 43=true then match part r' with
    | .error e=>.error e
    | .ok (y,r'')=>j7 part n (ib x y) r''
   else if fE t 45=true then match part r' with
    | .error e=>.error e
    | .ok (y,r'')=>j7 part n (ib x (gG y 4294967295)) r''
   else .ok (x,t::r')
def kq (part:List Tok→cH) (ts:List Tok):cH :=
 match part ts with
 | .error e=>.error e
 | .ok (x,r)=>j7 part r.length x r
def mS:Nat→List Tok→cH
 | 0=>kq (nB (AN none))
 | k+1=>kq (nB (AN (some (mS k))))
def bU (ts:List Tok):Except Nat eS :=
 match mS 32 ts with
 | .error e=>.error e
 | .ok (x,r)=>if r=[] then .ok x else .error 20
structure Good (x:eS):Prop where
 nf:Nf x.aw
 x7:∀ t,t∈x.aw→bh t.1.data.toList=true
 num:x.num<4294967296
theorem iR {s:ByteArray} (h:bh s.data.toList=true):s.size≤32:=by
 unfold bh at h;simp only [Bool.and_eq_true,decide_eq_true_eq] at h
 have:s.data.toList.length=s.size:=by simp
 omega
theorem Good.size {x:eS} (g:Good x):∀ t,t∈x.aw→t.1.size≤maxLen:=fun t ht=>by
 have:=iR (g.x7 t ht)
 unfold maxLen; omega
theorem Good.z:Good wS:=⟨Nf.nil,by simp [wS],by simp [wS]⟩
theorem Good.T {x:eS} (g:Good x) (n:Nat):Good (gG x n) :=
 ⟨sG g.nf,fun t ht=>by obtain ⟨p,hp,e⟩:=B1 ht; rw [← e]; exact g.x7 p hp,Nat.mod_lt _ (by decide)⟩
theorem Good.A {x y:eS} (g:Good x) (k:Good y):Good (ib x y) :=
 ⟨Dr g.nf k.nf,fun t ht=>by
  rcases Fu ht with ⟨p,hp,e⟩ | ⟨p,hp,e⟩
  ·rw [← e]; exact g.x7 p hp
  ·rw [← e]; exact k.x7 p hp,Nat.mod_lt _ (by decide)⟩
theorem Good.neg {x:eS} (g:Good x) (b:Bool):Good (CL b x):=by
 unfold CL;split
 ·exact g.T _
 ·exact g
theorem BP {l:di} (h:Nf l):ep 1 l=l :=
 Nf.It (sG h) h fun s=>by rw [yH,Nat.mul_one]
theorem Hu {x:eS} (g:Good x):gG x 1=x:=by
 unfold gG;rw [BP g.nf,Nat.mul_one,Nat.mod_eq_of_lt g.num]
structure LX (t:Tok):Prop where
 num:t.num<4294967296
 name:t.kind=1→t.num=0∧bh t.text.data.toList=!(iG t.text.data.toList).2.2
def Wf (ts:List Tok):Prop:=∀ t,t∈ts→LX t
theorem Wf.suffix {r ts:List Tok} (w:Wf ts) (h:r <:+ ts):Wf r:=fun t ht=>w t (h.subset ht)
theorem Wf.tail {t:Tok} {r:List Tok} (w:Wf (t::r)):Wf r:=fun u hu=>w u (List.mem_cons_of_mem _ hu)
def jI (ts:List Tok):cH→Prop
 | .error e=>e=20∨e=21
 | .ok (x,r)=>Good x∧r <:+ ts∧r.length<ts.length∧x.aw.length+r.length≤ts.length
theorem wg {s:ByteArray} (h:bh s.data.toList=true):Good ⟨[(s,1)],0⟩ :=
 ⟨⟨by simp,by simp⟩,by simpa using h,by simp⟩
theorem xQ {o:Option (List Tok→cH)} (ho:∀ f,o=some f→∀ ts,Wf ts→jI ts (f ts)) {ts:List Tok} (w:Wf ts):jI ts (pX o ts):=by
 unfold pX;cases ts with
 | nil=>exact .inl rfl
 | cons t r =>
  simp only;split
  ·rename_i h1;split
   ·exact .inl rfl
   ·rename_i h2;have h3:=((w t (List.mem_cons_self ..)).name h1).2;rw [Bool.not_eq_true] at h2;rw [h2] at h3;exact ⟨wg h3,List.suffix_cons _ _,by simp,by simp; omega⟩
  ·split
   ·exact ⟨⟨Nf.nil,by simp,(w t (List.mem_cons_self ..)).num⟩,List.suffix_cons _ _,by simp,by simp⟩
   ·split
    ·cases o with
     | none=>exact .inr rfl
     | some f =>
      simp only;have hf:=ho f rfl r w.tail;revert hf;cases f r with
      | error e=>exact id
      | ok q =>
       obtain ⟨x,r'⟩:=q;rintro ⟨g,s,l,n⟩;simp only;cases r' with
       | nil=>exact .inl rfl
       | cons t' r'' =>
        simp only;split
        ·refine ⟨g,((List.suffix_cons _ _).trans s).trans (List.suffix_cons _ _),?_,?_⟩
         ·simp only [List.length_cons] at l ⊢; omega
         ·simp only [List.length_cons] at n ⊢; omega
        ·exact .inl rfl
    ·exact .inl rfl
theorem tB (b:Bool) (x:eS):(CL b x).aw.length≤x.aw.length:=by
 unfold CL;split
 ·exact dy _ _
 ·exact Nat.le_refl _
theorem yE {o:Option (List Tok→cH)} (ho:∀ f,o=some f→∀ ts,Wf ts→jI ts (f ts)) {ts:List Tok} (w:Wf ts) (b:Bool):jI ts (xx o b ts):=by
 unfold xx
 have:=xQ ho w
 revert this;cases pX o ts with
 | error e=>exact id
 | ok q =>
  obtain ⟨x,r⟩:=q;rintro ⟨g,s,l,n⟩
  have:=tB b x
  exact ⟨g.neg b,s,l,by omega⟩
theorem jI.cons {t:Tok} {r:List Tok} {q:cH} (h:jI r q):jI (t::r) q:=by
 cases q with
 | error e=>exact h
 | ok q =>
  obtain ⟨g,s,l,n⟩:=h;exact ⟨g,s.trans (List.suffix_cons _ _),by simp only [List.length_cons]; omega,by simp only [List.length_cons]; omega⟩
theorem yj {o:Option (List Tok→cH)} (ho:∀ f,o=some f→∀ ts,Wf ts→jI ts (f ts)):∀ {ts:List Tok} (b:Bool),Wf ts→jI ts (vk o b ts)
 | [],b,w=>by unfold vk; exact yE ho w b
 | t::r,b,w=>by
  unfold vk;split
  ·exact (yj ho _ w.tail).cons
  ·exact yE ho w b
theorem iO {o:Option (List Tok→cH)} (ho:∀ f,o=some f→∀ ts,Wf ts→jI ts (f ts)) (ts:List Tok) (w:Wf ts):jI ts (AN o ts):=yj ho _ w
def Jj (m:Nat) (ts:List Tok):cH→Prop
 | .error e=>e=20∨e=21
 | .ok (x,r)=>Good x∧r <:+ ts∧x.aw.length+r.length≤m
theorem pI {fac:List Tok→cH} (hf:∀ ts,Wf ts→jI ts (fac ts)):∀ (n:Nat) {x:eS} {r:List Tok},Good x→Wf r→Jj (x.aw.length+r.length) r (hO fac n x r)
 | 0,x,r,g,w=>⟨g,List.suffix_refl _,Nat.le_refl _⟩
 | n+1,x,[],g,w=>⟨g,List.suffix_refl _,Nat.le_refl _⟩
 | n+1,x,t::r',g,w=>by
  unfold hO;simp only;split
  ·have h1:=hf r' w.tail;revert h1;cases fac r' with
   | error e=>exact id
   | ok q =>
    obtain ⟨y,r''⟩:=q;rintro ⟨k,s,l,n1⟩;simp only;have hs:=s.trans (List.suffix_cons t _);split
    ·exact .inr rfl
    ·split
     ·have h2:=pI hf n (k.T x.num) (w.suffix hs);revert h2
      have:=dy x.num y.aw
      cases hO fac n (gG y x.num) r'' with
      | error e=>exact id
      | ok q =>
       rintro ⟨a,b,c⟩;refine ⟨a,b.trans hs,?_⟩;simp only [gG,List.length_cons] at c ⊢;omega
     ·have h2:=pI hf n (g.T y.num) (w.suffix hs);revert h2
      have:=dy y.num x.aw
      cases hO fac n (gG x y.num) r'' with
      | error e=>exact id
      | ok q =>
       rintro ⟨a,b,c⟩;refine ⟨a,b.trans hs,?_⟩;simp only [gG,List.length_cons] at c ⊢;omega
  ·exact ⟨g,List.suffix_refl _,Nat.le_refl _⟩
theorem lg {fac:List Tok→cH} (hf:∀ ts,Wf ts→jI ts (fac ts)) (ts:List Tok) (w:Wf ts):jI ts (nB fac ts):=by
 unfold nB;have h1:=hf ts w;revert h1;cases fac ts with
 | error e=>exact id
 | ok q =>
  obtain ⟨x,r⟩:=q;rintro ⟨g,s,l,n⟩;have h2:=pI hf r.length g (w.suffix s);revert h2;simp only;cases hO fac r.length x r with
  | error e=>exact id
  | ok q =>
   rintro ⟨a,b,c⟩;exact ⟨a,b.trans s,by have:=b.length_le; omega,by omega⟩
theorem rT {part:List Tok→cH} (hf:∀ ts,Wf ts→jI ts (part ts)):∀ (n:Nat) {x:eS} {r:List Tok},Good x→Wf r→Jj (x.aw.length+r.length) r (j7 part n x r)
 | 0,x,r,g,w=>⟨g,List.suffix_refl _,Nat.le_refl _⟩
 | n+1,x,[],g,w=>⟨g,List.suffix_refl _,Nat.le_refl _⟩
 | n+1,x,t::r',g,w=>by
  unfold j7;simp only;split
  ·have h1:=hf r' w.tail;revert h1;cases part r' with
   | error e=>exact id
   | ok q =>
    obtain ⟨y,r''⟩:=q;rintro ⟨k,s,l,n1⟩;simp only;have hs:=s.trans (List.suffix_cons t _);have h2:=rT hf n (g.A k) (w.suffix hs);revert h2
    have:=jV x.aw y.aw
    cases j7 part n (ib x y) r'' with
    | error e=>exact id
    | ok q =>
     rintro ⟨a,b,c⟩;refine ⟨a,b.trans hs,?_⟩;simp only [ib,List.length_cons] at c ⊢;omega
  ·split
   ·have h1:=hf r' w.tail;revert h1;cases part r' with
    | error e=>exact id
    | ok q =>
     obtain ⟨y,r''⟩:=q;rintro ⟨k,s,l,n1⟩;simp only;have hs:=s.trans (List.suffix_cons t _);have h2:=rT hf n (g.A (k.T 4294967295)) (w.suffix hs);revert h2
     have:=jV x.aw (ep 4294967295 y.aw)
     have:=dy 4294967295 y.aw
     cases j7 part n (ib x (gG y 4294967295)) r'' with
     | error e=>exact id
     | ok q =>
      rintro ⟨a,b,c⟩;refine ⟨a,b.trans hs,?_⟩;simp only [ib,gG,List.length_cons] at c ⊢;omega
   ·exact ⟨g,List.suffix_refl _,Nat.le_refl _⟩
theorem xS {part:List Tok→cH} (hf:∀ ts,Wf ts→jI ts (part ts)) (ts:List Tok) (w:Wf ts):jI ts (kq part ts):=by
 unfold kq;have h1:=hf ts w;revert h1;cases part ts with
 | error e=>exact id
 | ok q =>
  obtain ⟨x,r⟩:=q;rintro ⟨g,s,l,n⟩;have h2:=rT hf r.length g (w.suffix s);revert h2;simp only;cases j7 part r.length x r with
  | error e=>exact id
  | ok q =>
   rintro ⟨a,b,c⟩;exact ⟨a,b.trans s,by have:=b.length_le; omega,by omega⟩
theorem kJ:∀ (k:Nat) (ts:List Tok),Wf ts→jI ts (mS k ts)
 | 0,ts,w=>xS (lg (iO (by intro f hf; cases hf))) ts w
 | k+1,ts,w=>xS (lg (iO (by rintro f hf; cases hf; exact kJ k))) ts w
def PB (h:Hp) (A:Nat) (ts:List Tok) (d:Int) (e:Nat):Prop :=
 ∃ p l c,aO h A 261 [.slice p l c,.int .i64 d,.int .i64 (e:Int)]∧Vw h p l c ts∧∀ i,i∈az p→i<A
theorem PB.ah {h:Hp} {A:Nat} {ts:List Tok} {d:Int} {e:Nat} (b:PB h A ts d e) (k:Ch ws h h') (hw:∀ i,i∈ws→A<i):PB h' A ts d e:=by
 obtain ⟨p,l,c,b,v,hp⟩:=b;exact ⟨p,l,c,b.ah k (fun hm=>by have:=hw _ hm; omega),v.ah k (fun i hi hm=>by have:=hw _ hm; have:=hp _ hi; omega),hp⟩
theorem PB.lt {h:Hp} {A:Nat} {ts:List Tok} {d:Int} {e:Nat} (b:PB h A ts d e):A<h.size:=by
 obtain ⟨p,l,c,b,v,hp⟩:=b;exact b.lt
abbrev ptr (a:Nat):Value:=.pointer (some ⟨a,0,none⟩)
structure Cl (h:Hp) (A a3 a4 a5 a6:Nat):Prop where
 b3:aO h a3 259 [ptr A]
 b4:aO h a4 262 [.func (.func 158) #[] #[ptr a6,ptr a3]]
 b5:aO h a5 262 [.func (.func 152) #[] #[ptr a3,ptr a4]]
 b6:aO h a6 262 [.func (.func 157) #[] #[ptr a5,ptr a3]]
 n3:A<a3
 n4:A<a4
 n5:A<a5
 n6:A<a6
theorem Cl.lt {h:Hp} {A a3 a4 a5 a6:Nat} (c:Cl h A a3 a4 a5 a6):a3<h.size∧a4<h.size∧a5<h.size∧a6<h.size:=⟨c.b3.lt,c.b4.lt,c.b5.lt,c.b6.lt⟩
theorem Cl.ah {h:Hp} {A a3 a4 a5 a6:Nat} (c:Cl h A a3 a4 a5 a6) (k:Ch ws h h') (hw:∀ i,i∈ws→i=A∨h.size≤i):Cl h' A a3 a4 a5 a6:=by
 have h3:=c.b3.lt;have h4:=c.b4.lt;have h5:=c.b5.lt;have h6:=c.b6.lt
 have:=c.n3
 have:=c.n4
 have:=c.n5
 have:=c.n6
 exact ⟨c.b3.ah k (fun hm=>by have:=hw _ hm; omega),c.b4.ah k (fun hm=>by have:=hw _ hm; omega),c.b5.ah k (fun hm=>by have:=hw _ hm; omega),c.b6.ah k (fun hm=>by have:=hw _ hm; omega),by omega,by omega,by omega,by omega⟩
def eO (e:Nat) (ts:List Tok) (c:UInt8):Bool:=decide (e=0) && match ts with
 | []=>false
 | t::_=>fE t c
theorem iN {h:Hp} {a:Addr} {t:Tok} (hc:aH h (a.add (0*4)) 0 (enc t)):aH h a 0 [.int .i64 (t.kind:Int)]∧aH h (a.add 1) 0 [.string t.text]∧aH h a 0 (enc t):=by
 rw [show a.add (0*4)=a by simp [Addr.add]] at hc;obtain ⟨h1,h2,h3⟩:=hc;exact ⟨⟨h1,trivial⟩,⟨by rw [add_add]; exact h2,trivial⟩,h1,h2,h3⟩
theorem iP {h:Hp} {A:Nat} {ts:List Tok} {d:Int} {e:Nat} (b:PB h A ts d e) (c:UInt8) :
  HC Tryz.prog 153 #[ptr A,.string ⟨#[c]⟩] h fun v h'=>v=.bool (eO e ts c)∧Ch [A] h h'∧h'.size=h.size∧PB h' A (if eO e ts c=true then ts.tail else ts) d e:=by
 obtain ⟨p,l,cc,b,v,hp⟩:=b;refine aL (args:=[ptr A,.string ⟨#[c]⟩]) mixed Tryz.func153 (by kernel_rfl) (lj (some ⟨A,0,none⟩) ⟨#[c]⟩) ?_;have no:eO e ts c=false→T.ret (.bool false) [] (fun v h'=>v=.bool (eO e ts c)∧Ch [A] h h'∧h'.size=h.size∧PB h' A (if eO e ts c=true then ts.tail else ts) d e) h:=by
  intro hn;refine ⟨by rw [hn],Ch.refl _ _,rfl,?_⟩;rw [if_neg (by rw [hn]; simp)];exact ⟨p,l,cc,b,v,hp⟩
 unfold iz;refine an rfl ?_;rw [ao];refine ad b ((e:Int),()) rfl ?_;dsimp only [flat,aB,ai,nA,cA];have hlen:=v.len;have hcap:=v.cap;refine af (fun g1=>?_) (fun g1=>?_)
 ·have g1:¬ e=0:=by simpa using g1
  refine no ?_;unfold eO;rw [decide_eq_false g1] <;> rfl
 ·have g1:e=0:=by simpa using g1
  subst g1;refine an rfl (ad b ((p,l,cc),()) rfl ?_);dsimp only [flat,aB,ai,nA,cA];refine af (fun g2=>?_) (fun g2=>?_)
  ·have g2:l=0:=by simpa using g2
   have:ts=[]:=List.length_eq_zero_iff.1 (by omega)
   subst this;exact no rfl
  ·have g2:¬ l=0:=by simpa using g2
   cases ts with
   | nil=>simp at hlen; omega
   | cons t r =>
    obtain ⟨a,rfl,hc⟩:=v.cells 0 (by simp);obtain ⟨c1,c2,c3⟩:=iN (t:=t) hc;refine an rfl (ad b ((some a,l,cc),()) rfl ?_);dsimp only [flat,aB,ai,nA,cA];refine aA ⟨by omega,by omega⟩ (an rfl (aG ((t.kind:Int),()) c1 ?_));dsimp only [flat,aB,ai,nA,cA];refine af (fun g3=>?_) (fun g3=>?_)
    ·have g3:¬ (t.kind:Int)=3:=by simpa using g3
     refine no ?_;have g4:¬ t.kind=3:=by omega
     simp [eO,fE,g4]
    ·have g3:(t.kind:Int)=3:=by simpa using g3
     refine an rfl (ad b ((some a,l,cc),()) rfl ?_);dsimp only [flat,aB,ai,nA,cA];refine aA ⟨by omega,by omega⟩ (an rfl (aG (t.text,()) c2 ?_));dsimp only [flat,aB,ai,nA,cA];have e0:eO 0 (t::r) c=(ByteArray.toList t.text==ByteArray.toList ⟨#[c]⟩):=by
      show (true && fE t c)=_;rw [← Dw,g3] <;> rfl
     refine af (fun g4=>?_) (fun g4=>?_)
     ·refine no ?_;rw [e0];simpa using g4
     ·have g4:eO 0 (t::r) c=true:=by
       rw [e0];simpa using g4
      refine an rfl (ad b ((some a,l,cc),()) rfl ?_);dsimp only [flat,aB,ai,nA,cA];refine aA ⟨by omega,by omega,by omega⟩ (an rfl ?_);refine ak b rfl (by simp) ?_;intro h1 b1 k1 z1;rw [g4];refine ⟨rfl,k1,z1,?_⟩;rw [if_pos rfl];refine ⟨_,_,_,b1,((v.drop (k:=1) (by omega)).ah k1 ?_),?_⟩
      ·intro i hi hm;rw [kG] at hi;rw [List.mem_singleton] at hm
       have:=hp _ hi
       omega
      ·intro i hi;exact hp _ (by have:=kG (some a) cc 1 4; rw [← this]; exact hi)
theorem jZ {h:Hp} {A:Nat} {ts:List Tok} {d:Int} {e:Nat} (b:PB h A ts d e) (w:Nat) :
  HC Tryz.prog 154 #[ptr A,.int .i64 (w:Int)] h fun v h'=>v=.tuple #[]∧Ch [A] h h'∧h'.size=h.size∧PB h' A ts d (if e=0 then w else e):=by
 obtain ⟨p,l,cc,b,v,hp⟩:=b;refine aL (args:=[ptr A,.int .i64 (w:Int)]) mixed Tryz.func154 (by kernel_rfl) (j6 (some ⟨A,0,none⟩) w) ?_;unfold gC;refine an rfl ?_;rw [ao];refine ad b ((e:Int),()) rfl ?_;dsimp only [flat,aB,ai,nA,cA];refine af (fun g1=>?_) (fun g1=>?_)
 ·have g1:e=0:=by simpa using g1
  refine an rfl ?_;rw [ao];refine ak b rfl (by simp) ?_;intro h1 b1 k1 z1;refine ⟨rfl,k1,z1,p,l,cc,?_,v.ah k1 ?_,hp⟩
  ·rw [if_pos g1]; exact b1
  ·intro i hi hm;rw [List.mem_singleton] at hm
   have:=hp _ hi
   omega
 ·have g1:¬ e=0:=by simpa using g1
  exact ⟨rfl,Ch.refl _ _,rfl,p,l,cc,by rw [if_neg g1]; exact b,v,hp⟩
theorem G0 (s:ByteArray) (h:Hp):HC Tryz.prog 155 #[.string s] h fun w h'=>Ext h h'∧∃ p l c,w=oR p l c ⟨[(s,1)],0⟩∧SL h' h.size 109 2 p l c ([(s,1)].map cP):=by
 refine aL (args:=[.string s]) mixed Tryz.func155 (by kernel_rfl) (tX s) ?_;unfold qK;refine aW ?_;intro h1 b1 e1 z1;refine eA (cells:=[.string s,.int .u32 1]) JD JA (by decide) (by decide) (by kernel_rfl) ?_;intro h2 b2 e2 z2;refine ak (b1.ah e2 (by simp)) rfl (by simp) ?_;intro h3 b3 k3 z3;have b3:aO h3 h.size 94 [.slice (some ⟨h1.size,0,none⟩) 1 1,.int .u32 0]:=b3;refine ad b3 ((some ⟨h1.size,0,none⟩,1,1),(0:Int),()) rfl ?_;refine ⟨Ch.trans (e1.trans e2) k3 (fun j hj hl=>by simp at hj; omega),some ⟨h1.size,0,none⟩,1,1,rfl,rfl,by simp [cP],h1.size,[],[],rfl,by omega,by omega,?_,rfl⟩;exact b2.ah k3 (by simp; omega)
def AX (n:Nat) (d:Int) (x:eS) (ts':List Tok) (d':Int) (e':Nat):cH→Prop
 | .error e=>e'=e∧e≠0∧x.aw.length≤n
 | .ok (y,r)=>e'=0∧x=y∧ts'=r∧d'=d
def I0 (h:Hp) (A:Nat) (n:Nat) (d:Int) (res:cH) (v:Value) (h':Hp):Prop :=
 Ch [A] h h'∧∃ x p l c ts' d' e',v=oR p l c x∧SL h' h.size 109 2 p l c (x.aw.map cP)∧Good x∧PB h' A ts' d' e'∧AX n d x ts' d' e' res
theorem Le:fU Tryz.prog 158=true:=by kernel_rfl
def Ka (h:Hp) (A A1 A21:Nat) (n:Nat) (d:Int) (res:cH) (h':Hp):Prop :=
 Ch [A] h h'∧aO h' A1 94 [.slice none 0 0,.int .u32 0]∧∃ x p l c ts' d' e',aO h' A21 94 [.slice p l c,.int .u32 (x.num:Int)]∧SL h' h.size 109 2 p l c (x.aw.map cP)∧Good x∧PB h' A ts' d' e'∧AX n d x ts' d' e' res
theorem Cl.Gp {h:Hp} {A a3 a4 a5 a6:Nat} (c:Cl h A a3 a4 a5 a6) (k:Ch ws h h') (hw:∀ i,i∈ws→i=A∨(a3<i∧a4<i∧a5<i∧a6<i)):Cl h' A a3 a4 a5 a6:=by
 have:=c.n3
 have:=c.n4
 have:=c.n5
 have:=c.n6
 exact ⟨c.b3.ah k (fun hm=>by have:=hw _ hm; omega),c.b4.ah k (fun hm=>by have:=hw _ hm; omega),c.b5.ah k (fun hm=>by have:=hw _ hm; omega),c.b6.ah k (fun hm=>by have:=hw _ hm; omega),by omega,by omega,by omega,by omega⟩
def vU (b:Bool):Nat:=if b=true then 4294967295 else 1
theorem DC (b:Bool):IntKind.wrap .u32 (0-((vU b:Nat):Int))=((vU (!b):Nat):Int):=by cases b <;> decide
theorem BG {x:eS} (g:Good x) (b:Bool):fb x (vU b)=CL b x:=by
 rw [jQ g.nf];unfold vU CL;cases b
 ·exact Hu g
 ·rfl
theorem SL.IJ {h:Hp} {b:Nat} {e:TypeId} {p:Option Addr} {l c:Nat} {us:di} (s:SL h b e 2 p l c (us.map cP)):∀ i,i∈az p→i<h.size:=fun i hi=>(s.bO hi).2
theorem wrap_small {d:Int} (h:-1000≤d) (k:d≤1000):IntKind.wrap .i64 d=d:=wrap_i64 (by omega) (by omega)
theorem Fj {A a3 a4 a5 a6 : Nat} {o : Option (List Tok → cH)} {d : Nat} (hd : d ≤ 32)
    (ho : match o with
      | none => d = 32
      | some f => d < 32 ∧ ∀ h ts, Cl h A a3 a4 a5 a6 → PB h A ts (d + 1 : Nat) 0 → Wf ts → ts.length ≤ 2 ^ 40 → HC Tryz.prog 158 #[ptr a6, ptr a3] h (I0 h A ts.length (d + 1 : Nat) (f ts)))
    (hfine : ∀ f, o = some f → ∀ ts, Wf ts → jI ts (f ts))
    {h : Hp} {ts : List Tok} (cl : Cl h A a3 a4 a5 a6) (pb : PB h A ts d 0) (w : Wf ts) (hts : ts.length ≤ 2 ^ 40) :
    HC Tryz.prog 152 #[ptr a3, ptr a4] h (I0 h A ts.length d (AN o ts)) := by
  refine aL (args := [ptr a3, ptr a4]) mixed Tryz.func152 (by kernel_rfl) (j1 ⟨a3, 0, none⟩ ⟨a4, 0, none⟩) ?_;unfold gA;have hA := pb.lt;have hcl := cl.lt;refine aW ?_;intro h1 b1 e1 z1
  refine bm (cs := [(false, [.int .u32])]) (fun y m h' => ∃ (b : Bool) (us : List Tok), y.1 = ((vU b : Nat) : Int) ∧ AN o ts = vk o b us ∧ Ch [A] h1 h' ∧ PB h' A us d 0 ∧ us <:+ ts ∧ m = us.length) ((1 : Int), ()) ts.length rfl
    ⟨false, ts, rfl, rfl, Ch.refl _ _, pb.ah e1 (by simp), List.suffix_refl _, rfl⟩ ?_
  rintro ⟨n2, ⟨⟩⟩ m h2 ⟨b, us, hn, hg, k2, pb2, hsuf, rfl⟩;simp only at hn;subst hn;dsimp only [flat, aB, ai, nA, cA];have hz2 := k2.size;have cl1 := cl.ah e1 (by simp);have cl2 := cl1.ah k2 (by simp);have b12 := b1.ah k2 (by simp; omega);have k02 : Ch [A] h h2 := Ch.trans (e1.mono (by simp)) k2 (fun j hj _ => hj);have hus := hsuf.length_le;have wus := w.suffix hsuf;refine ad cl2.b3 (some ⟨A, 0, none⟩, ()) rfl ?_;dsimp only [flat, aB, ai, nA, cA];refine aC (iP pb2 45) ?_;rintro _ h3 ⟨rfl, k3, z3, pb3⟩;refine ⟨(eO 0 us 45, ()), rfl, ?_⟩;dsimp only [flat, aB, ai, nA, cA];have k03 : Ch [A] h h3 := Ch.trans k02 k3 (fun j hj _ => hj);have cl3 := cl2.ah k3 (by simp);have b13 := b12.ah k3 (by simp; omega);refine af (fun g1 => ?_) (fun g1 => ?_)
  · rw [if_pos g1] at pb3
    cases us with
    | nil => cases g1
    | cons t r =>
      have g1 : fE t 45 = true := g1;refine aM (cs := [(false, [.int .u32])]) (((vU (!b) : Nat) : Int), ()) r.length rfl (by simp) (congrArg (fun z => [Value.int .u32 z]) (DC b)) ⟨!b, r, rfl, ?_, Ch.trans k2 k3 (fun j hj _ => hj), pb3, (List.suffix_cons _ _).trans hsuf, rfl⟩;rw [hg];show (if fE t 45 = true then vk o (!b) r else xx o b (t :: r)) = _;rw [if_pos g1]
  · rw [if_neg (by rw [g1]; simp)] at pb3
    have hfs : AN o ts = xx o b us := by
      rw [hg];cases us with
      | nil => rfl
      | cons t r =>
        have g1 : fE t 45 = false := g1;show (if fE t 45 = true then vk o (!b) r else xx o b (t :: r)) = _;rw [if_neg (by rw [g1]; simp)]
    refine dL (cs := [(false, [.bool])]) (fun y h' => y.1 = decide (us = []) ∧ h3 = h') ?_ ?_
    · refine ad cl3.b3 (some ⟨A, 0, none⟩, ()) rfl ?_
      dsimp only [flat, aB, ai, nA, cA];obtain ⟨p, l, c, bA, v, hp⟩ := pb3;refine an rfl ?_
      try rw [ao]
      refine ad bA ((0 : Int), ()) rfl ?_;dsimp only [flat, aB, ai, nA, cA];refine bo rfl ?_;refine ad cl3.b3 (some ⟨A, 0, none⟩, ()) rfl ?_;dsimp only [flat, aB, ai, nA, cA];refine an rfl ?_;refine ad bA ((p, l, c), ()) rfl ?_;dsimp only [flat, aB, ai, nA, cA];refine bi (cs := [(false, [.bool])]) (((l : Int) == 0), ()) rfl rfl ⟨?_, rfl⟩;have := v.len;cases us with
      | nil => simp only [List.length_nil] at this; subst this; rfl
      | cons t r =>
        simp only [List.length_cons] at this;rw [decide_eq_false (by simp)];show ((l : Int) == 0) = false;exact beq_eq_false_iff_ne.2 (by omega)
    · rintro ⟨b5, ⟨⟩⟩ h3' ⟨hb5, rfl⟩
      simp only at hb5;subst hb5;dsimp only [flat, aB, ai, nA, cA];refine af (fun g2 => ?_) (fun g2 => ?_)
      · have g2 : us = [] := of_decide_eq_true g2
        subst g2;refine ad cl3.b3 (some ⟨A, 0, none⟩, ()) rfl ?_;dsimp only [flat, aB, ai, nA, cA];refine aC (jZ pb3 20) ?_;rintro _ h4 ⟨rfl, k4, z4, pb4⟩;refine ⟨(), rfl, ?_⟩;dsimp only [flat, aB, ai, nA, cA];refine ak (b13.ah k4 (by simp; omega)) rfl (by simp) ?_;intro h5 b5 k5 z5;have b5 : aO h5 h.size 94 [.slice none 0 0, .int .u32 0] := b5;refine ad b5 ((none, 0, 0), (0 : Int), ()) rfl ?_;rw [hfs];exact ⟨Ch.trans (Ch.trans k03 k4 (fun j hj _ => hj)) k5 (fun j hj hl => by simp at hj; omega), wS, none, 0, 0, [], d, 20, rfl, SL.nil _ _ _ _, Good.z, pb4.ah k5 (by simp; omega), rfl, by simp, by simp [wS]⟩
      · have g2 : us ≠ [] := of_decide_eq_false g2
        obtain ⟨t, r, rfl⟩ := List.exists_cons_of_ne_nil g2;have wt := wus t (List.mem_cons_self ..);simp only [List.length_cons] at hus;refine ad cl3.b3 (some ⟨A, 0, none⟩, ()) rfl ?_;dsimp only [flat, aB, ai, nA, cA];obtain ⟨p, l, c, bA, v, hp⟩ := pb3;have hlen := v.len;have hcap := v.cap;simp only [List.length_cons] at hlen;obtain ⟨a, rfl, hc⟩ := v.cells 0 (by simp);obtain ⟨c1, c2, c3⟩ := iN (t := t) hc;refine an rfl (ad bA ((some a, l, c), ()) rfl ?_);dsimp only [flat, aB, ai, nA, cA];refine aA ⟨by omega, by omega⟩ (an rfl (aG ((t.kind : Int), t.text, (t.num : Int), (t.at_ : Int), ()) c3 ?_));dsimp only [flat, aB, ai, nA, cA];refine aW ?_;intro h4 b4 e4 z4;refine ak b4 rfl (by simp) ?_;intro h5 b5 k5 z5;have b5 : aO h5 h3.size 178 (enc t) := b5;have hz3 := k03.size;have k35 : Ext h3 h5 := Ch.trans e4 k5 (fun j hj hl => by simp at hj; omega)
        try rw [ao]
        refine ad b5 (t.text, ()) rfl ?_;dsimp only [flat, aB, ai, nA, cA];refine wb (mH t.text h5) ?_;refine aW ?_;intro h6 b6 e6 z6;have k36 := k35.trans e6;have k06 : Ch [A] h h6 := Ch.trans k03 k36 (by simp);have cl6 := cl3.ah k36 (by simp);have b16 := b13.ah k36 (by simp);have bt6 := b5.ah e6 (by simp);have pb6 : PB h6 A (t :: r) d 0 := PB.ah ⟨some a, l, c, bA, v, hp⟩ k36 (by simp);have hh1 : h.size < h3.size := by omega
        have hh6 : h5.size < h6.size := by omega
        refine dL (cs := []) (fun y h' => Ka h A h.size h5.size ts.length d (pX o (t :: r)) h') ?_ ?_
        · refine dL (cs := [(false, [.bool])]) (fun y h' => y.1 = (decide (t.kind = 1) && (iG t.text.data.toList).2.2) ∧ h6 = h') ?_ ?_
          · refine ad bt6 ((t.kind : Int), ()) rfl ?_
            dsimp only [flat, aB, ai, nA, cA];refine af (fun g3 => ?_) (fun g3 => ?_)
            · have g3 : (t.kind : Int) = 1 := by simpa using g3
              refine bi (cs := [(false, [.bool])]) ((iG t.text.data.toList).2.2, ()) rfl rfl ⟨?_, rfl⟩;rw [decide_eq_true (by omega)] <;> rfl
            · have g3 : ¬ (t.kind : Int) = 1 := by simpa using g3
              refine bi (cs := [(false, [.bool])]) (false, ()) rfl rfl ⟨?_, rfl⟩;rw [decide_eq_false (by omega)] <;> rfl
          · rintro ⟨b7, ⟨⟩⟩ h6' ⟨hb7, rfl⟩
            simp only at hb7;subst hb7;dsimp only [flat, aB, ai, nA, cA]
            have refuse : ∀ (e : Nat), pX o (t :: r) = .error e → e ≠ 0 → ∀ (hx : Hp) (ts' : List Tok) (d' : Int) (e0 : Nat) (x : eS) (p' : Option Addr) (l' c' : Nat) (kk : Nat), Ch [A] h hx → Cl hx A a3 a4 a5 a6 → aO hx h.size 94 [.slice none 0 0, .int .u32 0] →
                aO hx h5.size 94 [.slice p' l' c', .int .u32 (x.num : Int)] → SL hx h.size 109 2 p' l' c' (x.aw.map cP) → Good x → x.aw.length ≤ ts.length → PB hx A ts' d' e0 → (if e0 = 0 then kk else e0) = e → ∀ (L : Lp) (K : Value → Hp → Prop), L[1]? = some (fun vs h' => ∃ y : rQ (flat []), vs = parts [] (fw _ y) ∧ Ka h A h.size h5.size ts.length d (pX o (t :: r)) h') →
                (T.ae ⟨a3, 0, none⟩ [.pointer 261] fun (p23 : Option Addr) => T.call Tryz.prog 154 [.pointer p23, .int .i64 (kk : Int)] true [] (T.again 1 [])) L K hx := by
              intro e he he0 hx ts' d' e0 x p' l' c' kk kx clx b1x b21x sx gx lx pbx hkk L K hL;refine ad clx.b3 (some ⟨A, 0, none⟩, ()) rfl ?_;dsimp only [flat, aB, ai, nA, cA];refine aC (jZ pbx kk) ?_;rintro _ h7 ⟨rfl, k7, z7, pb7⟩;refine ⟨(), rfl, ?_⟩;dsimp only [flat, aB, ai, nA, cA];refine bi (cs := []) () hL rfl ⟨Ch.trans kx k7 (fun j hj _ => hj), b1x.ah k7 (by simp; omega), x, p', l', c', ts', d', _, b21x.ah k7 (by simp; omega), sx.aT k7 (fun j hj => by have := (sx.bO hj).1; simp; omega), gx, pb7, ?_⟩;rw [he];exact ⟨hkk, he0, lx⟩
            have next : ∀ (x : eS), pX o (t :: r) = .ok (x, r) → Good x → ∀ (hx : Hp) (p' : Option Addr) (l' c' : Nat), Ch [A] h hx → Cl hx A a3 a4 a5 a6 → aO hx h.size 94 [.slice none 0 0, .int .u32 0] → aO hx h5.size 94 [.slice p' l' c', .int .u32 (x.num : Int)] →
                SL hx h.size 109 2 p' l' c' (x.aw.map cP) → PB hx A (t :: r) d 0 → ∀ (L : Lp) (K : Value → Hp → Prop), L[1]? = some (fun vs h' => ∃ y : rQ (flat []), vs = parts [] (fw _ y) ∧ Ka h A h.size h5.size ts.length d (pX o (t :: r)) h') →
                (T.ae ⟨a3, 0, none⟩ [.pointer 261] fun (p31 : Option Addr) => T.ae ⟨a3, 0, none⟩ [.pointer 261] fun (p32 : Option Addr) => T.au p32 fun (a33 : Addr) => T.ae a33 [.slice 178] fun (p34 : Option Addr) (l35 : Nat) (l36 : Nat) =>
                  T.need (((0 : Int) ≤ (1 : Int)) ∧ (((1 : Int) ≤ (l35 : Int)) ∧ ((l35 : Int) ≤ (l36 : Int)))) <| T.au p31 fun (a37 : Addr) => T.ap a37 [.slice (if (l36 = 1) then p34 else (Option.map (fun a => Addr.add a 4) p34)) ((Int.toNat (l35 : Int)) - 1) (l36 - 1)] <| T.again 1 []) L K hx := by
              intro x he gx hx p' l' c' kx clx b1x b21x sx pbx L K hL;obtain ⟨q, m, cq, bQ, vq, hq⟩ := pbx;have hm := vq.len;have hmc := vq.cap;simp only [List.length_cons] at hm;refine ad clx.b3 (some ⟨A, 0, none⟩, ()) rfl ?_;dsimp only [flat, aB, ai, nA, cA];refine ad clx.b3 (some ⟨A, 0, none⟩, ()) rfl ?_;dsimp only [flat, aB, ai, nA, cA];refine an rfl (ad bQ ((q, m, cq), ()) rfl ?_);dsimp only [flat, aB, ai, nA, cA];refine aA ⟨by omega, by omega, by omega⟩ (an rfl ?_);refine ak bQ rfl (by simp) ?_;intro h7 b7 k7 z7;refine bi (cs := []) () hL rfl ⟨Ch.trans kx k7 (fun j hj _ => hj), b1x.ah k7 (by simp; omega), x, p', l', c', r, d, 0, b21x.ah k7 (by simp; omega), sx.aT k7 (fun j hj => by have := (sx.bO hj).1; simp; omega), gx, ?_, ?_⟩
              · refine ⟨_, _, _, b7, ((vq.drop (k := 1) (by omega)).ah k7 ?_), ?_⟩
                · intro i hi hm
                  rw [kG] at hi;rw [List.mem_singleton] at hm;have := hq _ hi;omega
                · intro i hi
                  exact hq _ (by have := kG q cq 1 4; rw [← this]; exact hi)
              · rw [he]
                exact ⟨rfl, rfl, rfl, rfl⟩
            have fH : ∀ q, (if t.kind = 1 then if (iG t.text.data.toList).2.2 = true then (.error 20 : cH) else .ok (⟨[(t.text, 1)], 0⟩, r)
                else if t.kind = 2 then .ok (⟨[], t.num⟩, r)
                else if fE t 40 = true then match o with
                  | none => .error 21
                  | some f => match f r with
                    | .error e => .error e
                    | .ok (x, r') => match r' with
                      | [] => .error 20
                      | t' :: r'' => if fE t' 41 = true then .ok (x, r'') else .error 20
                else .error 20) = q → pX o (t :: r) = q := fun q hq => hq
            refine af (fun g3 => ?_) (fun g3 => ?_)
            · simp only [Bool.and_eq_true, decide_eq_true_eq] at g3
              exact refuse 20 (fH _ (by rw [if_pos g3.1, if_pos g3.2])) (by omega) h6 (t :: r) d 0 wS none 0 0 20 k06 cl6 b16 b6 (SL.nil _ _ _ _) Good.z (by simp [wS]) pb6 rfl _ _ rfl
            · simp only [Bool.and_eq_false_iff, decide_eq_false_iff_not] at g3
              refine ad bt6 ((t.kind : Int), ()) rfl ?_;dsimp only [flat, aB, ai, nA, cA];refine af (fun g4 => ?_) (fun g4 => ?_)
              · have g4 : t.kind = 1 := by have : (t.kind : Int) = 1 := by simpa using g4
                                           omega
                have g5 : (iG t.text.data.toList).2.2 = false := by
                  rcases g3 with g3 | g3
                  · exact absurd g4 g3
                  · exact g3
                obtain ⟨hn0, hlg⟩ := wt.name g4;rw [g5] at hlg
                try rw [ao]
                refine ad bt6 (t.text, ()) rfl ?_;dsimp only [flat, aB, ai, nA, cA];refine aC (G0 t.text h6) ?_;rintro _ h7 ⟨e7, p', l', c', rfl, s7⟩;refine ⟨((p', l', c'), (0 : Int), ()), rfl, ?_⟩;dsimp only [flat, aB, ai, nA, cA];refine ak (b6.ah e7 (by simp)) rfl (by simp) ?_;intro h8 b8 k8 z8;have b8 : aO h8 h5.size 94 [.slice p' l' c', .int .u32 0] := b8
                try rw [ao]
                refine ad b8 ((0 : Int), ()) rfl ?_;dsimp only [flat, aB, ai, nA, cA]
                try rw [ao]
                refine ad ((bt6.ah e7 (by simp)).ah k8 (by simp; omega)) ((t.num : Int), ()) rfl ?_;dsimp only [flat, aB, ai, nA, cA];refine ak b8 rfl (by simp) ?_;intro h9 b9 k9 z9;have b9 : aO h9 h5.size 94 [.slice p' l' c', .int .u32 (IntKind.wrap .u32 (0 + (t.num : Int)))] := b9;rw [hn0] at b9;have k69 : Ch [h5.size] h6 h9 := Ch.trans (Ch.trans (e7.mono (by simp)) k8 (fun j hj _ => hj)) k9 (fun j hj _ => hj);have k79 : Ch [h5.size] h7 h9 := Ch.trans k8 k9 (fun j hj _ => hj);refine next ⟨[(t.text, 1)], 0⟩ (fH _ (by rw [if_pos g4, if_neg (by rw [g5]; simp)])) (wg hlg) h9 p' l' c' (Ch.trans k06 k69 (fun j hj hl => by simp at hj; omega)) (cl6.Gp k69 (by simp; omega)) (b16.ah k69 (by simp; omega)) b9 ?_ (pb6.ah k69 (by simp; omega)) _ _ rfl
                exact (s7.aT k79 (fun j hj => by have := (s7.bO hj).1; simp; omega)).mono (by omega)
              · have g4 : ¬ t.kind = 1 := by have : ¬ (t.kind : Int) = 1 := by simpa using g4
                                             omega
                refine ad bt6 ((t.kind : Int), ()) rfl ?_;dsimp only [flat, aB, ai, nA, cA];refine af (fun g5 => ?_) (fun g5 => ?_)
                · have g5 : t.kind = 2 := by have : (t.kind : Int) = 2 := by simpa using g5
                                             omega
                  try rw [ao]
                  refine ad b6 ((0 : Int), ()) rfl ?_;dsimp only [flat, aB, ai, nA, cA]
                  try rw [ao]
                  refine ad bt6 ((t.num : Int), ()) rfl ?_;dsimp only [flat, aB, ai, nA, cA];refine ak b6 rfl (by simp) ?_;intro h9 b9 k9 z9;have b9 : aO h9 h5.size 94 [.slice none 0 0, .int .u32 (IntKind.wrap .u32 (0 + (t.num : Int)))] := b9;rw [Int.zero_add, wrap_u32 (by omega) (by have := wt.num; omega)] at b9;exact next ⟨[], t.num⟩ (fH _ (by rw [if_neg g4, if_pos g5])) ⟨Nf.nil, by simp, wt.num⟩ h9 none 0 0 (Ch.trans k06 k9 (fun j hj hl => by simp at hj; omega)) (cl6.Gp k9 (by simp; omega)) (b16.ah k9 (by simp; omega)) b9 (SL.nil _ _ _ _) (pb6.ah k9 (by simp; omega)) _ _ rfl
                · have g5 : ¬ t.kind = 2 := by have : ¬ (t.kind : Int) = 2 := by simpa using g5
                                               omega
                  refine ad cl6.b3 (some ⟨A, 0, none⟩, ()) rfl ?_;dsimp only [flat, aB, ai, nA, cA];refine aC (iP pb6 40) ?_;rintro _ h7 ⟨rfl, k7, z7, pb7⟩;refine ⟨(eO 0 (t :: r) 40, ()), rfl, ?_⟩;dsimp only [flat, aB, ai, nA, cA];have k07 : Ch [A] h h7 := Ch.trans k06 k7 (fun j hj _ => hj);have cl7 := cl6.ah k7 (by simp);have b17 := b16.ah k7 (by simp; omega);have b217 := b6.ah k7 (by simp; omega);refine af (fun g6 => ?_) (fun g6 => ?_)
                  · rw [if_pos g6] at pb7
                    have g6 : fE t 40 = true := g6;have pb7 : PB h7 A r d 0 := pb7;obtain ⟨q, m, cq, bQ, vq, hq⟩ := pb7;refine ad cl7.b3 (some ⟨A, 0, none⟩, ()) rfl ?_;dsimp only [flat, aB, ai, nA, cA];refine an rfl ?_
                    try rw [ao]
                    refine ad bQ ((d : Int), ()) rfl ?_;dsimp only [flat, aB, ai, nA, cA];refine an rfl ?_
                    try rw [ao]
                    refine ak bQ rfl (by simp) ?_;intro h8 b8 k8 z8;have b8 : aO h8 A 261 [.slice q m cq, .int .i64 (IntKind.wrap .i64 ((d : Int) + 1)), .int .i64 (0 : Int)] := b8;rw [wrap_small (by omega) (by omega)] at b8;have cl8 := cl7.ah k8 (by simp);have b18 := b17.ah k8 (by simp; omega);have b218 := b217.ah k8 (by simp; omega);have k08 : Ch [A] h h8 := Ch.trans k07 k8 (fun j hj _ => hj);have pb8 : PB h8 A r (d + 1 : Nat) 0 := ⟨q, m, cq, b8, vq.ah k8 (fun i hi hm => by rw [List.mem_singleton] at hm; have := hq _ hi; omega), hq⟩
                    refine ad cl8.b3 (some ⟨A, 0, none⟩, ()) rfl ?_;dsimp only [flat, aB, ai, nA, cA];refine an rfl ?_
                    try rw [ao]
                    refine ad b8 (((d : Int) + 1), ()) rfl ?_;dsimp only [flat, aB, ai, nA, cA];refine af (fun g7 => ?_) (fun g7 => ?_)
                    · have g7 := of_decide_eq_true g7
                      cases o with
                      | some f => simp only at ho; omega
                      | none =>
                        exact refuse 21 (fH _ (by rw [if_neg g4, if_neg g5, if_pos g6])) (by omega) h8 r (d + 1 : Nat) 0 wS none 0 0 21 k08 cl8 b18 b218 (SL.nil _ _ _ _) Good.z (by simp [wS]) pb8 rfl _ _ rfl
                    · have g7 := of_decide_eq_false g7
                      cases o with
                      | none => simp only at ho; omega
                      | some f =>
                        simp only at ho;obtain ⟨hd', hs⟩ := ho;refine ad cl8.b4 (.func (.func 158) #[] #[ptr a6, ptr a3], ()) rfl ?_;dsimp only [flat, aB, ai, nA, cA];have wr : Wf r := wus.tail;have hff := hfine f rfl r wr;have hrl : r.length + 1 ≤ ts.length := hus;refine jd (cap := [ptr a6, ptr a3]) Le rfl (hs h8 r cl8 pb8 wr (by omega)) ?_;rintro _ h9 ⟨k9, x, p', l', c', ts', d', e', rfl, s9, gx, pb9, post⟩;refine ⟨((p', l', c'), (x.num : Int), ()), rfl, ?_⟩;dsimp only [flat, aB, ai, nA, cA];have cl9 := cl8.ah k9 (by simp);have b19 := b18.ah k9 (by simp; omega);have hz8 := k08.size;have hb218 := b218.lt;refine ak (b218.ah k9 (by simp; omega)) rfl (by simp) ?_;intro h10 b10 k10 z10;have b10 : aO h10 h5.size 94 [.slice p' l' c', .int .u32 (x.num : Int)] := b10;have cl10 := cl9.Gp k10 (by simp; omega);have b110 := b19.ah k10 (by simp; omega);have pb10 := pb9.ah k10 (by simp; omega);have s10 : SL h10 h.size 109 2 p' l' c' (x.aw.map cP) := (s9.aT k10 (fun j hj => by have := (s9.bO hj).1; simp; omega)).mono hz8;have k010 : Ch [A] h h10 := Ch.trans (Ch.trans k08 k9 (fun j hj _ => hj)) k10 (fun j hj hl => by simp at hj; omega);refine ad cl10.b3 (some ⟨A, 0, none⟩, ()) rfl ?_;dsimp only [flat, aB, ai, nA, cA];obtain ⟨q2, m2, cq2, bQ2, vq2, hq2⟩ := pb10;refine an rfl ?_
                        try rw [ao]
                        refine ad bQ2 (d', ()) rfl ?_;dsimp only [flat, aB, ai, nA, cA];refine an rfl ?_
                        try rw [ao]
                        refine ak bQ2 rfl (by simp) ?_;intro h11 b11 k11 z11;have b11 : aO h11 A 261 [.slice q2 m2 cq2, .int .i64 (IntKind.wrap .i64 (d' - 1)), .int .i64 (e' : Int)] := b11;have pb11 : PB h11 A ts' (IntKind.wrap .i64 (d' - 1)) e' := ⟨q2, m2, cq2, b11, vq2.ah k11 (fun i hi hm => by rw [List.mem_singleton] at hm; have := hq2 _ hi; omega), hq2⟩
                        have cl11 := cl10.ah k11 (by simp);refine ad cl11.b3 (some ⟨A, 0, none⟩, ()) rfl ?_;dsimp only [flat, aB, ai, nA, cA];refine aC (iP pb11 41) ?_;rintro _ h12 ⟨rfl, k12, z12, pb12⟩;refine ⟨(eO e' ts' 41, ()), rfl, ?_⟩;dsimp only [flat, aB, ai, nA, cA];have k1012 : Ch [A] h10 h12 := Ch.trans k11 k12 (fun j hj _ => hj);have k012 : Ch [A] h h12 := Ch.trans k010 k1012 (fun j hj _ => hj);have cl12 := cl11.ah k12 (by simp);have b112 := b110.ah k1012 (by simp; omega);have b12' := b10.ah k1012 (by simp; omega);have s12 := s10.aT k1012 (fun j hj => by have := (s10.bO hj).1; simp; omega);refine af (fun g8 => ?_) (fun g8 => ?_)
                        · have g8 : eO e' ts' 41 = false := by simpa using g8
                          rw [if_neg (by rw [g8]; simp)] at pb12;revert post hff;cases hfr : f r with
                          | error e =>
                            rintro hff ⟨rfl, he0, hxl⟩;exact refuse e' (fH _ (by rw [if_neg g4, if_neg g5, if_pos g6]; simp only [hfr])) he0 h12 ts' _ e' x p' l' c' 20 k012 cl12 b112 b12' s12 gx (by omega) pb12 (by rw [if_neg he0]) _ _ rfl
                          | ok z =>
                            obtain ⟨y, r'⟩ := z;rintro ⟨_, _, _, hxl⟩ ⟨rfl, rfl, rfl, rfl⟩;refine refuse 20 (fH _ ?_) (by omega) h12 ts' _ 0 x p' l' c' 20 k012 cl12 b112 b12' s12 gx (by omega) pb12 rfl _ _ rfl;rw [if_neg g4, if_neg g5, if_pos g6];simp only [hfr];cases ts' with
                            | nil => rfl
                            | cons t' r'' =>
                              have g8 : fE t' 41 = false := g8;simp only;rw [if_neg (by rw [g8]; simp)]
                        · have g8 : eO e' ts' 41 = true := by simpa using g8
                          rw [if_pos g8] at pb12
                          have he0 : e' = 0 := by
                            unfold eO at g8;simp only [Bool.and_eq_true, decide_eq_true_eq] at g8;exact g8.1
                          revert post hff;cases hfr : f r with
                          | error e =>
                            rintro hff ⟨rfl, he, hxl⟩;exact absurd he0 he
                          | ok z =>
                            obtain ⟨y, r'⟩ := z;rintro ⟨_, _, _, hxl⟩ ⟨_, rfl, rfl, rfl⟩;subst he0;cases ts' with
                            | nil => cases g8
                            | cons t' r'' =>
                              have g8 : fE t' 41 = true := g8;refine bi (cs := []) () rfl rfl ⟨k012, b112, x, p', l', c', r'', _, 0, b12', s12, gx, pb12, ?_⟩;rw [fH (.ok (x, r'')) (by rw [if_neg g4, if_neg g5, if_pos g6]; simp only [hfr]; rw [if_pos g8])];refine ⟨rfl, rfl, rfl, ?_⟩;rw [wrap_small (by omega) (by omega)];omega
                  · rw [if_neg (by rw [g6]; simp)] at pb7
                    have g6 : fE t 40 = false := g6;exact refuse 20 (fH _ (by rw [if_neg g4, if_neg g5, if_neg (by rw [g6]; simp)])) (by omega) h7 (t :: r) d 0 wS none 0 0 20 k07 cl7 b17 b217 (SL.nil _ _ _ _) Good.z (by simp [wS]) pb7 rfl _ _ rfl
        · rintro ⟨⟩ h7 ⟨k7, b17, x, p', l', c', ts', d', e', b217, s7, gx, pb7, post⟩
          dsimp only [flat, aB, ai, nA, cA]
          have hxl : x.aw.length ≤ ts.length := by
            have hf := xQ hfine wus;revert post hf;cases pX o (t :: r) with
            | error e => exact fun hp hf => hp.2.2
            | ok q =>
              obtain ⟨y, r'⟩ := q;rintro ⟨_, rfl, _, _⟩ ⟨_, _, _, hl⟩;simp only [List.length_cons] at hl;omega
          refine ad b217 ((p', l', c'), (x.num : Int), ()) rfl ?_;dsimp only [flat, aB, ai, nA, cA];refine aC (qC s7.FL (by omega) gx.size (vU b)) ?_;rintro _ h8 ⟨e8, q, m, cq, rfl, s8⟩;refine ⟨((q, m, cq), ((fb x (vU b)).num : Int), ()), rfl, ?_⟩;dsimp only [flat, aB, ai, nA, cA];refine ak (b17.ah e8 (by simp)) rfl (by simp) ?_;intro h9 b9 k9 z9;have b9 : aO h9 h.size 94 [.slice q m cq, .int .u32 ((fb x (vU b)).num : Int)] := b9;refine ad b9 ((q, m, cq), ((fb x (vU b)).num : Int), ()) rfl ?_;have hz7 := k7.size;refine ⟨Ch.trans (Ch.trans k7 e8 (by simp)) k9 (fun j hj hl => by simp at hj; omega), fb x (vU b), q, m, cq, ts', d', e', rfl, ?_, ?_, ?_, ?_⟩
          · exact (s8.aT k9 (fun j hj => by have := (s8.bO hj).1; have := b17.lt; simp; omega)).mono hz7
          · rw [BG gx]; exact gx.neg b
          · exact (pb7.ah e8 (by simp)).ah k9 (by simp; omega)
          · rw [hfs, BG gx]
            unfold xx;revert post;cases pX o (t :: r) with
            | error e => exact fun ⟨p1, p2, p3⟩ => ⟨p1, p2, Nat.le_trans (tB b x) p3⟩
            | ok q =>
              obtain ⟨y, r'⟩ := q;rintro ⟨p1, rfl, p3, p4⟩;exact ⟨p1, rfl, p3, p4⟩
def yC (h:Hp) (A A1 A7:Nat) (d:Int) (ts:List Tok) (q:cH) (rest:Nat→eS→List Tok→cH) (m:Nat) (h':Hp):Prop :=
 Ch [A] h h'∧aO h' A1 94 [.slice none 0 0,.int .u32 0]∧∃ x p l c ts' d' e',aO h' A7 94 [.slice p l c,.int .u32 (x.num:Int)]∧SL h' (A1+1) 109 2 p l c (x.aw.map cP)∧Good x∧PB h' A ts' d' e' ∧
  ((e'=0∧d'=d∧∃ n,q=rest n x ts'∧ts'.length≤n∧ts' <:+ ts∧x.aw.length+ts'.length≤ts.length∧m=n+1)∨(e'≠0∧q=.error e'∧x.aw.length≤ts.length∧m=0))
theorem Cy {fac:List Tok→cH} {n:Nat} {x:eS} {ts:List Tok} (h:eO 0 ts 42=false):hO fac n x ts=.ok (x,ts):=by
 cases n with
 | zero=>rfl
 | succ n =>
  cases ts with
  | nil=>rfl
  | cons t r =>
   have h:fE t 42=false:=h;unfold hO;simp only;rw [if_neg (by rw [h]; simp)]
def Fe (P:Program) (f:FuncId) (cap:List Value) (A a3 a4 a5 a6 d:Nat) (g:List Tok→cH):Prop :=
 ∀ h ts,Cl h A a3 a4 a5 a6→PB h A ts d 0→Wf ts→ts.length≤2^40→HC P f cap.toArray h (I0 h A ts.length d (g ts))
theorem K8:fU Tryz.prog 152=true:=by kernel_rfl
theorem JU:fU Tryz.prog 157=true:=by kernel_rfl
theorem CX {A a3 a4 a5 a6 d:Nat} {fac:List Tok→cH} (hfac:Fe Tryz.prog 152 [ptr a3,ptr a4] A a3 a4 a5 a6 d fac) (hfine:∀ ts,Wf ts→jI ts (fac ts)) :
  Fe Tryz.prog 157 [ptr a5,ptr a3] A a3 a4 a5 a6 d (nB fac):=by
 intro h ts cl pb w hts;refine aL (args:=[ptr a5,ptr a3]) mixed Tryz.func157 (by kernel_rfl) (kV ⟨a5,0,none⟩ ⟨a3,0,none⟩) ?_;unfold ir;have hA:=pb.lt;have hcl:=cl.lt;refine aW ?_;intro h1 b1 e1 z1;have cl1:=cl.ah e1 (by simp);refine ad cl1.b5 (.func (.func 152) #[] #[ptr a3,ptr a4],()) rfl ?_;dsimp only [flat,aB,ai,nA,cA];refine jd (cap:=[ptr a3,ptr a4]) K8 rfl (hfac h1 ts cl1 (pb.ah e1 (by simp)) w hts) ?_;rintro _ h2 ⟨k2,x,p,l,c,ts',d',e',rfl,s2,gx,pb2,post⟩;refine ⟨((p,l,c),(x.num:Int),()),rfl,?_⟩;dsimp only [flat,aB,ai,nA,cA];refine aW ?_;intro h3 b3 e3 z3;refine ak b3 rfl (by simp) ?_;intro h4 b4 k4 z4;have b4:aO h4 h2.size 94 [.slice p l c,.int .u32 (x.num:Int)]:=b4;have hz2:=k2.size;have e24:Ext h2 h4:=Ch.trans e3 k4 (fun j hj hl=>by simp at hj; omega);have k04:Ch [A] h h4:=Ch.trans (Ch.trans (e1.mono (by simp)) k2 (fun j hj _=>hj)) e24 (by simp);have b14:=(b1.ah k2 (by simp; omega)).ah e24 (by simp);have hrest:∀ h',Ch [A] h h'→Cl h' A a3 a4 a5 a6:=fun h' k=>cl.ah k (by simp)
 have hmid:∀ e0,e0∈[(0:Nat)]→True:=fun _ _=>trivial
 have start:∃ m,yC h A h.size h2.size d ts (nB fac ts) (hO fac) m h4:=by
  have hf:=hfine ts w;revert post hf;unfold nB;cases hfr:fac ts with
  | error e =>
   rintro ⟨he,he0,hxl⟩ _;exact ⟨0,k04,b14,x,p,l,c,ts',d',e',b4,(s2.aT e24 (by simp)).mono (by omega),gx,pb2.ah e24 (by simp),.inr ⟨by omega,by rw [he],hxl,rfl⟩⟩
  | ok z =>
   obtain ⟨y,r⟩:=z;rintro ⟨rfl,rfl,rfl,rfl⟩ ⟨_,hs,hl,hn⟩;exact ⟨_,k04,b14,x,p,l,c,ts',_,0,b4,(s2.aT e24 (by simp)).mono (by omega),gx,pb2.ah e24 (by simp),.inl ⟨rfl,rfl,ts'.length,rfl,Nat.le_refl _,hs,hn,rfl⟩⟩
 obtain ⟨m0,start⟩:=start;refine bm (cs:=[]) (fun y m h'=>yC h A h.size h2.size d ts (nB fac ts) (hO fac) m h') () m0 rfl start ?_;rintro ⟨⟩ m h5 ⟨k5,b15,x,p,l,c,ts',d',e',b5,s5,gx,pb5,cas⟩;dsimp only [flat,aB,ai,nA,cA];have cl5:=hrest h5 k5;have hh2:h2.size<h5.size:=b5.lt;have hz5:=k5.size;refine ad cl5.b3 (some ⟨A,0,none⟩,()) rfl ?_;dsimp only [flat,aB,ai,nA,cA];refine aC (iP pb5 42) ?_;rintro _ h6 ⟨rfl,k6,z6,pb6⟩;refine ⟨(eO e' ts' 42,()),rfl,?_⟩;dsimp only [flat,aB,ai,nA,cA];have k06:Ch [A] h h6:=Ch.trans k5 k6 (fun j hj _=>hj);have cl6:=hrest h6 k06;have b16:=b15.ah k6 (by simp; omega);have b6:=b5.ah k6 (by simp; omega);have s6:=s5.aT k6 (fun j hj=>by have:=(s5.bO hj).1; simp; omega);refine af (fun g1=>?_) (fun g1=>?_)
 ·rw [if_pos g1] at pb6;have he0:e'=0:=by
   unfold eO at g1;simp only [Bool.and_eq_true,decide_eq_true_eq] at g1;exact g1.1
  rcases cas with ⟨_,rfl,n,hq,hn,hsuf,hxn,rfl⟩ | ⟨h0,_⟩
  case inr=>exact absurd he0 h0
  subst he0;cases ts' with
  | nil=>cases g1
  | cons t r =>
   have g1:fE t 42=true:=g1;simp only [List.length_cons] at hn hxn;obtain ⟨n',rfl⟩:∃ n',n=n'+1:=⟨n-1,by omega⟩
   have pb6:PB h6 A r d 0:=pb6;have wr:Wf r:=(w.suffix hsuf).tail;have hpl:nB fac ts=match fac r with
    | .error e=>.error e
    | .ok (y,r'')=>if x.aw≠[]∧y.aw≠[] then .error 21 else if y.aw≠[] then hO fac n' (gG y x.num) r'' else hO fac n' (gG x y.num) r'':=by
    rw [hq];show (if fE t 42=true then _ else _)=_;rw [if_pos g1]
    all_goals (cases fac r <;> rfl)
   refine ad cl6.b5 (.func (.func 152) #[] #[ptr a3,ptr a4],()) rfl ?_;dsimp only [flat,aB,ai,nA,cA];refine jd (cap:=[ptr a3,ptr a4]) K8 rfl (hfac h6 r cl6 pb6 wr (by omega)) ?_;rintro _ h7 ⟨k7,y,p',l',c',ts',d',e',rfl,s7,gy,pb7,post⟩;refine ⟨((p',l',c'),(y.num:Int),()),rfl,?_⟩;dsimp only [flat,aB,ai,nA,cA];have hz7:=k7.size;refine aW ?_;intro h8 b8 e8 z8;refine ak b8 rfl (by simp) ?_;intro h9 b9 k9 z9;have b9:aO h9 h7.size 94 [.slice p' l' c',.int .u32 (y.num:Int)]:=b9;have e79:Ext h7 h9:=Ch.trans e8 k9 (fun j hj hl=>by simp at hj; omega);have k69:Ch [A] h6 h9:=Ch.trans k7 e79 (by simp);have k09:Ch [A] h h9:=Ch.trans k06 k69 (fun j hj _=>hj);have cl9:=hrest h9 k09;have pb9:=pb7.ah e79 (by simp);have b19:=b16.ah k69 (by simp; omega);have bx9:=b6.ah k69 (by simp; omega);have sx9:=s6.aT k69 (fun j hj=>by have:=(s6.bO hj).1; simp; omega);have sy9:=(s7.aT e79 (by simp)).mono (b':=h.size+1) (by omega);refine ad cl9.b3 (some ⟨A,0,none⟩,()) rfl ?_;dsimp only [flat,aB,ai,nA,cA];obtain ⟨q,mq,cq,bQ,vq,hqq⟩:=pb9;have pb9:PB h9 A ts' d' e':=⟨q,mq,cq,bQ,vq,hqq⟩
   refine an rfl ?_;rw [ao];refine ad bQ ((e':Int),()) rfl ?_;dsimp only [flat,aB,ai,nA,cA];refine af (fun g2=>?_) (fun g2=>?_)
   ·have g2:¬ e'=0:=by simpa using g2
    refine aM (cs:=[]) () 0 rfl (by omega) rfl ⟨k09,b19,x,p,l,c,ts',d',e',bx9,sx9,gx,pb9,.inr ⟨g2,?_,by omega,rfl⟩⟩;rw [hpl];revert post;cases fac r with
    | error e=>rintro ⟨he,_,_⟩; rw [he]
    | ok z=>obtain ⟨_,_⟩:=z; rintro ⟨he,_,_,_⟩; exact absurd he g2
   ·have g2:e'=0:=by simpa using g2
    subst g2;have hff:=hfine r wr;revert post hff;cases hfr:fac r with
    | error e=>rintro ⟨rfl,he,_⟩ _; exact absurd rfl he
    | ok z =>
     obtain ⟨y',r''⟩:=z;rintro ⟨_,rfl,rfl,rfl⟩ ⟨_,hs2,hl2,hn2⟩;rw [hfr] at hpl;simp only at hpl;have hlx:l=x.aw.length:=by rw [sx9.1,List.length_map]
     have hly:l'=y.aw.length:=by rw [sy9.1,List.length_map]
     have hsuf2:ts' <:+ ts:=(hs2.trans (List.suffix_cons _ _)).trans hsuf;refine dL (cs:=[(false,[.bool])]) (fun z h'=>z.1=(decide (x.aw≠[]) && decide (y.aw≠[]))∧h9=h') ?_ ?_
     ·refine ad bx9 ((p,l,c),()) rfl ?_;dsimp only [flat,aB,ai,nA,cA];refine af (fun g3=>?_) (fun g3=>?_)
      ·have g3:=of_decide_eq_true g3;refine ad b9 ((p',l',c'),()) rfl ?_;dsimp only [flat,aB,ai,nA,cA];refine bi (cs:=[(false,[.bool])]) (decide ((l':Int)>0),()) rfl rfl ⟨?_,rfl⟩;have hx0:x.aw≠[]:=fun hh=>by rw [hh] at hlx; simp at hlx; omega
       rw [decide_eq_true hx0,Bool.true_and];cases hy0:y.aw with
       | nil=>rw [hy0] at hly; simp at hly; subst hly; rfl
       | cons a b =>
        rw [hy0] at hly;simp only [List.length_cons] at hly;show decide ((l':Int)>0)=decide (a::b≠[]);rw [decide_eq_true (by omega),decide_eq_true (by simp)]
      ·have g3:=of_decide_eq_false g3;refine bi (cs:=[(false,[.bool])]) (false,()) rfl rfl ⟨?_,rfl⟩;have hx0:x.aw=[]:=List.length_eq_zero_iff.1 (by omega);rw [hx0] <;> rfl
     ·rintro ⟨b10,⟨⟩⟩ h9' ⟨hb10,rfl⟩;simp only at hb10;subst hb10;dsimp only [flat,aB,ai,nA,cA];refine af (fun g3=>?_) (fun g3=>?_)
      ·simp only [Bool.and_eq_true,decide_eq_true_eq] at g3;rw [if_pos g3] at hpl;refine ad cl9.b3 (some ⟨A,0,none⟩,()) rfl ?_;dsimp only [flat,aB,ai,nA,cA];refine aC (jZ pb9 21) ?_;rintro _ h10 ⟨rfl,k10,z10,pb10⟩;refine ⟨(),rfl,?_⟩;dsimp only [flat,aB,ai,nA,cA];refine aM (cs:=[]) () 0 rfl (by omega) rfl ⟨Ch.trans k09 k10 (fun j hj _=>hj),b19.ah k10 (by simp; omega),x,p,l,c,ts',_,21,bx9.ah k10 (by simp; omega),sx9.aT k10 (fun j hj=>by have:=(sx9.bO hj).1; simp; omega),gx,pb10,.inr ⟨by omega,hpl,by omega,rfl⟩⟩
      ·rw [if_neg (by intro hh; rw [decide_eq_true hh.1,decide_eq_true hh.2] at g3; cases g3)] at hpl;refine ad b9 ((p',l',c'),()) rfl ?_;dsimp only [flat,aB,ai,nA,cA];have hh9:=b9.lt;refine af (fun g4=>?_) (fun g4=>?_)
       ·have g4:=of_decide_eq_true g4;rw [if_pos (by intro hh; rw [hh] at hly; simp at hly; omega)] at hpl;refine ad b9 ((p',l',c'),(y.num:Int),()) rfl ?_;dsimp only [flat,aB,ai,nA,cA];rw [ao];refine ad bx9 ((x.num:Int),()) rfl ?_;dsimp only [flat,aB,ai,nA,cA];refine aC (qC sy9.FL (by omega) gy.size x.num) ?_;rintro _ h10 ⟨e10,q',m',cq',rfl,s10⟩;rw [jQ gy.nf] at s10 ⊢;refine ⟨((q',m',cq'),((gG y x.num).num:Int),()),rfl,?_⟩;dsimp only [flat,aB,ai,nA,cA];refine ak (bx9.ah e10 (by simp)) rfl (by simp) ?_;intro h11 b11 k11 z11;have b11:aO h11 h2.size 94 [.slice q' m' cq',.int .u32 ((gG y x.num).num:Int)]:=b11;have hz9:=k09.size;have hz69:=k69.size;have k911:Ch [h2.size] h9 h11:=Ch.trans (e10.mono (by simp)) k11 (fun j hj _=>hj);have htl:=dy x.num y.aw;refine aM (cs:=[]) () (n'+1) rfl (by omega) rfl ⟨Ch.trans k09 k911 (fun j hj hl=>by simp at hj; omega),b19.ah k911 (by simp; omega),gG y x.num,q',m',cq',ts',_,0,b11,(s10.aT k11 (fun j hj=>by have:=(s10.bO hj).1; simp; omega)).mono (by omega),gy.T _,pb9.ah k911 (by simp; omega),
         .inl ⟨rfl,rfl,n',hpl,by omega,hsuf2,?_,rfl⟩⟩
        show (ep x.num y.aw).length+ts'.length≤ts.length;omega
       ·have g4:=of_decide_eq_false g4;rw [if_neg (by intro hh; exact hh (List.length_eq_zero_iff.1 (by omega)))] at hpl;refine ad bx9 ((p,l,c),(x.num:Int),()) rfl ?_;dsimp only [flat,aB,ai,nA,cA];rw [ao];refine ad b9 ((y.num:Int),()) rfl ?_;dsimp only [flat,aB,ai,nA,cA];refine aC (qC sx9.FL (by omega) gx.size y.num) ?_;rintro _ h10 ⟨e10,q',m',cq',rfl,s10⟩;rw [jQ gx.nf] at s10 ⊢;refine ⟨((q',m',cq'),((gG x y.num).num:Int),()),rfl,?_⟩;dsimp only [flat,aB,ai,nA,cA];refine ak (bx9.ah e10 (by simp)) rfl (by simp) ?_;intro h11 b11 k11 z11;have b11:aO h11 h2.size 94 [.slice q' m' cq',.int .u32 ((gG x y.num).num:Int)]:=b11;have hz9:=k09.size;have hz69:=k69.size;have k911:Ch [h2.size] h9 h11:=Ch.trans (e10.mono (by simp)) k11 (fun j hj _=>hj);have htl:=dy y.num x.aw;refine aM (cs:=[]) () (n'+1) rfl (by omega) rfl ⟨Ch.trans k09 k911 (fun j hj hl=>by simp at hj; omega),b19.ah k911 (by simp; omega),gG x y.num,q',m',cq',ts',_,0,b11,(s10.aT k11 (fun j hj=>by have:=(s10.bO hj).1; simp; omega)).mono (by omega),gx.T _,pb9.ah k911 (by simp; omega),
         .inl ⟨rfl,rfl,n',hpl,by omega,hsuf2,?_,rfl⟩⟩
        show (ep y.num x.aw).length+ts'.length≤ts.length;omega
 ·rw [if_neg (by rw [g1]; simp)] at pb6;refine ad b6 ((p,l,c),(x.num:Int),()) rfl ?_;dsimp only [flat,aB,ai,nA,cA];refine ak b16 rfl (by simp) ?_;intro h7 b7 k7 z7;have b7:aO h7 h.size 94 [.slice p l c,.int .u32 (x.num:Int)]:=b7;refine ad b7 ((p,l,c),(x.num:Int),()) rfl ?_;refine ⟨Ch.trans k06 k7 (fun j hj hl=>by simp at hj; omega),x,p,l,c,ts',d',e',rfl,?_,gx,pb6.ah k7 (by simp; omega),?_⟩
  ·exact (s6.aT k7 (fun j hj=>by have:=(s6.bO hj).1; simp; omega)).mono (by omega)
  ·rcases cas with ⟨rfl,rfl,n,hq,hn,hsuf,hxn,rfl⟩ | ⟨h0,hq,hxl,rfl⟩
   ·rw [hq,Cy g1];exact ⟨rfl,rfl,rfl,rfl⟩
   ·rw [hq];exact ⟨rfl,h0,hxl⟩
theorem EJ {part:List Tok→cH} {n:Nat} {x:eS} {ts:List Tok} (h:eO 0 ts 43=false) (k:eO 0 ts 45=false):j7 part n x ts=.ok (x,ts):=by
 cases n with
 | zero=>rfl
 | succ n =>
  cases ts with
  | nil=>rfl
  | cons t r =>
   have h:fE t 43=false:=h;have k:fE t 45=false:=k;unfold j7;simp only;rw [if_neg (by rw [h]; simp),if_neg (by rw [k]; simp)]
theorem Hh {A a3 a4 a5 a6 d:Nat} {part:List Tok→cH} (hpart:Fe Tryz.prog 157 [ptr a5,ptr a3] A a3 a4 a5 a6 d part) (hfine:∀ ts,Wf ts→jI ts (part ts)) :
  Fe Tryz.prog 158 [ptr a6,ptr a3] A a3 a4 a5 a6 d (kq part):=by
 intro h ts cl pb w hts;refine aL (args:=[ptr a6,ptr a3]) mixed Tryz.func158 (by kernel_rfl) (mm ⟨a6,0,none⟩ ⟨a3,0,none⟩) ?_;unfold jc;have hA:=pb.lt;have hcl:=cl.lt;refine aW ?_;intro h1 b1 e1 z1;have cl1:=cl.ah e1 (by simp);refine ad cl1.b6 (.func (.func 157) #[] #[ptr a5,ptr a3],()) rfl ?_;dsimp only [flat,aB,ai,nA,cA];refine jd (cap:=[ptr a5,ptr a3]) JU rfl (hpart h1 ts cl1 (pb.ah e1 (by simp)) w hts) ?_;rintro _ h2 ⟨k2,x,p,l,c,ts',d',e',rfl,s2,gx,pb2,post⟩;refine ⟨((p,l,c),(x.num:Int),()),rfl,?_⟩;dsimp only [flat,aB,ai,nA,cA];refine aW ?_;intro h3 b3 e3 z3;refine ak b3 rfl (by simp) ?_;intro h4 b4 k4 z4;have b4:aO h4 h2.size 94 [.slice p l c,.int .u32 (x.num:Int)]:=b4;have hz2:=k2.size;have e24:Ext h2 h4:=Ch.trans e3 k4 (fun j hj hl=>by simp at hj; omega);have k04:Ch [A] h h4:=Ch.trans (Ch.trans (e1.mono (by simp)) k2 (fun j hj _=>hj)) e24 (by simp);have b14:=(b1.ah k2 (by simp; omega)).ah e24 (by simp);have hrest:∀ h',Ch [A] h h'→Cl h' A a3 a4 a5 a6:=fun h' k=>cl.ah k (by simp)
 have start:∃ m,yC h A h.size h2.size d ts (kq part ts) (j7 part) m h4:=by
  have hf:=hfine ts w;revert post hf;unfold kq;cases hfr:part ts with
  | error e =>
   rintro ⟨he,he0,hxl⟩ _;exact ⟨0,k04,b14,x,p,l,c,ts',d',e',b4,(s2.aT e24 (by simp)).mono (by omega),gx,pb2.ah e24 (by simp),.inr ⟨by omega,by rw [he],hxl,rfl⟩⟩
  | ok z =>
   obtain ⟨y,r⟩:=z;rintro ⟨rfl,rfl,rfl,rfl⟩ ⟨_,hs,hl,hn⟩;exact ⟨_,k04,b14,x,p,l,c,ts',_,0,b4,(s2.aT e24 (by simp)).mono (by omega),gx,pb2.ah e24 (by simp),.inl ⟨rfl,rfl,ts'.length,rfl,Nat.le_refl _,hs,hn,rfl⟩⟩
 obtain ⟨m0,start⟩:=start;refine bm (cs:=[]) (fun y m h'=>yC h A h.size h2.size d ts (kq part ts) (j7 part) m h') () m0 rfl start ?_;rintro ⟨⟩ m h5 ⟨k5,b15,x,p,l,c,ts',d',e',b5,s5,gx,pb5,cas⟩;dsimp only [flat,aB,ai,nA,cA];have cl5:=hrest h5 k5;have hh2:h2.size<h5.size:=b5.lt;have hz5:=k5.size
 have out:∀ hx,Ch [A] h5 hx→PB hx A ts' d' e'→AX ts.length d x ts' d' e' (kq part ts)→∀ L,(T.ae ⟨h2.size,0,none⟩ [.slice 109,.int .u32] fun (p15:Option Addr) (l16:Nat) (l17:Nat) (n18:Int) =>
   T.ap ⟨h.size,0,none⟩ [.slice p15 l16 l17,.int .u32 n18] <| T.ae ⟨h.size,0,none⟩ [.slice 109,.int .u32] <| fun (p19:Option Addr) (l20:Nat) (l21:Nat) (n22:Int)=>T.ret (.agg #[.slice p19 l20 l21,.int .u32 n22])) L (I0 h A ts.length d (kq part ts)) hx:=by
  intro hx kx pbx post L;have hzx:=kx.size;refine ad (b5.ah kx (by simp; omega)) ((p,l,c),(x.num:Int),()) rfl ?_;dsimp only [flat,aB,ai,nA,cA];refine ak (b15.ah kx (by simp; omega)) rfl (by simp) ?_;intro h7 b7 k7 z7;have b7:aO h7 h.size 94 [.slice p l c,.int .u32 (x.num:Int)]:=b7;refine ad b7 ((p,l,c),(x.num:Int),()) rfl ?_;have sx:=s5.aT kx (fun j hj=>by have:=(s5.bO hj).1; simp; omega);refine ⟨Ch.trans (Ch.trans k5 kx (fun j hj _=>hj)) k7 (fun j hj hl=>by simp at hj; omega),x,p,l,c,ts',d',e',rfl,(sx.aT k7 (fun j hj=>by have:=(sx.bO hj).1; simp; omega)).mono (by omega),gx,pbx.ah k7 (by simp; omega),post⟩
 refine ad cl5.b3 (some ⟨A,0,none⟩,()) rfl ?_;dsimp only [flat,aB,ai,nA,cA];obtain ⟨q,mq,cq,bQ,vq,hqq⟩:=pb5;have pb5:PB h5 A ts' d' e':=⟨q,mq,cq,bQ,vq,hqq⟩
 refine an rfl ?_;rw [ao];refine ad bQ ((e':Int),()) rfl ?_;dsimp only [flat,aB,ai,nA,cA];refine af (fun g0=>?_) (fun g0=>?_)
 case refine_2 =>
  have g0:¬ e'=0:=by simpa using g0
  rcases cas with ⟨h0,_⟩ | ⟨_,hq,hxl,rfl⟩
  ·exact absurd h0 g0
  ·exact out h5 (Ch.refl _ _) pb5 (by rw [hq]; exact ⟨rfl,g0,hxl⟩) _
 have g0:e'=0:=by simpa using g0
 rcases cas with ⟨_,rfl,n,hq,hn,hsuf,hxn,rfl⟩ | ⟨h0,_⟩
 case inr=>exact absurd g0 h0
 subst g0;refine ad cl5.b3 (some ⟨A,0,none⟩,()) rfl ?_;dsimp only [flat,aB,ai,nA,cA];refine aC (iP pb5 43) ?_;rintro _ h6 ⟨rfl,k6,z6,pb6⟩;refine ⟨(eO 0 ts' 43,()),rfl,?_⟩;dsimp only [flat,aB,ai,nA,cA];refine af (fun g1=>?_) (fun g1=>?_)
 ·rw [if_pos g1] at pb6;have k06:Ch [A] h h6:=Ch.trans k5 k6 (fun j hj _=>hj);have cl6:=hrest h6 k06;have b16:=b15.ah k6 (by simp; omega);have b6:=b5.ah k6 (by simp; omega);have s6:=s5.aT k6 (fun j hj=>by have:=(s5.bO hj).1; simp; omega);cases ts' with
  | nil=>cases g1
  | cons t r =>
   have g1:fE t 43=true:=g1;simp only [List.length_cons] at hn hxn;obtain ⟨n',rfl⟩:∃ n',n=n'+1:=⟨n-1,by omega⟩
   have pb6:PB h6 A r d 0:=pb6;have wr:Wf r:=(w.suffix hsuf).tail;have hpl:kq part ts=match part r with
    | .error e=>.error e
    | .ok (y,r'')=>j7 part n' (ib x y) r'':=by
    rw [hq];show (if fE t 43=true then _ else _)=_;rw [if_pos g1]
    all_goals (cases part r <;> rfl)
   refine ad b6 ((p,l,c),(x.num:Int),()) rfl ?_;dsimp only [flat,aB,ai,nA,cA];refine ad cl6.b6 (.func (.func 157) #[] #[ptr a5,ptr a3],()) rfl ?_;dsimp only [flat,aB,ai,nA,cA];refine jd (cap:=[ptr a5,ptr a3]) JU rfl (hpart h6 r cl6 pb6 wr (by omega)) ?_;rintro _ h7 ⟨k7,y,p',l',c',ts',d',e',rfl,s7,gy,pb7,post⟩;refine ⟨((p',l',c'),(y.num:Int),()),rfl,?_⟩;dsimp only [flat,aB,ai,nA,cA];have hz7:=k7.size;have k07:Ch [A] h h7:=Ch.trans k06 k7 (fun j hj _=>hj);have cl7:=hrest h7 k07;have b17:=b16.ah k7 (by simp; omega);have bx7:=b6.ah k7 (by simp; omega);have sx7:=s6.aT k7 (fun j hj=>by have:=(s6.bO hj).1; simp; omega);have hyl:y.aw.length≤r.length:=by
    have hff:=hfine r wr;revert post hff;cases part r with
    | error e=>rintro ⟨_,_,hl⟩ _; exact hl
    | ok z =>
     obtain ⟨y',r''⟩:=z;rintro ⟨_,rfl,_,_⟩ ⟨_,_,_,hl⟩;omega
   refine ⟨⟨bx7.cells _ rfl,trivial⟩,?_⟩;refine aC (Fm sx7.FL s7.FL sx7.IJ s7.IJ (by omega) gx.size gy.size) ?_;rintro _ h10 ⟨e10,q',m',cq',rfl,s10⟩;rw [xE gx.nf gy.nf] at s10 ⊢;refine ⟨((q',m',cq'),((ib x y).num:Int),()),rfl,?_⟩;dsimp only [flat,aB,ai,nA,cA];refine ⟨⟨(cl7.ah e10 (by simp)).b6.cells _ rfl,trivial⟩,?_⟩;have hb7:=bx7.lt;have hz07:=k07.size;refine ak (bx7.ah e10 (by simp)) rfl (by simp) ?_;intro h11 b11 k11 z11;have b11:aO h11 h2.size 94 [.slice q' m' cq',.int .u32 ((ib x y).num:Int)]:=b11;have k711:Ch [h2.size] h7 h11:=Ch.trans (e10.mono (by simp)) k11 (fun j hj _=>hj);have hal:=jV x.aw y.aw;have hall:(ib x y).aw.length≤x.aw.length+y.aw.length:=hal
   have mk:∀ m,((e'=0∧d'=d∧∃ n,kq part ts=j7 part n (ib x y) ts'∧ts'.length≤n∧ts' <:+ ts∧(ib x y).aw.length+ts'.length≤ts.length∧m=n+1)∨(e'≠0∧kq part ts=.error e'∧(ib x y).aw.length≤ts.length∧m=0)) →
     yC h A h.size h2.size d ts (kq part ts) (j7 part) m h11:=fun m hc =>
    ⟨Ch.trans k07 k711 (fun j hj hl=>by simp at hj; omega),b17.ah k711 (by simp; omega),ib x y,q',m',cq',ts',d',e',b11,(s10.aT k11 (fun j hj=>by have:=(s10.bO hj).1; simp; omega)).mono (by omega),gx.A gy,pb7.ah k711 (by simp; omega),hc⟩
   have hff:=hfine r wr;revert post hff;cases hfr:part r with
   | error e =>
    rintro ⟨he,he0,_⟩ _;refine aM (cs:=[]) () 0 rfl (by omega) rfl (mk 0 (.inr ⟨by omega,?_,by omega,rfl⟩));rw [hpl,hfr,he]
   | ok z =>
    obtain ⟨y',r''⟩:=z;rintro ⟨he,rfl,rfl,hd'⟩ ⟨_,hs2,hl2,hn2⟩;rw [hfr] at hpl;exact aM (cs:=[]) () (n'+1) rfl (by omega) rfl (mk _ (.inl ⟨he,hd',n',hpl,by omega,(hs2.trans (List.suffix_cons _ _)).trans hsuf,by omega,rfl⟩))
 ·rw [if_neg (by rw [g1]; simp)] at pb6;have k06:Ch [A] h h6:=Ch.trans k5 k6 (fun j hj _=>hj);have cl6:=hrest h6 k06;refine ad cl6.b3 (some ⟨A,0,none⟩,()) rfl ?_;dsimp only [flat,aB,ai,nA,cA];refine aC (iP pb6 45) ?_;rintro _ h6' ⟨rfl,k6',z6',pb6'⟩;refine ⟨(eO 0 ts' 45,()),rfl,?_⟩;dsimp only [flat,aB,ai,nA,cA];have k56:Ch [A] h5 h6':=Ch.trans k6 k6' (fun j hj _=>hj);refine af (fun g2=>?_) (fun g2=>?_)
  ·rw [if_pos g2] at pb6';have k06':Ch [A] h h6':=Ch.trans k5 k56 (fun j hj _=>hj);have cl6':=hrest h6' k06';have b16:=b15.ah k56 (by simp; omega);have b6:=b5.ah k56 (by simp; omega);have s6:=s5.aT k56 (fun j hj=>by have:=(s5.bO hj).1; simp; omega);cases ts' with
   | nil=>cases g2
   | cons t r =>
    have g1:fE t 43=false:=g1;have g2:fE t 45=true:=g2;simp only [List.length_cons] at hn hxn;obtain ⟨n',rfl⟩:∃ n',n=n'+1:=⟨n-1,by omega⟩
    have pb6':PB h6' A r d 0:=pb6';have wr:Wf r:=(w.suffix hsuf).tail;have hpl:kq part ts=match part r with
     | .error e=>.error e
     | .ok (y,r'')=>j7 part n' (ib x (gG y 4294967295)) r'':=by
     rw [hq];show (if fE t 43=true then _ else if fE t 45=true then _ else _)=_;rw [if_neg (by rw [g1]; simp),if_pos g2]
     all_goals (cases part r <;> rfl)
    refine ad b6 ((p,l,c),(x.num:Int),()) rfl ?_;dsimp only [flat,aB,ai,nA,cA];refine ad cl6'.b6 (.func (.func 157) #[] #[ptr a5,ptr a3],()) rfl ?_;dsimp only [flat,aB,ai,nA,cA];refine jd (cap:=[ptr a5,ptr a3]) JU rfl (hpart h6' r cl6' pb6' wr (by omega)) ?_;rintro _ h7 ⟨k7,y,p',l',c',ts',d',e',rfl,s7,gy,pb7,post⟩;refine ⟨((p',l',c'),(y.num:Int),()),rfl,?_⟩;dsimp only [flat,aB,ai,nA,cA];have hz7:=k7.size;have k07:Ch [A] h h7:=Ch.trans k06' k7 (fun j hj _=>hj);have cl7:=hrest h7 k07;have b17:=b16.ah k7 (by simp; omega);have bx7:=b6.ah k7 (by simp; omega);have sx7:=s6.aT k7 (fun j hj=>by have:=(s6.bO hj).1; simp; omega);have hyl:y.aw.length≤r.length:=by
     have hff:=hfine r wr;revert post hff;cases part r with
     | error e=>rintro ⟨_,_,hl⟩ _; exact hl
     | ok z =>
      obtain ⟨y',r''⟩:=z;rintro ⟨_,rfl,_,_⟩ ⟨_,_,_,hl⟩;omega
    refine ⟨⟨bx7.cells _ rfl,trivial⟩,?_⟩;refine aC (qC s7.FL (by omega) gy.size 4294967295) ?_;rintro _ h8 ⟨e8,q8,m8,c8,rfl,s8⟩;rw [jQ gy.nf] at s8 ⊢;refine ⟨((q8,m8,c8),((gG y 4294967295).num:Int),()),rfl,?_⟩;dsimp only [flat,aB,ai,nA,cA];have gt:=gy.T 4294967295;have htl:(gG y 4294967295).aw.length≤y.aw.length:=dy _ _;generalize hy2:gG y 4294967295=y2 at s8 gt htl ⊢;have hz8:=e8.size;have bx8:=bx7.ah e8 (by simp);have sx8:=sx7.aT e8 (by simp);refine ⟨⟨(cl7.ah e8 (by simp)).b6.cells _ rfl,bx8.cells _ rfl,trivial⟩,?_⟩;refine aC (Fm sx8.FL s8.FL sx8.IJ s8.IJ (by omega) gx.size gt.size) ?_;rintro _ h10 ⟨e10,q',m',cq',rfl,s10⟩;rw [xE gx.nf gt.nf] at s10 ⊢;refine ⟨((q',m',cq'),((ib x y2).num:Int),()),rfl,?_⟩;dsimp only [flat,aB,ai,nA,cA];refine ⟨⟨((cl7.ah e8 (by simp)).ah e10 (by simp)).b6.cells _ rfl,trivial⟩,?_⟩;have hb7:=bx7.lt;have hz07:=k07.size;refine ak (bx8.ah e10 (by simp)) rfl (by simp) ?_;intro h11 b11 k11 z11;have b11:aO h11 h2.size 94 [.slice q' m' cq',.int .u32 ((ib x y2).num:Int)]:=b11;have k711:Ch [h2.size] h7 h11:=Ch.trans ((e8.trans e10).mono (by simp)) k11 (fun j hj _=>hj);have hall:(ib x y2).aw.length≤x.aw.length+y2.aw.length:=jV x.aw y2.aw
    have mk:∀ m,((e'=0∧d'=d∧∃ n,kq part ts=j7 part n (ib x y2) ts'∧ts'.length≤n∧ts' <:+ ts∧(ib x y2).aw.length+ts'.length≤ts.length∧m=n+1)∨(e'≠0∧kq part ts=.error e'∧(ib x y2).aw.length≤ts.length∧m=0)) →
      yC h A h.size h2.size d ts (kq part ts) (j7 part) m h11:=fun m hc =>
     ⟨Ch.trans k07 k711 (fun j hj hl=>by simp at hj; omega),b17.ah k711 (by simp; omega),ib x y2,q',m',cq',ts',d',e',b11,(s10.aT k11 (fun j hj=>by have:=(s10.bO hj).1; simp; omega)).mono (by omega),gx.A gt,pb7.ah k711 (by simp; omega),hc⟩
    have hff:=hfine r wr;revert post hff;cases hfr:part r with
    | error e =>
     rintro ⟨he,he0,_⟩ _;refine aM (cs:=[]) () 0 rfl (by omega) rfl (mk 0 (.inr ⟨by omega,?_,by omega,rfl⟩));rw [hpl,hfr,he]
    | ok z =>
     obtain ⟨y',r''⟩:=z;rintro ⟨he,rfl,rfl,hd'⟩ ⟨_,hs2,hl2,hn2⟩;rw [hfr] at hpl;simp only at hpl;rw [hy2] at hpl;exact aM (cs:=[]) () (n'+1) rfl (by omega) rfl (mk _ (.inl ⟨he,hd',n',hpl,by omega,(hs2.trans (List.suffix_cons _ _)).trans hsuf,by omega,rfl⟩))
  ·rw [if_neg (by rw [g2]; simp)] at pb6';refine out h6' k56 pb6' ?_ _;rw [hq,EJ g1 g2];exact ⟨rfl,rfl,rfl,rfl⟩
theorem IU (A a3 a4 a5 a6:Nat):∀ k d:Nat,d+k=32→Fe Tryz.prog 158 [ptr a6,ptr a3] A a3 a4 a5 a6 d (mS k):=by
 intro k
 induction k with
 | zero =>
  intro d hd;refine Hh (CX (fac:=AN none) ?_ (iO (by intro f hf; cases hf))) (lg (iO (by intro f hf; cases hf)));intro h ts cl pb w hts;exact Fj (o:=none) (by omega) (by show d=32; omega) (by intro f hf; cases hf) cl pb w hts
 | succ k ih =>
  intro d hd;have hfine:∀ f,some (mS k)=some f→∀ ts,Wf ts→jI ts (f ts):=by
   intro f hf;cases hf;exact kJ k
  refine Hh (CX (fac:=AN (some (mS k))) ?_ (iO hfine)) (lg (iO hfine));intro h ts cl pb w hts;exact Fj (o:=some (mS k)) (by omega) ⟨by omega,fun h ts c p w l=>ih (d+1) (by omega) h ts c p w l⟩ hfine cl pb w hts
def B3 (h:Hp) (res:Except Nat eS) (v:Value) (h':Hp):Prop :=
 Ext h h'∧match res with
 | .error e=>v=.tuple #[.agg #[.slice none 0 0,.int .u32 0],.int .i64 (e:Int)]
 | .ok x=>∃ p l c,v=.tuple #[oR p l c x,.int .i64 0]∧SL h' h.size 109 2 p l c (x.aw.map cP)∧Good x
theorem jb {h:Hp} {p:Option Addr} {l c:Nat} {ts:List Tok} (v:Vw h p l c ts) (hp:∀ i,i∈az p→i<h.size) (w:Wf ts) (hts:ts.length≤2^40) :
  HC Tryz.prog 130 #[.slice p l c] h (B3 h (bU ts)):=by
 refine aL (args:=[.slice p l c]) mixed Tryz.func130 (by kernel_rfl) (tR p l c) ?_;unfold qL;refine aW ?_;intro h1 b1 e1 z1;refine aW ?_;intro h2 b2 e2 z2;refine aW ?_;intro h3 b3 e3 z3;refine ak b3 rfl (by simp) ?_;intro h4 b4 k4 z4;have b4:aO h4 h2.size 259 [ptr h1.size]:=b4;refine aW ?_;intro h5 b5 e5 z5;refine aW ?_;intro h6 b6 e6 z6;refine ak b6 rfl (by simp) ?_;intro h7 b7 k7 z7;have b7:aO h7 h5.size 262 [.func (.func 152) #[] #[ptr h2.size,ptr h4.size]]:=b7;refine aW ?_;intro h8 b8 e8 z8;refine ak b8 rfl (by simp) ?_;intro h9 b9 k9 z9;have b9:aO h9 h7.size 262 [.func (.func 157) #[] #[ptr h5.size,ptr h2.size]]:=b9;have e23:Ext h2 h4:=Ch.trans e3 k4 (fun j hj hl=>by simp at hj; omega);have e57:Ext h4 h7:=Ch.trans (e5.trans e6) k7 (fun j hj hl=>by simp at hj; omega);have e79:Ext h7 h9:=Ch.trans e8 k9 (fun j hj hl=>by simp at hj; omega);have b5':aO h7 h4.size 262 [.nilFunc]:=(b5.ah e6 (by simp)).ah k7 (by simp; omega);refine ak (b5'.ah e79 (by simp)) rfl (by simp) ?_;intro h10 b10 k10 z10;have b10:aO h10 h4.size 262 [.func (.func 158) #[] #[ptr h7.size,ptr h2.size]]:=b10;have e49:Ext h4 h9:=e57.trans e79;have k210:Ch [] h2 h10:=Ch.trans (e23.trans e49) k10 (fun j hj hl=>by simp at hj; omega);have e010:Ext h h10:=(e1.trans e2).trans k210;have cl:Cl h10 h1.size h2.size h4.size h5.size h7.size:=⟨(b4.ah e49 (by simp)).ah k10 (by simp; omega),b10,((b7.ah e79 (by simp))).ah k10 (by simp; omega),b9.ah k10 (by simp; omega),by omega,by omega,by omega,by omega⟩
 have pb:PB h10 h1.size ts ((0:Nat):Int) 0:=⟨p,l,c,b2.ah k210 (by simp),v.ah e010 (by simp),fun i hi=>by have:=hp i hi; omega⟩
 have br:=(b1.ah e2 (by simp)).ah k210 (by simp);refine ad cl.b4 (.func (.func 158) #[] #[ptr h7.size,ptr h2.size],()) rfl ?_;dsimp only [flat,aB,ai,nA,cA];refine jd (cap:=[ptr h7.size,ptr h2.size]) Le rfl (IU h1.size h2.size h4.size h5.size h7.size 32 0 rfl h10 ts cl pb w hts) ?_;rintro _ h11 ⟨k11,x,p',l',c',ts',d',e',rfl,s11,gx,pb11,post⟩;refine ⟨((p',l',c'),(x.num:Int),()),rfl,?_⟩;dsimp only [flat,aB,ai,nA,cA];have hz11:=k11.size;have hz10:=e010.size;refine aW ?_;intro h12 b12 e12 z12;refine ak b12 rfl (by simp) ?_;intro h13 b13 k13 z13;have b13:aO h13 h11.size 94 [.slice p' l' c',.int .u32 (x.num:Int)]:=b13;have e1113:Ext h11 h13:=Ch.trans e12 k13 (fun j hj hl=>by simp at hj; omega);have k1013:Ch [h1.size] h10 h13:=Ch.trans k11 e1113 (by simp);have cl13:=cl.ah k1013 (by simp);have pb13:=pb11.ah e1113 (by simp);have br13:=br.ah k1013 (by simp; omega);have e013:Ext h h13:=Ch.trans e010 k1013 (fun j hj hl=>by simp at hj; omega);have s13:=s11.aT e1113 (by simp);refine ad cl13.b3 (some ⟨h1.size,0,none⟩,()) rfl ?_;dsimp only [flat,aB,ai,nA,cA]
 have tail:∀ (hx:Hp) (e0:Nat) (ts'':List Tok),Ch [h1.size] h13 hx→PB hx h1.size ts'' d' e0→(e0≠0→bU ts=.error e0)→(e0=0→bU ts=.ok x)→∀ L,(T.ae ⟨h2.size,0,none⟩ [.pointer 261] fun (p18:Option Addr) =>
   T.au p18 <| fun (a19:Addr) =>
   T.ae (a19.add 2) [.int .i64] <| fun (n20:Int) =>
   cond (n20 != (0:Int))
    (T.ae ⟨h2.size,0,none⟩ [.pointer 261] <| fun (p21:Option Addr) =>
    T.au p21 <| fun (a22:Addr) =>
    T.ae (a22.add 2) [.int .i64] <| fun (n23:Int) =>
    T.ap ⟨h.size,0,none⟩ [.slice none 0 0,.int .u32 (0:Int)] <|
    T.aR [((a22.add 2),[.int .i64 n23]),(⟨h2.size,0,none⟩,[.pointer p21])] <|
    T.ae ⟨h.size,0,none⟩ [.slice 109,.int .u32] <| fun (p24:Option Addr) (l25:Nat) (l26:Nat) (n27:Int) =>
    T.ret (.tuple #[.agg #[.slice p24 l25 l26,.int .u32 n27],.int .i64 n23]))
    (T.ae ⟨h11.size,0,none⟩ [.slice 109,.int .u32] <| fun (p21:Option Addr) (l22:Nat) (l23:Nat) (n24:Int) =>
    T.ap ⟨h.size,0,none⟩ [.slice p21 l22 l23,.int .u32 n24] <|
    T.ae ⟨h.size,0,none⟩ [.slice 109,.int .u32] <| fun (p25:Option Addr) (l26:Nat) (l27:Nat) (n28:Int) =>
    T.ret (.tuple #[.agg #[.slice p25 l26 l27,.int .u32 n28],.int .i64 (0:Int)]))) L (B3 h (bU ts)) hx:=by
  intro hx e0 ts'' kx pbx hp1 hp2 L;have clx:=cl13.ah kx (by simp);have brx:=br13.ah kx (by simp; omega);have hzx:=kx.size;have e0x:Ext h hx:=Ch.trans e013 kx (fun j hj hl=>by simp at hj; omega);obtain ⟨q,m,cq,bQ,vq,hq⟩:=pbx;refine ad clx.b3 (some ⟨h1.size,0,none⟩,()) rfl ?_;dsimp only [flat,aB,ai,nA,cA];refine an rfl ?_;rw [ao];refine ad bQ ((e0:Int),()) rfl ?_;dsimp only [flat,aB,ai,nA,cA];refine af (fun g=>?_) (fun g=>?_)
  ·have g:¬ e0=0:=by simpa using g
   refine ad clx.b3 (some ⟨h1.size,0,none⟩,()) rfl ?_;dsimp only [flat,aB,ai,nA,cA];refine an rfl ?_;rw [ao];refine ad bQ ((e0:Int),()) rfl ?_;dsimp only [flat,aB,ai,nA,cA];refine ak brx rfl (by simp) ?_;intro hy by' ky zy
   have by':aO hy h.size 94 [.slice none 0 0,.int .u32 0]:=by'
   refine ⟨⟨(bQ.ah ky (by simp; omega)).cells _ rfl,(clx.b3.ah ky (by simp; omega)).cells _ rfl,trivial⟩,?_⟩;refine ad by' ((none,0,0),(0:Int),()) rfl ?_
   refine ⟨Ch.trans e0x ky (fun j hj hl=>by simp at hj; omega),?_⟩;rw [hp1 g]
  ·have g:e0=0:=by simpa using g
   refine ad (b13.ah kx (by simp; omega)) ((p',l',c'),(x.num:Int),()) rfl ?_;dsimp only [flat,aB,ai,nA,cA];refine ak brx rfl (by simp) ?_;intro hy by' ky zy
   have by':aO hy h.size 94 [.slice p' l' c',.int .u32 (x.num:Int)]:=by'
   refine ad by' ((p',l',c'),(x.num:Int),()) rfl ?_
   refine ⟨Ch.trans e0x ky (fun j hj hl=>by simp at hj; omega),?_⟩;rw [hp2 g];have sx:=s13.aT kx (fun j hj=>by have:=(s13.bO hj).1; simp; omega);exact ⟨p',l',c',rfl,(sx.aT ky (fun j hj=>by have:=(sx.bO hj).1; simp; omega)).mono (by omega),gx⟩
 obtain ⟨q,m,cq,bQ,vq,hq⟩:=pb13;have pb13:PB h13 h1.size ts' d' e':=⟨q,m,cq,bQ,vq,hq⟩
 refine an rfl ?_;refine ad bQ ((q,m,cq),()) rfl ?_;dsimp only [flat,aB,ai,nA,cA];have hm:=vq.len;have hpx:bU ts=match mS 32 ts with
  | .error e=>.error e
  | .ok (x,r)=>if r=[] then .ok x else .error 20:=rfl
 refine af (fun g=>?_) (fun g=>?_)
 ·have g:=of_decide_eq_true g;refine ad cl13.b3 (some ⟨h1.size,0,none⟩,()) rfl ?_;dsimp only [flat,aB,ai,nA,cA];refine aC (jZ pb13 20) ?_;rintro _ h14 ⟨rfl,k14,z14,pb14⟩;refine ⟨(),rfl,?_⟩;dsimp only [flat,aB,ai,nA,cA];refine tail h14 _ ts' k14 pb14 ?_ ?_ _
  ·intro hne;revert post hpx;cases mS 32 ts with
   | error e =>
    rintro ⟨he,he0,_⟩ hpx;rw [hpx,he,if_neg he0]
   | ok z =>
    obtain ⟨y,r⟩:=z;rintro ⟨he,_,hr,_⟩ hpx;rw [hpx,he];simp only;rw [if_neg (by rw [← hr]; intro hh; rw [hh] at hm; simp at hm; omega)] <;> rfl
  ·intro h0;exfalso;split at h0 <;> omega
 ·have g:=of_decide_eq_false g;have hts':ts'=[]:=List.length_eq_zero_iff.1 (by omega);refine tail h13 e' ts' (Ch.refl _ _) pb13 ?_ ?_ _
  ·intro hne;revert post hpx;cases mS 32 ts with
   | error e =>
    rintro ⟨he,he0,_⟩ hpx;rw [hpx,he]
   | ok z =>
    obtain ⟨y,r⟩:=z;rintro ⟨he,_,hr,_⟩ hpx;exact absurd he hne
  ·intro h0;revert post hpx;cases mS 32 ts with
   | error e =>
    rintro ⟨he,he0,_⟩ hpx;exact absurd (he.symm.trans h0) he0
   | ok z =>
    obtain ⟨y,r⟩:=z;rintro ⟨he,hx,hr,_⟩ hpx;rw [hpx,← hr,hts',hx] <;> rfl
theorem Ck {h:Hp} {b:Addr} {t:ByteArray × Nat} (hc:aH h b 0 (cP t)):aH h b 0 [.string t.1]∧aH h (b.add 1) 0 [.int .u32 (t.2:Int)]:=by
 obtain ⟨h1,h2,h3⟩:=hc;exact ⟨⟨h1,trivial⟩,⟨by rw [add_add]; exact h2,trivial⟩⟩
def RB (h:Hp) (A:Nat) (us:List Tok) (k:Nat) (d:Int) (e:Nat):Prop :=
 ∃ p l c,aO h A 292 [.slice p l c,.int .i64 (k:Int),.int .i64 d,.int .i64 (e:Int)]∧Vw h p l c us∧(∀ i,i∈az p→i<A)∧k≤us.length∧us.length≤2^40
theorem RB.ah {h:Hp} {A k:Nat} {us:List Tok} {d:Int} {e:Nat} (b:RB h A us k d e) (c:Ch ws h h') (hw:∀ i,i∈ws→A<i):RB h' A us k d e:=by
 obtain ⟨p,l,cc,b,v,hp,hk⟩:=b;exact ⟨p,l,cc,b.ah c (fun hm=>by have:=hw _ hm; omega),v.ah c (fun i hi hm=>by have:=hw _ hm; have:=hp _ hi; omega),hp,hk⟩
theorem RB.lt {h:Hp} {A k:Nat} {us:List Tok} {d:Int} {e:Nat} (b:RB h A us k d e):A<h.size:=by
 obtain ⟨p,l,cc,b,v,hp,hk⟩:=b;exact b.lt
theorem leB (a b:ByteArray):(Op.bytesLess (ByteArray.toList a) (ByteArray.toList b) || (ByteArray.toList a==ByteArray.toList b))=!decide (jO b a):=by
 rw [ByteArray.toList_eq,ByteArray.toList_eq,Proofs.bytesLess_eq]
 by_cases h:jO b a
 ·rw [decide_eq_true h];have h1:¬ a.data.toList<b.data.toList:=Ea h;have h2:¬ a.data.toList=b.data.toList:=fun e=>wK h (j8 e).symm
  have h3:¬ a.data=b.data:=fun e=>h2 (by rw [e])
  simp [h1,h3]
 ·rw [decide_eq_false h]
  by_cases h1:jO a b
  ·have h1:a.data.toList<b.data.toList:=h1;simp [h1]
  ·have:=qN a b h1 h
   subst this
   simp
def rY:Option ByteArray→di→Bool
 | _,[]=>true
 | o,t::r=>bh t.1.data.toList && decide (t.2≠0) && (match o with
  | none=>true
  | some s=>decide (jO s t.1)) && rY (some t.1) r
def JS (l:di) (i:Nat):Option ByteArray:=if i=0 then none else (l[i-1]?).map (·.1)
theorem Ki {o:Option ByteArray} {l:di} (h1:∀ t,t∈l→bh t.1.data.toList=true∧t.2≠0) (h2:l.Pairwise fun p q=>jO p.1 q.1) (h3:∀ s,o=some s→∀ t,t∈l→jO s t.1):rY o l=true:=by
 induction l generalizing o with
 | nil=>rfl
 | cons t r ih =>
  obtain ⟨a,b⟩:=h1 t (List.mem_cons_self ..);obtain ⟨c,d⟩:=List.pairwise_cons.1 h2;unfold rY;rw [a,decide_eq_true b,ih (o:=some t.1) (fun u hu=>h1 u (List.mem_cons_of_mem _ hu)) d (by rintro s ⟨⟩ u hu; exact c u hu)];cases o with
  | none=>rfl
  | some s =>
   show (true && true && decide (jO s t.1) && true)=true;rw [decide_eq_true (h3 s rfl t (List.mem_cons_self ..))] <;> rfl
theorem zk {x:eS} (h:Good x):rY none x.aw=true:=Ki (fun t ht=>⟨h.x7 t ht,(h.nf.2 t ht).1⟩) h.nf.1 (by simp)
theorem qm {h : Hp} {p : Option Addr} {l c : Nat} {x : eS} (v : qt h p l x.aw) (hl : x.aw.length ≤ 9223372036854775807) (hs : ∀ t, t ∈ x.aw → t.1.size ≤ maxLen) :
    HC Tryz.prog 46 #[oR p l c x] h fun w h' => w = .bool (rY none x.aw) ∧ Ext h h' := by
  refine aL (args := [.agg #[.slice p l c, .int .u32 x.num]]) mixed Tryz.func46 (by kernel_rfl) (tP p l c x.num) ?_;unfold rH;have hll := v.len;refine aW ?_;intro h1 b1 e1 z1;refine ad b1 ((p, l, c), ()) rfl ?_;dsimp only [flat, aB, ai, nA, cA]
  refine bm (cs := [(false, [.bool]), (false, [.int .i64])]) (fun y w h' => ∃ (i : Nat), y.2.1 = (i : Int) ∧ i ≤ x.aw.length ∧ w = x.aw.length - i ∧ Ext h1 h' ∧ rY none x.aw = rY (JS x.aw i) (x.aw.drop i)) (false, (0 : Int), ()) x.aw.length rfl
    ⟨0, rfl, by omega, by omega, Ch.refl _ _, rfl⟩ ?_
  rintro ⟨b8, n8, ⟨⟩⟩ w h2 ⟨i, hi, hile, rfl, e2, hq⟩;simp only at hi;subst hi;dsimp only [flat, aB, ai, nA, cA];have e02 := e1.trans e2;refine af (fun g1 => ?_) (fun g1 => ?_)
  · have g1 := of_decide_eq_true g1
    have hilt : i < x.aw.length := by omega
    have v2 := v.ah e02 (by simp);obtain ⟨a, rfl, hc⟩ := v2.cells i hilt;have hdr : x.aw.drop i = x.aw[i] :: x.aw.drop (i + 1) := List.drop_eq_getElem_cons hilt
    have hpv : JS x.aw (i + 1) = some x.aw[i].1 := by
      unfold JS;rw [if_neg (by omega), Nat.add_sub_cancel, List.getElem?_eq_getElem hilt] <;> rfl
    have hsz := hs x.aw[i] (List.getElem_mem hilt);rw [hdr] at hq;generalize x.aw[i] = t at hc hq hpv hsz;refine aA ⟨by omega, by omega⟩ (an rfl ?_);rw [show Int.toNat (i : Int) = i by omega];refine aG (t.1, (t.2 : Int), ()) hc ?_;dsimp only [flat, aB, ai, nA, cA];refine aW ?_;intro h3 b3 e3 z3;refine ak b3 rfl (by simp) ?_;intro h4 b4 k4 z4;have b4 : aO h4 h2.size 109 [.string t.1, .int .u32 t.2] := b4;have e24 : Ext h2 h4 := Ch.trans e3 k4 (fun j hj hl => by simp at hj; omega);have e04 := e02.trans e24;rw [ao];refine ad b4 ((t.2 : Int), ()) rfl ?_;dsimp only [flat, aB, ai, nA, cA];refine af (fun g2 => ?_) (fun g2 => ?_)
    · have g2 : t.2 = 0 := by have : (t.2 : Int) = 0 := by simpa using g2
                              omega
      refine ⟨?_, e04⟩;rw [hq];unfold rY;rw [decide_eq_false (by omega)]
      simp
    · have g2 : t.2 ≠ 0 := by have : ¬ (t.2 : Int) = 0 := by simpa using g2
                              omega
      refine ad b4 (t.1, ()) rfl ?_;dsimp only [flat, aB, ai, nA, cA];refine aE (kz t.1 h4 (by have : maxLen = 9223372036854775807 := rfl; omega)) ?_;refine ⟨⟨b4.cells _ rfl, trivial⟩, ?_⟩;refine af (fun g3 => ?_) (fun g3 => ?_)
      · have g3 : bh t.1.data.toList = false := by simpa using g3
        refine ⟨?_, e04⟩;rw [hq];unfold rY;rw [g3]
        simp
      · have g3 : bh t.1.data.toList = true := by simpa using g3
        have hw : IntKind.wrap .i64 ((i : Int) + 1) = ((i + 1 : Nat) : Int) := by rw [wrap_i64 (by omega) (by omega)]; omega
        have hgo : (match JS x.aw i with
            | none => true
            | some s => decide (jO s t.1)) = true → rY none x.aw = rY (JS x.aw (i + 1)) (x.aw.drop (i + 1)) := by
          intro hm;rw [hq, hpv]
          conv => lhs; unfold rY
          rw [g3, decide_eq_true g2, hm] <;> rfl
        refine af (fun g4 => ?_) (fun g4 => ?_)
        · have g4 := of_decide_eq_true g4
          have hw1 : IntKind.wrap .i64 ((i : Int) - 1) = ((i - 1 : Nat) : Int) := by rw [wrap_i64 (by omega) (by omega)]; omega
          have hi1 : i - 1 < x.aw.length := by omega
          obtain ⟨a', ha', hc'⟩ := (v.ah e04 (by simp)).cells (i - 1) hi1;cases ha'
          have hpi : JS x.aw i = some x.aw[i - 1].1 := by
            unfold JS;rw [if_neg (by omega), List.getElem?_eq_getElem hi1] <;> rfl
          rw [hpi] at hgo hq;generalize x.aw[i - 1] = u at hc' hpi hgo hq;refine ad b4 (t.1, ()) rfl ?_;dsimp only [flat, aB, ai, nA, cA];refine ad ((b1.ah e2 (by simp)).ah e24 (by simp)) ((some a, l, c), ()) rfl ?_;dsimp only [flat, aB, ai, nA, cA];rw [hw1];refine aA ⟨by omega, by omega⟩ (an rfl ?_);rw [show Int.toNat ((i - 1 : Nat) : Int) = i - 1 by omega];refine aG (u.1, ()) (Ck hc').1 ?_;dsimp only [flat, aB, ai, nA, cA];rw [leB];refine af (fun g5 => ?_) (fun g5 => ?_)
          · have g5 : ¬ jO u.1 t.1 := by simpa using g5
            refine ⟨?_, e04⟩;rw [hq];unfold rY;dsimp only;rw [decide_eq_false g5]
            simp
          · have g5 : jO u.1 t.1 := by simpa using g5
            exact aM (cs := [(false, [.bool]), (false, [.int .i64])]) (b8, ((i + 1 : Nat) : Int), ()) (x.aw.length - (i + 1)) rfl (by omega) (congrArg (fun z => [Value.bool b8, Value.int .i64 z]) hw) ⟨i + 1, rfl, by omega, rfl, e2.trans e24, hgo (decide_eq_true g5)⟩
        · have g4 := of_decide_eq_false g4
          have hi0 : i = 0 := by omega
          subst hi0;exact aM (cs := [(false, [.bool]), (false, [.int .i64])]) (b8, ((0 + 1 : Nat) : Int), ()) (x.aw.length - (0 + 1)) rfl (by omega) (congrArg (fun z => [Value.bool b8, Value.int .i64 z]) hw) ⟨0 + 1, rfl, by omega, rfl, e2.trans e24, hgo rfl⟩
  · have g1 := of_decide_eq_false g1
    have hi : i = x.aw.length := by omega
    subst hi;refine ⟨?_, e02⟩;rw [hq, List.drop_length] <;> rfl
end Go.Sx
set_option linter.unusedVariables false
set_option maxRecDepth 100000
namespace Go.Sx.Ob
abbrev Bt:=List UInt8
def K4:Bt→Nat
 | []=>0
 | b::l=>b.toNat+256*K4 l
/-! Readers: what is read,and what is behind it; or a refusal: how many bytes are behind its place,and why. -/
abbrev Rd (α:Type):=Except (Nat × Nat) (α × Bt)
def Ad {α β:Type} (a:Rd α) (f:α→Bt→Rd β):Rd β :=
 match a with
 | .ok p=>f p.1 p.2
 | .error e=>.error e
@[simp] theorem Gy {α β:Type} (x:α) (r:Bt) (f:α→Bt→Rd β):Ad (.ok (x,r)) f=f x r:=rfl
def zQ (w:Nat) (r:Bt):Rd Nat:=if w≤r.length then .ok (K4 (r.take w),r.drop w) else .error (0,10)
def GQ (r:Bt):Rd ByteArray:=Ad (zQ 2 r) fun n r=>if n≤r.length then .ok (⟨(r.take n).toArray⟩,r.drop n) else .error (0,10)
def zr:Nat→Bt→Rd di
 | 0,r=>.ok ([],r)
 | n+1,r=>Ad (GQ r) fun s r=>Ad (zQ 4 r) fun c r=>Ad (zr n r) fun ts r=>.ok ((s,c)::ts,r)
/-! Writers. -/
structure Ins where
 op:Int
 a:Int
 b:Int
 n:Int
 form:Int
deriving DecidableEq
structure bC where
 kind:Int
 name:ByteArray
 inst:Ins
 e:eS
 n:Int
def jv:Ins:=⟨0,0,0,0,0⟩
def dN:eS:=⟨[],0⟩
def bK:ByteArray:=⟨#[]⟩
def cR (k:Int):bC:=⟨k,bK,jv,dN,0⟩
def bT:List Nat:=[1,1,1,2,2,2,2,2,2,2,3,3,4,4,4,4,4,4,4,4,4,4,4,4,4,4,4,4,5,5,5,5,6,6,7,8,9,10,11,12,12,13,13]
def cK (op:Int):Nat:=if op<1 then 0 else bT.getD (op-1).toNat 0
def oa (n m:Int):Bool:=decide (0≤n) && decide (n<m)
def bD (s:Nat) (a b n:Int):Bool :=
 if s=1∨s=9∨s=12 then decide (a=0) && decide (b=0)
 else if s=2∨s=8∨s=10∨s=11∨s=13 then oa a 8 && decide (b=0)
 else if s=3 then oa a 4 && decide (b=0)
 else if s=4 then oa a 8 && oa b 8
 else if s=5 then oa a 4 && oa b 4
 else if s=6 then oa a 8 && oa b 4
 else oa a 4 && oa b 8 && oa n 8
def mX (n form:Int):Bool :=
 if form=1 then decide (-128≤n) && decide (n≤127)
 else if form=2 then decide (-32768≤n) && decide (n≤32767)
 else decide (form=4)
def nR (s:Nat) (n form:Int):Bool :=
 if s=8 then mX n 1
 else if s=9 then decide (0≤n) && decide (n≤255)
 else if s=10∨s=7 then true
 else if s=11 then decide (0≤n) && decide (n≤4095)
 else if s=12∨s=13 then mX n form
 else decide (n=0)
def Cn (op:Int):Bool:=decide (12≤cK op)
def HB (op:Int):Bool:=decide (10≤cK op)
def oS (i:Ins):Int :=
 if cK i.op=0 then 11
 else if bD (cK i.op) i.a i.b i.n=false then 12
 else if (!Cn i.op && decide (i.form≠0) || !nR (cK i.op) i.n i.form)=true then 13
 else 0
def JX (x:eS):Bool:=decide (x.aw=[]) && decide (x.num=0)
def zt (i:Ins) (e:eS):Bool :=
 decide (cK i.op≠0) && decide (i.form=0) && (if HB i.op then decide (i.n=0) && decide (oS { i with form:=if Cn i.op then 1 else 0 }=0) && rY none e.aw
  else decide (oS i=0) && JX e)
def qf (n:Int):Bool:=decide (n=1) || decide (n=2) || decide (n=4) || decide (n=8) || decide (n=16) || decide (n=32) || decide (n=64) || decide (n=128) || decide (n=256)
def z1 (x:bC):Bool:=decide (x.name=bK)
def z2 (x:bC):Bool:=decide (x.inst=jv)
def z3 (x:bC):Bool:=JX x.e
def z4 (x:bC):Bool:=decide (x.n=0)
def cM (x:bC) (sec:Nat):Bool :=
 if x.kind=1 then bh x.name.data.toList && z2 x && z3 x && z4 x
 else if x.kind=2 then decide (sec=0) && zt x.inst x.e && z1 x && z4 x
 else if x.kind=3 then qf x.n && z1 x && z2 x && z3 x
 else if x.kind=4 then decide (sec=0) && z1 x && z2 x && z3 x && z4 x
 else if x.kind=5 then decide (sec=1) && decide (-128≤x.n) && decide (x.n≤255) && z1 x && z2 x && z3 x
 else if x.kind=6 then decide (sec=1) && rY none x.e.aw && z1 x && z2 x && z4 x
 else if x.kind=7 then decide (sec=1) && decide (0≤x.n) && decide (x.n≤1048576) && z1 x && z2 x && z3 x
 else false
/-! Bytes. -/
def u32 (n:Int):Nat:=(n % 4294967296).toNat
def Bh (n:Nat):Int:=if n<2147483648 then (n:Int) else (n:Int)-4294967296
def MC (n:Nat):Int:=if n<32768 then (n:Int) else (n:Int)-65536
def at_ {α:Type} (r:Bt) (why:Nat) (ok:α→Bool) (a:Rd α):Rd α:=Ad a fun x r'=>if ok x then .ok (x,r') else .error (r.length,why)
def eQ (D:List ByteArray) (s:ByteArray):Bool:=D.any fun t=>decide (t=s)
def yx (sec:Nat) (D:List ByteArray) (x:bC):Bool:=cM x sec && !(decide (x.kind=1) && eQ D x.name)
def qE (D:List ByteArray) (x:bC):List ByteArray:=if x.kind=1 then x.name::D else D
theorem Ed:JX dN=true:=rfl
theorem FD (op:Int) (h:cK op≠0):1≤op∧op≤43:=by
 unfold cK at h;split at h
 ·exact absurd rfl h
 ·refine ⟨by omega,?_⟩
  by_cases g:op≤43
  ·exact g
  ·exfalso;apply h;rw [List.getD_eq_getElem?_getD,List.getElem?_eq_none (by simp [bT]; omega)] <;> rfl
theorem si (op:Int):cK op=0∨(1≤cK op∧cK op≤13):=by
 by_cases h:cK op=0
 ·exact .inl h
 ·right
  have h1:=FD op h;unfold cK;rw [if_neg (by omega)];have h2:(op-1).toNat<43:=by omega
  generalize (op-1).toNat=k at h2
  have:∀ k:Fin 43,1≤bT.getD k.1 0∧bT.getD k.1 0≤13:=by decide
  exact this ⟨k,h2⟩
abbrev lz:=ByteArray × eS
structure ig where
 text:List bC
 data:List bC
 aV:List lz
 aF:List ByteArray
def oK:ig:=⟨[],[],[],[]⟩
def Bf (D:List ByteArray) (p:lz):Bool:=!(eQ D p.1) && bh p.1.data.toList && rY none p.2.aw
def Kk (D:List ByteArray) (last g:ByteArray):Bool:=eQ D g && decide (jO last g)
def over:Option Nat→Nat→Bool
 | none,_=>false
 | some m,n=>decide (m<n)
def Ly {α:Type} (most:Option Nat) (f:Nat→Bt→Rd α) (r:Bt):Rd α:=Ad (zQ 2 r) fun n r1=>if over most n then .error (r.length,4) else f n r1
def bH (D:List ByteArray) (l:List bC):List ByteArray:=l.foldl qE D
def fQ (D:List ByteArray) (l:List lz):List ByteArray:=l.foldl (fun D p=>p.1::D) D
/-! Right units. -/
def eh (sec:Nat):List ByteArray→List bC→Bool
 | _,[]=>true
 | D,x::l=>yx sec D x && eh sec (qE D x) l
def fS:List ByteArray→List lz→Bool
 | _,[]=>true
 | D,x::l=>Bf D x && fS (x.1::D) l
def cD (D:List ByteArray):ByteArray→List ByteArray→Bool
 | _,[]=>true
 | last,x::l=>Kk D last x && cD D x l
def ig.names (u:ig):List ByteArray:=fQ (bH (bH [] u.text) u.data) u.aV
def uE (u:ig):Bool:=eh 0 [] u.text && eh 1 (bH [] u.text) u.data && fS (bH (bH [] u.text) u.data) u.aV && cD u.names bK u.aF
def uh (u:ig):Bool:=decide (8192<u.text.length+u.data.length) || decide (8192<u.aV.length)
def uY (u:ig):Nat:=if uh u then 4 else if uE u then 0 else 31
end Go.Sx.Ob
